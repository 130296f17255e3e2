/- Walks: ScalarTwo. -/
import Derived.Test.YtkihcngllhjabaaScLawsWalk
namespace Go.Proofs.Ytkihcngllhjabaa
open Go.RowKit ScM
set_option linter.unusedVariables false
theorem bl18 {n : Nat} (h : n < P256) : (BigM.big n).length < 100000 := big_len_of (k := 18) (Nat.lt_of_lt_of_le h (by decide)) (by omega)
theorem bl36 {a b : Nat} (ha : a < P256) (hb : b < P256) : (BigM.big (a * b)).length < 100000 := by
  have h1 : a * b < P256 * P256 := Nat.mul_lt_mul'' ha hb
  exact big_len_of (k := 36) (Nat.lt_of_lt_of_le h1 (by decide)) (by omega)
set_option maxRecDepth 100000 in
set_option maxHeartbeats 32000000 in
theorem scalarTwo_walk {w : World} (v1 : Value) (M1 : List Nat) (v2 : Value) (M2 : List Nat) (i : Int) (hM1 : ∀ n ∈ M1, n < 256) (h1 : Rd w v1 (bvs M1)) (hM2 : ∀ n ∈ M2, n < 256) (h2 : Rd w v2 (bvs M2)) (hi : -9223372036854775808 ≤ i ∧ i ≤ 9223372036854775807) :
    Calls Try.prog 5 #[v1, v2, .int .i64 i] w fun e w' => e = .returned (.bool true) ∧ Below w.heap.size w w' := by
  have hv1 : ∃ a c n, v1 = .slice a n c := by obtain ⟨a, c, e, _⟩ := h1; exact ⟨a, c, _, e⟩
  have O1 := fun (w1 : World) (hb : Below w.heap.size w w1) => sof_any v1 M1 w1 (h1.below hb (Nat.le_refl _)) hM1
  have P1 := fun (w1 : World) (hb : Below w.heap.size w w1) => rof_any v1 M1 w1 (h1.below hb (Nat.le_refl _)) hM1
  obtain ⟨a1, c1, n1, rfl⟩ := hv1
  have hv2 : ∃ a c n, v2 = .slice a n c := by obtain ⟨a, c, e, _⟩ := h2; exact ⟨a, c, _, e⟩
  have O2 := fun (w1 : World) (hb : Below w.heap.size w w1) => sof_any v2 M2 w1 (h2.below hb (Nat.le_refl _)) hM2
  have P2 := fun (w1 : World) (hb : Below w.heap.size w w1) => rof_any v2 M2 w1 (h2.below hb (Nat.le_refl _)) hM2
  obtain ⟨a2, c2, n2, rfl⟩ := hv2
  have HAL := Lib.hid (salive_any w)
  obtain ⟨x, hx'⟩ : ∃ x, x = leV (M1.take 64) % L := ⟨_, rfl⟩
  obtain ⟨y, hy'⟩ : ∃ x, x = leV (M2.take 64) % L := ⟨_, rfl⟩
  rw [← hx'] at O1 P1
  rw [← hy'] at O2 P2
  have hx : x < L := by rw [hx']; exact Nat.mod_lt _ L_pos
  have hy : y < L := by rw [hy']; exact Nat.mod_lt _ L_pos
  have hxP := Nat.lt_trans hx L_lt
  have hyP := Nat.lt_trans hy L_lt
  have IS := fun (r : Nat) (hr : r < L) (v : Value) (w : World) (h : Rd w v (dvs (BigM.big r))) => is_any r r v w h (Nat.lt_trans hr L_lt) (Nat.lt_trans hr L_lt)
  simp only [decide_true] at IS
  have AD := fun w => sadd2_any x y w hx hy
  have MU := fun w => smul_any x y w hx hy
  have NE := fun w => sneg_any x w hx
  have BA := fun (v v' : Value) (w : World) (h : Rd w v (dvs (BigM.big x))) (h' : Rd w v' (dvs (BigM.big y))) => badd_any v v' x y w h h' (by have := bl18 hxP; omega) (by have := bl18 hyP; omega)
  have BM := fun (v v' : Value) (w : World) (h : Rd w v (dvs (BigM.big x))) (h' : Rd w v' (dvs (BigM.big y))) => bmul_any v v' x y w h h' (by have := bl18 hxP; omega) (by have := bl18 hyP; omega)
  have BS := fun (v v' : Value) (w : World) (h : Rd w v (dvs (BigM.big L))) (h' : Rd w v' (dvs (BigM.big x))) => bsub_any v v' L x w h h' (by have := bl18 L_lt; omega) (by omega)
  have h2L : 2 * L < P256 := by decide
  have hxy : x + y < P256 := by omega
  have MA := fun (v : Value) (w : World) (h : Rd w v (dvs (BigM.big (x + y)))) => bmod_any v (x + y) w h (bl18 hxy)
  have MM := fun (v : Value) (w : World) (h : Rd w v (dvs (BigM.big (x * y)))) => bmod_any v (x * y) w h (bl36 hxP hyP)
  have MS := fun (v : Value) (w : World) (h : Rd w v (dvs (BigM.big (L - x)))) => bmod_any v (L - x) w h (bl18 (by have := L_lt; omega))
  obtain ⟨s, hs⟩ : ∃ r, r = (x + y) % L := ⟨_, rfl⟩
  obtain ⟨m, hm⟩ : ∃ r, r = x * y % L := ⟨_, rfl⟩
  obtain ⟨d, hd⟩ : ∃ r, r = (L - x) % L := ⟨_, rfl⟩
  rw [← hs] at AD MA
  rw [← hm] at MU MM
  rw [← hd] at NE MS
  have ISX := IS x hx
  have ISY := IS y hy
  have ISS := IS s (by rw [hs]; exact Nat.mod_lt _ L_pos)
  have ISM := IS m (by rw [hm]; exact Nat.mod_lt _ L_pos)
  have ISD := IS d (by rw [hd]; exact Nat.mod_lt _ L_pos)
  have SS := fun w => ssame_any x y w hxP hyP
  have RS := fun (v v' : Value) (w : World) (h : Rd w v (dvs (BigM.big x))) (h' : Rd w v' (dvs (BigM.big y))) => bsame_any v v' x y w h h'
  obtain ⟨eb, heb⟩ : ∃ r, r = decide (x = y) := ⟨_, rfl⟩
  rw [← heb] at SS RS
  have BT := fun w => sbit_any x i w
  obtain ⟨bt, hbt⟩ : ∃ r, r = bitF x i := ⟨_, rfl⟩
  rw [← hbt] at BT
  have HBT := Lib.hid hbt
  have HXP := Lib.hid hxP
  have HO1 := Lib.hid O1
  have HO2 := Lib.hid O2
  have HP1 := Lib.hid P1
  have HP2 := Lib.hid P2
  have HAD := Lib.hid AD
  have HMU := Lib.hid MU
  have HNE := Lib.hid NE
  have HBA := Lib.hid BA
  have HBM := Lib.hid BM
  have HBS := Lib.hid BS
  have HMA := Lib.hid MA
  have HMM := Lib.hid MM
  have HMS := Lib.hid MS
  have HISX := Lib.hid ISX
  have HISY := Lib.hid ISY
  have HISS := Lib.hid ISS
  have HISM := Lib.hid ISM
  have HISD := Lib.hid ISD
  have HSS := Lib.hid SS
  have HRS := Lib.hid RS
  have HBT2 := Lib.hid BT
  clear O1 O2 P1 P2 AD MU NE BA BM BS MA MM MS ISX ISY ISS ISM ISD SS RS BT IS hx' hy' hx hy hxP hyP hs hm hd heb hbt h1 h2 hM1 hM2
  by_cases k1 : 100 < n1
  · have t1 : decide ((100 : Int) < (n1 : Int)) = true := by rw [decide_eq_true_iff]; omega
    go_enter Try.func5, Try.ntmps5
    go_wp2_with fail
    refine (HAL.out).mono ?_
    rintro e w1 ⟨rfl, hb1⟩
    have HB1 := Lib.hid hb1
    clear hb1
    go_wp2_with fail
    go_ret
    exact ⟨rfl, HB1.out⟩
  · have t1 : decide ((100 : Int) < (n1 : Int)) = false := by rw [decide_eq_false_iff_not]; omega
    by_cases k2 : 100 < n2
    · have t2 : decide ((100 : Int) < (n2 : Int)) = true := by rw [decide_eq_true_iff]; omega
      go_enter Try.func5, Try.ntmps5
      go_wp2_with fail
      refine (HAL.out).mono ?_
      rintro e w1 ⟨rfl, hb1⟩
      have HB1 := Lib.hid hb1
      clear hb1
      go_wp2_with fail
      go_ret
      exact ⟨rfl, HB1.out⟩
    · have t2 : decide ((100 : Int) < (n2 : Int)) = false := by rw [decide_eq_false_iff_not]; omega
      by_cases i0 : i < 0
      · have hb0 : bt = 0 := by rw [HBT.out, bitF, if_neg (by omega)]
        subst hb0
        go_enter Try.func5, Try.ntmps5
        go_wp2_with fail
        refine (HAL.out).mono ?_
        rintro e w1 ⟨rfl, hb1⟩
        have HB1 := Lib.hid hb1
        clear hb1
        obtain ⟨W0, hW0⟩ : ∃ W0, W0 = w1 := ⟨_, rfl⟩
        rw [← hW0] at HB1 ⊢
        have HB_0 := HB1
        clear hW0 HB1
        go_wp2_with fail
        refine (HO1.out _ HB_0.out).mono ?_
        rintro e W1 ⟨rfl, hb1⟩
        have HB_1 := Lib.hid (HB_0.out.trans (hb1.mono HB_0.out.size))
        clear hb1
        go_wp2_with fail
        refine (HO2.out _ HB_1.out).mono ?_
        rintro e W2 ⟨rfl, hb2⟩
        have HB_2 := Lib.hid (HB_1.out.trans (hb2.mono HB_1.out.size))
        clear hb2
        obtain ⟨k1', k2', k5'⟩ := blk2 W2 #[.int .u64 0, .int .u64 0, .int .u64 0, .int .u64 0] #[.int .u64 0, .int .u64 0, .int .u64 0, .int .u64 0] 27 27
        have K1 := Lib.hid k1'
        have K2 := Lib.hid k2'
        have K5 := Lib.hid k5'
        clear k1' k2' k5'
        go_wp2_with (refine wpList_store_blk rfl 27 (.tmp 7) (.tmp 25) rfl W2.heap.size (w4 x) rfl rfl _ _ K1.out (by kernel_rfl) rfl rfl ?_)
        rintro u1 kk1 ub1 uo1 -
        have A1 := Lib.hid kk1
        have A2 := Lib.hid (show Blk u1 (W2.heap.size + 1) _ _ from (uo1 (W2.heap.size + 1) (by omega)).trans K2.out)
        have AB := Lib.hid (HB_2.out.trans ((K5.out.trans (ub1 W2.heap.size (Nat.le_refl _))).mono HB_2.out.size))
        clear kk1 ub1 uo1
        go_wp2_with (refine wpList_store_blk rfl 27 (.tmp 8) (.tmp 27) rfl (W2.heap.size + 1) (w4 y) rfl rfl _ _ A2.out (by kernel_rfl) rfl rfl ?_)
        rintro W3 kk2 ub2 uo2 -
        have GY_3 := Lib.hid kk2
        have GX_3 := Lib.hid (show Blk W3 W2.heap.size _ _ from (uo2 W2.heap.size (by omega)).trans A1.out)
        have HB_3 := Lib.hid (AB.out.trans (ub2 w.heap.size (by have := HB_2.out.size; omega)))
        clear kk2 ub2 uo2 A1 A2 AB K1 K2 K5
        obtain ⟨g, hg⟩ : ∃ g, g = W2.heap.size := ⟨_, rfl⟩
        rw [← hg] at GX_3 GY_3
        try rw [← hg]
        clear hg
        go_wp2_with fail
        refine (HP1.out _ HB_3.out).mono ?_
        rintro e W4 ⟨z4, rfl, hown4, hb4⟩
        obtain ⟨zs4, zt4, zu4, rfl⟩ := slOf hown4
        have GX_4 := Lib.hid (GX_3.out.below hb4 GX_3.out.lt)
        have GY_4 := Lib.hid (GY_3.out.below hb4 GY_3.out.lt)
        have HB_4 := Lib.hid (HB_3.out.trans (hb4.mono HB_3.out.size))
        have P_4 := Lib.hid hown4
        clear hown4
        clear hb4
        go_wp2_with fail
        refine (HP2.out _ HB_4.out).mono ?_
        rintro e W5 ⟨z5, rfl, hown5, hb5⟩
        obtain ⟨zs5, zt5, zu5, rfl⟩ := slOf hown5
        have GX_5 := Lib.hid (GX_4.out.below hb5 GX_4.out.lt)
        have GY_5 := Lib.hid (GY_4.out.below hb5 GY_4.out.lt)
        have P_5 := Lib.hid (P_4.out.below hb5 (Nat.le_refl _))
        have HB_5 := Lib.hid (HB_4.out.trans (hb5.mono HB_4.out.size))
        have Q_5 := Lib.hid hown5
        clear hown5
        clear hb5
        go_wp2_with (first
          | (refine wpList_wanted rfl ?_; refine wpList_load_at rfl 27 (.tmp 7) rfl g rfl 27 (w4 x) (0, 0) _ GX_5.out Try.underlying27 rfl (by kernel_rfl) ?_)
          | (refine wpList_wanted rfl ?_; refine wpList_load_at rfl 27 (.tmp 8) rfl (g + 1) rfl 27 (w4 y) (0, 0) _ GY_5.out Try.underlying27 rfl (by kernel_rfl) ?_))
        refine (HISX.out (.slice zs4 zt4 zu4) _ P_5.out.rd).mono ?_
        rintro e W6 ⟨rfl, hb6⟩
        have GX_6 := Lib.hid (GX_5.out.below hb6 GX_5.out.lt)
        have GY_6 := Lib.hid (GY_5.out.below hb6 GY_5.out.lt)
        have P_6 := Lib.hid (P_5.out.below hb6 (Nat.le_refl _))
        have Q_6 := Lib.hid (Q_5.out.below hb6 (Nat.le_refl _))
        have HB_6 := Lib.hid (HB_5.out.trans (hb6.mono HB_5.out.size))
        clear hb6
        go_wp2_with (first
          | (refine wpList_wanted rfl ?_; refine wpList_load_at rfl 27 (.tmp 7) rfl g rfl 27 (w4 x) (0, 0) _ GX_6.out Try.underlying27 rfl (by kernel_rfl) ?_)
          | (refine wpList_wanted rfl ?_; refine wpList_load_at rfl 27 (.tmp 8) rfl (g + 1) rfl 27 (w4 y) (0, 0) _ GY_6.out Try.underlying27 rfl (by kernel_rfl) ?_))
        refine (HISY.out (.slice zs5 zt5 zu5) _ Q_6.out.rd).mono ?_
        rintro e W7 ⟨rfl, hb7⟩
        have GX_7 := Lib.hid (GX_6.out.below hb7 GX_6.out.lt)
        have GY_7 := Lib.hid (GY_6.out.below hb7 GY_6.out.lt)
        have P_7 := Lib.hid (P_6.out.below hb7 (Nat.le_refl _))
        have Q_7 := Lib.hid (Q_6.out.below hb7 (Nat.le_refl _))
        have HB_7 := Lib.hid (HB_6.out.trans (hb7.mono HB_6.out.size))
        clear hb7
        go_wp2_with (first
          | (refine wpList_wanted rfl ?_; refine wpList_load_at rfl 27 (.tmp 7) rfl g rfl 27 (w4 x) (0, 0) _ GX_7.out Try.underlying27 rfl (by kernel_rfl) ?_)
          | (refine wpList_wanted rfl ?_; refine wpList_load_at rfl 27 (.tmp 8) rfl (g + 1) rfl 27 (w4 y) (0, 0) _ GY_7.out Try.underlying27 rfl (by kernel_rfl) ?_))
        refine (HAD.out _).mono ?_
        rintro e W8 ⟨rfl, hb8⟩
        have GX_8 := Lib.hid (GX_7.out.below hb8 GX_7.out.lt)
        have GY_8 := Lib.hid (GY_7.out.below hb8 GY_7.out.lt)
        have P_8 := Lib.hid (P_7.out.below hb8 (Nat.le_refl _))
        have Q_8 := Lib.hid (Q_7.out.below hb8 (Nat.le_refl _))
        have HB_8 := Lib.hid (HB_7.out.trans (hb8.mono HB_7.out.size))
        clear hb8
        go_wp2_with (first
          | (refine wpList_wanted rfl ?_; refine wpList_load_at rfl 27 (.tmp 7) rfl g rfl 27 (w4 x) (0, 0) _ GX_8.out Try.underlying27 rfl (by kernel_rfl) ?_)
          | (refine wpList_wanted rfl ?_; refine wpList_load_at rfl 27 (.tmp 8) rfl (g + 1) rfl 27 (w4 y) (0, 0) _ GY_8.out Try.underlying27 rfl (by kernel_rfl) ?_))
        refine (HBA.out (.slice zs4 zt4 zu4) (.slice zs5 zt5 zu5) _ P_8.out.rd Q_8.out.rd).mono ?_
        rintro e W9 ⟨z9, rfl, hown9, hb9⟩
        obtain ⟨zs9, zt9, zu9, rfl⟩ := slOf hown9
        have GX_9 := Lib.hid (GX_8.out.below hb9 GX_8.out.lt)
        have GY_9 := Lib.hid (GY_8.out.below hb9 GY_8.out.lt)
        have P_9 := Lib.hid (P_8.out.below hb9 (Nat.le_refl _))
        have Q_9 := Lib.hid (Q_8.out.below hb9 (Nat.le_refl _))
        have HB_9 := Lib.hid (HB_8.out.trans (hb9.mono HB_8.out.size))
        have X1_9 := Lib.hid hown9
        clear hown9
        clear hb9
        go_wp2_with fail
        refine (HMA.out (.slice zs9 zt9 zu9) _ X1_9.out.rd).mono ?_
        rintro e W10 ⟨z10, rfl, hown10, hb10⟩
        obtain ⟨zs10, zt10, zu10, rfl⟩ := slOf hown10
        have GX_10 := Lib.hid (GX_9.out.below hb10 GX_9.out.lt)
        have GY_10 := Lib.hid (GY_9.out.below hb10 GY_9.out.lt)
        have P_10 := Lib.hid (P_9.out.below hb10 (Nat.le_refl _))
        have Q_10 := Lib.hid (Q_9.out.below hb10 (Nat.le_refl _))
        have X1_10 := Lib.hid (X1_9.out.below hb10 (Nat.le_refl _))
        have HB_10 := Lib.hid (HB_9.out.trans (hb10.mono HB_9.out.size))
        have X2_10 := Lib.hid hown10
        clear hown10
        clear hb10
        go_wp2_with fail
        refine (HISS.out (.slice zs10 zt10 zu10) _ X2_10.out.rd).mono ?_
        rintro e W11 ⟨rfl, hb11⟩
        have GX_11 := Lib.hid (GX_10.out.below hb11 GX_10.out.lt)
        have GY_11 := Lib.hid (GY_10.out.below hb11 GY_10.out.lt)
        have P_11 := Lib.hid (P_10.out.below hb11 (Nat.le_refl _))
        have Q_11 := Lib.hid (Q_10.out.below hb11 (Nat.le_refl _))
        have X1_11 := Lib.hid (X1_10.out.below hb11 (Nat.le_refl _))
        have X2_11 := Lib.hid (X2_10.out.below hb11 (Nat.le_refl _))
        have HB_11 := Lib.hid (HB_10.out.trans (hb11.mono HB_10.out.size))
        clear hb11
        go_wp2_with (first
          | (refine wpList_wanted rfl ?_; refine wpList_load_at rfl 27 (.tmp 7) rfl g rfl 27 (w4 x) (0, 0) _ GX_11.out Try.underlying27 rfl (by kernel_rfl) ?_)
          | (refine wpList_wanted rfl ?_; refine wpList_load_at rfl 27 (.tmp 8) rfl (g + 1) rfl 27 (w4 y) (0, 0) _ GY_11.out Try.underlying27 rfl (by kernel_rfl) ?_))
        refine (HMU.out _).mono ?_
        rintro e W12 ⟨rfl, hb12⟩
        have GX_12 := Lib.hid (GX_11.out.below hb12 GX_11.out.lt)
        have GY_12 := Lib.hid (GY_11.out.below hb12 GY_11.out.lt)
        have P_12 := Lib.hid (P_11.out.below hb12 (Nat.le_refl _))
        have Q_12 := Lib.hid (Q_11.out.below hb12 (Nat.le_refl _))
        have HB_12 := Lib.hid (HB_11.out.trans (hb12.mono HB_11.out.size))
        clear hb12
        go_wp2_with (first
          | (refine wpList_wanted rfl ?_; refine wpList_load_at rfl 27 (.tmp 7) rfl g rfl 27 (w4 x) (0, 0) _ GX_12.out Try.underlying27 rfl (by kernel_rfl) ?_)
          | (refine wpList_wanted rfl ?_; refine wpList_load_at rfl 27 (.tmp 8) rfl (g + 1) rfl 27 (w4 y) (0, 0) _ GY_12.out Try.underlying27 rfl (by kernel_rfl) ?_))
        refine (HBM.out (.slice zs4 zt4 zu4) (.slice zs5 zt5 zu5) _ P_12.out.rd Q_12.out.rd).mono ?_
        rintro e W13 ⟨z13, rfl, hown13, hb13⟩
        obtain ⟨zs13, zt13, zu13, rfl⟩ := slOf hown13
        have GX_13 := Lib.hid (GX_12.out.below hb13 GX_12.out.lt)
        have GY_13 := Lib.hid (GY_12.out.below hb13 GY_12.out.lt)
        have P_13 := Lib.hid (P_12.out.below hb13 (Nat.le_refl _))
        have Q_13 := Lib.hid (Q_12.out.below hb13 (Nat.le_refl _))
        have HB_13 := Lib.hid (HB_12.out.trans (hb13.mono HB_12.out.size))
        have X3_13 := Lib.hid hown13
        clear hown13
        clear hb13
        go_wp2_with fail
        refine (HMM.out (.slice zs13 zt13 zu13) _ X3_13.out.rd).mono ?_
        rintro e W14 ⟨z14, rfl, hown14, hb14⟩
        obtain ⟨zs14, zt14, zu14, rfl⟩ := slOf hown14
        have GX_14 := Lib.hid (GX_13.out.below hb14 GX_13.out.lt)
        have GY_14 := Lib.hid (GY_13.out.below hb14 GY_13.out.lt)
        have P_14 := Lib.hid (P_13.out.below hb14 (Nat.le_refl _))
        have Q_14 := Lib.hid (Q_13.out.below hb14 (Nat.le_refl _))
        have X3_14 := Lib.hid (X3_13.out.below hb14 (Nat.le_refl _))
        have HB_14 := Lib.hid (HB_13.out.trans (hb14.mono HB_13.out.size))
        have X4_14 := Lib.hid hown14
        clear hown14
        clear hb14
        go_wp2_with fail
        refine (HISM.out (.slice zs14 zt14 zu14) _ X4_14.out.rd).mono ?_
        rintro e W15 ⟨rfl, hb15⟩
        have GX_15 := Lib.hid (GX_14.out.below hb15 GX_14.out.lt)
        have GY_15 := Lib.hid (GY_14.out.below hb15 GY_14.out.lt)
        have P_15 := Lib.hid (P_14.out.below hb15 (Nat.le_refl _))
        have Q_15 := Lib.hid (Q_14.out.below hb15 (Nat.le_refl _))
        have X3_15 := Lib.hid (X3_14.out.below hb15 (Nat.le_refl _))
        have X4_15 := Lib.hid (X4_14.out.below hb15 (Nat.le_refl _))
        have HB_15 := Lib.hid (HB_14.out.trans (hb15.mono HB_14.out.size))
        clear hb15
        go_wp2_with (first
          | (refine wpList_wanted rfl ?_; refine wpList_load_at rfl 27 (.tmp 7) rfl g rfl 27 (w4 x) (0, 0) _ GX_15.out Try.underlying27 rfl (by kernel_rfl) ?_)
          | (refine wpList_wanted rfl ?_; refine wpList_load_at rfl 27 (.tmp 8) rfl (g + 1) rfl 27 (w4 y) (0, 0) _ GY_15.out Try.underlying27 rfl (by kernel_rfl) ?_))
        refine (HNE.out _).mono ?_
        rintro e W16 ⟨rfl, hb16⟩
        have GX_16 := Lib.hid (GX_15.out.below hb16 GX_15.out.lt)
        have GY_16 := Lib.hid (GY_15.out.below hb16 GY_15.out.lt)
        have P_16 := Lib.hid (P_15.out.below hb16 (Nat.le_refl _))
        have Q_16 := Lib.hid (Q_15.out.below hb16 (Nat.le_refl _))
        have HB_16 := Lib.hid (HB_15.out.trans (hb16.mono HB_15.out.size))
        clear hb16
        go_wp2_with (first
          | (refine wpList_wanted rfl ?_; refine wpList_load_at rfl 27 (.tmp 7) rfl g rfl 27 (w4 x) (0, 0) _ GX_16.out Try.underlying27 rfl (by kernel_rfl) ?_)
          | (refine wpList_wanted rfl ?_; refine wpList_load_at rfl 27 (.tmp 8) rfl (g + 1) rfl 27 (w4 y) (0, 0) _ GY_16.out Try.underlying27 rfl (by kernel_rfl) ?_))
        refine (border_any _).mono ?_
        rintro e W17 ⟨z17, rfl, hown17, hb17⟩
        obtain ⟨zs17, zt17, zu17, rfl⟩ := slOf hown17
        have GX_17 := Lib.hid (GX_16.out.below hb17 GX_16.out.lt)
        have GY_17 := Lib.hid (GY_16.out.below hb17 GY_16.out.lt)
        have P_17 := Lib.hid (P_16.out.below hb17 (Nat.le_refl _))
        have Q_17 := Lib.hid (Q_16.out.below hb17 (Nat.le_refl _))
        have HB_17 := Lib.hid (HB_16.out.trans (hb17.mono HB_16.out.size))
        have X5_17 := Lib.hid hown17
        clear hown17
        clear hb17
        go_wp2_with (first
          | (refine wpList_wanted rfl ?_; refine wpList_load_at rfl 27 (.tmp 7) rfl g rfl 27 (w4 x) (0, 0) _ GX_17.out Try.underlying27 rfl (by kernel_rfl) ?_)
          | (refine wpList_wanted rfl ?_; refine wpList_load_at rfl 27 (.tmp 8) rfl (g + 1) rfl 27 (w4 y) (0, 0) _ GY_17.out Try.underlying27 rfl (by kernel_rfl) ?_))
        refine (HBS.out (.slice zs17 zt17 zu17) (.slice zs4 zt4 zu4) _ X5_17.out.rd P_17.out.rd).mono ?_
        rintro e W18 ⟨z18, rfl, hown18, hb18⟩
        obtain ⟨zs18, zt18, zu18, rfl⟩ := slOf hown18
        have GX_18 := Lib.hid (GX_17.out.below hb18 GX_17.out.lt)
        have GY_18 := Lib.hid (GY_17.out.below hb18 GY_17.out.lt)
        have P_18 := Lib.hid (P_17.out.below hb18 (Nat.le_refl _))
        have Q_18 := Lib.hid (Q_17.out.below hb18 (Nat.le_refl _))
        have X5_18 := Lib.hid (X5_17.out.below hb18 (Nat.le_refl _))
        have HB_18 := Lib.hid (HB_17.out.trans (hb18.mono HB_17.out.size))
        have X6_18 := Lib.hid hown18
        clear hown18
        clear hb18
        go_wp2_with fail
        refine (HMS.out (.slice zs18 zt18 zu18) _ X6_18.out.rd).mono ?_
        rintro e W19 ⟨z19, rfl, hown19, hb19⟩
        obtain ⟨zs19, zt19, zu19, rfl⟩ := slOf hown19
        have GX_19 := Lib.hid (GX_18.out.below hb19 GX_18.out.lt)
        have GY_19 := Lib.hid (GY_18.out.below hb19 GY_18.out.lt)
        have P_19 := Lib.hid (P_18.out.below hb19 (Nat.le_refl _))
        have Q_19 := Lib.hid (Q_18.out.below hb19 (Nat.le_refl _))
        have X5_19 := Lib.hid (X5_18.out.below hb19 (Nat.le_refl _))
        have X6_19 := Lib.hid (X6_18.out.below hb19 (Nat.le_refl _))
        have HB_19 := Lib.hid (HB_18.out.trans (hb19.mono HB_18.out.size))
        have X7_19 := Lib.hid hown19
        clear hown19
        clear hb19
        go_wp2_with fail
        refine (HISD.out (.slice zs19 zt19 zu19) _ X7_19.out.rd).mono ?_
        rintro e W20 ⟨rfl, hb20⟩
        have GX_20 := Lib.hid (GX_19.out.below hb20 GX_19.out.lt)
        have GY_20 := Lib.hid (GY_19.out.below hb20 GY_19.out.lt)
        have P_20 := Lib.hid (P_19.out.below hb20 (Nat.le_refl _))
        have Q_20 := Lib.hid (Q_19.out.below hb20 (Nat.le_refl _))
        have X5_20 := Lib.hid (X5_19.out.below hb20 (Nat.le_refl _))
        have X6_20 := Lib.hid (X6_19.out.below hb20 (Nat.le_refl _))
        have X7_20 := Lib.hid (X7_19.out.below hb20 (Nat.le_refl _))
        have HB_20 := Lib.hid (HB_19.out.trans (hb20.mono HB_19.out.size))
        clear hb20
        go_wp2_with (first
          | (refine wpList_wanted rfl ?_; refine wpList_load_at rfl 27 (.tmp 7) rfl g rfl 27 (w4 x) (0, 0) _ GX_20.out Try.underlying27 rfl (by kernel_rfl) ?_)
          | (refine wpList_wanted rfl ?_; refine wpList_load_at rfl 27 (.tmp 8) rfl (g + 1) rfl 27 (w4 y) (0, 0) _ GY_20.out Try.underlying27 rfl (by kernel_rfl) ?_))
        refine (HBT2.out _).mono ?_
        rintro e W21 ⟨rfl, hb21⟩
        have GX_21 := Lib.hid (GX_20.out.below hb21 GX_20.out.lt)
        have GY_21 := Lib.hid (GY_20.out.below hb21 GY_20.out.lt)
        have P_21 := Lib.hid (P_20.out.below hb21 (Nat.le_refl _))
        have Q_21 := Lib.hid (Q_20.out.below hb21 (Nat.le_refl _))
        have HB_21 := Lib.hid (HB_20.out.trans (hb21.mono HB_20.out.size))
        clear hb21
        go_wp2_with (first
          | (refine wpList_wanted rfl ?_; refine wpList_load_at rfl 27 (.tmp 7) rfl g rfl 27 (w4 x) (0, 0) _ GX_21.out Try.underlying27 rfl (by kernel_rfl) ?_)
          | (refine wpList_wanted rfl ?_; refine wpList_load_at rfl 27 (.tmp 8) rfl (g + 1) rfl 27 (w4 y) (0, 0) _ GY_21.out Try.underlying27 rfl (by kernel_rfl) ?_))
        refine (HSS.out _).mono ?_
        rintro e W22 ⟨rfl, hb22⟩
        have GX_22 := Lib.hid (GX_21.out.below hb22 GX_21.out.lt)
        have GY_22 := Lib.hid (GY_21.out.below hb22 GY_21.out.lt)
        have P_22 := Lib.hid (P_21.out.below hb22 (Nat.le_refl _))
        have Q_22 := Lib.hid (Q_21.out.below hb22 (Nat.le_refl _))
        have HB_22 := Lib.hid (HB_21.out.trans (hb22.mono HB_21.out.size))
        clear hb22
        go_wp2_with (first
          | (refine wpList_wanted rfl ?_; refine wpList_load_at rfl 27 (.tmp 7) rfl g rfl 27 (w4 x) (0, 0) _ GX_22.out Try.underlying27 rfl (by kernel_rfl) ?_)
          | (refine wpList_wanted rfl ?_; refine wpList_load_at rfl 27 (.tmp 8) rfl (g + 1) rfl 27 (w4 y) (0, 0) _ GY_22.out Try.underlying27 rfl (by kernel_rfl) ?_))
        refine (HRS.out (.slice zs4 zt4 zu4) (.slice zs5 zt5 zu5) _ P_22.out.rd Q_22.out.rd).mono ?_
        rintro e W23 ⟨rfl, n23, hw23⟩
        have hb23 := below_drewN' (Below.refl W22.heap.size W22) n23
        rw [← hw23] at hb23
        clear hw23
        have GX_23 := Lib.hid (GX_22.out.below hb23 GX_22.out.lt)
        have GY_23 := Lib.hid (GY_22.out.below hb23 GY_22.out.lt)
        have P_23 := Lib.hid (P_22.out.below hb23 (Nat.le_refl _))
        have Q_23 := Lib.hid (Q_22.out.below hb23 (Nat.le_refl _))
        have HB_23 := Lib.hid (HB_22.out.trans (hb23.mono HB_22.out.size))
        clear hb23
        go_wp2_with fail
        go_ret
        exact ⟨by simp, HB_23.out⟩
      · by_cases i1 : i < 256
        · obtain ⟨iN, rfl⟩ := Int.eq_ofNat_of_zero_le (show 0 ≤ i by omega)
          have HPL : Hid ((BigM.big (2 ^ iN)).length < 100000) := Lib.hid (by
            have h1 : 2 ^ iN < 2 ^ 256 := Nat.pow_lt_pow_right (by omega) (by omega)
            exact big_len_of (k := 18) (Nat.lt_of_lt_of_le h1 (by decide)) (by omega))
          go_enter Try.func5, Try.ntmps5
          go_wp2_with fail
          refine (HAL.out).mono ?_
          rintro e w1 ⟨rfl, hb1⟩
          have HB1 := Lib.hid hb1
          clear hb1
          obtain ⟨W0, hW0⟩ : ∃ W0, W0 = w1 := ⟨_, rfl⟩
          rw [← hW0] at HB1 ⊢
          have HB_0 := HB1
          clear hW0 HB1
          go_wp2_with fail
          refine (HO1.out _ HB_0.out).mono ?_
          rintro e W1 ⟨rfl, hb1⟩
          have HB_1 := Lib.hid (HB_0.out.trans (hb1.mono HB_0.out.size))
          clear hb1
          go_wp2_with fail
          refine (HO2.out _ HB_1.out).mono ?_
          rintro e W2 ⟨rfl, hb2⟩
          have HB_2 := Lib.hid (HB_1.out.trans (hb2.mono HB_1.out.size))
          clear hb2
          obtain ⟨k1', k2', k5'⟩ := blk2 W2 #[.int .u64 0, .int .u64 0, .int .u64 0, .int .u64 0] #[.int .u64 0, .int .u64 0, .int .u64 0, .int .u64 0] 27 27
          have K1 := Lib.hid k1'
          have K2 := Lib.hid k2'
          have K5 := Lib.hid k5'
          clear k1' k2' k5'
          go_wp2_with (refine wpList_store_blk rfl 27 (.tmp 7) (.tmp 25) rfl W2.heap.size (w4 x) rfl rfl _ _ K1.out (by kernel_rfl) rfl rfl ?_)
          rintro u1 kk1 ub1 uo1 -
          have A1 := Lib.hid kk1
          have A2 := Lib.hid (show Blk u1 (W2.heap.size + 1) _ _ from (uo1 (W2.heap.size + 1) (by omega)).trans K2.out)
          have AB := Lib.hid (HB_2.out.trans ((K5.out.trans (ub1 W2.heap.size (Nat.le_refl _))).mono HB_2.out.size))
          clear kk1 ub1 uo1
          go_wp2_with (refine wpList_store_blk rfl 27 (.tmp 8) (.tmp 27) rfl (W2.heap.size + 1) (w4 y) rfl rfl _ _ A2.out (by kernel_rfl) rfl rfl ?_)
          rintro W3 kk2 ub2 uo2 -
          have GY_3 := Lib.hid kk2
          have GX_3 := Lib.hid (show Blk W3 W2.heap.size _ _ from (uo2 W2.heap.size (by omega)).trans A1.out)
          have HB_3 := Lib.hid (AB.out.trans (ub2 w.heap.size (by have := HB_2.out.size; omega)))
          clear kk2 ub2 uo2 A1 A2 AB K1 K2 K5
          obtain ⟨g, hg⟩ : ∃ g, g = W2.heap.size := ⟨_, rfl⟩
          rw [← hg] at GX_3 GY_3
          try rw [← hg]
          clear hg
          go_wp2_with fail
          refine (HP1.out _ HB_3.out).mono ?_
          rintro e W4 ⟨z4, rfl, hown4, hb4⟩
          obtain ⟨zs4, zt4, zu4, rfl⟩ := slOf hown4
          have GX_4 := Lib.hid (GX_3.out.below hb4 GX_3.out.lt)
          have GY_4 := Lib.hid (GY_3.out.below hb4 GY_3.out.lt)
          have HB_4 := Lib.hid (HB_3.out.trans (hb4.mono HB_3.out.size))
          have P_4 := Lib.hid hown4
          clear hown4
          clear hb4
          go_wp2_with fail
          refine (HP2.out _ HB_4.out).mono ?_
          rintro e W5 ⟨z5, rfl, hown5, hb5⟩
          obtain ⟨zs5, zt5, zu5, rfl⟩ := slOf hown5
          have GX_5 := Lib.hid (GX_4.out.below hb5 GX_4.out.lt)
          have GY_5 := Lib.hid (GY_4.out.below hb5 GY_4.out.lt)
          have P_5 := Lib.hid (P_4.out.below hb5 (Nat.le_refl _))
          have HB_5 := Lib.hid (HB_4.out.trans (hb5.mono HB_4.out.size))
          have Q_5 := Lib.hid hown5
          clear hown5
          clear hb5
          go_wp2_with fail
          refine ((bpow_any iN _ (by omega))).mono ?_
          rintro e W6 ⟨z6, rfl, hown6, hb6⟩
          obtain ⟨zs6, zt6, zu6, rfl⟩ := slOf hown6
          have GX_6 := Lib.hid (GX_5.out.below hb6 GX_5.out.lt)
          have GY_6 := Lib.hid (GY_5.out.below hb6 GY_5.out.lt)
          have P_6 := Lib.hid (P_5.out.below hb6 (Nat.le_refl _))
          have Q_6 := Lib.hid (Q_5.out.below hb6 (Nat.le_refl _))
          have HB_6 := Lib.hid (HB_5.out.trans (hb6.mono HB_5.out.size))
          have T_6 := Lib.hid hown6
          clear hown6
          clear hb6
          have DV := bdiv_any (.slice zs4 zt4 zu4) (.slice zs6 zt6 zu6) x (2 ^ iN) W6 P_6.out.rd T_6.out.rd (bl18 HXP.out) HPL.out (Nat.pow_pos (by omega))
          have HDV := Lib.hid DV
          clear DV
          go_wp2_with fail
          refine (HDV.out).mono ?_
          rintro e W7 ⟨zq, zr, rfl, hownq, hownr, hb⟩
          obtain ⟨zs7, zt7, zu7, rfl⟩ := slOf hownq
          obtain ⟨ys, yt, yu, rfl⟩ := slOf hownr
          have GX_7 := Lib.hid (GX_6.out.below hb GX_6.out.lt)
          have GY_7 := Lib.hid (GY_6.out.below hb GY_6.out.lt)
          have P_7 := Lib.hid (P_6.out.below hb (Nat.le_refl _))
          have Q_7 := Lib.hid (Q_6.out.below hb (Nat.le_refl _))
          have T_7 := Lib.hid (T_6.out.below hb (Nat.le_refl _))
          have HB_7 := Lib.hid (HB_6.out.trans (hb.mono HB_6.out.size))
          have U_7 := Lib.hid hownq
          clear hownq hownr hb HDV
          have LW := blow_any (.slice zs7 zt7 zu7) (x / 2 ^ iN) W7 U_7.out.rd
          have HLW := Lib.hid LW
          clear LW
          go_wp2_with fail
          refine (HLW.out).mono ?_
          rintro e W8 ⟨rfl, hw⟩
          have hb : Below W7.heap.size W7 W8 := by rw [hw]; exact Below.refl _ _
          clear hw
          have GX_8 := Lib.hid (GX_7.out.below hb GX_7.out.lt)
          have GY_8 := Lib.hid (GY_7.out.below hb GY_7.out.lt)
          have P_8 := Lib.hid (P_7.out.below hb (Nat.le_refl _))
          have Q_8 := Lib.hid (Q_7.out.below hb (Nat.le_refl _))
          have T_8 := Lib.hid (T_7.out.below hb (Nat.le_refl _))
          have U_8 := Lib.hid (U_7.out.below hb (Nat.le_refl _))
          have HB_8 := Lib.hid (HB_7.out.trans (hb.mono HB_7.out.size))
          clear hb HLW
          have ebt : x / 2 ^ iN % 18446744073709551616 % 2 = bt := by rw [HBT.out, bitF, if_pos ⟨by omega, by omega⟩, Int.toNat_natCast]; omega
          obtain ⟨lo, hlo⟩ : ∃ lo, lo = x / 2 ^ iN % 18446744073709551616 := ⟨_, rfl⟩
          rw [← hlo] at ebt
          have elo : (lo : Int) % 2 = (bt : Int) := by omega
          have hbt2 : bt < 2 := by omega
          try rw [← hlo]
          clear hlo ebt
          go_wp2_with (first
            | (refine wpList_wanted rfl ?_; refine wpList_load_at rfl 27 (.tmp 7) rfl g rfl 27 (w4 x) (0, 0) _ GX_8.out Try.underlying27 rfl (by kernel_rfl) ?_)
            | (refine wpList_wanted rfl ?_; refine wpList_load_at rfl 27 (.tmp 8) rfl (g + 1) rfl 27 (w4 y) (0, 0) _ GY_8.out Try.underlying27 rfl (by kernel_rfl) ?_))
          refine (HISX.out (.slice zs4 zt4 zu4) _ P_8.out.rd).mono ?_
          rintro e W9 ⟨rfl, hb9⟩
          have GX_9 := Lib.hid (GX_8.out.below hb9 GX_8.out.lt)
          have GY_9 := Lib.hid (GY_8.out.below hb9 GY_8.out.lt)
          have P_9 := Lib.hid (P_8.out.below hb9 (Nat.le_refl _))
          have Q_9 := Lib.hid (Q_8.out.below hb9 (Nat.le_refl _))
          have T_9 := Lib.hid (T_8.out.below hb9 (Nat.le_refl _))
          have U_9 := Lib.hid (U_8.out.below hb9 (Nat.le_refl _))
          have HB_9 := Lib.hid (HB_8.out.trans (hb9.mono HB_8.out.size))
          clear hb9
          go_wp2_with (first
            | (refine wpList_wanted rfl ?_; refine wpList_load_at rfl 27 (.tmp 7) rfl g rfl 27 (w4 x) (0, 0) _ GX_9.out Try.underlying27 rfl (by kernel_rfl) ?_)
            | (refine wpList_wanted rfl ?_; refine wpList_load_at rfl 27 (.tmp 8) rfl (g + 1) rfl 27 (w4 y) (0, 0) _ GY_9.out Try.underlying27 rfl (by kernel_rfl) ?_))
          refine (HISY.out (.slice zs5 zt5 zu5) _ Q_9.out.rd).mono ?_
          rintro e W10 ⟨rfl, hb10⟩
          have GX_10 := Lib.hid (GX_9.out.below hb10 GX_9.out.lt)
          have GY_10 := Lib.hid (GY_9.out.below hb10 GY_9.out.lt)
          have P_10 := Lib.hid (P_9.out.below hb10 (Nat.le_refl _))
          have Q_10 := Lib.hid (Q_9.out.below hb10 (Nat.le_refl _))
          have T_10 := Lib.hid (T_9.out.below hb10 (Nat.le_refl _))
          have U_10 := Lib.hid (U_9.out.below hb10 (Nat.le_refl _))
          have HB_10 := Lib.hid (HB_9.out.trans (hb10.mono HB_9.out.size))
          clear hb10
          go_wp2_with (first
            | (refine wpList_wanted rfl ?_; refine wpList_load_at rfl 27 (.tmp 7) rfl g rfl 27 (w4 x) (0, 0) _ GX_10.out Try.underlying27 rfl (by kernel_rfl) ?_)
            | (refine wpList_wanted rfl ?_; refine wpList_load_at rfl 27 (.tmp 8) rfl (g + 1) rfl 27 (w4 y) (0, 0) _ GY_10.out Try.underlying27 rfl (by kernel_rfl) ?_))
          refine (HAD.out _).mono ?_
          rintro e W11 ⟨rfl, hb11⟩
          have GX_11 := Lib.hid (GX_10.out.below hb11 GX_10.out.lt)
          have GY_11 := Lib.hid (GY_10.out.below hb11 GY_10.out.lt)
          have P_11 := Lib.hid (P_10.out.below hb11 (Nat.le_refl _))
          have Q_11 := Lib.hid (Q_10.out.below hb11 (Nat.le_refl _))
          have T_11 := Lib.hid (T_10.out.below hb11 (Nat.le_refl _))
          have U_11 := Lib.hid (U_10.out.below hb11 (Nat.le_refl _))
          have HB_11 := Lib.hid (HB_10.out.trans (hb11.mono HB_10.out.size))
          clear hb11
          go_wp2_with (first
            | (refine wpList_wanted rfl ?_; refine wpList_load_at rfl 27 (.tmp 7) rfl g rfl 27 (w4 x) (0, 0) _ GX_11.out Try.underlying27 rfl (by kernel_rfl) ?_)
            | (refine wpList_wanted rfl ?_; refine wpList_load_at rfl 27 (.tmp 8) rfl (g + 1) rfl 27 (w4 y) (0, 0) _ GY_11.out Try.underlying27 rfl (by kernel_rfl) ?_))
          refine (HBA.out (.slice zs4 zt4 zu4) (.slice zs5 zt5 zu5) _ P_11.out.rd Q_11.out.rd).mono ?_
          rintro e W12 ⟨z12, rfl, hown12, hb12⟩
          obtain ⟨zs12, zt12, zu12, rfl⟩ := slOf hown12
          have GX_12 := Lib.hid (GX_11.out.below hb12 GX_11.out.lt)
          have GY_12 := Lib.hid (GY_11.out.below hb12 GY_11.out.lt)
          have P_12 := Lib.hid (P_11.out.below hb12 (Nat.le_refl _))
          have Q_12 := Lib.hid (Q_11.out.below hb12 (Nat.le_refl _))
          have T_12 := Lib.hid (T_11.out.below hb12 (Nat.le_refl _))
          have U_12 := Lib.hid (U_11.out.below hb12 (Nat.le_refl _))
          have HB_12 := Lib.hid (HB_11.out.trans (hb12.mono HB_11.out.size))
          have X1_12 := Lib.hid hown12
          clear hown12
          clear hb12
          go_wp2_with fail
          refine (HMA.out (.slice zs12 zt12 zu12) _ X1_12.out.rd).mono ?_
          rintro e W13 ⟨z13, rfl, hown13, hb13⟩
          obtain ⟨zs13, zt13, zu13, rfl⟩ := slOf hown13
          have GX_13 := Lib.hid (GX_12.out.below hb13 GX_12.out.lt)
          have GY_13 := Lib.hid (GY_12.out.below hb13 GY_12.out.lt)
          have P_13 := Lib.hid (P_12.out.below hb13 (Nat.le_refl _))
          have Q_13 := Lib.hid (Q_12.out.below hb13 (Nat.le_refl _))
          have T_13 := Lib.hid (T_12.out.below hb13 (Nat.le_refl _))
          have U_13 := Lib.hid (U_12.out.below hb13 (Nat.le_refl _))
          have X1_13 := Lib.hid (X1_12.out.below hb13 (Nat.le_refl _))
          have HB_13 := Lib.hid (HB_12.out.trans (hb13.mono HB_12.out.size))
          have X2_13 := Lib.hid hown13
          clear hown13
          clear hb13
          go_wp2_with fail
          refine (HISS.out (.slice zs13 zt13 zu13) _ X2_13.out.rd).mono ?_
          rintro e W14 ⟨rfl, hb14⟩
          have GX_14 := Lib.hid (GX_13.out.below hb14 GX_13.out.lt)
          have GY_14 := Lib.hid (GY_13.out.below hb14 GY_13.out.lt)
          have P_14 := Lib.hid (P_13.out.below hb14 (Nat.le_refl _))
          have Q_14 := Lib.hid (Q_13.out.below hb14 (Nat.le_refl _))
          have T_14 := Lib.hid (T_13.out.below hb14 (Nat.le_refl _))
          have U_14 := Lib.hid (U_13.out.below hb14 (Nat.le_refl _))
          have X1_14 := Lib.hid (X1_13.out.below hb14 (Nat.le_refl _))
          have X2_14 := Lib.hid (X2_13.out.below hb14 (Nat.le_refl _))
          have HB_14 := Lib.hid (HB_13.out.trans (hb14.mono HB_13.out.size))
          clear hb14
          go_wp2_with (first
            | (refine wpList_wanted rfl ?_; refine wpList_load_at rfl 27 (.tmp 7) rfl g rfl 27 (w4 x) (0, 0) _ GX_14.out Try.underlying27 rfl (by kernel_rfl) ?_)
            | (refine wpList_wanted rfl ?_; refine wpList_load_at rfl 27 (.tmp 8) rfl (g + 1) rfl 27 (w4 y) (0, 0) _ GY_14.out Try.underlying27 rfl (by kernel_rfl) ?_))
          refine (HMU.out _).mono ?_
          rintro e W15 ⟨rfl, hb15⟩
          have GX_15 := Lib.hid (GX_14.out.below hb15 GX_14.out.lt)
          have GY_15 := Lib.hid (GY_14.out.below hb15 GY_14.out.lt)
          have P_15 := Lib.hid (P_14.out.below hb15 (Nat.le_refl _))
          have Q_15 := Lib.hid (Q_14.out.below hb15 (Nat.le_refl _))
          have T_15 := Lib.hid (T_14.out.below hb15 (Nat.le_refl _))
          have U_15 := Lib.hid (U_14.out.below hb15 (Nat.le_refl _))
          have HB_15 := Lib.hid (HB_14.out.trans (hb15.mono HB_14.out.size))
          clear hb15
          go_wp2_with (first
            | (refine wpList_wanted rfl ?_; refine wpList_load_at rfl 27 (.tmp 7) rfl g rfl 27 (w4 x) (0, 0) _ GX_15.out Try.underlying27 rfl (by kernel_rfl) ?_)
            | (refine wpList_wanted rfl ?_; refine wpList_load_at rfl 27 (.tmp 8) rfl (g + 1) rfl 27 (w4 y) (0, 0) _ GY_15.out Try.underlying27 rfl (by kernel_rfl) ?_))
          refine (HBM.out (.slice zs4 zt4 zu4) (.slice zs5 zt5 zu5) _ P_15.out.rd Q_15.out.rd).mono ?_
          rintro e W16 ⟨z16, rfl, hown16, hb16⟩
          obtain ⟨zs16, zt16, zu16, rfl⟩ := slOf hown16
          have GX_16 := Lib.hid (GX_15.out.below hb16 GX_15.out.lt)
          have GY_16 := Lib.hid (GY_15.out.below hb16 GY_15.out.lt)
          have P_16 := Lib.hid (P_15.out.below hb16 (Nat.le_refl _))
          have Q_16 := Lib.hid (Q_15.out.below hb16 (Nat.le_refl _))
          have T_16 := Lib.hid (T_15.out.below hb16 (Nat.le_refl _))
          have U_16 := Lib.hid (U_15.out.below hb16 (Nat.le_refl _))
          have HB_16 := Lib.hid (HB_15.out.trans (hb16.mono HB_15.out.size))
          have X3_16 := Lib.hid hown16
          clear hown16
          clear hb16
          go_wp2_with fail
          refine (HMM.out (.slice zs16 zt16 zu16) _ X3_16.out.rd).mono ?_
          rintro e W17 ⟨z17, rfl, hown17, hb17⟩
          obtain ⟨zs17, zt17, zu17, rfl⟩ := slOf hown17
          have GX_17 := Lib.hid (GX_16.out.below hb17 GX_16.out.lt)
          have GY_17 := Lib.hid (GY_16.out.below hb17 GY_16.out.lt)
          have P_17 := Lib.hid (P_16.out.below hb17 (Nat.le_refl _))
          have Q_17 := Lib.hid (Q_16.out.below hb17 (Nat.le_refl _))
          have T_17 := Lib.hid (T_16.out.below hb17 (Nat.le_refl _))
          have U_17 := Lib.hid (U_16.out.below hb17 (Nat.le_refl _))
          have X3_17 := Lib.hid (X3_16.out.below hb17 (Nat.le_refl _))
          have HB_17 := Lib.hid (HB_16.out.trans (hb17.mono HB_16.out.size))
          have X4_17 := Lib.hid hown17
          clear hown17
          clear hb17
          go_wp2_with fail
          refine (HISM.out (.slice zs17 zt17 zu17) _ X4_17.out.rd).mono ?_
          rintro e W18 ⟨rfl, hb18⟩
          have GX_18 := Lib.hid (GX_17.out.below hb18 GX_17.out.lt)
          have GY_18 := Lib.hid (GY_17.out.below hb18 GY_17.out.lt)
          have P_18 := Lib.hid (P_17.out.below hb18 (Nat.le_refl _))
          have Q_18 := Lib.hid (Q_17.out.below hb18 (Nat.le_refl _))
          have T_18 := Lib.hid (T_17.out.below hb18 (Nat.le_refl _))
          have U_18 := Lib.hid (U_17.out.below hb18 (Nat.le_refl _))
          have X3_18 := Lib.hid (X3_17.out.below hb18 (Nat.le_refl _))
          have X4_18 := Lib.hid (X4_17.out.below hb18 (Nat.le_refl _))
          have HB_18 := Lib.hid (HB_17.out.trans (hb18.mono HB_17.out.size))
          clear hb18
          go_wp2_with (first
            | (refine wpList_wanted rfl ?_; refine wpList_load_at rfl 27 (.tmp 7) rfl g rfl 27 (w4 x) (0, 0) _ GX_18.out Try.underlying27 rfl (by kernel_rfl) ?_)
            | (refine wpList_wanted rfl ?_; refine wpList_load_at rfl 27 (.tmp 8) rfl (g + 1) rfl 27 (w4 y) (0, 0) _ GY_18.out Try.underlying27 rfl (by kernel_rfl) ?_))
          refine (HNE.out _).mono ?_
          rintro e W19 ⟨rfl, hb19⟩
          have GX_19 := Lib.hid (GX_18.out.below hb19 GX_18.out.lt)
          have GY_19 := Lib.hid (GY_18.out.below hb19 GY_18.out.lt)
          have P_19 := Lib.hid (P_18.out.below hb19 (Nat.le_refl _))
          have Q_19 := Lib.hid (Q_18.out.below hb19 (Nat.le_refl _))
          have T_19 := Lib.hid (T_18.out.below hb19 (Nat.le_refl _))
          have U_19 := Lib.hid (U_18.out.below hb19 (Nat.le_refl _))
          have HB_19 := Lib.hid (HB_18.out.trans (hb19.mono HB_18.out.size))
          clear hb19
          go_wp2_with (first
            | (refine wpList_wanted rfl ?_; refine wpList_load_at rfl 27 (.tmp 7) rfl g rfl 27 (w4 x) (0, 0) _ GX_19.out Try.underlying27 rfl (by kernel_rfl) ?_)
            | (refine wpList_wanted rfl ?_; refine wpList_load_at rfl 27 (.tmp 8) rfl (g + 1) rfl 27 (w4 y) (0, 0) _ GY_19.out Try.underlying27 rfl (by kernel_rfl) ?_))
          refine (border_any _).mono ?_
          rintro e W20 ⟨z20, rfl, hown20, hb20⟩
          obtain ⟨zs20, zt20, zu20, rfl⟩ := slOf hown20
          have GX_20 := Lib.hid (GX_19.out.below hb20 GX_19.out.lt)
          have GY_20 := Lib.hid (GY_19.out.below hb20 GY_19.out.lt)
          have P_20 := Lib.hid (P_19.out.below hb20 (Nat.le_refl _))
          have Q_20 := Lib.hid (Q_19.out.below hb20 (Nat.le_refl _))
          have T_20 := Lib.hid (T_19.out.below hb20 (Nat.le_refl _))
          have U_20 := Lib.hid (U_19.out.below hb20 (Nat.le_refl _))
          have HB_20 := Lib.hid (HB_19.out.trans (hb20.mono HB_19.out.size))
          have X5_20 := Lib.hid hown20
          clear hown20
          clear hb20
          go_wp2_with (first
            | (refine wpList_wanted rfl ?_; refine wpList_load_at rfl 27 (.tmp 7) rfl g rfl 27 (w4 x) (0, 0) _ GX_20.out Try.underlying27 rfl (by kernel_rfl) ?_)
            | (refine wpList_wanted rfl ?_; refine wpList_load_at rfl 27 (.tmp 8) rfl (g + 1) rfl 27 (w4 y) (0, 0) _ GY_20.out Try.underlying27 rfl (by kernel_rfl) ?_))
          refine (HBS.out (.slice zs20 zt20 zu20) (.slice zs4 zt4 zu4) _ X5_20.out.rd P_20.out.rd).mono ?_
          rintro e W21 ⟨z21, rfl, hown21, hb21⟩
          obtain ⟨zs21, zt21, zu21, rfl⟩ := slOf hown21
          have GX_21 := Lib.hid (GX_20.out.below hb21 GX_20.out.lt)
          have GY_21 := Lib.hid (GY_20.out.below hb21 GY_20.out.lt)
          have P_21 := Lib.hid (P_20.out.below hb21 (Nat.le_refl _))
          have Q_21 := Lib.hid (Q_20.out.below hb21 (Nat.le_refl _))
          have T_21 := Lib.hid (T_20.out.below hb21 (Nat.le_refl _))
          have U_21 := Lib.hid (U_20.out.below hb21 (Nat.le_refl _))
          have X5_21 := Lib.hid (X5_20.out.below hb21 (Nat.le_refl _))
          have HB_21 := Lib.hid (HB_20.out.trans (hb21.mono HB_20.out.size))
          have X6_21 := Lib.hid hown21
          clear hown21
          clear hb21
          go_wp2_with fail
          refine (HMS.out (.slice zs21 zt21 zu21) _ X6_21.out.rd).mono ?_
          rintro e W22 ⟨z22, rfl, hown22, hb22⟩
          obtain ⟨zs22, zt22, zu22, rfl⟩ := slOf hown22
          have GX_22 := Lib.hid (GX_21.out.below hb22 GX_21.out.lt)
          have GY_22 := Lib.hid (GY_21.out.below hb22 GY_21.out.lt)
          have P_22 := Lib.hid (P_21.out.below hb22 (Nat.le_refl _))
          have Q_22 := Lib.hid (Q_21.out.below hb22 (Nat.le_refl _))
          have T_22 := Lib.hid (T_21.out.below hb22 (Nat.le_refl _))
          have U_22 := Lib.hid (U_21.out.below hb22 (Nat.le_refl _))
          have X5_22 := Lib.hid (X5_21.out.below hb22 (Nat.le_refl _))
          have X6_22 := Lib.hid (X6_21.out.below hb22 (Nat.le_refl _))
          have HB_22 := Lib.hid (HB_21.out.trans (hb22.mono HB_21.out.size))
          have X7_22 := Lib.hid hown22
          clear hown22
          clear hb22
          go_wp2_with fail
          refine (HISD.out (.slice zs22 zt22 zu22) _ X7_22.out.rd).mono ?_
          rintro e W23 ⟨rfl, hb23⟩
          have GX_23 := Lib.hid (GX_22.out.below hb23 GX_22.out.lt)
          have GY_23 := Lib.hid (GY_22.out.below hb23 GY_22.out.lt)
          have P_23 := Lib.hid (P_22.out.below hb23 (Nat.le_refl _))
          have Q_23 := Lib.hid (Q_22.out.below hb23 (Nat.le_refl _))
          have T_23 := Lib.hid (T_22.out.below hb23 (Nat.le_refl _))
          have U_23 := Lib.hid (U_22.out.below hb23 (Nat.le_refl _))
          have X5_23 := Lib.hid (X5_22.out.below hb23 (Nat.le_refl _))
          have X6_23 := Lib.hid (X6_22.out.below hb23 (Nat.le_refl _))
          have X7_23 := Lib.hid (X7_22.out.below hb23 (Nat.le_refl _))
          have HB_23 := Lib.hid (HB_22.out.trans (hb23.mono HB_22.out.size))
          clear hb23
          go_wp2_with (first
            | (refine wpList_wanted rfl ?_; refine wpList_load_at rfl 27 (.tmp 7) rfl g rfl 27 (w4 x) (0, 0) _ GX_23.out Try.underlying27 rfl (by kernel_rfl) ?_)
            | (refine wpList_wanted rfl ?_; refine wpList_load_at rfl 27 (.tmp 8) rfl (g + 1) rfl 27 (w4 y) (0, 0) _ GY_23.out Try.underlying27 rfl (by kernel_rfl) ?_))
          refine (HBT2.out _).mono ?_
          rintro e W24 ⟨rfl, hb24⟩
          have GX_24 := Lib.hid (GX_23.out.below hb24 GX_23.out.lt)
          have GY_24 := Lib.hid (GY_23.out.below hb24 GY_23.out.lt)
          have P_24 := Lib.hid (P_23.out.below hb24 (Nat.le_refl _))
          have Q_24 := Lib.hid (Q_23.out.below hb24 (Nat.le_refl _))
          have T_24 := Lib.hid (T_23.out.below hb24 (Nat.le_refl _))
          have U_24 := Lib.hid (U_23.out.below hb24 (Nat.le_refl _))
          have HB_24 := Lib.hid (HB_23.out.trans (hb24.mono HB_23.out.size))
          clear hb24
          go_wp2_with (first
            | (refine wpList_wanted rfl ?_; refine wpList_load_at rfl 27 (.tmp 7) rfl g rfl 27 (w4 x) (0, 0) _ GX_24.out Try.underlying27 rfl (by kernel_rfl) ?_)
            | (refine wpList_wanted rfl ?_; refine wpList_load_at rfl 27 (.tmp 8) rfl (g + 1) rfl 27 (w4 y) (0, 0) _ GY_24.out Try.underlying27 rfl (by kernel_rfl) ?_))
          refine (HSS.out _).mono ?_
          rintro e W25 ⟨rfl, hb25⟩
          have GX_25 := Lib.hid (GX_24.out.below hb25 GX_24.out.lt)
          have GY_25 := Lib.hid (GY_24.out.below hb25 GY_24.out.lt)
          have P_25 := Lib.hid (P_24.out.below hb25 (Nat.le_refl _))
          have Q_25 := Lib.hid (Q_24.out.below hb25 (Nat.le_refl _))
          have T_25 := Lib.hid (T_24.out.below hb25 (Nat.le_refl _))
          have U_25 := Lib.hid (U_24.out.below hb25 (Nat.le_refl _))
          have HB_25 := Lib.hid (HB_24.out.trans (hb25.mono HB_24.out.size))
          clear hb25
          go_wp2_with (first
            | (refine wpList_wanted rfl ?_; refine wpList_load_at rfl 27 (.tmp 7) rfl g rfl 27 (w4 x) (0, 0) _ GX_25.out Try.underlying27 rfl (by kernel_rfl) ?_)
            | (refine wpList_wanted rfl ?_; refine wpList_load_at rfl 27 (.tmp 8) rfl (g + 1) rfl 27 (w4 y) (0, 0) _ GY_25.out Try.underlying27 rfl (by kernel_rfl) ?_))
          refine (HRS.out (.slice zs4 zt4 zu4) (.slice zs5 zt5 zu5) _ P_25.out.rd Q_25.out.rd).mono ?_
          rintro e W26 ⟨rfl, n26, hw26⟩
          have hb26 := below_drewN' (Below.refl W25.heap.size W25) n26
          rw [← hw26] at hb26
          clear hw26
          have GX_26 := Lib.hid (GX_25.out.below hb26 GX_25.out.lt)
          have GY_26 := Lib.hid (GY_25.out.below hb26 GY_25.out.lt)
          have P_26 := Lib.hid (P_25.out.below hb26 (Nat.le_refl _))
          have Q_26 := Lib.hid (Q_25.out.below hb26 (Nat.le_refl _))
          have T_26 := Lib.hid (T_25.out.below hb26 (Nat.le_refl _))
          have U_26 := Lib.hid (U_25.out.below hb26 (Nat.le_refl _))
          have HB_26 := Lib.hid (HB_25.out.trans (hb26.mono HB_25.out.size))
          clear hb26
          go_wp2_with fail
          go_ret
          exact ⟨by simp, HB_26.out⟩
        · have hb0 : bt = 0 := by rw [HBT.out, bitF, if_neg (by omega)]
          subst hb0
          go_enter Try.func5, Try.ntmps5
          go_wp2_with fail
          refine (HAL.out).mono ?_
          rintro e w1 ⟨rfl, hb1⟩
          have HB1 := Lib.hid hb1
          clear hb1
          obtain ⟨W0, hW0⟩ : ∃ W0, W0 = w1 := ⟨_, rfl⟩
          rw [← hW0] at HB1 ⊢
          have HB_0 := HB1
          clear hW0 HB1
          go_wp2_with fail
          refine (HO1.out _ HB_0.out).mono ?_
          rintro e W1 ⟨rfl, hb1⟩
          have HB_1 := Lib.hid (HB_0.out.trans (hb1.mono HB_0.out.size))
          clear hb1
          go_wp2_with fail
          refine (HO2.out _ HB_1.out).mono ?_
          rintro e W2 ⟨rfl, hb2⟩
          have HB_2 := Lib.hid (HB_1.out.trans (hb2.mono HB_1.out.size))
          clear hb2
          obtain ⟨k1', k2', k5'⟩ := blk2 W2 #[.int .u64 0, .int .u64 0, .int .u64 0, .int .u64 0] #[.int .u64 0, .int .u64 0, .int .u64 0, .int .u64 0] 27 27
          have K1 := Lib.hid k1'
          have K2 := Lib.hid k2'
          have K5 := Lib.hid k5'
          clear k1' k2' k5'
          go_wp2_with (refine wpList_store_blk rfl 27 (.tmp 7) (.tmp 25) rfl W2.heap.size (w4 x) rfl rfl _ _ K1.out (by kernel_rfl) rfl rfl ?_)
          rintro u1 kk1 ub1 uo1 -
          have A1 := Lib.hid kk1
          have A2 := Lib.hid (show Blk u1 (W2.heap.size + 1) _ _ from (uo1 (W2.heap.size + 1) (by omega)).trans K2.out)
          have AB := Lib.hid (HB_2.out.trans ((K5.out.trans (ub1 W2.heap.size (Nat.le_refl _))).mono HB_2.out.size))
          clear kk1 ub1 uo1
          go_wp2_with (refine wpList_store_blk rfl 27 (.tmp 8) (.tmp 27) rfl (W2.heap.size + 1) (w4 y) rfl rfl _ _ A2.out (by kernel_rfl) rfl rfl ?_)
          rintro W3 kk2 ub2 uo2 -
          have GY_3 := Lib.hid kk2
          have GX_3 := Lib.hid (show Blk W3 W2.heap.size _ _ from (uo2 W2.heap.size (by omega)).trans A1.out)
          have HB_3 := Lib.hid (AB.out.trans (ub2 w.heap.size (by have := HB_2.out.size; omega)))
          clear kk2 ub2 uo2 A1 A2 AB K1 K2 K5
          obtain ⟨g, hg⟩ : ∃ g, g = W2.heap.size := ⟨_, rfl⟩
          rw [← hg] at GX_3 GY_3
          try rw [← hg]
          clear hg
          go_wp2_with fail
          refine (HP1.out _ HB_3.out).mono ?_
          rintro e W4 ⟨z4, rfl, hown4, hb4⟩
          obtain ⟨zs4, zt4, zu4, rfl⟩ := slOf hown4
          have GX_4 := Lib.hid (GX_3.out.below hb4 GX_3.out.lt)
          have GY_4 := Lib.hid (GY_3.out.below hb4 GY_3.out.lt)
          have HB_4 := Lib.hid (HB_3.out.trans (hb4.mono HB_3.out.size))
          have P_4 := Lib.hid hown4
          clear hown4
          clear hb4
          go_wp2_with fail
          refine (HP2.out _ HB_4.out).mono ?_
          rintro e W5 ⟨z5, rfl, hown5, hb5⟩
          obtain ⟨zs5, zt5, zu5, rfl⟩ := slOf hown5
          have GX_5 := Lib.hid (GX_4.out.below hb5 GX_4.out.lt)
          have GY_5 := Lib.hid (GY_4.out.below hb5 GY_4.out.lt)
          have P_5 := Lib.hid (P_4.out.below hb5 (Nat.le_refl _))
          have HB_5 := Lib.hid (HB_4.out.trans (hb5.mono HB_4.out.size))
          have Q_5 := Lib.hid hown5
          clear hown5
          clear hb5
          go_wp2_with (first
            | (refine wpList_wanted rfl ?_; refine wpList_load_at rfl 27 (.tmp 7) rfl g rfl 27 (w4 x) (0, 0) _ GX_5.out Try.underlying27 rfl (by kernel_rfl) ?_)
            | (refine wpList_wanted rfl ?_; refine wpList_load_at rfl 27 (.tmp 8) rfl (g + 1) rfl 27 (w4 y) (0, 0) _ GY_5.out Try.underlying27 rfl (by kernel_rfl) ?_))
          refine (HISX.out (.slice zs4 zt4 zu4) _ P_5.out.rd).mono ?_
          rintro e W6 ⟨rfl, hb6⟩
          have GX_6 := Lib.hid (GX_5.out.below hb6 GX_5.out.lt)
          have GY_6 := Lib.hid (GY_5.out.below hb6 GY_5.out.lt)
          have P_6 := Lib.hid (P_5.out.below hb6 (Nat.le_refl _))
          have Q_6 := Lib.hid (Q_5.out.below hb6 (Nat.le_refl _))
          have HB_6 := Lib.hid (HB_5.out.trans (hb6.mono HB_5.out.size))
          clear hb6
          go_wp2_with (first
            | (refine wpList_wanted rfl ?_; refine wpList_load_at rfl 27 (.tmp 7) rfl g rfl 27 (w4 x) (0, 0) _ GX_6.out Try.underlying27 rfl (by kernel_rfl) ?_)
            | (refine wpList_wanted rfl ?_; refine wpList_load_at rfl 27 (.tmp 8) rfl (g + 1) rfl 27 (w4 y) (0, 0) _ GY_6.out Try.underlying27 rfl (by kernel_rfl) ?_))
          refine (HISY.out (.slice zs5 zt5 zu5) _ Q_6.out.rd).mono ?_
          rintro e W7 ⟨rfl, hb7⟩
          have GX_7 := Lib.hid (GX_6.out.below hb7 GX_6.out.lt)
          have GY_7 := Lib.hid (GY_6.out.below hb7 GY_6.out.lt)
          have P_7 := Lib.hid (P_6.out.below hb7 (Nat.le_refl _))
          have Q_7 := Lib.hid (Q_6.out.below hb7 (Nat.le_refl _))
          have HB_7 := Lib.hid (HB_6.out.trans (hb7.mono HB_6.out.size))
          clear hb7
          go_wp2_with (first
            | (refine wpList_wanted rfl ?_; refine wpList_load_at rfl 27 (.tmp 7) rfl g rfl 27 (w4 x) (0, 0) _ GX_7.out Try.underlying27 rfl (by kernel_rfl) ?_)
            | (refine wpList_wanted rfl ?_; refine wpList_load_at rfl 27 (.tmp 8) rfl (g + 1) rfl 27 (w4 y) (0, 0) _ GY_7.out Try.underlying27 rfl (by kernel_rfl) ?_))
          refine (HAD.out _).mono ?_
          rintro e W8 ⟨rfl, hb8⟩
          have GX_8 := Lib.hid (GX_7.out.below hb8 GX_7.out.lt)
          have GY_8 := Lib.hid (GY_7.out.below hb8 GY_7.out.lt)
          have P_8 := Lib.hid (P_7.out.below hb8 (Nat.le_refl _))
          have Q_8 := Lib.hid (Q_7.out.below hb8 (Nat.le_refl _))
          have HB_8 := Lib.hid (HB_7.out.trans (hb8.mono HB_7.out.size))
          clear hb8
          go_wp2_with (first
            | (refine wpList_wanted rfl ?_; refine wpList_load_at rfl 27 (.tmp 7) rfl g rfl 27 (w4 x) (0, 0) _ GX_8.out Try.underlying27 rfl (by kernel_rfl) ?_)
            | (refine wpList_wanted rfl ?_; refine wpList_load_at rfl 27 (.tmp 8) rfl (g + 1) rfl 27 (w4 y) (0, 0) _ GY_8.out Try.underlying27 rfl (by kernel_rfl) ?_))
          refine (HBA.out (.slice zs4 zt4 zu4) (.slice zs5 zt5 zu5) _ P_8.out.rd Q_8.out.rd).mono ?_
          rintro e W9 ⟨z9, rfl, hown9, hb9⟩
          obtain ⟨zs9, zt9, zu9, rfl⟩ := slOf hown9
          have GX_9 := Lib.hid (GX_8.out.below hb9 GX_8.out.lt)
          have GY_9 := Lib.hid (GY_8.out.below hb9 GY_8.out.lt)
          have P_9 := Lib.hid (P_8.out.below hb9 (Nat.le_refl _))
          have Q_9 := Lib.hid (Q_8.out.below hb9 (Nat.le_refl _))
          have HB_9 := Lib.hid (HB_8.out.trans (hb9.mono HB_8.out.size))
          have X1_9 := Lib.hid hown9
          clear hown9
          clear hb9
          go_wp2_with fail
          refine (HMA.out (.slice zs9 zt9 zu9) _ X1_9.out.rd).mono ?_
          rintro e W10 ⟨z10, rfl, hown10, hb10⟩
          obtain ⟨zs10, zt10, zu10, rfl⟩ := slOf hown10
          have GX_10 := Lib.hid (GX_9.out.below hb10 GX_9.out.lt)
          have GY_10 := Lib.hid (GY_9.out.below hb10 GY_9.out.lt)
          have P_10 := Lib.hid (P_9.out.below hb10 (Nat.le_refl _))
          have Q_10 := Lib.hid (Q_9.out.below hb10 (Nat.le_refl _))
          have X1_10 := Lib.hid (X1_9.out.below hb10 (Nat.le_refl _))
          have HB_10 := Lib.hid (HB_9.out.trans (hb10.mono HB_9.out.size))
          have X2_10 := Lib.hid hown10
          clear hown10
          clear hb10
          go_wp2_with fail
          refine (HISS.out (.slice zs10 zt10 zu10) _ X2_10.out.rd).mono ?_
          rintro e W11 ⟨rfl, hb11⟩
          have GX_11 := Lib.hid (GX_10.out.below hb11 GX_10.out.lt)
          have GY_11 := Lib.hid (GY_10.out.below hb11 GY_10.out.lt)
          have P_11 := Lib.hid (P_10.out.below hb11 (Nat.le_refl _))
          have Q_11 := Lib.hid (Q_10.out.below hb11 (Nat.le_refl _))
          have X1_11 := Lib.hid (X1_10.out.below hb11 (Nat.le_refl _))
          have X2_11 := Lib.hid (X2_10.out.below hb11 (Nat.le_refl _))
          have HB_11 := Lib.hid (HB_10.out.trans (hb11.mono HB_10.out.size))
          clear hb11
          go_wp2_with (first
            | (refine wpList_wanted rfl ?_; refine wpList_load_at rfl 27 (.tmp 7) rfl g rfl 27 (w4 x) (0, 0) _ GX_11.out Try.underlying27 rfl (by kernel_rfl) ?_)
            | (refine wpList_wanted rfl ?_; refine wpList_load_at rfl 27 (.tmp 8) rfl (g + 1) rfl 27 (w4 y) (0, 0) _ GY_11.out Try.underlying27 rfl (by kernel_rfl) ?_))
          refine (HMU.out _).mono ?_
          rintro e W12 ⟨rfl, hb12⟩
          have GX_12 := Lib.hid (GX_11.out.below hb12 GX_11.out.lt)
          have GY_12 := Lib.hid (GY_11.out.below hb12 GY_11.out.lt)
          have P_12 := Lib.hid (P_11.out.below hb12 (Nat.le_refl _))
          have Q_12 := Lib.hid (Q_11.out.below hb12 (Nat.le_refl _))
          have HB_12 := Lib.hid (HB_11.out.trans (hb12.mono HB_11.out.size))
          clear hb12
          go_wp2_with (first
            | (refine wpList_wanted rfl ?_; refine wpList_load_at rfl 27 (.tmp 7) rfl g rfl 27 (w4 x) (0, 0) _ GX_12.out Try.underlying27 rfl (by kernel_rfl) ?_)
            | (refine wpList_wanted rfl ?_; refine wpList_load_at rfl 27 (.tmp 8) rfl (g + 1) rfl 27 (w4 y) (0, 0) _ GY_12.out Try.underlying27 rfl (by kernel_rfl) ?_))
          refine (HBM.out (.slice zs4 zt4 zu4) (.slice zs5 zt5 zu5) _ P_12.out.rd Q_12.out.rd).mono ?_
          rintro e W13 ⟨z13, rfl, hown13, hb13⟩
          obtain ⟨zs13, zt13, zu13, rfl⟩ := slOf hown13
          have GX_13 := Lib.hid (GX_12.out.below hb13 GX_12.out.lt)
          have GY_13 := Lib.hid (GY_12.out.below hb13 GY_12.out.lt)
          have P_13 := Lib.hid (P_12.out.below hb13 (Nat.le_refl _))
          have Q_13 := Lib.hid (Q_12.out.below hb13 (Nat.le_refl _))
          have HB_13 := Lib.hid (HB_12.out.trans (hb13.mono HB_12.out.size))
          have X3_13 := Lib.hid hown13
          clear hown13
          clear hb13
          go_wp2_with fail
          refine (HMM.out (.slice zs13 zt13 zu13) _ X3_13.out.rd).mono ?_
          rintro e W14 ⟨z14, rfl, hown14, hb14⟩
          obtain ⟨zs14, zt14, zu14, rfl⟩ := slOf hown14
          have GX_14 := Lib.hid (GX_13.out.below hb14 GX_13.out.lt)
          have GY_14 := Lib.hid (GY_13.out.below hb14 GY_13.out.lt)
          have P_14 := Lib.hid (P_13.out.below hb14 (Nat.le_refl _))
          have Q_14 := Lib.hid (Q_13.out.below hb14 (Nat.le_refl _))
          have X3_14 := Lib.hid (X3_13.out.below hb14 (Nat.le_refl _))
          have HB_14 := Lib.hid (HB_13.out.trans (hb14.mono HB_13.out.size))
          have X4_14 := Lib.hid hown14
          clear hown14
          clear hb14
          go_wp2_with fail
          refine (HISM.out (.slice zs14 zt14 zu14) _ X4_14.out.rd).mono ?_
          rintro e W15 ⟨rfl, hb15⟩
          have GX_15 := Lib.hid (GX_14.out.below hb15 GX_14.out.lt)
          have GY_15 := Lib.hid (GY_14.out.below hb15 GY_14.out.lt)
          have P_15 := Lib.hid (P_14.out.below hb15 (Nat.le_refl _))
          have Q_15 := Lib.hid (Q_14.out.below hb15 (Nat.le_refl _))
          have X3_15 := Lib.hid (X3_14.out.below hb15 (Nat.le_refl _))
          have X4_15 := Lib.hid (X4_14.out.below hb15 (Nat.le_refl _))
          have HB_15 := Lib.hid (HB_14.out.trans (hb15.mono HB_14.out.size))
          clear hb15
          go_wp2_with (first
            | (refine wpList_wanted rfl ?_; refine wpList_load_at rfl 27 (.tmp 7) rfl g rfl 27 (w4 x) (0, 0) _ GX_15.out Try.underlying27 rfl (by kernel_rfl) ?_)
            | (refine wpList_wanted rfl ?_; refine wpList_load_at rfl 27 (.tmp 8) rfl (g + 1) rfl 27 (w4 y) (0, 0) _ GY_15.out Try.underlying27 rfl (by kernel_rfl) ?_))
          refine (HNE.out _).mono ?_
          rintro e W16 ⟨rfl, hb16⟩
          have GX_16 := Lib.hid (GX_15.out.below hb16 GX_15.out.lt)
          have GY_16 := Lib.hid (GY_15.out.below hb16 GY_15.out.lt)
          have P_16 := Lib.hid (P_15.out.below hb16 (Nat.le_refl _))
          have Q_16 := Lib.hid (Q_15.out.below hb16 (Nat.le_refl _))
          have HB_16 := Lib.hid (HB_15.out.trans (hb16.mono HB_15.out.size))
          clear hb16
          go_wp2_with (first
            | (refine wpList_wanted rfl ?_; refine wpList_load_at rfl 27 (.tmp 7) rfl g rfl 27 (w4 x) (0, 0) _ GX_16.out Try.underlying27 rfl (by kernel_rfl) ?_)
            | (refine wpList_wanted rfl ?_; refine wpList_load_at rfl 27 (.tmp 8) rfl (g + 1) rfl 27 (w4 y) (0, 0) _ GY_16.out Try.underlying27 rfl (by kernel_rfl) ?_))
          refine (border_any _).mono ?_
          rintro e W17 ⟨z17, rfl, hown17, hb17⟩
          obtain ⟨zs17, zt17, zu17, rfl⟩ := slOf hown17
          have GX_17 := Lib.hid (GX_16.out.below hb17 GX_16.out.lt)
          have GY_17 := Lib.hid (GY_16.out.below hb17 GY_16.out.lt)
          have P_17 := Lib.hid (P_16.out.below hb17 (Nat.le_refl _))
          have Q_17 := Lib.hid (Q_16.out.below hb17 (Nat.le_refl _))
          have HB_17 := Lib.hid (HB_16.out.trans (hb17.mono HB_16.out.size))
          have X5_17 := Lib.hid hown17
          clear hown17
          clear hb17
          go_wp2_with (first
            | (refine wpList_wanted rfl ?_; refine wpList_load_at rfl 27 (.tmp 7) rfl g rfl 27 (w4 x) (0, 0) _ GX_17.out Try.underlying27 rfl (by kernel_rfl) ?_)
            | (refine wpList_wanted rfl ?_; refine wpList_load_at rfl 27 (.tmp 8) rfl (g + 1) rfl 27 (w4 y) (0, 0) _ GY_17.out Try.underlying27 rfl (by kernel_rfl) ?_))
          refine (HBS.out (.slice zs17 zt17 zu17) (.slice zs4 zt4 zu4) _ X5_17.out.rd P_17.out.rd).mono ?_
          rintro e W18 ⟨z18, rfl, hown18, hb18⟩
          obtain ⟨zs18, zt18, zu18, rfl⟩ := slOf hown18
          have GX_18 := Lib.hid (GX_17.out.below hb18 GX_17.out.lt)
          have GY_18 := Lib.hid (GY_17.out.below hb18 GY_17.out.lt)
          have P_18 := Lib.hid (P_17.out.below hb18 (Nat.le_refl _))
          have Q_18 := Lib.hid (Q_17.out.below hb18 (Nat.le_refl _))
          have X5_18 := Lib.hid (X5_17.out.below hb18 (Nat.le_refl _))
          have HB_18 := Lib.hid (HB_17.out.trans (hb18.mono HB_17.out.size))
          have X6_18 := Lib.hid hown18
          clear hown18
          clear hb18
          go_wp2_with fail
          refine (HMS.out (.slice zs18 zt18 zu18) _ X6_18.out.rd).mono ?_
          rintro e W19 ⟨z19, rfl, hown19, hb19⟩
          obtain ⟨zs19, zt19, zu19, rfl⟩ := slOf hown19
          have GX_19 := Lib.hid (GX_18.out.below hb19 GX_18.out.lt)
          have GY_19 := Lib.hid (GY_18.out.below hb19 GY_18.out.lt)
          have P_19 := Lib.hid (P_18.out.below hb19 (Nat.le_refl _))
          have Q_19 := Lib.hid (Q_18.out.below hb19 (Nat.le_refl _))
          have X5_19 := Lib.hid (X5_18.out.below hb19 (Nat.le_refl _))
          have X6_19 := Lib.hid (X6_18.out.below hb19 (Nat.le_refl _))
          have HB_19 := Lib.hid (HB_18.out.trans (hb19.mono HB_18.out.size))
          have X7_19 := Lib.hid hown19
          clear hown19
          clear hb19
          go_wp2_with fail
          refine (HISD.out (.slice zs19 zt19 zu19) _ X7_19.out.rd).mono ?_
          rintro e W20 ⟨rfl, hb20⟩
          have GX_20 := Lib.hid (GX_19.out.below hb20 GX_19.out.lt)
          have GY_20 := Lib.hid (GY_19.out.below hb20 GY_19.out.lt)
          have P_20 := Lib.hid (P_19.out.below hb20 (Nat.le_refl _))
          have Q_20 := Lib.hid (Q_19.out.below hb20 (Nat.le_refl _))
          have X5_20 := Lib.hid (X5_19.out.below hb20 (Nat.le_refl _))
          have X6_20 := Lib.hid (X6_19.out.below hb20 (Nat.le_refl _))
          have X7_20 := Lib.hid (X7_19.out.below hb20 (Nat.le_refl _))
          have HB_20 := Lib.hid (HB_19.out.trans (hb20.mono HB_19.out.size))
          clear hb20
          go_wp2_with (first
            | (refine wpList_wanted rfl ?_; refine wpList_load_at rfl 27 (.tmp 7) rfl g rfl 27 (w4 x) (0, 0) _ GX_20.out Try.underlying27 rfl (by kernel_rfl) ?_)
            | (refine wpList_wanted rfl ?_; refine wpList_load_at rfl 27 (.tmp 8) rfl (g + 1) rfl 27 (w4 y) (0, 0) _ GY_20.out Try.underlying27 rfl (by kernel_rfl) ?_))
          refine (HBT2.out _).mono ?_
          rintro e W21 ⟨rfl, hb21⟩
          have GX_21 := Lib.hid (GX_20.out.below hb21 GX_20.out.lt)
          have GY_21 := Lib.hid (GY_20.out.below hb21 GY_20.out.lt)
          have P_21 := Lib.hid (P_20.out.below hb21 (Nat.le_refl _))
          have Q_21 := Lib.hid (Q_20.out.below hb21 (Nat.le_refl _))
          have HB_21 := Lib.hid (HB_20.out.trans (hb21.mono HB_20.out.size))
          clear hb21
          go_wp2_with (first
            | (refine wpList_wanted rfl ?_; refine wpList_load_at rfl 27 (.tmp 7) rfl g rfl 27 (w4 x) (0, 0) _ GX_21.out Try.underlying27 rfl (by kernel_rfl) ?_)
            | (refine wpList_wanted rfl ?_; refine wpList_load_at rfl 27 (.tmp 8) rfl (g + 1) rfl 27 (w4 y) (0, 0) _ GY_21.out Try.underlying27 rfl (by kernel_rfl) ?_))
          refine (HSS.out _).mono ?_
          rintro e W22 ⟨rfl, hb22⟩
          have GX_22 := Lib.hid (GX_21.out.below hb22 GX_21.out.lt)
          have GY_22 := Lib.hid (GY_21.out.below hb22 GY_21.out.lt)
          have P_22 := Lib.hid (P_21.out.below hb22 (Nat.le_refl _))
          have Q_22 := Lib.hid (Q_21.out.below hb22 (Nat.le_refl _))
          have HB_22 := Lib.hid (HB_21.out.trans (hb22.mono HB_21.out.size))
          clear hb22
          go_wp2_with (first
            | (refine wpList_wanted rfl ?_; refine wpList_load_at rfl 27 (.tmp 7) rfl g rfl 27 (w4 x) (0, 0) _ GX_22.out Try.underlying27 rfl (by kernel_rfl) ?_)
            | (refine wpList_wanted rfl ?_; refine wpList_load_at rfl 27 (.tmp 8) rfl (g + 1) rfl 27 (w4 y) (0, 0) _ GY_22.out Try.underlying27 rfl (by kernel_rfl) ?_))
          refine (HRS.out (.slice zs4 zt4 zu4) (.slice zs5 zt5 zu5) _ P_22.out.rd Q_22.out.rd).mono ?_
          rintro e W23 ⟨rfl, n23, hw23⟩
          have hb23 := below_drewN' (Below.refl W22.heap.size W22) n23
          rw [← hw23] at hb23
          clear hw23
          have GX_23 := Lib.hid (GX_22.out.below hb23 GX_22.out.lt)
          have GY_23 := Lib.hid (GY_22.out.below hb23 GY_22.out.lt)
          have P_23 := Lib.hid (P_22.out.below hb23 (Nat.le_refl _))
          have Q_23 := Lib.hid (Q_22.out.below hb23 (Nat.le_refl _))
          have HB_23 := Lib.hid (HB_22.out.trans (hb23.mono HB_22.out.size))
          clear hb23
          go_wp2_with fail
          go_ret
          exact ⟨by simp, HB_23.out⟩
end Go.Proofs.Ytkihcngllhjabaa
