/- Walks: the reference's Tag. -/
import Derived.Test.YtfpjpakjlhidkaaGcmRefTagM
import Derived.Test.YtfpjpakjlhidkaaGcmRefK
namespace Go.Proofs.Ytfpjpakjlhidkaa
open Go.RowKit AesM GcmM GcmB
set_option linter.unusedVariables false
theorem rdLen {w : World} {v : Value} {xs : List Value} (h : Rd w v xs) (n : Nat) (hn : xs.length = n) : ∃ a c, v = .slice a n c := by
  obtain ⟨a, c, e, _⟩ := h
  exact ⟨a, c, by rw [e, hn]⟩
theorem p128'' : P128 = 256 ^ 16 := by decide
theorem bvs_drop1 (L : List Nat) (k : Nat) : bvs (L.drop k) = (bvs L).drop k := by simp [bvs]
theorem bvs_take1 (L : List Nat) (k : Nat) : bvs (L.take k) = (bvs L).take k := by simp [bvs, List.map_take]
set_option maxRecDepth 100000 in
set_option maxHeartbeats 4000000 in
theorem rtag_any (v1 v2 v3 v4 bx : Value) (K N S M : List Nat) (w : World) (h1 : Rd w v1 (bvs K)) (h2 : Rd w v2 (bvs N)) (h3 : Rd w v3 (bvs S)) (h4 : Rd w v4 (bvs M)) (hbx : Rd w bx (nvs boxL)) (hK : ∀ x ∈ K, x < 256) (hN : ∀ x ∈ N, x < 256) (hS : ∀ x ∈ S, x < 256) (hM : ∀ x ∈ M, x < 256) (lk : K.length = 16) (ln : N.length = 12) (ls : S.length ≤ 100000) (lm : M.length ≤ 100000) :
    Calls Try.prog 27 #[v1, v2, v3, v4, bx] w fun e w' => ∃ u, e = .returned u ∧ Own w' w.heap.size 5 u (bvs (tagF K N S M)) ∧ Below w.heap.size w w' := by
  have hmk2 : ∀ w, (Instr.makeSlice 28 (.int .i64 16) (.int .i64 16)).run Try.prog w = .ok (.slice (some ⟨w.heap.size, 0, none⟩) 16 16) (w.alloc (.cells Z16 5)) := fun _ => by kernel_rfl
  have OZ : ∀ W : World, Own (W.alloc (.cells Z16 5)) W.heap.size 5 (.slice (some ⟨W.heap.size, 0, none⟩) 16 16) (bvs (List.replicate 16 0)) := fun W => Own.full (w := W) (B := W.heap.size) (e := 5) (cs := (bvs (List.replicate 16 0)).toArray) rfl (Nat.le_refl _) (by unfold maxLen; simp) (n := 16) (by simp)
  have OZ0 : ∀ W : World, Rd (W.alloc (.cells Z16 5)) (.slice (some ⟨W.heap.size, 0, none⟩) 16 16) (bvs (beN 16 0)) := fun W => (OZ W).rd
  obtain ⟨H, hH⟩ : ∃ H, H = blk K (List.replicate 16 0) := ⟨_, rfl⟩
  have bH : H.length = 16 ∧ ∀ x ∈ H, x < 256 := by rw [hH]; exact blk_lt hK lk (by intro x hx; rw [(List.mem_replicate.1 hx).2]; omega) (by simp)
  have BK := rblock_any v1 (.slice (some ⟨w.heap.size, 0, none⟩) 16 16) bx K (List.replicate 16 0) (w.alloc (.cells Z16 5)) (h1.alloc _) (OZ w).rd (hbx.alloc _) hK (by intro x hx; rw [(List.mem_replicate.1 hx).2]; omega) lk (by simp)
  rw [← hH] at BK
  have FM := fun (W : World) (hb : Below w.heap.size w W) => rfilled_any v4 M W (h4.below hb (Nat.le_refl _)) lm
  have FS := fun (W : World) (hb : Below w.heap.size w W) => rfilled_any v3 S W (h3.below hb (Nat.le_refl _)) ls
  have BM := fun (W : World) => rbits_any M.length W lm
  have BS := fun (W : World) => rbits_any S.length W ls
  have MK := fun (W : World) (hb : Below w.heap.size w W) => (show Calls Try.prog 42 #[v1, v2, .int .i64 1, bx] W _ from rmask_any v1 v2 bx K N 1 W (h1.below hb (Nat.le_refl _)) (h2.below hb (Nat.le_refl _)) (hbx.below hb (Nat.le_refl _)) hK hN lk ln (by omega))
  obtain ⟨T, hT⟩ : ∃ T, T = (M.length + 15) / 16 + (S.length + 15) / 16 + 1 := ⟨_, rfl⟩
  have hyT := allB_yF ls lm (beV H)
  have lAll := allB_len S M
  have bAll := allB_lt hS hM
  rw [← hT] at hyT lAll
  obtain ⟨hv, hhv⟩ : ∃ hv, hv = beV H := ⟨_, rfl⟩
  have hvl : hv < P128 := by rw [hhv]; exact beV_lt128 bH.2 bH.1
  have hmk := mk_lt hK hN lk ln 1
  have htag : tagF K N S M = beN 16 (yF hv (allB S M) T 0 ^^^ beV (mk K N 1)) := by rw [hhv, hyT, tagF, hH]
  rw [htag]
  have hall : bvs (fillB M) ++ bvs (fillB S) ++ bvs (beN 8 (8 * M.length)) ++ bvs (beN 8 (8 * S.length)) = bvs (allB S M) := by simp [allB, bvs]
  have lfm : (bvs (fillB M)).length ≤ 200000 := by rw [bvs_len, fillB_len]; omega
  have lfs : (bvs (fillB S)).length ≤ 200000 := by rw [bvs_len, fillB_len]; omega
  have hv1 : ∃ a b c, v1 = .slice a b c := by obtain ⟨a, c, e, _⟩ := h1; exact ⟨a, _, c, e⟩
  have hv2 : ∃ a b c, v2 = .slice a b c := by obtain ⟨a, c, e, _⟩ := h2; exact ⟨a, _, c, e⟩
  have hv3 : ∃ a c, v3 = .slice a S.length c := by obtain ⟨a, c, e, _⟩ := h3; exact ⟨a, c, by rw [e, bvs_len]⟩
  have hv4 : ∃ a c, v4 = .slice a M.length c := by obtain ⟨a, c, e, _⟩ := h4; exact ⟨a, c, by rw [e, bvs_len]⟩
  have hv5 : ∃ a b c, bx = .slice a b c := by obtain ⟨a, c, e, _⟩ := hbx; exact ⟨a, _, c, e⟩
  obtain ⟨a1, b1, c1, rfl⟩ := hv1
  obtain ⟨a2, b2, c2, rfl⟩ := hv2
  obtain ⟨a3, c3, rfl⟩ := hv3
  obtain ⟨a4, c4, rfl⟩ := hv4
  obtain ⟨a5, b5, c5, rfl⟩ := hv5
  have hT2 : 16 * T ≤ 300000 := by omega
  obtain ⟨AL, hAL⟩ : ∃ AL, AL = allB S M := ⟨_, rfl⟩
  rw [← hAL] at hall lAll bAll ⊢
  obtain ⟨FMl, hFM⟩ : ∃ l, l = bvs (fillB M) := ⟨_, rfl⟩
  obtain ⟨FSl, hFS⟩ : ∃ l, l = bvs (fillB S) := ⟨_, rfl⟩
  obtain ⟨BMl, hBM⟩ : ∃ l, l = bvs (beN 8 (8 * M.length)) := ⟨_, rfl⟩
  obtain ⟨BSl, hBS⟩ : ∃ l, l = bvs (beN 8 (8 * S.length)) := ⟨_, rfl⟩
  have lbm : BMl.length = 8 := by rw [hBM, bvs_len, beN_len]
  have lbs : BSl.length = 8 := by rw [hBS, bvs_len, beN_len]
  have o1 : ∀ u ∈ FSl, u.oneCell' = true := by rw [hFS]; exact bvs_one _
  have o2 : ∀ u ∈ BMl, u.oneCell' = true := by rw [hBM]; exact bvs_one _
  have o3 : ∀ u ∈ BSl, u.oneCell' = true := by rw [hBS]; exact bvs_one _
  rw [← hFM, ← hFS, ← hBM, ← hBS] at hall
  simp only [List.append_assoc] at hall
  rw [← hFM] at lfm
  rw [← hFS] at lfs
  simp only [← hFM] at FM
  simp only [← hFS] at FS
  simp only [← hBM] at BM
  simp only [← hBS] at BS
  obtain ⟨sl, hsl⟩ : ∃ sl, sl = S.length := ⟨_, rfl⟩
  obtain ⟨ml, hml⟩ : ∃ ml, ml = M.length := ⟨_, rfl⟩
  rw [← hsl] at FS BS ls ⊢
  rw [← hml] at FM BM lm ⊢
  have HBK := Lib.hid BK
  have HFM := Lib.hid FM
  have HFS := Lib.hid FS
  have HBM := Lib.hid BM
  have HBS := Lib.hid BS
  have HMK := Lib.hid MK
  have HOZ := Lib.hid OZ0
  have hT1 : 1 ≤ T := by omega
  have HALL := Lib.hid hall
  have HH := Lib.hid (show hv = beV H from hhv)
  have HBH := Lib.hid bH
  have HMKL := Lib.hid hmk
  have HLA := Lib.hid lAll
  have HBA := Lib.hid bAll
  clear BK FM FS BM BS MK OZ OZ0 h1 h2 h3 h4 hbx hK hN hS hM lk ln hH hT hyT htag hall hAL hFM hFS hBM hBS hsl hml hhv hmk bH lAll bAll
  go_enter Try.func27, Try.ntmps27
  go_wp2_with fail
  refine (HBK.out).mono ?_
  rintro e w1 ⟨hs, rfl, hown, hb⟩
  obtain ⟨x1, x3, rfl⟩ := slLen hown 16 (by rw [bvs_len, HBH.out.1])
  have HHO := Lib.hid hown.rd
  have HB1 := Lib.hid (((Below.refl w.heap.size w).alloc (Nat.le_refl _) (.cells Z16 5)).trans (hb.mono (by simp)))
  clear hown hb
  go_wp2_with fail
  refine (HFM.out w1 HB1.out).mono ?_
  rintro e w2 ⟨u2, rfl, hown, hb⟩
  obtain ⟨y1, y2, y3, rfl⟩ := slOf hown
  have HO2 := Lib.hid hown
  have HB2 := Lib.hid hb
  clear hown hb
  go_wp2_with fail
  refine (HFS.out w2 (HB1.out.trans (HB2.out.mono HB1.out.size))).mono ?_
  rintro e w3 ⟨u3, rfl, hown, hb⟩
  obtain ⟨z1, z2, z3, rfl⟩ := slOf hown
  have HO3 := Lib.hid hown.rd
  have HO23 := Lib.hid (HO2.out.below hb (Nat.le_refl _))
  have HB3 := Lib.hid (HB2.out.trans (hb.mono HB2.out.size))
  clear hown hb HO2 HB2
  go_wp2_with (at_builtin; refine wpList_app rfl (.tmp 20) (.tmp 22) 28 rfl w1.heap.size 5 _ 1 bytesE _ FMl rfl HO23.out _ FSl rfl HO3.out o1 ?c2 ?c3 ?_)
  case c2 => omega
  case c3 => exact HB3.out.size
  rintro v4' w4 hown - hb
  obtain ⟨p1, p2, p3, rfl⟩ := slOf hown
  have HO4 := Lib.hid hown
  have HB4 := Lib.hid (HB3.out.trans hb)
  clear hown hb HO23 HB3 HO3
  go_wp2_with fail
  refine (HBM.out w4).mono ?_
  rintro e w5 ⟨u5, rfl, hown, hb⟩
  obtain ⟨q1, q2, q3, rfl⟩ := slOf hown
  have HO5 := Lib.hid hown.rd
  have HO45 := Lib.hid (HO4.out.below hb (Nat.le_refl _))
  have HB5 := Lib.hid (HB4.out.trans (hb.mono HB4.out.size))
  clear hown hb HO4 HB4
  go_wp2_with (at_builtin; refine wpList_app rfl (.tmp 24) (.tmp 27) 28 rfl w1.heap.size 5 _ 1 bytesE _ (FMl ++ FSl) rfl HO45.out _ BMl rfl HO5.out o2 ?d2 ?d3 ?_)
  case d2 => rw [List.length_append]; omega
  case d3 => exact HB5.out.size
  rintro v6' w6 hown - hb
  obtain ⟨r1, r2, r3, rfl⟩ := slOf hown
  have HO6 := Lib.hid hown
  have HB6 := Lib.hid (HB5.out.trans hb)
  clear hown hb HO45 HB5 HO5
  go_wp2_with fail
  refine (HBS.out w6).mono ?_
  rintro e w7 ⟨u7, rfl, hown, hb⟩
  obtain ⟨g1, g2, g3, rfl⟩ := slOf hown
  have HO7 := Lib.hid hown.rd
  have HO67 := Lib.hid (HO6.out.below hb (Nat.le_refl _))
  have HB7 := Lib.hid (HB6.out.trans (hb.mono HB6.out.size))
  clear hown hb HO6 HB6
  go_wp2_with (at_builtin; refine wpList_app rfl (.tmp 28) (.tmp 31) 28 rfl w1.heap.size 5 _ 1 bytesE _ (FMl ++ (FSl ++ BMl)) rfl HO67.out _ BSl rfl HO7.out o3 ?e2 ?e3 ?_)
  case e2 => rw [List.length_append, List.length_append]; omega
  case e3 => exact HB7.out.size
  rintro v8' w8 hown - hb
  try simp only [List.append_assoc] at hown
  rw [HALL.out] at hown
  obtain ⟨LL, hLL⟩ : ∃ LL, LL = 16 * T := ⟨_, rfl⟩
  obtain ⟨ab, ac, rfl, hacl⟩ : ∃ ab ac, v8' = .slice (some ⟨ab, 0, none⟩) LL ac ∧ LL ≤ ac := by
    rcases hown.form with e | ⟨h, c, e⟩
    · exfalso
      obtain ⟨a', c', e', _⟩ := hown.rd
      rw [e] at e'
      simp only [Value.slice.injEq] at e'
      have := e'.2.1
      rw [bvs_len, HLA.out] at this
      omega
    · obtain ⟨a', c', e', q1, _⟩ := hown.rd
      rw [e] at e'
      simp only [Value.slice.injEq] at e'
      rw [bvs_len, HLA.out] at q1
      exact ⟨h, c, by rw [e, bvs_len, HLA.out, hLL], by omega⟩
  have HO8 := Lib.hid hown.rd
  have HB8 := Lib.hid (HB7.out.trans hb)
  clear hown hb HO67 HB7 HO7
  have HLL := Lib.hid hLL
  clear hLL
  have hLL3 : LL ≤ 300000 := by have := HLL.out; omega
  go_wp2_with fail
  have HYO := Lib.hid (HOZ.out w8)
  have HL8 := Lib.hid (HO8.out.alloc (.cells Z16 5))
  have HBL := Lib.hid (HB8.out.alloc HB8.out.size (.cells Z16 5))
  obtain ⟨wl, hwl⟩ : ∃ wl, wl = w8.alloc (.cells Z16 5) := ⟨_, rfl⟩
  rw [← hwl] at HYO HL8 HBL
  have HWL := Lib.hid hwl
  rw [← hwl]
  clear hwl
  go_loopg [13, 14] T (fun q yv iv wr => ∃ i p : Nat, i + q = T ∧ p = 16 * i ∧ iv = .int .i64 (p : Nat) ∧ Rd wr yv (bvs (beN 16 (yF hv AL i 0))) ∧ Below wl.heap.size wl wr)
  case atStart => exact ⟨0, 0, by omega, rfl, rfl, HYO.out, Below.refl _ _⟩
  case round =>
    obtain ⟨i, p, hi, hp, rfl, hrd, hb⟩ := hrel
    obtain ⟨s1, s3, rfl⟩ := rdLen hrd 16 (by rw [bvs_len, beN_len])
    have HI := Lib.hid hi
    have HP := Lib.hid hp
    have HY := Lib.hid hrd
    have HB := Lib.hid hb
    clear hi hp hrd hb
    by_cases hlt : i < T
    · have hlt' : decide (p < LL) = true := by have := HP.out; have := HLL.out; rw [decide_eq_true_iff]; omega
      have hpl : p + 16 ≤ LL := by have := HP.out; have := HLL.out; omega
      have hsub : Rd wr (.slice (some ⟨ab, p, none⟩) 16 (ac - p)) (bvs (padB AL (16 * i))) := by
        have := (HL8.out.below HB.out (Nat.le_refl _)).sub p (p + 16) (off' := p) (n' := 16) (cap' := ac - p) (by omega) hpl (by omega) (by omega) rfl
        rw [beV_pad (by rw [HLA.out, ← HP.out, ← HLL.out]; omega), ← HP.out, bvs_take1, bvs_drop1]
        rw [List.drop_take, show p + 16 - p = 16 by omega] at this
        exact this
      have XR := rxor_any (.slice s1 16 s3) (.slice (some ⟨ab, p, none⟩) 16 (ac - p)) (beN 16 (yF hv AL i 0)) (padB AL (16 * i)) wr HY.out hsub (beN_lt _ _) (padB_lt HBA.out _) (by rw [beN_len, padB_len]) (by rw [beN_len]; omega)
      rw [beN_len, xorL_beN (beN_lt _ _) (padB_lt HBA.out _) (beN_len _ _) (padB_len _ _), beV_beN (by rw [← p128'']; exact yF_lt hvl _ (by decide) _)] at XR
      obtain ⟨yy, hyy⟩ : ∃ yy, yy = yF hv AL i 0 ^^^ beV (padB AL (16 * i)) := ⟨_, rfl⟩
      have hyl : yy < P128 := by
        rw [hyy, p128]
        exact Nat.xor_lt_two_pow (by rw [← p128]; exact yF_lt hvl _ (by decide) _) (by rw [← p128]; exact beV_lt128 (padB_lt HBA.out _) (padB_len _ _))
      rw [← hyy] at XR
      have HXR := Lib.hid XR
      have HYY := Lib.hid hyy
      have HYL := Lib.hid hyl
      clear XR hyy hyl hsub
      go_wp2_with fail
      refine (HXR.out).mono ?_
      rintro e wx ⟨u, rfl, hown, hb⟩
      obtain ⟨t1, t3, rfl⟩ := slLen hown 16 (by rw [bvs_len, beN_len])
      have TM := r12times_any (.slice t1 16 t3) (.slice x1 16 x3) (beN 16 yy) H wx hown.rd (((HHO.out.below (HB8.out.alloc HB8.out.size (.cells Z16 5)) (Nat.le_refl _)).below (by rw [← HWL.out]; exact HB.out) (by rw [← HWL.out]; exact Nat.le_refl _)).below hb (Nat.le_refl _)) (beN_lt _ _) HBH.out.2 (beN_len _ _) HBH.out.1
      rw [← HH.out, beV_beN (by rw [← p128'']; exact HYL.out)] at TM
      have HTM := Lib.hid TM
      have HBX := Lib.hid (HB.out.trans (hb.mono HB.out.size))
      clear TM hown hb
      go_wp2_with fail
      refine (HTM.out).mono ?_
      rintro e wy ⟨u, rfl, hown, hb⟩
      obtain ⟨t4, t5, rfl⟩ := slLen hown 16 (by rw [bvs_len, beN_len])
      have HR9 := Lib.hid hown.rd
      have HB9 := Lib.hid (HBX.out.trans (hb.mono HBX.out.size))
      clear hown hb
      go_wp2_with fail
      go_roundg (gk - 1)
      case measure => have := HI.out; omega
      case rel =>
        refine ⟨i + 1, p + 16, by have := HI.out; omega, by have := HP.out; omega, by go_num, ?_, HB9.out⟩
        rw [yF_succ, ← HYY.out]
        exact HR9.out
    · obtain rfl : i = T := by have := HI.out; omega
      have hlt' : decide (p < LL) = false := by have := HP.out; have := HLL.out; rw [decide_eq_false_iff_not]; omega
      have hB : Below w.heap.size w wr := by
        have h := HBL.out
        exact HB1.out.trans ((h.mono HB1.out.size).trans (HB.out.mono (Nat.le_trans HB1.out.size h.size)))
      have HBW := Lib.hid hB
      clear hB
      go_wp2_with fail
      refine (HMK.out wr HBW.out).mono ?_
      rintro e wx ⟨u, rfl, hown, hb⟩
      obtain ⟨t1, t3, rfl⟩ := slLen hown 16 (by rw [bvs_len, HMKL.out.1])
      have XR := rxor_any (.slice s1 16 s3) (.slice t1 16 t3) (beN 16 (yF hv AL i 0)) (mk K N 1) wx (HY.out.below hb (Nat.le_refl _)) hown.rd (beN_lt _ _) HMKL.out.2 (by rw [beN_len, HMKL.out.1]) (by rw [beN_len]; omega)
      rw [beN_len, xorL_beN (beN_lt _ _) HMKL.out.2 (beN_len _ _) HMKL.out.1, beV_beN (by rw [← p128'']; exact yF_lt hvl _ (by decide) _)] at XR
      have HXR := Lib.hid XR
      have HBX := Lib.hid (HBW.out.trans (hb.mono HBW.out.size))
      clear XR hown hb
      go_wp2_with fail
      refine (HXR.out).mono ?_
      rintro e wy ⟨u, rfl, hown, hb⟩
      obtain ⟨t4, t5, rfl⟩ := slLen hown 16 (by rw [bvs_len, beN_len])
      have HR9 := Lib.hid (hown.mono HBX.out.size)
      have HB9 := Lib.hid (HBX.out.trans (hb.mono HBX.out.size))
      clear hown hb
      go_wp2_with fail
      go_ret
      exact ⟨_, rfl, HR9.out, HB9.out⟩
end Go.Proofs.Ytfpjpakjlhidkaa
