/- Walks: gcm's tag. -/
import Derived.Test.YtfpjpakjlhidkaaGcmTagS
namespace Go.Proofs.Ytfpjpakjlhidkaa
open Go.RowKit Go.Shelf AesM GcmM GcmB
attribute [local go_sem] Oper.semAt_some
set_option linter.unusedVariables false
set_option maxRecDepth 100000 in
set_option maxHeartbeats 8000000 in
theorem tag_any (v1 v2 v3 v4 : Value) (KL NL SL ML : List Nat) (w : World) (h1 : Rd w v1 (bvs KL)) (h2 : Rd w v2 (bvs NL)) (h3 : Rd w v3 (bvs SL)) (h4 : Rd w v4 (bvs ML)) (bK : ∀ x ∈ KL, x < 256) (bN : ∀ x ∈ NL, x < 256) (bS : ∀ x ∈ SL, x < 256) (bM : ∀ x ∈ ML, x < 256) (lk : KL.length = 16) (ln : NL.length = 12) (ls : SL.length ≤ 100000) (lm : ML.length ≤ 100000) :
    Calls Try.prog 38 #[v1, v2, v3, v4] w fun e w' => ∃ u, e = .returned u ∧ Own w' w.heap.size 5 u (bvs (tagF KL NL SL ML)) ∧ Below w.heap.size w w' := by
  have BL := fun (u : Value) (w' : World) (hb : Below w.heap.size w w') (hu : Rd w' u (bvs (List.replicate 16 0))) => block_any v1 u KL (List.replicate 16 0) w' (h1.below hb (Nat.le_refl _)) hu bK (by intro x hx; rw [List.eq_of_mem_replicate hx]; omega) lk (by simp)
  have MA := fun (W : World) (hb : Below w.heap.size w W) => gmask_any v1 v2 KL NL 1 W (h1.below hb (Nat.le_refl _)) (h2.below hb (Nat.le_refl _)) bK bN lk ln (by omega)
  have PO := fun (v : Value) (L : List Nat) (W : World) (hr : Rd W v (bvs L)) (hL : ∀ n ∈ L, n < 256) (hl : L.length = 16) => pairOf_any v L W hr hL hl
  obtain ⟨Z, hZ⟩ : ∃ Z, Z = blk KL (List.replicate 16 0) := ⟨_, rfl⟩
  obtain ⟨hZ1, hZ2⟩ := blk_lt bK lk (M := List.replicate 16 0) (by intro x hx; rw [List.eq_of_mem_replicate hx]; omega) (by simp)
  rw [← hZ] at BL hZ1 hZ2
  obtain ⟨H, hH⟩ : ∃ H, H = beV Z := ⟨_, rfl⟩
  have hHl : H < P128 := by rw [hH]; exact beV_lt128 hZ2 hZ1
  have PZ := fun (v : Value) (W : World) (hr : Rd W v (bvs Z)) => PO v Z W hr hZ2 hZ1
  rw [← hH] at PZ
  obtain ⟨vh, hvh⟩ : ∃ x, x = H / 18446744073709551616 := ⟨_, rfl⟩
  obtain ⟨vl, hvl⟩ : ∃ x, x = H % 18446744073709551616 := ⟨_, rfl⟩
  have hpr : pr H = #[.int .u64 (vh : Int), .int .u64 (vl : Int)] := by unfold pr; rw [← hvh, ← hvl]
  rw [hpr] at PZ
  have HPR := Lib.hid hpr
  clear hpr hvh hvl
  have hv1 : ∃ a b c, v1 = .slice a b c := by obtain ⟨a, c, e, _⟩ := h1; exact ⟨a, _, c, e⟩
  have hv2 : ∃ a b c, v2 = .slice a b c := by obtain ⟨a, c, e, _⟩ := h2; exact ⟨a, _, c, e⟩
  have hv3 : ∃ a c, v3 = .slice a SL.length c ∧ SL.length ≤ c ∧ c ≤ maxLen := by
    obtain ⟨a, c, e, q1, q2, _⟩ := h3
    exact ⟨a, c, by rw [e, bvs_len], by rw [bvs_len] at q1; exact q1, q2⟩
  have hv4 : ∃ a c, v4 = .slice a ML.length c ∧ ML.length ≤ c ∧ c ≤ maxLen := by
    obtain ⟨a, c, e, q1, q2, _⟩ := h4
    exact ⟨a, c, by rw [e, bvs_len], by rw [bvs_len] at q1; exact q1, q2⟩
  obtain ⟨a1, b1, c1, rfl⟩ := hv1
  obtain ⟨a2, b2, c2, rfl⟩ := hv2
  obtain ⟨a3, c3, rfl, l3, m3⟩ := hv3
  obtain ⟨a4, c4, rfl, l4, m4⟩ := hv4
  have hz16 : (List.replicate 16 (Value.int .u8 0)) = bvs (List.replicate 16 0) := by rfl
  have R3 := Lib.hid h3
  have R4 := Lib.hid h4
  have HBL := Lib.hid BL
  have HMA := Lib.hid MA
  have HPO := Lib.hid PO
  have HPZ := Lib.hid PZ
  have HHe := Lib.hid hH
  have HZe := Lib.hid hZ
  clear BL MA PO PZ hH hZ h1 h2 h3 h4
  obtain ⟨n3, hn3⟩ : ∃ n, n = SL.length := ⟨_, rfl⟩
  obtain ⟨n4, hn4⟩ : ∃ n, n = ML.length := ⟨_, rfl⟩
  rw [← hn3] at ls l3 R3 ⊢
  rw [← hn4] at lm l4 R4 ⊢
  have HN3 := Lib.hid hn3
  have HN4 := Lib.hid hn4
  clear hn3 hn4
  have hmk : ∀ w, (Instr.makeSlice 28 (.int .i64 16) (.int .i64 16)).run Try.prog w = .ok (.slice (some ⟨w.heap.size, 0, none⟩) 16 16) (w.alloc (.cells Z16 5)) := fun _ => by kernel_rfl
  have HOZ := Lib.hid (fun (W : World) => (Own.full (w := W) (B := W.heap.size) (e := 5) (cs := (bvs (List.replicate 16 0)).toArray) rfl (Nat.le_refl _) (by unfold maxLen; simp) (n := 16) (by simp) : Own (W.alloc (.cells Z16 5)) W.heap.size 5 (.slice (some ⟨W.heap.size, 0, none⟩) 16 16) (bvs (List.replicate 16 0))))
  refine (callsIn_wide (n := 3)).1 ?_
  refine callsIn_of_wp_marks Try.func38 rfl trivial ?_ rfl
  simp only [Try.ntmps38, List.size_toArray, List.length_cons, List.length_nil, Nat.reduceAdd, Nat.reduceSub, Array.replicate_succ, Array.replicate_zero, List.push_toArray, List.append_toArray, List.nil_append, List.cons_append]
  refine wpIn_wide.2 ?_
  go_wp2_with fail
  refine (HBL.out _ _ ((Below.refl _ _).alloc (Nat.le_refl _) _) (HOZ.out w).rd).mono ?_
  rintro e w1 ⟨u1, rfl, hu1, hb1⟩
  have hB1 := ((Below.refl w.heap.size w).alloc (Nat.le_refl _) (.cells Z16 5)).trans (hb1.mono (by simp))
  have HU1 := Lib.hid hu1.rd
  have HB1 := Lib.hid hB1
  obtain ⟨s1, s2, s3, rfl⟩ := slOf hu1
  clear hu1 hb1 hB1
  go_wp2_with fail
  refine (HPZ.out _ _ HU1.out).mono ?_
  rintro e w2 ⟨rfl, hb2⟩
  have HB2 := Lib.hid (HB1.out.trans (hb2.mono HB1.out.size))
  clear hb2 HU1
  go_wp2_with fail
  have hw2 : w.heap.size ≤ w2.heap.size := HB2.out.size
  have st0 : TagS w w2.heap.size (.slice a3 n3 c3) (.slice a4 n4 c4) H 0 [] (((w2.alloc (.cells #[.int .u64 (vh : Int), .int .u64 (vl : Int)] 54)).alloc (.cells #[.int .u64 0, .int .u64 0] 54)).alloc (.cells #[.slice a4 n4 c4, .slice a3 n3 c3] 28)).heap.size (((w2.alloc (.cells #[.int .u64 (vh : Int), .int .u64 (vl : Int)] 54)).alloc (.cells #[.int .u64 0, .int .u64 0] 54)).alloc (.cells #[.slice a4 n4 c4, .slice a3 n3 c3] 28)) := by
    obtain ⟨q1, q2, q3, q4⟩ := blk3 w2 #[.int .u64 (vh : Int), .int .u64 (vl : Int)] #[.int .u64 0, .int .u64 0] #[.slice a4 n4 c4, .slice a3 n3 c3] 54 54 28
    exact ⟨by rw [HPR.out]; exact q1, q2, q3, HB2.out.trans (q4.mono hw2), trivial, by simp, Nat.le_refl _⟩
  have ST0 := Lib.hid st0
  clear st0
  refine wp_loop (fun a' w' => ∃ (k y : Nat) (dl : List Deferred) (x4 x5 x6 x7 x9 x10 x13 x14 x15 x16 x17 x18 x19 x20 x21 x22 x23 x24 x25 x26 x30 x31 x32 x33 x34 x35 x36 x37 x38 x39 x40 x41 x42 x43 x44 x45 x46 x47 x48 x49 x50 x51 x52 x53 x54 x55 x56 x57 x58 x59 x60 x61 x62 x63 x64 x65 x66 : Value), a' = { tmps := #[.slice a1 b1 c1, .slice a2 b2 c2, .slice a3 n3 c3, .slice a4 n4 c4, x4, x5, x6, x7, .slice none 0 0, x9, x10, .pointer (some ⟨w2.heap.size, 0, none⟩), .pointer (some ⟨w2.heap.size + 1, 0, none⟩), x13, x14, x15, x16, x17, x18, x19, x20, x21, x22, x23, x24, x25, x26, .slice (some ⟨w2.heap.size + 2, 0, none⟩) 2 2, .int .i64 2, .int .i64 (k : Nat), x30, x31, x32, x33, x34, x35, x36, x37, x38, x39, x40, x41, x42, x43, x44, x45, x46, x47, x48, x49, x50, x51, x52, x53, x54, x55, x56, x57, x58, x59, x60, x61, x62, x63, x64, x65, x66], defers := dl } ∧ k ≤ 2 ∧ TagS w w2.heap.size (.slice a3 n3 c3) (.slice a4 n4 c4) H y dl w'.heap.size w' ∧ y = (if k = 0 then 0 else if k = 1 then ghF H ML 0 else ghF H SL (ghF H ML 0)) ∧ y < P128) (fun a' _ => 2 - (intOf (a'.tmps[29]?.getD undef)).toNat) ?_ ?_
  · exact ⟨0, 0, [], _, _, _, _, _, _, _, _, _, _, _, _, _, _, _, _, _, _, _, _, _, _, _, _, _, _, _, _, _, _, _, _, _, _, _, _, _, _, _, _, _, _, _, _, _, _, _, _, _, _, _, _, _, _, _, _, _, rfl, by omega, ST0.out, rfl, by unfold P128; omega⟩
  rintro a' W ⟨k, y, dl, x4, x5, x6, x7, x9, x10, x13, x14, x15, x16, x17, x18, x19, x20, x21, x22, x23, x24, x25, x26, x30, x31, x32, x33, x34, x35, x36, x37, x38, x39, x40, x41, x42, x43, x44, x45, x46, x47, x48, x49, x50, x51, x52, x53, x54, x55, x56, x57, x58, x59, x60, x61, x62, x63, x64, x65, x66, rfl, hk2, S, hy, hyl⟩
  obtain ⟨x29, hx29⟩ : ∃ x, x = Value.int .i64 (k : Nat) := ⟨_, rfl⟩
  have q1 := S.k3.cell k
  have HS := Lib.hid S
  have HY := Lib.hid hy
  clear S hy
  rcases (show k = 2 ∨ k < 2 by omega) with rfl | hk
  · have hy2 : y = ghF H SL (ghF H ML 0) := HY.out
    have HY2 := Lib.hid hy2
    clear hx29 q1 HY hy2
    go_wp2_with fail
    obtain ⟨l1, hl1⟩ : ∃ l1, l1 = n4 * 8 := ⟨_, rfl⟩
    obtain ⟨l2, hl2⟩ : ∃ l2, l2 = n3 * 8 := ⟨_, rfl⟩
    have hb1 : l1 < 1000000 := by omega
    have hb2 : l2 < 1000000 := by omega
    have hq1 : IntKind.u64.wrap (n4 : Int) = (n4 : Int) := wrapU n4 (by omega)
    have hq2 : IntKind.u64.wrap (n3 : Int) = (n3 : Int) := wrapU n3 (by omega)
    have hq3 : IntKind.u64.wrap (l1 : Int) = (l1 : Int) := wrapU l1 (by omega)
    have hq4 : IntKind.u64.wrap (l2 : Int) = (l2 : Int) := wrapU l2 (by omega)
    have hi1 : (n4 : Int) * 8 = (l1 : Int) := by omega
    have hi2 : (n3 : Int) * 8 = (l2 : Int) := by omega
    obtain ⟨LL, hLL⟩ : ∃ LL, LL = l1 * 18446744073709551616 + l2 := ⟨_, rfl⟩
    have hLLl : LL < P128 := by unfold P128; omega
    have hprL : pr LL = #[.int .u64 (l1 : Nat), .int .u64 (l2 : Nat)] := by
      unfold pr
      rw [show LL / 18446744073709551616 = l1 by omega, show LL % 18446744073709551616 = l2 by omega]
    obtain ⟨yx, hyx⟩ : ∃ yx, yx = y ^^^ LL := ⟨_, rfl⟩
    have hyxl : yx < P128 := by rw [hyx]; unfold P128 at *; exact Nat.xor_lt_two_pow (n := 128) hyl hLLl
    obtain ⟨yn, hyn⟩ : ∃ yn, yn = GcmM.gm yx H := ⟨_, rfl⟩
    have hynl : yn < P128 := by rw [hyn]; exact gm_lt hHl _
    have C1 := fun (w : World) => pxor_any y LL w hyl hLLl
    have C2 := fun (w : World) => ptimes_any yx H w hyxl hHl
    rw [← hyx, hprL] at C1
    rw [← hyn] at C2
    have HC1 := Lib.hid C1
    have HC2 := Lib.hid C2
    have HYN := Lib.hid (show yn = GcmM.gm (ghF H SL (ghF H ML 0) ^^^ (8 * ML.length * 18446744073709551616 + 8 * SL.length)) H by rw [hyn, hyx, hLL, hl1, hl2, HY2.out, HN3.out, HN4.out, Nat.mul_comm ML.length 8, Nat.mul_comm SL.length 8])
    clear C1 C2 hyn hyx hprL hLL hl1 hl2
    refine wp_region_last [fun v _ => v = .agg (pr y), fun v _ => v = .slice a4 n4 c4, fun v _ => v = .int .i64 (n4 : Nat), fun v _ => v = .int .u64 (n4 : Nat), fun v _ => v = .int .u64 (l1 : Nat), fun v _ => v = .slice a3 n3 c3, fun v _ => v = .int .i64 (n3 : Nat), fun v _ => v = .int .u64 (n3 : Nat), fun v _ => v = .int .u64 (l2 : Nat), fun v _ => v = .agg #[.int .u64 (l1 : Nat), .int .u64 (l2 : Nat)], fun v _ => v = .agg (pr yx), fun v _ => v = .agg (pr H), fun v _ => v = .agg (pr yn), fun _ w' => TagS w w2.heap.size (.slice a3 n3 c3) (.slice a4 n4 c4) H yn dl W.heap.size w']
      [false, false, false, false, false, false, false, false, false, false, false, false, false, true] 13 (by kernel_rfl) ?_ (by kernel_rfl) (by kernel_rfl) (by kernel_rfl) ?_ ?_
    · exact keeps_cons (fun _ _ _ h _ => h) (keeps_cons (fun _ _ _ h _ => h) (keeps_cons (fun _ _ _ h _ => h) (keeps_cons (fun _ _ _ h _ => h) (keeps_cons (fun _ _ _ h _ => h) (keeps_cons (fun _ _ _ h _ => h) (keeps_cons (fun _ _ _ h _ => h) (keeps_cons (fun _ _ _ h _ => h) (keeps_cons (fun _ _ _ h _ => h) (keeps_cons (fun _ _ _ h _ => h) (keeps_cons (fun _ _ _ h _ => h) (keeps_cons (fun _ _ _ h _ => h) (keeps_cons (fun _ _ _ h _ => h) (keeps_cons (fun _ _ _ h hb => TagS.below h hb) (keeps_nil))))))))))))))
    · refine .cons (owed5_go ?_) (.cons (owed5_go ?_) (.cons (owed5_go ?_) (.cons (owed5_go ?_) (.cons (owed5_go ?_) (.cons (owed5_go ?_) (.cons (owed5_go ?_) (.cons (owed5_go ?_) (.cons (owed5_go ?_) (.cons (owed5_go ?_) (.cons (owed5_go ?_) (.cons (owed5_go ?_) (.cons (owed5_go ?_) (.cons (owed5_go ?_) (.nil))))))))))))))
      · intro a wx hbx ho hf
        refine ⟨rfl, ?_⟩
        intro K hK
        have e0 : a.tmps[12]?.getD undef = .pointer (some ⟨w2.heap.size + 1, 0, none⟩) := ho 12 (by kernel_rfl)
        exact wp_load_row 54 (.tmp 12) rfl _ (evs e0) _ (pr y) (0, 0) _ (((HS.out.below hbx).k2)) Try.underlying54 rfl (by kernel_rfl) (hK _ _ rfl (fun _ => Below.refl _ _))
      · intro a wx hbx ho hf
        refine ⟨rfl, ?_⟩
        intro K hK
        have e0 : a.tmps[3]?.getD undef = .slice a4 n4 c4 := ho 3 (by kernel_rfl)
        go_simp
        exact hK _ _ rfl (fun _ => Below.refl _ _)
      · intro a wx hbx ho hf
        refine ⟨rfl, ?_⟩
        intro K hK
        have e0 : a.tmps[48]?.getD undef = .slice a4 n4 c4 := hf.1
        go_simp
        exact hK _ _ rfl (fun _ => Below.refl _ _)
      · intro a wx hbx ho hf
        refine ⟨rfl, ?_⟩
        intro K hK
        have e0 : a.tmps[49]?.getD undef = .int .i64 (n4 : Nat) := hf.1
        go_simp
        exact hK _ _ rfl (fun _ => Below.refl _ _)
      · intro a wx hbx ho hf
        refine ⟨rfl, ?_⟩
        intro K hK
        have e0 : a.tmps[50]?.getD undef = .int .u64 (n4 : Nat) := hf.1
        go_simp
        exact hK _ _ rfl (fun _ => Below.refl _ _)
      · intro a wx hbx ho hf
        refine ⟨rfl, ?_⟩
        intro K hK
        have e0 : a.tmps[2]?.getD undef = .slice a3 n3 c3 := ho 2 (by kernel_rfl)
        go_simp
        exact hK _ _ rfl (fun _ => Below.refl _ _)
      · intro a wx hbx ho hf
        refine ⟨rfl, ?_⟩
        intro K hK
        have e0 : a.tmps[52]?.getD undef = .slice a3 n3 c3 := hf.1
        go_simp
        exact hK _ _ rfl (fun _ => Below.refl _ _)
      · intro a wx hbx ho hf
        refine ⟨rfl, ?_⟩
        intro K hK
        have e0 : a.tmps[53]?.getD undef = .int .i64 (n3 : Nat) := hf.1
        go_simp
        exact hK _ _ rfl (fun _ => Below.refl _ _)
      · intro a wx hbx ho hf
        refine ⟨rfl, ?_⟩
        intro K hK
        have e0 : a.tmps[54]?.getD undef = .int .u64 (n3 : Nat) := hf.1
        go_simp
        exact hK _ _ rfl (fun _ => Below.refl _ _)
      · intro a wx hbx ho hf
        refine ⟨rfl, ?_⟩
        intro K hK
        have e0 : a.tmps[51]?.getD undef = .int .u64 (l1 : Nat) := hf.1
        have e1 : a.tmps[55]?.getD undef = .int .u64 (l2 : Nat) := hf.2.1
        go_simp
        exact hK _ _ rfl (fun _ => Below.refl _ _)
      · intro a wx hbx ho hf
        refine ⟨rfl, ?_⟩
        intro K hK
        have e0 : a.tmps[47]?.getD undef = .agg (pr y) := hf.1
        have e1 : a.tmps[56]?.getD undef = .agg #[.int .u64 (l1 : Nat), .int .u64 (l2 : Nat)] := hf.2.1
        go_simp
        refine (HC1.out wx).mono ?_
        rintro e w2 ⟨rfl, hb2⟩
        exact hK _ _ rfl (fun _ => hb2)
      · intro a wx hbx ho hf
        refine ⟨rfl, ?_⟩
        intro K hK
        have e0 : a.tmps[11]?.getD undef = .pointer (some ⟨w2.heap.size, 0, none⟩) := ho 11 (by kernel_rfl)
        exact wp_load_row 54 (.tmp 11) rfl _ (evs e0) _ (pr H) (0, 0) _ (((HS.out.below hbx).k1)) Try.underlying54 rfl (by kernel_rfl) (hK _ _ rfl (fun _ => Below.refl _ _))
      · intro a wx hbx ho hf
        refine ⟨rfl, ?_⟩
        intro K hK
        have e0 : a.tmps[57]?.getD undef = .agg (pr yx) := hf.1
        have e1 : a.tmps[58]?.getD undef = .agg (pr H) := hf.2.1
        go_simp
        refine (HC2.out wx).mono ?_
        rintro e w2 ⟨rfl, hb2⟩
        exact hK _ _ rfl (fun _ => hb2)
      · intro a wx hbx ho hf
        refine ⟨rfl, ?_⟩
        intro K hK
        have e0 : a.tmps[12]?.getD undef = .pointer (some ⟨w2.heap.size + 1, 0, none⟩) := ho 12 (by kernel_rfl)
        have e1 : a.tmps[59]?.getD undef = .agg (pr yn) := hf.1
        refine wp_store_row 54 (.tmp 12) (.tmp 59) rfl (w2.heap.size + 1) (pr yn) (evs e0) (evs e1) _ _ (((HS.out.below hbx).k2)) (by kernel_rfl) rfl (by rw [← Array.all_toList]; rfl) ?_
        exact hK _ _ ((HS.out.below hbx).set hw2 yn) (fun hne => absurd rfl hne)
    · rintro f w9 hfin
      have S9 := hfin.2.2.2.2.2.2.2.2.2.2.2.2.2.1
      clear hfin
      simp only [frameOf, dstsOf, zipF, List.filterMap_cons, List.filterMap_nil, List.contains_cons, List.contains_nil, Nat.reduceBEq, Nat.reduceAdd, Bool.or_false, Bool.or_true, cond_true, cond_false]
      have HS9 := Lib.hid S9
      clear S9
      obtain ⟨mv, hmv⟩ : ∃ mv, mv = beV (mk KL NL 1) := ⟨_, rfl⟩
      obtain ⟨hM1, hM2⟩ := blk_lt bK lk (M := NL ++ beN 4 1) (by
        intro y hy
        rcases List.mem_append.1 hy with hy | hy
        · exact bN y hy
        · exact beN_lt _ _ y hy) (by rw [List.length_append, ln, beN_len])
      have hmvl : mv < P128 := by rw [hmv]; exact beV_lt128 hM2 hM1
      obtain ⟨zz, hzz⟩ : ∃ zz, zz = yn ^^^ mv := ⟨_, rfl⟩
      have hzzl : zz < P128 := by rw [hzz]; unfold P128 at *; exact Nat.xor_lt_two_pow (n := 128) hynl hmvl
      have C1 := fun (w : World) => pxor_any yn mv w hynl hmvl
      have C2 := fun (w : World) => pbytes_any zz w hzzl
      have C3 := fun (w : World) (v : Value) (hr : Rd w v (bvs (blk KL (NL ++ beN 4 1)))) => HPO.out v _ w hr hM2 hM1
      rw [← hzz] at C1
      rw [show beV (blk KL (NL ++ beN 4 1)) = mv from hmv.symm] at C3
      have HD1 := Lib.hid C1
      have HD2 := Lib.hid C2
      have HD3 := Lib.hid C3
      have HZZ := Lib.hid (show beN 16 zz = tagF KL NL SL ML by rw [hzz, hmv, HYN.out, HHe.out, HZe.out]; rfl)
      clear C1 C2 C3 hzz hmv hM1 hM2
      go_wp2_with fail
      refine wp_region_last [fun v _ => v = .agg (pr yn), fun v _ => v = .slice a1 b1 c1, fun v _ => v = .slice a2 b2 c2, fun v w' => Own w' w9.heap.size 5 v (bvs (blk KL (NL ++ beN 4 1))), fun v _ => v = .agg (pr mv), fun v _ => v = .agg (pr zz), fun v w' => Own w' w.heap.size 5 v (bvs (beN 16 zz)), fun v w' => Own w' w.heap.size 5 v (bvs (beN 16 zz)) ∧ TagS w w2.heap.size (.slice a3 n3 c3) (.slice a4 n4 c4) H yn dl W.heap.size w']
        [false, false, false, false, false, false, false, true] 7 (by kernel_rfl) ?_ (by kernel_rfl) (by kernel_rfl) (by kernel_rfl) ?_ ?_
      · exact keeps_cons (fun _ _ _ h _ => h) (keeps_cons (fun _ _ _ h _ => h) (keeps_cons (fun _ _ _ h _ => h) (keeps_cons (fun v w1 w2 h hb => Own.below h hb (Nat.le_refl _)) (keeps_cons (fun _ _ _ h _ => h) (keeps_cons (fun _ _ _ h _ => h) (keeps_cons (fun v w1 w2 h hb => Own.below h hb (Nat.le_refl _)) (keeps_cons (fun v w1 w3 h hb => ⟨Own.below h.1 hb (Nat.le_refl _), h.2.below hb⟩) (keeps_nil))))))))
      · refine .cons (owed5_go ?_) (.cons (owed5_go ?_) (.cons (owed5_go ?_) (.cons (owed5_go ?_) (.cons (owed5_go ?_) (.cons (owed5_go ?_) (.cons (owed5_go ?_) (.cons (owed5_go ?_) (.nil))))))))
        · intro a wx hbx ho hf
          refine ⟨rfl, ?_⟩
          intro K hK
          have e0 : a.tmps[12]?.getD undef = .pointer (some ⟨w2.heap.size + 1, 0, none⟩) := ho 12 (by kernel_rfl)
          exact wp_load_row 54 (.tmp 12) rfl _ (evs e0) _ (pr yn) (0, 0) _ (((HS9.out.below hbx).k2)) Try.underlying54 rfl (by kernel_rfl) (hK _ _ rfl (fun _ => Below.refl _ _))
        · intro a wx hbx ho hf
          refine ⟨rfl, ?_⟩
          intro K hK
          have e0 : a.tmps[0]?.getD undef = .slice a1 b1 c1 := ho 0 (by kernel_rfl)
          go_simp
          exact hK _ _ rfl (fun _ => Below.refl _ _)
        · intro a wx hbx ho hf
          refine ⟨rfl, ?_⟩
          intro K hK
          have e0 : a.tmps[1]?.getD undef = .slice a2 b2 c2 := ho 1 (by kernel_rfl)
          go_simp
          exact hK _ _ rfl (fun _ => Below.refl _ _)
        · intro a wx hbx ho hf
          refine ⟨rfl, ?_⟩
          intro K hK
          have e0 : a.tmps[61]?.getD undef = .slice a1 b1 c1 := hf.1
          have e1 : a.tmps[62]?.getD undef = .slice a2 b2 c2 := hf.2.1
          go_simp
          refine (HMA.out wx ((HS9.out.below hbx).low)).mono ?_
          rintro e w3 ⟨u, rfl, hown, hb2⟩
          exact hK _ _ (hown.mono hbx.size) (fun _ => hb2)
        · intro a wx hbx ho hf
          refine ⟨rfl, ?_⟩
          intro K hK
          have o0 : Own wx w9.heap.size 5 (a.tmps[63]?.getD undef) (bvs (blk KL (NL ++ beN 4 1))) := hf.1
          obtain ⟨v0, hv0⟩ : ∃ v, v = a.tmps[63]?.getD undef := ⟨_, rfl⟩
          rw [← hv0] at o0
          have e0 := hv0.symm
          clear hv0
          obtain ⟨t1, t2, t3, rfl⟩ := slOf o0
          go_simp
          refine (HD3.out wx _ o0.rd).mono ?_
          rintro e w3 ⟨rfl, hb2⟩
          exact hK _ _ rfl (fun _ => hb2)
        · intro a wx hbx ho hf
          refine ⟨rfl, ?_⟩
          intro K hK
          have e0 : a.tmps[60]?.getD undef = .agg (pr yn) := hf.1
          have e1 : a.tmps[64]?.getD undef = .agg (pr mv) := hf.2.1
          go_simp
          refine (HD1.out wx).mono ?_
          rintro e w2 ⟨rfl, hb2⟩
          exact hK _ _ rfl (fun _ => hb2)
        · intro a wx hbx ho hf
          refine ⟨rfl, ?_⟩
          intro K hK
          have e0 : a.tmps[65]?.getD undef = .agg (pr zz) := hf.1
          go_simp
          refine (HD2.out wx).mono ?_
          rintro e w3 ⟨u, rfl, hown, hb2⟩
          exact hK _ _ (hown.mono ((HS9.out.below hbx).low.size)) (fun _ => hb2)
        · intro a wx hbx ho hf
          refine ⟨rfl, ?_⟩
          intro K hK
          have o0 : Own wx w.heap.size 5 (a.tmps[66]?.getD undef) (bvs (beN 16 zz)) := hf.1
          obtain ⟨v0, hv0⟩ : ∃ v, v = a.tmps[66]?.getD undef := ⟨_, rfl⟩
          rw [← hv0] at o0
          have e0 := hv0.symm
          clear hv0
          go_simp
          exact hK _ _ ⟨o0, HS9.out.below hbx⟩ (fun hne => absurd rfl hne)
      · rintro f w10 hfin
        have S9 : Own w10 w.heap.size 5 (f 8) (bvs (beN 16 zz)) ∧ TagS w w2.heap.size (.slice a3 n3 c3) (.slice a4 n4 c4) H yn dl W.heap.size w10 := hfin.2.2.2.2.2.2.2.1
        clear hfin
        simp only [frameOf, dstsOf, zipF, List.filterMap_cons, List.filterMap_nil, List.contains_cons, List.contains_nil, Nat.reduceBEq, Nat.reduceAdd, Bool.or_false, Bool.or_true, cond_true, cond_false]
        obtain ⟨uu, huu⟩ : ∃ u, u = f 8 := ⟨_, rfl⟩
        rw [← huu] at S9 ⊢
        obtain ⟨so, sT⟩ := S9
        rw [HZZ.out] at so
        have HSO := Lib.hid so
        have HST := Lib.hid sT
        clear so sT huu
        go_wp2_with fail
        refine leave_marks (base := w2.heap.size + 3) (fun W' => Own W' w.heap.size 5 uu (bvs (tagF KL NL SL ML)) ∧ Below w.heap.size w W') ?_ ?_ dl w10 _ HST.out.d ⟨HSO.out, HST.out.low⟩
        · rintro W' D hD hK ⟨k1, k2⟩
          exact ⟨own_kept k1 (grownBy_putObj' W' D _) (fun r e => by cases e; exact ⟨_, hK, rfl⟩), k2.grown (grownBy_putObj' W' D _) k2.size (fun j e => by cases e; omega)⟩
        · rintro W' ⟨k1, k2⟩
          refine ⟨_, results_tmp rfl _ _ _, ?_⟩
          exact ⟨uu, rfl, k1, k2⟩
  · have hk' : decide ((k : Int) < 2) = true := by rw [decide_eq_true_iff]; omega
    obtain ⟨g0, n, c, BT, hcell, hRd, hlc, hcm, hln, hBT, hBl, hnext⟩ : ∃ (g0 : Option Addr) (n c : Nat) (BT : List Nat), (#[Value.slice a4 n4 c4, Value.slice a3 n3 c3])[k]? = some (.slice g0 n c) ∧ Rd w (.slice g0 n c) (bvs BT) ∧ n ≤ c ∧ c ≤ maxLen ∧ n ≤ 100000 ∧ (∀ x ∈ BT, x < 256) ∧ n = BT.length ∧ ghF H BT y = (if k + 1 = 0 then 0 else if k + 1 = 1 then ghF H ML 0 else ghF H SL (ghF H ML 0)) := by
      rcases (show k = 0 ∨ k = 1 by omega) with rfl | rfl
      · exact ⟨a4, n4, c4, ML, rfl, R4.out, l4, m4, lm, bM, HN4.out, by rw [HY.out]; rfl⟩
      · exact ⟨a3, n3, c3, SL, rfl, R3.out, l3, m3, ls, bS, HN3.out, by rw [HY.out]; rfl⟩
    rw [hcell] at q1
    obtain ⟨gb, go, hg0⟩ : ∃ gb go, 0 < n → g0 = some ⟨gb, go, none⟩ := by
      obtain ⟨a', c', e, h1, h2, ⟨hnil, _⟩ | ⟨b, off, rfl, _⟩⟩ := hRd
      · exact ⟨0, 0, fun hp => by have h0 : (bvs BT).length = 0 := (by rw [hnil]; rfl); rw [bvs_len] at h0; omega⟩
      · simp only [Value.slice.injEq] at e
        exact ⟨b, off, fun _ => e.1⟩
    have HRd := Lib.hid hRd
    have HNX := Lib.hid hnext
    have HBL' := Lib.hid hBl
    have HG0 := Lib.hid hg0
    clear hcell hRd hnext hBl hx29
    go_wp2_with fail
    refine (chunk_any g0 n c _).mono ?_
    rintro e w' ⟨rfl, rfl⟩
    have n2 := Blk.new W 28 #[.slice g0 n c]
    have n3' := Blk.new (W.alloc (.cells #[.slice g0 n c] 28)) 3 #[.int .i64 16]
    have ez : (W.alloc (.cells #[.slice g0 n c] 28)).heap.size = W.heap.size + 1 := by simp
    rw [ez] at n3'
    have m2 := n2.alloc (.cells #[.int .i64 16] 3)
    have hb0 := ((Below.refl W.heap.size W).alloc (Nat.le_refl _) (.cells #[.slice g0 n c] 28)).alloc (by simp) (.cells #[.int .i64 16] 3)
    have hsz0 : ((W.alloc (.cells #[.slice g0 n c] 28)).alloc (.cells #[.int .i64 16] 3)).heap.size = W.heap.size + 2 := by simp
    obtain ⟨W0, hW0⟩ : ∃ W0, W0 = ((W.alloc (.cells #[.slice g0 n c] 28)).alloc (.cells #[.int .i64 16] 3)) := ⟨_, rfl⟩
    rw [← hW0] at m2 n3' hb0 hsz0
    rw [← hW0]
    have S0 : TagS w w2.heap.size (.slice a3 n3 c3) (.slice a4 n4 c4) H y dl (W.heap.size + 2) W0 := by
      have S1 := HS.out.below hb0
      exact ⟨S1.k1, S1.k2, S1.k3, S1.low, S1.d.mono (by omega), S1.size, by rw [hsz0]; exact Nat.le_refl _⟩
    obtain ⟨nb, hnb⟩ : ∃ nb, nb = W.heap.size := ⟨_, rfl⟩
    have hnb2 : w2.heap.size + 3 ≤ nb := by rw [hnb]; exact HS.out.size
    rw [← hnb] at m2 n3' hsz0 S0
    rw [← hnb]
    have M1 := Lib.hid m2
    have M2 := Lib.hid n3'
    have HS0 := Lib.hid S0
    have HNB := Lib.hid hnb
    have HB0 := Lib.hid hb0
    clear ez n2 n3' m2 hb0 hW0 S0 hnb
    go_wp2_with fail
    refine (wpIn_wide (n := 3)).1 ?_
    refine wpIn_rangeFunc_ownG (F := Fence.wide) (n := 3) (w := W0) rfl (by omega) (gf := 48) (lb := #[.pointer (some ⟨nb, 0, none⟩), .pointer (some ⟨nb + 1, 0, none⟩)]) rfl trivial (enters_of Try.func48 (by kernel_rfl) rfl)
      (chunk_stops 2 g0 nb gb go n c HG0.out hlc hcm (by omega) W0 M1.out M2.out) kpB_t (kpB_b (by omega)) (Below.refl _ _) (fun _ => rfl)
      (fun (pre : List (Off n)) W' => TagS w w2.heap.size (.slice a3 n3 c3) (.slice a4 n4 c4) H (ghP H BT y pre) dl (nb + 2) W') (fun _ _ _ => False) (tagS_own w w2.heap.size _ _ H (fun pre : List (Off n) => ghP H BT y pre) dl (nb + 2) W0.heap.size (by omega) (by omega)) (fun _ _ _ _ _ hs _ _ => hs)
      HS0.out
      (fun x : Off n => { tmps := #[.slice a1 b1 c1, .slice a2 b2 c2, .slice a3 n3 c3, .slice a4 n4 c4, x4, x5, x6, x7, .slice none 0 0, x9, x10, .pointer (some ⟨w2.heap.size, 0, none⟩), .pointer (some ⟨w2.heap.size + 1, 0, none⟩), x13, .slice g0 n c, .slice (some ⟨gb, go + x.1, none⟩) (min 16 (n - x.1)) (min 16 (n - x.1)), x16, x17, x18, x19, x20, x21, x22, x23, x24, x25, x26, .slice (some ⟨w2.heap.size + 2, 0, none⟩) 2 2, .int .i64 2, .int .i64 (k : Nat), .bool true, .pointer (some ⟨w2.heap.size + 2, k, none⟩), .slice g0 n c, .slice g0 n c, .func (.func 48) #[] #[.pointer (some ⟨nb, 0, none⟩), .pointer (some ⟨nb + 1, 0, none⟩)], .slice (some ⟨gb, go + x.1, none⟩) (min 16 (n - x.1)) (min 16 (n - x.1)), x36, x37, x38, x39, x40, x41, x42, x43, x44, x45, x46, x47, x48, x49, x50, x51, x52, x53, x54, x55, x56, x57, x58, x59, x60, x61, x62, x63, x64, x65, x66], defers := [] }) ?assign ?body ?done ?stop
    case assign =>
      intro l x W' K hK
      simp only [encC]
      gi_wp2
      exact hK
    case body =>
      rintro l pre x W' S' hpl
      obtain ⟨p, hpx⟩ := x
      obtain rfl := HG0.out (by omega)
      have hrd := HRd.out.below S'.low (Nat.le_refl _)
      obtain ⟨m, hm⟩ : ∃ m, m = min 16 (n - p) := ⟨_, rfl⟩
      have hm1 : m ≤ n - p := by omega
      have rpart := (hrd.sub p (p + m) (off' := go + p) (n' := m) (cap' := c - p) (by omega) (by omega) rfl (by omega) rfl).recap (c' := m) (by omega) (by omega)
      rw [show ((bvs BT).take (p + m)).drop p = bvs ((BT.drop p).take m) by simp [bvs, List.map_take, List.map_drop, List.drop_take]] at rpart
      dsimp only
      rw [← hm]
      have hBn := HBL'.out
      obtain ⟨PB, hPB⟩ : ∃ PB, PB = padB BT p := ⟨_, rfl⟩
      obtain ⟨yp, hyp⟩ : ∃ yp, yp = ghP H BT y pre := ⟨_, rfl⟩
      have hypl : yp < P128 := by rw [hyp]; exact ghP_lt hHl _ hyl _
      have hPBl : PB.length = 16 := by rw [hPB]; exact padB_len _ _
      have hPBt : ∀ x ∈ PB, x < 256 := by rw [hPB]; exact padB_lt hBT _
      have hcopy : (bvs ((BT.drop p).take m)).take 16 ++ (bvs (List.replicate 16 0)).drop (bvs ((BT.drop p).take m)).length = bvs PB := by
        have e2 := padB_copy BT p (by omega)
        rw [← hBn, ← hm, ← hPB] at e2
        rw [← e2, bvs_append]
        have e3 : (bvs ((BT.drop p).take m)).length = m := by rw [bvs_len]; simp; omega
        rw [e3, List.take_of_length_le (by omega)]
        simp [bvs, List.map_drop]
      rw [← hyp] at S'
      have HS' := Lib.hid S'
      have HRP := Lib.hid rpart
      have HCP := Lib.hid hcopy
      have HM := Lib.hid hm
      have HPB := Lib.hid hPB
      have HYP := Lib.hid hyp
      clear hm hPB hyp S' hrd rpart hcopy hBn
      refine wpIn_block ?_
      refine wpIn_seq_k ?_
      intro K1 hK1
      have HK1 := Lib.hid hK1
      clear hK1
      gi_wp2
      refine HK1.out _ _ ?_
      refine wpIn_seq_k ?_
      intro K2 hK2
      have HK2 := Lib.hid hK2
      clear hK2 HK1
      refine wpIn_region_round (by kernel_rfl) (fun _ _ h => h) ?_
      have hl16 : (bvs (List.replicate 16 0)).length = 16 := by rw [bvs_len]; simp
      have HL16 := Lib.hid hl16
      clear hl16
      go_wp2_with (refine wpList_cpy rfl (.tmp 37) (.tmp 38) 28 28 rfl 5 (.int .u8 0) 1 bytesE W'.heap.size W'.heap.size 16 16 (bvs (List.replicate 16 0)) rfl (HOZ.out W') (.slice (some ⟨gb, go + p, none⟩) m m) (bvs ((BT.drop p).take m)) rfl (HRP.out.alloc _) (bvs_one _) ?_; intro w6 hown6 hb6; rw [HL16.out, HCP.out] at hown6; have HW6' := Lib.hid hown6; have HB6 := Lib.hid hb6; clear hown6 hb6)
      have hown6 := HW6'.out
      have hb7 : Below W'.heap.size W' w6 := ((Below.refl W'.heap.size W').alloc (Nat.le_refl _) _).trans HB6.out
      have R6 : TagR w W' w2.heap.size (.slice a3 n3 c3) (.slice a4 n4 c4) H yp dl (nb + 2) (nb + 2) nb w6 := ⟨HS'.out.below hb7, keepsFrom_below hb7, kpB_below hb7 (by have := HS'.out.htop; omega), Nat.le_trans HS'.out.htop hb7.size⟩
      obtain ⟨s7, hs7⟩ : ∃ s7, s7 = W'.heap.size := ⟨_, rfl⟩
      rw [← hs7] at hown6
      rw [← hs7]
      have HR6 := Lib.hid R6
      have HW6 := Lib.hid hown6
      clear R6 hown6 hb7 hs7 HW6'
      go_wp2_with fail
      obtain ⟨pv, hpv⟩ : ∃ pv, pv = beV PB := ⟨_, rfl⟩
      have hpvl : pv < P128 := by rw [hpv]; exact beV_lt128 hPBt hPBl
      obtain ⟨yx, hyx⟩ : ∃ yx, yx = yp ^^^ pv := ⟨_, rfl⟩
      have hyxl : yx < P128 := by rw [hyx]; unfold P128 at *; exact Nat.xor_lt_two_pow (n := 128) hypl hpvl
      obtain ⟨yn, hyn⟩ : ∃ yn, yn = GcmM.gm yx H := ⟨_, rfl⟩
      have C1 := fun (w : World) => pxor_any yp pv w hypl hpvl
      have C2 := fun (w : World) => ptimes_any yx H w hyxl hHl
      have C3 := fun (w : World) (v : Value) (hr : Rd w v (bvs PB)) => HPO.out v PB w hr hPBt hPBl
      rw [← hyx] at C1
      rw [← hyn] at C2
      rw [← hpv] at C3
      have HC1 := Lib.hid C1
      have HC2 := Lib.hid C2
      have HC3 := Lib.hid C3
      have HYN := Lib.hid (show GcmM.gm (ghP H BT y pre ^^^ beV (padB BT p)) H = yn by rw [hyn, hyx, hpv, HYP.out, HPB.out])
      clear C1 C2 C3 hyn hyx hpv
      refine HK2.out _ _ ?_
      refine wpIn_region_last [fun v _ => v = .agg (pr yp), fun v _ => v = .slice (some ⟨s7, 0, none⟩) 16 16, fun v _ => v = .agg (pr pv), fun v _ => v = .agg (pr yx), fun v _ => v = .agg (pr H), fun v _ => v = .agg (pr yn), fun _ w' => TagR w W' w2.heap.size (.slice a3 n3 c3) (.slice a4 n4 c4) H yn dl (nb + 2) (nb + 2) nb w']
        [false, false, false, false, false, false, true] 6 (by kernel_rfl) (by kernel_rfl) ?_ (by kernel_rfl) (by kernel_rfl) (by kernel_rfl) ?_ ?_
      · exact keeps_cons (fun _ _ _ h _ => h) (keeps_cons (fun _ _ _ h _ => h) (keeps_cons (fun _ _ _ h _ => h) (keeps_cons (fun _ _ _ h _ => h) (keeps_cons (fun _ _ _ h _ => h) (keeps_cons (fun _ _ _ h _ => h) (keeps_cons (fun _ _ _ h hb => TagR.below h (by omega) hb) (keeps_nil)))))))
      · refine .cons (owed5_go ?_) (.cons (owed5_go ?_) (.cons (owed5_go ?_) (.cons (owed5_go ?_) (.cons (owed5_go ?_) (.cons (owed5_go ?_) (.cons (owed5_go ?_) (.nil)))))))
        · intro a wx hbx ho hf
          refine ⟨rfl, ?_⟩
          intro K hK
          have e0 : a.tmps[12]?.getD undef = .pointer (some ⟨w2.heap.size + 1, 0, none⟩) := ho 12 (by kernel_rfl)
          exact wp_load_row 54 (.tmp 12) rfl _ (evs e0) _ (pr yp) (0, 0) _ (((HR6.out.below (by omega) hbx).s.k2)) Try.underlying54 rfl (by kernel_rfl) (hK _ _ rfl (fun _ => Below.refl _ _))
        · intro a wx hbx ho hf
          refine ⟨rfl, ?_⟩
          intro K hK
          have e0 : a.tmps[16]?.getD undef = .slice (some ⟨s7, 0, none⟩) 16 16 := ho 16 (by kernel_rfl)
          go_simp
          exact hK _ _ rfl (fun _ => Below.refl _ _)
        · intro a wx hbx ho hf
          refine ⟨rfl, ?_⟩
          intro K hK
          have e0 : a.tmps[41]?.getD undef = .slice (some ⟨s7, 0, none⟩) 16 16 := hf.1
          go_simp
          refine (HC3.out wx _ ((HW6.out.below hbx (Nat.le_refl _)).rd)).mono ?_
          rintro e w2 ⟨rfl, hb2⟩
          exact hK _ _ rfl (fun _ => hb2)
        · intro a wx hbx ho hf
          refine ⟨rfl, ?_⟩
          intro K hK
          have e0 : a.tmps[40]?.getD undef = .agg (pr yp) := hf.1
          have e1 : a.tmps[42]?.getD undef = .agg (pr pv) := hf.2.1
          go_simp
          refine (HC1.out wx).mono ?_
          rintro e w2 ⟨rfl, hb2⟩
          exact hK _ _ rfl (fun _ => hb2)
        · intro a wx hbx ho hf
          refine ⟨rfl, ?_⟩
          intro K hK
          have e0 : a.tmps[11]?.getD undef = .pointer (some ⟨w2.heap.size, 0, none⟩) := ho 11 (by kernel_rfl)
          exact wp_load_row 54 (.tmp 11) rfl _ (evs e0) _ (pr H) (0, 0) _ (((HR6.out.below (by omega) hbx).s.k1)) Try.underlying54 rfl (by kernel_rfl) (hK _ _ rfl (fun _ => Below.refl _ _))
        · intro a wx hbx ho hf
          refine ⟨rfl, ?_⟩
          intro K hK
          have e0 : a.tmps[43]?.getD undef = .agg (pr yx) := hf.1
          have e1 : a.tmps[44]?.getD undef = .agg (pr H) := hf.2.1
          go_simp
          refine (HC2.out wx).mono ?_
          rintro e w2 ⟨rfl, hb2⟩
          exact hK _ _ rfl (fun _ => hb2)
        · intro a wx hbx ho hf
          refine ⟨rfl, ?_⟩
          intro K hK
          have e0 : a.tmps[12]?.getD undef = .pointer (some ⟨w2.heap.size + 1, 0, none⟩) := ho 12 (by kernel_rfl)
          have e1 : a.tmps[45]?.getD undef = .agg (pr yn) := hf.1
          refine wp_store_row 54 (.tmp 12) (.tmp 45) rfl (w2.heap.size + 1) (pr yn) (evs e0) (evs e1) _ _ (((HR6.out.below (by omega) hbx).s.k2)) (by kernel_rfl) rfl (by rw [← Array.all_toList]; rfl) ?_
          exact hK _ _ ((HR6.out.below (by omega) hbx).set hw2 (by omega) (by omega) yn) (fun hne => absurd rfl hne)
      · rintro f w9 hfin
        have S9 := hfin.2.2.2.2.2.2.1
        clear hfin
        simp only [frameOf, dstsOf, zipF, List.filterMap_cons, List.filterMap_nil, List.contains_cons, List.contains_nil, Nat.reduceBEq, Nat.reduceAdd, Bool.or_false, Bool.or_true, cond_true, cond_false]
        have HS9 := Lib.hid S9
        clear S9
        refine ⟨by rw [hsz0]; exact HS9.out.keeps, HS9.out.kp, ?_⟩
        show TagS w w2.heap.size _ _ H (ghP H BT y (pre ++ [⟨p, hpx⟩])) dl (nb + 2) w9
        rw [ghP_snoc, HYN.out]
        exact HS9.out.s
    case done =>
      rintro D ys W' hD hys S' hK
      gi_wp2
      have hend : ghP H BT y ys = ghF H BT y := ghP_end H BT y ys HBL'.out.symm hys
      have hDs : D < W'.heap.size := (Array.getElem?_eq_some_iff.1 hK).1
      rw [hend] at S'
      have hfl : ghF H BT y < P128 := by rw [← hend]; exact ghP_lt hHl _ hyl _
      have SN : TagS w w2.heap.size (.slice a3 n3 c3) (.slice a4 n4 c4) H (ghF H BT y) ({ target := .collected D, args := #[] } :: dl) W'.heap.size W' :=
        ⟨S'.k1, S'.k2, S'.k3, S'.low, ⟨D, rfl, by omega, hDs, hK, S'.d.mono (by omega)⟩, S'.size, Nat.le_refl _⟩
      have HSN := Lib.hid SN
      have HNX' := Lib.hid HNX.out
      clear hend S' SN hys hK
      go_wp2_with fail
      have hk1 : ((k : Nat) : Int) + 1 = ((k + 1 : Nat) : Int) := by omega
      refine ⟨⟨k + 1, ghF H BT y, { target := .collected D, args := #[] } :: dl, _, _, _, _, _, _, _, _, _, _, _, _, _, _, _, _, _, _, _, _, _, _, _, _, _, _, _, _, _, _, _, _, _, _, _, _, _, _, _, _, _, _, _, _, _, _, _, _, _, _, _, _, _, _, _, _, _, by rw [← hk1], by omega, HSN.out, HNX'.out, hfl⟩, ?_⟩
      show 2 - (intOf (.int .i64 ((k : Int) + 1))).toNat < 2 - (intOf (.int .i64 (k : Int))).toNat
      simp [intOf]
      omega
    case stop =>
      rintro D c' pre W' _ _ h _
      exact h.elim
end Go.Proofs.Ytfpjpakjlhidkaa
