/- Walks: the reference's Masked. -/
import Derived.Test.YtfpjpakjlhidkaaGcmRefX
namespace Go.Proofs.Ytfpjpakjlhidkaa
open Go.RowKit AesM GcmM GcmB
set_option linter.unusedVariables false

theorem maskF_succ (K N T : List Nat) {i : Nat} (h : i < T.length) : (maskF K N T).take (i + 1) = (maskF K N T).take i ++ [T.getD i 0 ^^^ (mk K N (i / 16 + 2)).getD (i % 16) 0] := by
  rw [take_snoc (by rw [maskF_len]; exact h)]
  congr 2
  rw [maskF, List.getD_eq_getElem?_getD, List.getElem?_map, List.getElem?_range h]; rfl
set_option maxRecDepth 100000 in
set_option maxHeartbeats 4000000 in
theorem rmasked_any (v1 v2 v3 bx : Value) (KL N T : List Nat) (w : World) (h1 : Rd w v1 (bvs KL)) (h2 : Rd w v2 (bvs N)) (h3 : Rd w v3 (bvs T)) (hbx : Rd w bx (nvs boxL)) (hK : ∀ x ∈ KL, x < 256) (hN : ∀ x ∈ N, x < 256) (hT : ∀ x ∈ T, x < 256) (lk : KL.length = 16) (ln : N.length = 12) (lt : T.length ≤ 100000) :
    Calls Try.prog 28 #[v1, v2, v3, bx] w fun e w' => ∃ u, e = .returned u ∧ Own w' w.heap.size 5 u (bvs (maskF KL N T)) ∧ Below w.heap.size w w' := by
  have MA := fun (n : Nat) (W : World) (hn : n < 65536) (hb : Below w.heap.size w W) => rmask_any v1 v2 bx KL N n W (h1.below hb (Nat.le_refl _)) (h2.below hb (Nat.le_refl _)) (hbx.below hb (Nat.le_refl _)) hK hN lk ln hn
  have hML := fun n => mk_lt hK hN lk ln n
  have hv1 : ∃ a b c, v1 = .slice a b c := by obtain ⟨a, c, e, _⟩ := h1; exact ⟨a, _, c, e⟩
  have hv2 : ∃ a b c, v2 = .slice a b c := by obtain ⟨a, c, e, _⟩ := h2; exact ⟨a, _, c, e⟩
  have hv3 : ∃ a c, v3 = .slice a T.length c := by obtain ⟨a, c, e, _⟩ := h3; exact ⟨a, c, by rw [e, bvs_len]⟩
  have hv4 : ∃ a b c, bx = .slice a b c := by obtain ⟨a, c, e, _⟩ := hbx; exact ⟨a, _, c, e⟩
  obtain ⟨a1, b1, c1, rfl⟩ := hv1
  obtain ⟨a2, b2, c2, rfl⟩ := hv2
  obtain ⟨a3, c3, rfl⟩ := hv3
  obtain ⟨a4, b4, c4, rfl⟩ := hv4
  have G := fun (i : Nat) (hi : i < T.length) => h3.get3 (bvs_getD (L := T) (i := i) hi)
  obtain ⟨F, hF⟩ : ∃ F, F = maskF KL N T := ⟨_, rfl⟩
  have hFl : F.length = T.length := by rw [hF, maskF_len]
  have FS := fun (i : Nat) (hi : i < T.length) => maskF_succ KL N T hi
  rw [← hF] at FS ⊢
  obtain ⟨n, hn'⟩ : ∃ n, n = T.length := ⟨_, rfl⟩
  rw [← hn'] at lt G hFl FS ⊢
  have HG := Lib.hid G
  have HMA := Lib.hid MA
  have HFS := Lib.hid FS
  have HML := Lib.hid hML
  clear G MA FS hF h1 h2 h3 hbx hn' hML
  go_enter Try.func28, Try.ntmps28
  go_wp2_with fail
  go_loopg [9, 10, 11] n (fun q ov mv iv wr => ∃ i : Nat, i + q = n ∧ iv = .int .i64 (i : Nat) ∧ Own wr w.heap.size 5 ov (bvs (F.take i)) ∧ (∃ m1 m2 m3, mv = .slice m1 m2 m3) ∧ (i % 16 ≠ 0 → Own wr w.heap.size 5 mv (bvs (mk KL N (i / 16 + 2))) ∧ mv.ownBlock ≠ ov.ownBlock) ∧ Below w.heap.size w wr)
  case atStart => exact ⟨0, by omega, rfl, Own.nil _ _ _, ⟨_, _, _, rfl⟩, fun h => absurd rfl h, Below.refl _ _⟩
  case round =>
    obtain ⟨i, hi, rfl, hown, ⟨m1, m2, m3, rfl⟩, hm, hb⟩ := hrel
    have HI := Lib.hid hi
    have HO := Lib.hid hown
    have HM := Lib.hid hm
    have HB := Lib.hid hb
    clear hi hb hm
    obtain ⟨s1, s2, s3, rfl⟩ := slOf hown
    by_cases hlt : i < n
    · have hlt' : decide ((i : Int) < (n : Int)) = true := by rw [decide_eq_true_iff]; omega
      obtain ⟨bt, ot, rfl, l1, p1⟩ := HG.out i hlt
      obtain ⟨r, hr⟩ : ∃ r, r = i % 16 := ⟨_, rfl⟩
      obtain ⟨dv, hdv⟩ : ∃ dv, dv = i / 16 := ⟨_, rfl⟩
      have e1 : (i : Int) % 16 = (r : Int) := by omega
      have e2 : (i : Int) / 16 = (dv : Int) := by omega
      have hr16 : r < 16 := by omega
      have hdv2 : dv + 2 < 65536 := by omega
      obtain ⟨x, hx⟩ : ∃ x, x = T.getD i 0 := ⟨_, rfl⟩
      obtain ⟨y, hy⟩ : ∃ y, y = (mk KL N (dv + 2)).getD r 0 := ⟨_, rfl⟩
      have x1 : x < 256 := by rw [hx]; exact getD_lt hT (by omega) _
      have y1 : y < 256 := by rw [hy]; exact getD_lt (HML.out _).2 (by omega) _
      have hxy := u8_xor_nat x y x1 y1
      have HST := Lib.hid (show F.take (i + 1) = F.take i ++ [x ^^^ y] by rw [HFS.out i hlt, hx, hy, hr, hdv])
      rw [← hx] at p1
      have P1 := Lib.hid p1
      obtain ⟨z, hz⟩ : ∃ z, z = x ^^^ y := ⟨_, rfl⟩
      rw [← hz] at hxy HST
      have HR := Lib.hid hr
      have HDV := Lib.hid hdv
      have HY := Lib.hid hy
      clear hx hz p1 hr hdv hown hy
      by_cases hr0 : r = 0
      · subst hr0
        have e5 : (dv : Int) + 2 = ((dv + 2 : Nat) : Int) := by omega
        obtain ⟨d2, hd2⟩ : ∃ d2, d2 = dv + 2 := ⟨_, rfl⟩
        rw [← hd2] at e5
        have MA2 := HMA.out d2 wr (by omega) HB.out
        rw [hd2] at MA2
        have HMA2 := Lib.hid MA2
        have HD2 := Lib.hid hd2
        clear MA2 hd2
        go_wp2_with fail
        rw [show (d2 : Int) = ((dv + 2 : Nat) : Int) by rw [HD2.out]]
        refine (HMA2.out).mono ?_
        rintro e w5 ⟨mm, rfl, hm5, hb5⟩
        obtain ⟨mb, mc, rfl⟩ : ∃ mb mc, mm = .slice (some ⟨mb, 0, none⟩) 16 mc := by
          rcases hm5.form with e | ⟨h, c, e⟩
          · exfalso
            obtain ⟨a', c', e', _⟩ := hm5.rd
            rw [e] at e'
            simp only [Value.slice.injEq] at e'
            have := e'.2.1
            rw [bvs_len, (HML.out _).1] at this
            cases this
          · exact ⟨h, c, by rw [e, bvs_len, (HML.out _).1]⟩
        obtain ⟨g', c', cur, e', q1, q2, _⟩ := hm5.out (by intro e; have h0 := congrArg List.length e; rw [bvs_len, (HML.out _).1] at h0; cases h0)
        simp only [Value.slice.injEq, Option.some.injEq, Addr.mk.injEq, and_true] at e'
        obtain ⟨rfl, -⟩ := e'
        have hne : (Value.slice (some ⟨mb, 0, none⟩) 16 mc).ownBlock ≠ (Value.slice s1 s2 s3).ownBlock := by
          intro e
          have := (World.ownsRow.lt HO.out mb (by rw [← e]; rfl)).2
          omega
        have HO5 := Lib.hid (HO.out.below hb5 (Nat.le_refl _))
        have HM5 := Lib.hid (hm5.mono HB.out.size)
        have HB5 := Lib.hid (HB.out.trans (hb5.mono HB.out.size))
        have HNE := Lib.hid hne
        clear hm5 hb5 hne q1 q2 HO HM HB
        have hbs := HB5.out.size
        have hy2 := HM5.out.at.1 0 (.int .u8 (y : Nat)) (by rw [bvs_getD (by rw [(HML.out _).1]; omega), HY.out])
        have hmb : mb < w5.heap.size := (World.ownsRow.lt HM5.out mb rfl).2
        have HY2 := Lib.hid hy2
        have e3 : Int.tmod (i : Int) 16 = 0 := by rw [Int.tmod_eq_emod_of_nonneg (by omega)]; omega
        clear hy2
        go_wp2_with fail

        refine wp_region_tail [fun v _ => v = .slice s1 s2 s3, fun v _ => v = .slice (some ⟨bt, ot, none⟩) n c3, fun v _ => v = .int .i64 (i : Nat), fun v _ => v = .pointer (some ⟨bt, ot + i, none⟩), fun v _ => v = .int .u8 (x : Nat), fun v _ => v = .slice (some ⟨mb, 0, none⟩) 16 mc, fun v _ => v = .int .i64 (i : Nat), fun v _ => v = .int .i64 0, fun v _ => v = .pointer (some ⟨mb, 0, none⟩), fun v _ => v = .int .u8 (y : Nat), fun v _ => v = .int .u8 (z : Nat), fun v w' => ∃ g, v = .slice (some ⟨g, 0, none⟩) 1 1 ∧ Rd w' v [.int .u8 (z : Nat)], fun v w' => Own w' w.heap.size 5 v (bvs (F.take i) ++ [.int .u8 (z : Nat)]) ∧ Below w.heap.size w w' ∧ Own w' w.heap.size 5 (.slice (some ⟨mb, 0, none⟩) 16 mc) (bvs (mk KL N (dv + 2))) ∧ (Value.slice (some ⟨mb, 0, none⟩) 16 mc).ownBlock ≠ v.ownBlock, fun v w' => Own w' w.heap.size 5 v (bvs (F.take i) ++ [.int .u8 (z : Nat)]) ∧ Below w.heap.size w w' ∧ Own w' w.heap.size 5 (.slice (some ⟨mb, 0, none⟩) 16 mc) (bvs (mk KL N (dv + 2))) ∧ (Value.slice (some ⟨mb, 0, none⟩) 16 mc).ownBlock ≠ v.ownBlock]
          [false, false, false, false, false, false, false, false, false, false, false, false, false, true] [false, false, false, false, false, false, false, false, false, false, false, false, false, true] 12 (by kernel_rfl) ?_ (by kernel_rfl) (by kernel_rfl) (by kernel_rfl) ?_ ?_
        · exact keeps_cons (fun _ _ _ h _ => h) (keeps_cons (fun _ _ _ h _ => h) (keeps_cons (fun _ _ _ h _ => h) (keeps_cons (fun _ _ _ h _ => h) (keeps_cons (fun _ _ _ h _ => h) (keeps_cons (fun _ _ _ h _ => h) (keeps_cons (fun _ _ _ h _ => h) (keeps_cons (fun _ _ _ h _ => h) (keeps_cons (fun _ _ _ h _ => h) (keeps_cons (fun _ _ _ h _ => h) (keeps_cons (fun _ _ _ h _ => h) (keeps_cons (fun v w1 w2 h hb => let ⟨g, e, h2⟩ := h; ⟨g, e, h2.below hb (Nat.le_refl _)⟩) (keeps_cons (fun v w1 w2 h hb => ⟨Own.below h.1 hb (Nat.le_refl _), h.2.1.trans (hb.mono h.2.1.size), Own.below h.2.2.1 hb (Nat.le_refl _), h.2.2.2⟩) (keeps_cons (fun v w1 w2 h hb => ⟨Own.below h.1 hb (Nat.le_refl _), h.2.1.trans (hb.mono h.2.1.size), Own.below h.2.2.1 hb (Nat.le_refl _), h.2.2.2⟩) (keeps_nil))))))))))))))
        · refine .cons (owed6_go ?_) (.cons (owed6_go ?_) (.cons (owed6_go ?_) (.cons (owed6_go ?_) (.cons (owed6_go ?_) (.cons (owed6_go ?_) (.cons (owed6_go ?_) (.cons (owed6_go ?_) (.cons (owed6_go ?_) (.cons (owed6_go ?_) (.cons (owed6_go ?_) (.cons (owed6_go ?_) (.cons (owed6_go ?_) (.cons (owed6_go ?_) (.nil))))))))))))))
          · intro a wx hbx ho hf
            refine ⟨rfl, ?_⟩
            intro K hK
            have hbx := hbx rfl
            have e0 : a.tmps[9]?.getD undef = .slice s1 s2 s3 := ho 9 (by kernel_rfl)
            go_simp
            exact hK _ _ rfl (fun _ => Below.refl _ _)
          · intro a wx hbx ho hf
            refine ⟨rfl, ?_⟩
            intro K hK
            have hbx := hbx rfl
            have e0 : a.tmps[2]?.getD undef = .slice (some ⟨bt, ot, none⟩) n c3 := ho 2 (by kernel_rfl)
            go_simp
            exact hK _ _ rfl (fun _ => Below.refl _ _)
          · intro a wx hbx ho hf
            refine ⟨rfl, ?_⟩
            intro K hK
            have hbx := hbx rfl
            have e0 : a.tmps[11]?.getD undef = .int .i64 (i : Nat) := ho 11 (by kernel_rfl)
            go_simp
            exact hK _ _ rfl (fun _ => Below.refl _ _)
          · intro a wx hbx ho hf
            refine ⟨rfl, ?_⟩
            intro K hK
            have hbx := hbx rfl
            have e0 : a.tmps[29]?.getD undef = .slice (some ⟨bt, ot, none⟩) n c3 := hf.1
            have e1 : a.tmps[30]?.getD undef = .int .i64 (i : Nat) := hf.2.1
            go_simp
            exact hK _ _ rfl (fun _ => Below.refl _ _)
          · intro a wx hbx ho hf
            refine ⟨rfl, ?_⟩
            intro K hK
            have hbx := hbx rfl
            have e0 : a.tmps[31]?.getD undef = .pointer (some ⟨bt, ot + i, none⟩) := hf.1
            have d1 := ((HB5.out.trans (hbx.mono hbs)).cell (p := ⟨bt, ot + i, none⟩) l1).trans P1.out
            go_simp
            exact hK _ _ rfl (fun _ => Below.refl _ _)
          · intro a wx hbx ho hf
            refine ⟨rfl, ?_⟩
            intro K hK
            have hbx := hbx rfl
            have e0 : a.tmps[10]?.getD undef = .slice (some ⟨mb, 0, none⟩) 16 mc := ho 10 (by kernel_rfl)
            go_simp
            exact hK _ _ rfl (fun _ => Below.refl _ _)
          · intro a wx hbx ho hf
            refine ⟨rfl, ?_⟩
            intro K hK
            have hbx := hbx rfl
            have e0 : a.tmps[11]?.getD undef = .int .i64 (i : Nat) := ho 11 (by kernel_rfl)
            go_simp
            exact hK _ _ rfl (fun _ => Below.refl _ _)
          · intro a wx hbx ho hf
            refine ⟨rfl, ?_⟩
            intro K hK
            have hbx := hbx rfl
            have e0 : a.tmps[34]?.getD undef = .int .i64 (i : Nat) := hf.1
            have e4 : Int.tmod (i : Int) 16 = 0 := by rw [Int.tmod_eq_emod_of_nonneg (by omega)]; omega
            go_simp
            exact hK _ _ rfl (fun _ => Below.refl _ _)
          · intro a wx hbx ho hf
            refine ⟨rfl, ?_⟩
            intro K hK
            have hbx := hbx rfl
            have e0 : a.tmps[33]?.getD undef = .slice (some ⟨mb, 0, none⟩) 16 mc := hf.1
            have e1 : a.tmps[35]?.getD undef = .int .i64 0 := hf.2.1
            go_simp
            exact hK _ _ rfl (fun _ => Below.refl _ _)
          · intro a wx hbx ho hf
            refine ⟨rfl, ?_⟩
            intro K hK
            have hbx := hbx rfl
            have e0 : a.tmps[36]?.getD undef = .pointer (some ⟨mb, 0, none⟩) := hf.1
            have d1 := (hbx.cell (p := ⟨mb, 0, none⟩) hmb).trans HY2.out
            go_simp
            exact hK _ _ rfl (fun _ => Below.refl _ _)
          · intro a wx hbx ho hf
            refine ⟨rfl, ?_⟩
            intro K hK
            have hbx := hbx rfl
            have e0 : a.tmps[32]?.getD undef = .int .u8 (x : Nat) := hf.1
            have e1 : a.tmps[37]?.getD undef = .int .u8 (y : Nat) := hf.2.1
            go_simp
            exact hK _ _ rfl (fun _ => Below.refl _ _)
          · intro a wx hbx ho hf
            refine ⟨rfl, ?_⟩
            intro K hK
            have hbx := hbx rfl
            have e0 : a.tmps[38]?.getD undef = .int .u8 (z : Nat) := hf.1
            go_simp
            exact hK _ _ ⟨_, rfl, (Own.full (B := wx.heap.size) (cs := #[.int .u8 (z : Nat)]) rfl (Nat.le_refl _) (by unfold maxLen; simp) rfl).rd⟩ (fun _ => (Below.refl _ _).alloc (Nat.le_refl _) _)
          · intro a wx hbx ho hf
            refine ⟨rfl, ?_⟩
            intro K hK
            have hbx := hbx rfl
            have e0 : a.tmps[28]?.getD undef = .slice s1 s2 s3 := hf.1
            obtain ⟨ga, hv1, o1⟩ : ∃ g, a.tmps[39]?.getD undef = .slice (some ⟨g, 0, none⟩) 1 1 ∧ Rd wx (a.tmps[39]?.getD undef) [.int .u8 (z : Nat)] := hf.2.1
            rw [hv1] at o1
            refine wp_app3 (.tmp 28) (.tmp 39) 28 rfl w.heap.size 5 _ 1 bytesE _ (bvs (F.take i)) (evs e0) (HO5.out.below hbx (Nat.le_refl _)) _ [.int .u8 (z : Nat)] (evs hv1) o1 ?_ ?_ ?_ ?_
            · intro u hu; simp at hu; subst hu; rfl
            · rw [bvs_len, List.length_take]; simp; omega
            · exact Nat.le_trans hbs hbx.size
            · intro v' w4 hown4 hg4 hb4 hnear
              refine hK _ _ ⟨hown4, (HB5.out.trans (hbx.mono hbs)).trans hb4, World.ownsRow.kept (HM5.out.below hbx (Nat.le_refl _)) hg4 (.inr HNE.out), ?_⟩ (fun hne => absurd rfl hne)
              show (Value.slice (some ⟨mb, 0, none⟩) 16 mc).ownBlock ≠ v'.ownBlock
              rcases hnear with h | ⟨g, h, hg⟩
              · rw [h]; exact HNE.out
              · rw [h]
                intro e
                simp only [Value.ownBlock, Option.some.injEq] at e
                have := hbx.size
                omega
          · rintro a wx - ho hf
            refine ⟨rfl, ?_⟩
            intro K hK
            have o0 : Own wx w.heap.size 5 (a.tmps[40]?.getD undef) (bvs (F.take i) ++ [.int .u8 (z : Nat)]) ∧ Below w.heap.size w wx ∧ Own wx w.heap.size 5 (.slice (some ⟨mb, 0, none⟩) 16 mc) (bvs (mk KL N (dv + 2))) ∧ (Value.slice (some ⟨mb, 0, none⟩) 16 mc).ownBlock ≠ (a.tmps[40]?.getD undef).ownBlock := hf.1
            obtain ⟨v0, hv0⟩ : ∃ v, v = a.tmps[40]?.getD undef := ⟨_, rfl⟩
            rw [← hv0] at o0
            have e0 := hv0.symm
            clear hv0
            go_simp
            exact hK _ _ o0 (fun _ => Below.refl _ _)
        · rintro f w9 hfin
          have S9 : Own w9 w.heap.size 5 (f 9) (bvs (F.take i) ++ [.int .u8 (z : Nat)]) ∧ Below w.heap.size w w9 ∧ Own w9 w.heap.size 5 (.slice (some ⟨mb, 0, none⟩) 16 mc) (bvs (mk KL N (dv + 2))) ∧ (Value.slice (some ⟨mb, 0, none⟩) 16 mc).ownBlock ≠ (f 9).ownBlock := hfin.2.2.2.2.2.2.2.2.2.2.2.2.2.1
          clear hfin
          simp only [frameOf, dstsOf, zipF, List.filterMap_cons, List.filterMap_nil, List.contains_cons, List.contains_nil, Nat.reduceBEq, Nat.reduceAdd, Bool.or_false, Bool.or_true, cond_true, cond_false]
          obtain ⟨u, hu⟩ : ∃ u, u = f 9 := ⟨_, rfl⟩
          rw [← hu] at S9 ⊢
          have HS9 := Lib.hid S9
          clear S9 hu
          go_wp2_with fail
          go_roundg (gk - 1)
          case measure => have := HI.out; omega
          case rel =>
            refine ⟨i + 1, by have := HI.out; omega, by go_num, by rw [HST.out, bvs_snoc1]; exact HS9.out.1, ⟨_, _, _, rfl⟩, fun _ => ?_, HS9.out.2.1⟩
            rw [show (i + 1) / 16 = dv by have := HR.out; have := HDV.out; omega]
            exact ⟨HS9.out.2.2.1, HS9.out.2.2.2⟩
      · obtain ⟨hmo, hne⟩ := HM.out (by rw [← HR.out]; exact hr0)
        rw [← HDV.out] at hmo
        obtain ⟨mb, mc, e⟩ : ∃ mb mc, (Value.slice m1 m2 m3) = .slice (some ⟨mb, 0, none⟩) 16 mc := by
          rcases hmo.form with e | ⟨h, c, e⟩
          · exfalso
            obtain ⟨a', c', e', _⟩ := hmo.rd
            rw [e] at e'
            simp only [Value.slice.injEq] at e'
            have := e'.2.1
            rw [bvs_len, (HML.out _).1] at this
            cases this
          · exact ⟨h, c, by rw [e, bvs_len, (HML.out _).1]⟩
        simp only [Value.slice.injEq] at e
        obtain ⟨rfl, rfl, rfl⟩ := e
        obtain ⟨mc, rfl⟩ : ∃ mc, mc = m3 := ⟨_, rfl⟩
        have HO5 := HO
        have HM5 := Lib.hid hmo
        have HB5 := HB
        have HNE := Lib.hid hne
        clear hmo hne HM HO HB
        obtain ⟨w5, rfl⟩ : ∃ w5, w5 = wr := ⟨_, rfl⟩
        have hbs := HB5.out.size
        have hy2 := HM5.out.at.1 r (.int .u8 (y : Nat)) (by rw [bvs_getD (by rw [(HML.out _).1]; omega), HY.out])
        have hmb : mb < w5.heap.size := (World.ownsRow.lt HM5.out mb rfl).2
        have HY2 := Lib.hid hy2
        have hrI : ((r : Int) == 0) = false := by rw [beq_eq_false_iff_ne]; omega
        clear hy2
        go_wp2_with fail
        refine wp_region_tail [fun v _ => v = .slice s1 s2 s3, fun v _ => v = .slice (some ⟨bt, ot, none⟩) n c3, fun v _ => v = .int .i64 (i : Nat), fun v _ => v = .pointer (some ⟨bt, ot + i, none⟩), fun v _ => v = .int .u8 (x : Nat), fun v _ => v = .slice (some ⟨mb, 0, none⟩) 16 mc, fun v _ => v = .int .i64 (i : Nat), fun v _ => v = .int .i64 (r : Nat), fun v _ => v = .pointer (some ⟨mb, r, none⟩), fun v _ => v = .int .u8 (y : Nat), fun v _ => v = .int .u8 (z : Nat), fun v w' => ∃ g, v = .slice (some ⟨g, 0, none⟩) 1 1 ∧ Rd w' v [.int .u8 (z : Nat)], fun v w' => Own w' w.heap.size 5 v (bvs (F.take i) ++ [.int .u8 (z : Nat)]) ∧ Below w.heap.size w w' ∧ Own w' w.heap.size 5 (.slice (some ⟨mb, 0, none⟩) 16 mc) (bvs (mk KL N (dv + 2))) ∧ (Value.slice (some ⟨mb, 0, none⟩) 16 mc).ownBlock ≠ v.ownBlock, fun v w' => Own w' w.heap.size 5 v (bvs (F.take i) ++ [.int .u8 (z : Nat)]) ∧ Below w.heap.size w w' ∧ Own w' w.heap.size 5 (.slice (some ⟨mb, 0, none⟩) 16 mc) (bvs (mk KL N (dv + 2))) ∧ (Value.slice (some ⟨mb, 0, none⟩) 16 mc).ownBlock ≠ v.ownBlock]
          [false, false, false, false, false, false, false, false, false, false, false, false, false, true] [false, false, false, false, false, false, false, false, false, false, false, false, false, true] 12 (by kernel_rfl) ?_ (by kernel_rfl) (by kernel_rfl) (by kernel_rfl) ?_ ?_
        · exact keeps_cons (fun _ _ _ h _ => h) (keeps_cons (fun _ _ _ h _ => h) (keeps_cons (fun _ _ _ h _ => h) (keeps_cons (fun _ _ _ h _ => h) (keeps_cons (fun _ _ _ h _ => h) (keeps_cons (fun _ _ _ h _ => h) (keeps_cons (fun _ _ _ h _ => h) (keeps_cons (fun _ _ _ h _ => h) (keeps_cons (fun _ _ _ h _ => h) (keeps_cons (fun _ _ _ h _ => h) (keeps_cons (fun _ _ _ h _ => h) (keeps_cons (fun v w1 w2 h hb => let ⟨g, e, h2⟩ := h; ⟨g, e, h2.below hb (Nat.le_refl _)⟩) (keeps_cons (fun v w1 w2 h hb => ⟨Own.below h.1 hb (Nat.le_refl _), h.2.1.trans (hb.mono h.2.1.size), Own.below h.2.2.1 hb (Nat.le_refl _), h.2.2.2⟩) (keeps_cons (fun v w1 w2 h hb => ⟨Own.below h.1 hb (Nat.le_refl _), h.2.1.trans (hb.mono h.2.1.size), Own.below h.2.2.1 hb (Nat.le_refl _), h.2.2.2⟩) (keeps_nil))))))))))))))
        · refine .cons (owed6_go ?_) (.cons (owed6_go ?_) (.cons (owed6_go ?_) (.cons (owed6_go ?_) (.cons (owed6_go ?_) (.cons (owed6_go ?_) (.cons (owed6_go ?_) (.cons (owed6_go ?_) (.cons (owed6_go ?_) (.cons (owed6_go ?_) (.cons (owed6_go ?_) (.cons (owed6_go ?_) (.cons (owed6_go ?_) (.cons (owed6_go ?_) (.nil))))))))))))))
          · intro a wx hbx ho hf
            refine ⟨rfl, ?_⟩
            intro K hK
            have hbx := hbx rfl
            have e0 : a.tmps[9]?.getD undef = .slice s1 s2 s3 := ho 9 (by kernel_rfl)
            go_simp
            exact hK _ _ rfl (fun _ => Below.refl _ _)
          · intro a wx hbx ho hf
            refine ⟨rfl, ?_⟩
            intro K hK
            have hbx := hbx rfl
            have e0 : a.tmps[2]?.getD undef = .slice (some ⟨bt, ot, none⟩) n c3 := ho 2 (by kernel_rfl)
            go_simp
            exact hK _ _ rfl (fun _ => Below.refl _ _)
          · intro a wx hbx ho hf
            refine ⟨rfl, ?_⟩
            intro K hK
            have hbx := hbx rfl
            have e0 : a.tmps[11]?.getD undef = .int .i64 (i : Nat) := ho 11 (by kernel_rfl)
            go_simp
            exact hK _ _ rfl (fun _ => Below.refl _ _)
          · intro a wx hbx ho hf
            refine ⟨rfl, ?_⟩
            intro K hK
            have hbx := hbx rfl
            have e0 : a.tmps[29]?.getD undef = .slice (some ⟨bt, ot, none⟩) n c3 := hf.1
            have e1 : a.tmps[30]?.getD undef = .int .i64 (i : Nat) := hf.2.1
            go_simp
            exact hK _ _ rfl (fun _ => Below.refl _ _)
          · intro a wx hbx ho hf
            refine ⟨rfl, ?_⟩
            intro K hK
            have hbx := hbx rfl
            have e0 : a.tmps[31]?.getD undef = .pointer (some ⟨bt, ot + i, none⟩) := hf.1
            have d1 := ((HB5.out.trans (hbx.mono hbs)).cell (p := ⟨bt, ot + i, none⟩) l1).trans P1.out
            go_simp
            exact hK _ _ rfl (fun _ => Below.refl _ _)
          · intro a wx hbx ho hf
            refine ⟨rfl, ?_⟩
            intro K hK
            have hbx := hbx rfl
            have e0 : a.tmps[10]?.getD undef = .slice (some ⟨mb, 0, none⟩) 16 mc := ho 10 (by kernel_rfl)
            go_simp
            exact hK _ _ rfl (fun _ => Below.refl _ _)
          · intro a wx hbx ho hf
            refine ⟨rfl, ?_⟩
            intro K hK
            have hbx := hbx rfl
            have e0 : a.tmps[11]?.getD undef = .int .i64 (i : Nat) := ho 11 (by kernel_rfl)
            go_simp
            exact hK _ _ rfl (fun _ => Below.refl _ _)
          · intro a wx hbx ho hf
            refine ⟨rfl, ?_⟩
            intro K hK
            have hbx := hbx rfl
            have e0 : a.tmps[34]?.getD undef = .int .i64 (i : Nat) := hf.1
            have e4 : Int.tmod (i : Int) 16 = (r : Int) := by rw [Int.tmod_eq_emod_of_nonneg (by omega)]; omega
            go_simp
            exact hK _ _ rfl (fun _ => Below.refl _ _)
          · intro a wx hbx ho hf
            refine ⟨rfl, ?_⟩
            intro K hK
            have hbx := hbx rfl
            have e0 : a.tmps[33]?.getD undef = .slice (some ⟨mb, 0, none⟩) 16 mc := hf.1
            have e1 : a.tmps[35]?.getD undef = .int .i64 (r : Nat) := hf.2.1
            go_simp
            rw [if_pos (show (r : Int) < 16 by omega)]
            go_simp
            exact hK _ _ rfl (fun _ => Below.refl _ _)
          · intro a wx hbx ho hf
            refine ⟨rfl, ?_⟩
            intro K hK
            have hbx := hbx rfl
            have e0 : a.tmps[36]?.getD undef = .pointer (some ⟨mb, r, none⟩) := hf.1
            have d1 := (hbx.cell (p := ⟨mb, r, none⟩) hmb).trans HY2.out
            go_simp
            exact hK _ _ rfl (fun _ => Below.refl _ _)
          · intro a wx hbx ho hf
            refine ⟨rfl, ?_⟩
            intro K hK
            have hbx := hbx rfl
            have e0 : a.tmps[32]?.getD undef = .int .u8 (x : Nat) := hf.1
            have e1 : a.tmps[37]?.getD undef = .int .u8 (y : Nat) := hf.2.1
            go_simp
            exact hK _ _ rfl (fun _ => Below.refl _ _)
          · intro a wx hbx ho hf
            refine ⟨rfl, ?_⟩
            intro K hK
            have hbx := hbx rfl
            have e0 : a.tmps[38]?.getD undef = .int .u8 (z : Nat) := hf.1
            go_simp
            exact hK _ _ ⟨_, rfl, (Own.full (B := wx.heap.size) (cs := #[.int .u8 (z : Nat)]) rfl (Nat.le_refl _) (by unfold maxLen; simp) rfl).rd⟩ (fun _ => (Below.refl _ _).alloc (Nat.le_refl _) _)
          · intro a wx hbx ho hf
            refine ⟨rfl, ?_⟩
            intro K hK
            have hbx := hbx rfl
            have e0 : a.tmps[28]?.getD undef = .slice s1 s2 s3 := hf.1
            obtain ⟨ga, hv1, o1⟩ : ∃ g, a.tmps[39]?.getD undef = .slice (some ⟨g, 0, none⟩) 1 1 ∧ Rd wx (a.tmps[39]?.getD undef) [.int .u8 (z : Nat)] := hf.2.1
            rw [hv1] at o1
            refine wp_app3 (.tmp 28) (.tmp 39) 28 rfl w.heap.size 5 _ 1 bytesE _ (bvs (F.take i)) (evs e0) (HO5.out.below hbx (Nat.le_refl _)) _ [.int .u8 (z : Nat)] (evs hv1) o1 ?_ ?_ ?_ ?_
            · intro u hu; simp at hu; subst hu; rfl
            · rw [bvs_len, List.length_take]; simp; omega
            · exact Nat.le_trans hbs hbx.size
            · intro v' w4 hown4 hg4 hb4 hnear
              refine hK _ _ ⟨hown4, (HB5.out.trans (hbx.mono hbs)).trans hb4, World.ownsRow.kept (HM5.out.below hbx (Nat.le_refl _)) hg4 (.inr HNE.out), ?_⟩ (fun hne => absurd rfl hne)
              show (Value.slice (some ⟨mb, 0, none⟩) 16 mc).ownBlock ≠ v'.ownBlock
              rcases hnear with h | ⟨g, h, hg⟩
              · rw [h]; exact HNE.out
              · rw [h]
                intro e
                simp only [Value.ownBlock, Option.some.injEq] at e
                have := hbx.size
                omega
          · rintro a wx - ho hf
            refine ⟨rfl, ?_⟩
            intro K hK
            have o0 : Own wx w.heap.size 5 (a.tmps[40]?.getD undef) (bvs (F.take i) ++ [.int .u8 (z : Nat)]) ∧ Below w.heap.size w wx ∧ Own wx w.heap.size 5 (.slice (some ⟨mb, 0, none⟩) 16 mc) (bvs (mk KL N (dv + 2))) ∧ (Value.slice (some ⟨mb, 0, none⟩) 16 mc).ownBlock ≠ (a.tmps[40]?.getD undef).ownBlock := hf.1
            obtain ⟨v0, hv0⟩ : ∃ v, v = a.tmps[40]?.getD undef := ⟨_, rfl⟩
            rw [← hv0] at o0
            have e0 := hv0.symm
            clear hv0
            go_simp
            exact hK _ _ o0 (fun _ => Below.refl _ _)
        · rintro f w9 hfin
          have S9 : Own w9 w.heap.size 5 (f 9) (bvs (F.take i) ++ [.int .u8 (z : Nat)]) ∧ Below w.heap.size w w9 ∧ Own w9 w.heap.size 5 (.slice (some ⟨mb, 0, none⟩) 16 mc) (bvs (mk KL N (dv + 2))) ∧ (Value.slice (some ⟨mb, 0, none⟩) 16 mc).ownBlock ≠ (f 9).ownBlock := hfin.2.2.2.2.2.2.2.2.2.2.2.2.2.1
          clear hfin
          simp only [frameOf, dstsOf, zipF, List.filterMap_cons, List.filterMap_nil, List.contains_cons, List.contains_nil, Nat.reduceBEq, Nat.reduceAdd, Bool.or_false, Bool.or_true, cond_true, cond_false]
          obtain ⟨u, hu⟩ : ∃ u, u = f 9 := ⟨_, rfl⟩
          rw [← hu] at S9 ⊢
          have HS9 := Lib.hid S9
          clear S9 hu
          go_wp2_with fail
          go_roundg (gk - 1)
          case measure => have := HI.out; omega
          case rel =>
            refine ⟨i + 1, by have := HI.out; omega, by go_num, by rw [HST.out, bvs_snoc1]; exact HS9.out.1, ⟨_, _, _, rfl⟩, fun h => ?_, HS9.out.2.1⟩
            rw [show (i + 1) / 16 = dv by have := HR.out; have := HDV.out; omega]
            exact ⟨HS9.out.2.2.1, HS9.out.2.2.2⟩
    · obtain rfl : i = n := by have := HI.out; omega
      clear hown
      go_wp2_with fail
      go_ret
      refine ⟨_, rfl, ?_, HB.out⟩
      have := HO.out
      rw [List.take_of_length_le (by omega)] at this
      exact this
end Go.Proofs.Ytfpjpakjlhidkaa
