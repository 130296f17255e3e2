/- Walks: the reference's xor, mask, Masked, filled, bits. -/
import Derived.Test.YtfpjpakjlhidkaaGcmRefT
import Derived.Test.YtfpjpakjlhidkaaGcmSeal
import Derived.Test.YtfpjpakjlhidkaaOnceTail
import Derived.Test.YtfpjpakjlhidkaaRegionApp
import Derived.Test.YtfpjpakjlhidkaaAppWhere
namespace Go.Proofs.Ytfpjpakjlhidkaa
open Go.RowKit AesM GcmM GcmB
set_option linter.unusedVariables false
/-- two lists held against one another -/
def xorL (A B : List Nat) (n : Nat) : List Nat := (List.range n).map fun j => A.getD j 0 ^^^ B.getD j 0
theorem xorL_len (A B : List Nat) (n : Nat) : (xorL A B n).length = n := by simp only [xorL, List.length_map, List.length_range]
theorem xorL_succ (A B : List Nat) (n : Nat) : xorL A B (n + 1) = xorL A B n ++ [A.getD n 0 ^^^ B.getD n 0] := by simp [xorL, List.range_succ]
theorem xorL_lt {A B : List Nat} (hA : ∀ x ∈ A, x < 256) (hB : ∀ x ∈ B, x < 256) (n : Nat) : ∀ x ∈ xorL A B n, x < 256 := by
  intro x hx
  obtain ⟨j, _, rfl⟩ := List.mem_map.1 hx
  exact Nat.xor_lt_two_pow (n := 8) (getD_lt hA (by omega) _) (getD_lt hB (by omega) _)
theorem bvs_snoc1 (L : List Nat) (n : Nat) : bvs (L ++ [n]) = bvs L ++ [.int .u8 (n : Int)] := by simp [bvs]
set_option maxRecDepth 100000 in
set_option maxHeartbeats 2000000 in
theorem rxor_any (v1 v2 : Value) (A B : List Nat) (w : World) (h1 : Rd w v1 (bvs A)) (h2 : Rd w v2 (bvs B)) (hA : ∀ x ∈ A, x < 256) (hB : ∀ x ∈ B, x < 256) (hl : A.length = B.length) (hn : A.length ≤ 100000) :
    Calls Try.prog 41 #[v1, v2] w fun e w' => ∃ u, e = .returned u ∧ Own w' w.heap.size 5 u (bvs (xorL A B A.length)) ∧ Below w.heap.size w w' := by
  have hv1 : ∃ a c, v1 = .slice a A.length c := by obtain ⟨a, c, e, _⟩ := h1; exact ⟨a, c, by rw [e, bvs_len]⟩
  have hv2 : ∃ a c, v2 = .slice a A.length c := by obtain ⟨a, c, e, _⟩ := h2; exact ⟨a, c, by rw [e, bvs_len, hl]⟩
  obtain ⟨a1, c1, rfl⟩ := hv1
  obtain ⟨a2, c2, rfl⟩ := hv2
  have G1 := fun (i : Nat) (hi : i < A.length) => h1.get3 (bvs_getD (L := A) (i := i) hi)
  have G2 := fun (i : Nat) (hi : i < A.length) => h2.get3 (bvs_getD (L := B) (i := i) (by omega))
  obtain ⟨n, hn'⟩ : ∃ n, n = A.length := ⟨_, rfl⟩
  rw [← hn'] at hn G1 G2 ⊢
  have HG1 := Lib.hid G1
  have HG2 := Lib.hid G2
  clear G1 G2 h1 h2 hl hn'
  go_enter Try.func41, Try.ntmps41
  go_wp2_with fail
  go_loopg [5, 6] n (fun q ov iv wr => ∃ i : Nat, i + q = n ∧ iv = .int .i64 (i : Nat) ∧ Own wr w.heap.size 5 ov (bvs (xorL A B i)) ∧ Below w.heap.size w wr)
  case atStart => exact ⟨0, by omega, rfl, Own.nil _ _ _, Below.refl _ _⟩
  case round =>
    obtain ⟨i, hi, rfl, hown, hb⟩ := hrel
    have HI := Lib.hid hi
    have HO := Lib.hid hown
    have HB := Lib.hid hb
    clear hi hb
    obtain ⟨s1, s2, s3, rfl⟩ := slOf hown
    by_cases hlt : i < n
    · have hlt' : decide ((i : Int) < (n : Int)) = true := by rw [decide_eq_true_iff]; omega
      obtain ⟨b1, o1, rfl, l1, p1⟩ := HG1.out i hlt
      obtain ⟨b2, o2, rfl, l2, p2⟩ := HG2.out i hlt
      obtain ⟨x, hx⟩ : ∃ x, x = A.getD i 0 := ⟨_, rfl⟩
      obtain ⟨y, hy⟩ : ∃ y, y = B.getD i 0 := ⟨_, rfl⟩
      have x1 : x < 256 := by rw [hx]; exact getD_lt hA (by omega) _
      have y1 : y < 256 := by rw [hy]; exact getD_lt hB (by omega) _
      have hxy := u8_xor_nat x y x1 y1
      have HST := Lib.hid (show xorL A B (i + 1) = xorL A B i ++ [x ^^^ y] by rw [xorL_succ, hx, hy])
      rw [← hx] at p1
      rw [← hy] at p2
      have P1 := Lib.hid p1
      have P2 := Lib.hid p2
      obtain ⟨z, hz⟩ : ∃ z, z = x ^^^ y := ⟨_, rfl⟩
      rw [← hz] at hxy HST
      have hbs := HB.out.size
      clear hx hy hz p1 p2 hown
      go_wp2_with fail
      refine wp_region_tail [fun v _ => v = .slice s1 s2 s3, fun v _ => v = .slice (some ⟨b1, o1, none⟩) n c1, fun v _ => v = .int .i64 (i : Nat), fun v _ => v = .pointer (some ⟨b1, o1 + i, none⟩), fun v _ => v = .int .u8 (x : Nat), fun v _ => v = .slice (some ⟨b2, o2, none⟩) n c2, fun v _ => v = .int .i64 (i : Nat), fun v _ => v = .pointer (some ⟨b2, o2 + i, none⟩), fun v _ => v = .int .u8 (y : Nat), fun v _ => v = .int .u8 (z : Nat), fun v w' => ∃ g, v = .slice (some ⟨g, 0, none⟩) 1 1 ∧ Rd w' v [.int .u8 (z : Nat)], fun v w' => Own w' w.heap.size 5 v (bvs (xorL A B i) ++ [.int .u8 (z : Nat)]) ∧ Below w.heap.size w w', fun v w' => Own w' w.heap.size 5 v (bvs (xorL A B i) ++ [.int .u8 (z : Nat)]) ∧ Below w.heap.size w w']
        [false, false, false, false, false, false, false, false, false, false, false, false, true] [false, false, false, false, false, false, false, false, false, false, false, false, true] 11 (by kernel_rfl) ?_ (by kernel_rfl) (by kernel_rfl) (by kernel_rfl) ?_ ?_
      · exact keeps_cons (fun _ _ _ h _ => h) (keeps_cons (fun _ _ _ h _ => h) (keeps_cons (fun _ _ _ h _ => h) (keeps_cons (fun _ _ _ h _ => h) (keeps_cons (fun _ _ _ h _ => h) (keeps_cons (fun _ _ _ h _ => h) (keeps_cons (fun _ _ _ h _ => h) (keeps_cons (fun _ _ _ h _ => h) (keeps_cons (fun _ _ _ h _ => h) (keeps_cons (fun _ _ _ h _ => h) (keeps_cons (fun v w1 w2 h hb => let ⟨g, e, h2⟩ := h; ⟨g, e, h2.below hb (Nat.le_refl _)⟩) (keeps_cons (fun v w1 w2 h hb => ⟨Own.below h.1 hb (Nat.le_refl _), h.2.trans (hb.mono h.2.size)⟩) (keeps_cons (fun v w1 w2 h hb => ⟨Own.below h.1 hb (Nat.le_refl _), h.2.trans (hb.mono h.2.size)⟩) (keeps_nil)))))))))))))
      · refine .cons (owed6_go ?_) (.cons (owed6_go ?_) (.cons (owed6_go ?_) (.cons (owed6_go ?_) (.cons (owed6_go ?_) (.cons (owed6_go ?_) (.cons (owed6_go ?_) (.cons (owed6_go ?_) (.cons (owed6_go ?_) (.cons (owed6_go ?_) (.cons (owed6_go ?_) (.cons (owed6_go ?_) (.cons (owed6_go ?_) (.nil)))))))))))))
        · intro a wx hbx ho hf
          refine ⟨rfl, ?_⟩
          intro K hK
          have hbx := hbx rfl
          have e0 : a.tmps[5]?.getD undef = .slice s1 s2 s3 := ho 5 (by kernel_rfl)
          go_simp
          exact hK _ _ rfl (fun _ => Below.refl _ _)
        · intro a wx hbx ho hf
          refine ⟨rfl, ?_⟩
          intro K hK
          have hbx := hbx rfl
          have e0 : a.tmps[0]?.getD undef = .slice (some ⟨b1, o1, none⟩) n c1 := ho 0 (by kernel_rfl)
          go_simp
          exact hK _ _ rfl (fun _ => Below.refl _ _)
        · intro a wx hbx ho hf
          refine ⟨rfl, ?_⟩
          intro K hK
          have hbx := hbx rfl
          have e0 : a.tmps[6]?.getD undef = .int .i64 (i : Nat) := ho 6 (by kernel_rfl)
          go_simp
          exact hK _ _ rfl (fun _ => Below.refl _ _)
        · intro a wx hbx ho hf
          refine ⟨rfl, ?_⟩
          intro K hK
          have hbx := hbx rfl
          have e0 : a.tmps[14]?.getD undef = .slice (some ⟨b1, o1, none⟩) n c1 := hf.1
          have e1 : a.tmps[15]?.getD undef = .int .i64 (i : Nat) := hf.2.1
          go_simp
          exact hK _ _ rfl (fun _ => Below.refl _ _)
        · intro a wx hbx ho hf
          refine ⟨rfl, ?_⟩
          intro K hK
          have hbx := hbx rfl
          have e0 : a.tmps[16]?.getD undef = .pointer (some ⟨b1, o1 + i, none⟩) := hf.1
          have d1 := ((HB.out.trans (hbx.mono hbs)).cell (p := ⟨b1, o1 + i, none⟩) l1).trans P1.out
          go_simp
          exact hK _ _ rfl (fun _ => Below.refl _ _)
        · intro a wx hbx ho hf
          refine ⟨rfl, ?_⟩
          intro K hK
          have hbx := hbx rfl
          have e0 : a.tmps[1]?.getD undef = .slice (some ⟨b2, o2, none⟩) n c2 := ho 1 (by kernel_rfl)
          go_simp
          exact hK _ _ rfl (fun _ => Below.refl _ _)
        · intro a wx hbx ho hf
          refine ⟨rfl, ?_⟩
          intro K hK
          have hbx := hbx rfl
          have e0 : a.tmps[6]?.getD undef = .int .i64 (i : Nat) := ho 6 (by kernel_rfl)
          go_simp
          exact hK _ _ rfl (fun _ => Below.refl _ _)
        · intro a wx hbx ho hf
          refine ⟨rfl, ?_⟩
          intro K hK
          have hbx := hbx rfl
          have e0 : a.tmps[18]?.getD undef = .slice (some ⟨b2, o2, none⟩) n c2 := hf.1
          have e1 : a.tmps[19]?.getD undef = .int .i64 (i : Nat) := hf.2.1
          go_simp
          exact hK _ _ rfl (fun _ => Below.refl _ _)
        · intro a wx hbx ho hf
          refine ⟨rfl, ?_⟩
          intro K hK
          have hbx := hbx rfl
          have e0 : a.tmps[20]?.getD undef = .pointer (some ⟨b2, o2 + i, none⟩) := hf.1
          have d1 := ((HB.out.trans (hbx.mono hbs)).cell (p := ⟨b2, o2 + i, none⟩) l2).trans P2.out
          go_simp
          exact hK _ _ rfl (fun _ => Below.refl _ _)
        · intro a wx hbx ho hf
          refine ⟨rfl, ?_⟩
          intro K hK
          have hbx := hbx rfl
          have e0 : a.tmps[17]?.getD undef = .int .u8 (x : Nat) := hf.1
          have e1 : a.tmps[21]?.getD undef = .int .u8 (y : Nat) := hf.2.1
          go_simp
          exact hK _ _ rfl (fun _ => Below.refl _ _)
        · intro a wx hbx ho hf
          refine ⟨rfl, ?_⟩
          intro K hK
          have hbx := hbx rfl
          have e0 : a.tmps[22]?.getD undef = .int .u8 (z : Nat) := hf.1
          go_simp
          exact hK _ _ ⟨_, rfl, (Own.full (B := wx.heap.size) (cs := #[.int .u8 (z : Nat)]) rfl (Nat.le_refl _) (by unfold maxLen; simp) rfl).rd⟩ (fun _ => (Below.refl _ _).alloc (Nat.le_refl _) _)
        · intro a wx hbx ho hf
          refine ⟨rfl, ?_⟩
          intro K hK
          have hbx := hbx rfl
          have e0 : a.tmps[13]?.getD undef = .slice s1 s2 s3 := hf.1
          obtain ⟨ga, hv1, o1⟩ : ∃ g, a.tmps[23]?.getD undef = .slice (some ⟨g, 0, none⟩) 1 1 ∧ Rd wx (a.tmps[23]?.getD undef) [.int .u8 (z : Nat)] := hf.2.1
          rw [hv1] at o1
          refine wp_app (.tmp 13) (.tmp 23) 28 rfl w.heap.size 5 _ 1 bytesE _ (bvs (xorL A B i)) (evs e0) (HO.out.below hbx (Nat.le_refl _)) _ [.int .u8 (z : Nat)] (evs hv1) o1 ?_ ?_ ?_ ?_
          · intro u hu; simp at hu; subst hu; rfl
          · rw [bvs_len, xorL_len]; simp; omega
          · exact Nat.le_trans hbs hbx.size
          · intro v' w4 hown4 hb4
            exact hK _ _ ⟨hown4, (HB.out.trans (hbx.mono hbs)).trans hb4⟩ (fun hne => absurd rfl hne)
        · rintro a wx - ho hf
          refine ⟨rfl, ?_⟩
          intro K hK
          have o0 : Own wx w.heap.size 5 (a.tmps[24]?.getD undef) (bvs (xorL A B i) ++ [.int .u8 (z : Nat)]) ∧ Below w.heap.size w wx := hf.1
          obtain ⟨v0, hv0⟩ : ∃ v, v = a.tmps[24]?.getD undef := ⟨_, rfl⟩
          rw [← hv0] at o0
          have e0 := hv0.symm
          clear hv0
          go_simp
          exact hK _ _ o0 (fun _ => Below.refl _ _)
      · rintro f w9 hfin
        have S9 : Own w9 w.heap.size 5 (f 5) (bvs (xorL A B i) ++ [.int .u8 (z : Nat)]) ∧ Below w.heap.size w w9 := hfin.2.2.2.2.2.2.2.2.2.2.2.2.1
        clear hfin
        simp only [frameOf, dstsOf, zipF, List.filterMap_cons, List.filterMap_nil, List.contains_cons, List.contains_nil, Nat.reduceBEq, Nat.reduceAdd, Bool.or_false, Bool.or_true, cond_true, cond_false]
        obtain ⟨u, hu⟩ : ∃ u, u = f 5 := ⟨_, rfl⟩
        rw [← hu] at S9 ⊢
        have HS9 := Lib.hid S9.1
        have HB9 := Lib.hid S9.2
        clear S9 hu
        go_wp2_with fail
        go_roundg (gk - 1)
        case measure => have := HI.out; omega
        case rel => exact ⟨i + 1, by have := HI.out; omega, by go_num, by rw [HST.out, bvs_snoc1]; exact HS9.out, HB9.out⟩
    · obtain rfl : i = n := by have := HI.out; omega
      clear hown
      go_wp2_with fail
      go_ret
      exact ⟨_, rfl, HO.out, HB.out⟩

theorem mk_small (K N : List Nat) (n : Nat) (hn : n < 65536) : N ++ [0, 0, n / 256, n % 256] = N ++ beN 4 n := by
  rw [be4, show n / 16777216 % 256 = 0 by omega, show n / 65536 % 256 = 0 by omega, show n / 256 % 256 = n / 256 by omega]
set_option maxRecDepth 100000 in
set_option maxHeartbeats 2000000 in
theorem rmask_any (v1 v2 bx : Value) (K N : List Nat) (n : Nat) (w : World) (h1 : Rd w v1 (bvs K)) (h2 : Rd w v2 (bvs N)) (hb : Rd w bx (nvs boxL)) (hK : ∀ x ∈ K, x < 256) (hN : ∀ x ∈ N, x < 256) (lk : K.length = 16) (ln : N.length = 12) (hn : n < 65536) :
    Calls Try.prog 42 #[v1, v2, .int .i64 (n : Nat), bx] w fun e w' => ∃ u, e = .returned u ∧ Own w' w.heap.size 5 u (bvs (mk K N n)) ∧ Below w.heap.size w w' := by
  have BL := fun (u : Value) (w' : World) (hw : Below w.heap.size w w') (hu : Rd w' u (bvs (N ++ beN 4 n))) => rblock_any v1 u bx K (N ++ beN 4 n) w' (h1.below hw (Nat.le_refl _)) hu (hb.below hw (Nat.le_refl _)) hK (by
    intro x hx
    rcases List.mem_append.1 hx with hx | hx
    · exact hN x hx
    · exact beN_lt _ _ x hx) lk (by rw [List.length_append, ln, beN_len])
  have hv1 : ∃ a b c, v1 = .slice a b c := by obtain ⟨a, c, e, _⟩ := h1; exact ⟨a, _, c, e⟩
  have hv2 : ∃ a b c, v2 = .slice a b c := by obtain ⟨a, c, e, _⟩ := h2; exact ⟨a, _, c, e⟩
  have hv3 : ∃ a b c, bx = .slice a b c := by obtain ⟨a, c, e, _⟩ := hb; exact ⟨a, _, c, e⟩
  obtain ⟨a1, b1, c1, rfl⟩ := hv1
  obtain ⟨a2, b2, c2, rfl⟩ := hv2
  obtain ⟨a3, b3, c3, rfl⟩ := hv3
  have hms := mk_small K N n hn
  obtain ⟨x, hx⟩ : ∃ x, x = n / 256 := ⟨_, rfl⟩
  obtain ⟨y, hy⟩ : ∃ y, y = n % 256 := ⟨_, rfl⟩
  rw [← hx, ← hy] at hms
  have e1 : (n : Int) / 256 = (x : Int) := by omega
  have e2 : (n : Int) % 256 = (y : Int) := by omega
  have q1 : IntKind.u8.wrap (x : Int) = (x : Int) := by rw [IntKind.wrap_u8]; omega
  have q2 : IntKind.u8.wrap (y : Int) = (y : Int) := by rw [IntKind.wrap_u8]; omega
  have HR2 := Lib.hid h2
  have HBL := Lib.hid BL
  have HMS := Lib.hid hms
  have HLN := Lib.hid ln
  clear BL hms h1 h2 hb hK hN lk hx hy ln
  go_enter Try.func42, Try.ntmps42
  go_wp2_with (at_builtin; refine wpList_app rfl (.tmp 10) (.tmp 11) 28 rfl w.heap.size 5 _ 1 bytesE _ [] rfl (Own.lit0 rfl (Nat.le_refl _)) _ (bvs N) rfl (HR2.out.alloc _) (bvs_one _) ?c2 ?c3 ?_)
  case c2 => rw [bvs_len, HLN.out]; simp
  case c3 => simp
  rintro v' w2 hown - hb2
  have HO := Lib.hid hown
  have HB := Lib.hid (((Below.refl w.heap.size w).alloc (Nat.le_refl _) (.cells #[] 5)).trans hb2)
  clear hown hb2
  go_wp2_with (at_builtin; refine wpList_app rfl (.tmp 12) (.tmp 19) 28 rfl w.heap.size 5 _ 1 bytesE _ (bvs N) rfl (HO.out.alloc _) _ [.int .u8 0, .int .u8 0, .int .u8 (x : Nat), .int .u8 (y : Nat)] rfl ?d1 ?d0 ?d2 ?d3 ?_)
  case d1 => exact (Own.full (B := w2.heap.size) (cs := #[.int .u8 0, .int .u8 0, .int .u8 (x : Nat), .int .u8 (y : Nat)]) rfl (Nat.le_refl _) (by unfold maxLen; simp) rfl).rd
  case d0 => intro u hu; simp at hu; rcases hu with rfl | rfl | rfl <;> rfl
  case d2 => rw [bvs_len, HLN.out]; simp
  case d3 => have := HB.out.size; simp; omega
  rintro v4 w4 hown2 - hb4
  have e4 : bvs N ++ [.int .u8 0, .int .u8 0, .int .u8 (x : Nat), .int .u8 (y : Nat)] = bvs (N ++ beN 4 n) := by rw [← HMS.out, bvs_append]; rfl
  rw [e4] at hown2
  have hbw : Below w.heap.size w w4 := (HB.out.alloc HB.out.size _).trans hb4
  have HBK := Lib.hid (HBL.out v4 w4 hbw hown2.rd)
  have HB4 := Lib.hid hbw
  clear hown2 hb4 hbw e4
  go_wp2_with fail
  refine (HBK.out).mono ?_
  rintro e w5 ⟨u, rfl, hown5, hb5⟩
  have HO5 := Lib.hid (hown5.mono HB4.out.size)
  have HB5 := Lib.hid (HB4.out.trans (hb5.mono HB4.out.size))
  clear hown5 hb5
  go_wp2_with fail
  go_ret
  exact ⟨_, rfl, HO5.out, HB5.out⟩
end Go.Proofs.Ytfpjpakjlhidkaa
