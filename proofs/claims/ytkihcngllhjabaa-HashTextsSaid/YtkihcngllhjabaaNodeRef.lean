/- Walks: the reference's join, Ahead, LeafBytes, Bytes of nodes. -/
import Derived.Test.YtkihcngllhjabaaNodeOut
import Derived.Test.YtkihcngllhjabaaWireAlive
namespace Go.Proofs.Ytkihcngllhjabaa
open Go.RowKit WireM
set_option linter.unusedVariables false
set_option maxRecDepth 100000 in
set_option maxHeartbeats 1000000 in
theorem join16_any (x y : Value) (A B : List Nat) (w : World) (hx : Rd w x (bvs A)) (hy : Rd w y (bvs B)) (hl : A.length + B.length < 1000000000) :
    Calls Try.prog 76 #[x, y] w fun e w' => ∃ v', e = .returned v' ∧ Own w' w.heap.size 5 v' (bvs (A ++ B)) ∧ Below w.heap.size w w' := by
  have HX := Lib.hid hx
  have HY := Lib.hid hy
  clear hx hy
  go_enter Try.func76, Try.ntmps76
  go_wp2_with (at_builtin; refine wpList_app rfl (.tmp 5) (.tmp 6) 22 rfl w.heap.size 5 _ 1 bytesE _ [] rfl (Own.lit0 rfl (Nat.le_refl _)) _ (bvs A) rfl (HX.out.alloc _) (bvs_one _) ?c2 ?c3 ?_)
  case c2 => rw [bvs_len]; simp; omega
  case c3 => simp
  rintro v2 w2 hown - hb2
  have hbt := ((Below.refl w.heap.size w).alloc (Nat.le_refl _) (.cells #[] 5)).trans hb2
  have HO := Lib.hid hown
  have HB := Lib.hid hbt
  have HY2 := Lib.hid (HY.out.below hbt (Nat.le_refl _))
  clear hown hb2 hbt
  go_wp2_with (at_builtin; refine wpList_app rfl (.tmp 7) (.tmp 8) 22 rfl w.heap.size 5 _ 1 bytesE _ _ rfl HO.out _ (bvs B) rfl HY2.out (bvs_one _) ?c4 ?c5 ?_)
  case c4 => simp only [bvs_len]; omega
  case c5 => exact HB.out.size
  rintro v3 w3 hown - hb3
  have HO3 := Lib.hid hown
  have HB3 := Lib.hid (HB.out.trans hb3)
  clear hown hb3
  go_wp2_with fail
  go_ret
  refine ⟨_, rfl, ?_, HB3.out⟩
  rw [bvs_append]; exact HO3.out
theorem unsB_eq (d : LeafD) : unsB d = (vecB d.box ++ vecB d.sign) ++ (vecB d.ident ++ [d.source]) ++ (if d.source = 3 then vecB d.par else []) := by
  unfold unsB catB
  simp [List.append_assoc]
set_option maxRecDepth 100000 in
set_option maxHeartbeats 4000000 in
theorem ahead_any (d : LeafD) (a1 a2 a3 a4 a5 : Option Addr) (c1 c2 c3 c4 c5 : Nat) (w : World) (hs : SmallL d) (hsrc : d.source < 256)
    (h1 : Rd w (.slice a1 d.box.length c1) (bvs d.box)) (h2 : Rd w (.slice a2 d.sign.length c2) (bvs d.sign)) (h3 : Rd w (.slice a3 d.ident.length c3) (bvs d.ident)) (h4 : Rd w (.slice a4 d.par.length c4) (bvs d.par)) :
    Calls Try.prog 94 #[.agg #[.slice a1 d.box.length c1, .slice a2 d.sign.length c2, .slice a3 d.ident.length c3, .int .u8 (d.source : Nat), .slice a4 d.par.length c4, .slice a5 d.sig.length c5]] w
      fun e w' => ∃ v, e = .returned v ∧ Own w' w.heap.size 5 v (bvs (unsB d)) ∧ Below w.heap.size w w' := by
  obtain ⟨s1, s2, s3, s4, s5⟩ := hs
  have hu := unsB_eq d
  have l1 := vecB_len d.box (by omega)
  have l2 := vecB_len d.sign (by omega)
  have l3 := vecB_len d.ident (by omega)
  have l4 := vecB_len d.par (by omega)
  obtain ⟨n1, hn1⟩ : ∃ n, n = d.box.length := ⟨_, rfl⟩
  obtain ⟨n2, hn2⟩ : ∃ n, n = d.sign.length := ⟨_, rfl⟩
  obtain ⟨n3, hn3⟩ : ∃ n, n = d.ident.length := ⟨_, rfl⟩
  obtain ⟨n4, hn4⟩ : ∃ n, n = d.par.length := ⟨_, rfl⟩
  obtain ⟨n5, hn5⟩ : ∃ n, n = d.sig.length := ⟨_, rfl⟩
  obtain ⟨src, hsr⟩ : ∃ n, n = d.source := ⟨_, rfl⟩
  obtain ⟨D1, hD1⟩ : ∃ n, n = d.box := ⟨_, rfl⟩
  obtain ⟨D2, hD2⟩ : ∃ n, n = d.sign := ⟨_, rfl⟩
  obtain ⟨D3, hD3⟩ : ∃ n, n = d.ident := ⟨_, rfl⟩
  obtain ⟨D4, hD4⟩ : ∃ n, n = d.par := ⟨_, rfl⟩
  rw [← hn1, ← hn2, ← hn3, ← hn4, ← hn5, ← hsr]
  rw [← hn1] at h1 s1 l1
  rw [← hn2] at h2 s2 l2
  rw [← hn3] at h3 s3 l3
  rw [← hn4] at h4 s4 l4
  rw [← hsr] at hsrc hu
  rw [← hD1] at h1 hn1 hu l1
  rw [← hD2] at h2 hn2 hu l2
  rw [← hD3] at h3 hn3 hu l3
  rw [← hD4] at h4 hn4 hu l4
  obtain ⟨U, hU⟩ : ∃ u, u = unsB d := ⟨_, rfl⟩
  rw [← hU] at hu ⊢
  have hbk := Blk.new w 53 #[.slice a1 n1 c1, .slice a2 n2 c2, .slice a3 n3 c3, .int .u8 (src : Nat), .slice a4 n4 c4, .slice a5 n5 c5]
  have hw0 := (Below.refl w.heap.size w).alloc (Nat.le_refl _) (.cells #[.slice a1 n1 c1, .slice a2 n2 c2, .slice a3 n3 c3, .int .u8 (src : Nat), .slice a4 n4 c4, .slice a5 n5 c5] 53)
  have hz : (w.alloc (.cells #[.slice a1 n1 c1, .slice a2 n2 c2, .slice a3 n3 c3, .int .u8 (src : Nat), .slice a4 n4 c4, .slice a5 n5 c5] 53)).heap.size = w.heap.size + 1 := by simp
  obtain ⟨W1, hW1⟩ : ∃ W1, W1 = w.alloc (.cells #[.slice a1 n1 c1, .slice a2 n2 c2, .slice a3 n3 c3, .int .u8 (src : Nat), .slice a4 n4 c4, .slice a5 n5 c5] 53) := ⟨_, rfl⟩
  rw [← hW1] at hbk hw0 hz
  have r1 := h1.below hw0 (Nat.le_refl _)
  have r2 := h2.below hw0 (Nat.le_refl _)
  have r3 := h3.below hw0 (Nat.le_refl _)
  have r4 := h4.below hw0 (Nat.le_refl _)
  have y0 := hbk.cell 0
  have y1 := hbk.cell 1
  have y2 := hbk.cell 2
  have y3 := hbk.cell 3
  have y4 := hbk.cell 4
  simp only [List.getElem?_toArray, List.getElem?_cons_zero, List.getElem?_cons_succ] at y0 y1 y2 y3 y4
  have hgx : w.heap.size < W1.heap.size := by omega
  have HU := Lib.hid hu
  have HW1 := Lib.hid hW1
  have HW0 := Lib.hid hw0
  have HY3 := Lib.hid y3
  have HY4 := Lib.hid y4
  have HR4 := Lib.hid r4
  have HL := Lib.hid (show n1 = D1.length ∧ n2 = D2.length ∧ n3 = D3.length ∧ n4 = D4.length from ⟨hn1, hn2, hn3, hn4⟩)
  clear hbk hw0 hW1 hu hU hn1 hn2 hn3 hn4 hn5 hsr hD1 hD2 hD3 hD4 h1 h2 h3 h4
  go_enter Try.func94, Try.ntmps94
  go_wp2_with fail
  rw [← HW1.out]

  refine wp_region_once [fun v _ => v = .pointer (some ⟨w.heap.size, 0, none⟩), fun v _ => v = .slice a1 n1 c1, fun v w' => Own w' w.heap.size 5 v (bvs (vecB D1)), fun v _ => v = .pointer (some ⟨w.heap.size, 1, none⟩), fun v _ => v = .slice a2 n2 c2, fun v w' => Own w' w.heap.size 5 v (bvs (vecB D2)), fun v w' => Own w' w.heap.size 5 v (bvs ((vecB D1) ++ (vecB D2))), fun v _ => v = .pointer (some ⟨w.heap.size, 2, none⟩), fun v _ => v = .slice a3 n3 c3, fun v w' => Own w' w.heap.size 5 v (bvs (vecB D3)), fun v _ => v = .pointer (some ⟨w.heap.size, 3, none⟩), fun v _ => v = .int .u8 (src : Nat), fun v w' => Rd w' v (bvs [src]), fun v w' => Own w' w.heap.size 5 v (bvs (vecB D3 ++ [src])), fun v w' => Own w' w.heap.size 5 v (bvs ((vecB D1 ++ vecB D2) ++ (vecB D3 ++ [src]))), fun v w' => Own w' w.heap.size 5 v (bvs ((vecB D1 ++ vecB D2) ++ (vecB D3 ++ [src])))]
    (by kernel_rfl) ?_ (by kernel_rfl) (by kernel_rfl) ?_ ?_
  · exact keeps_cons (fun _ _ _ h _ => h) (keeps_cons (fun _ _ _ h _ => h) (keeps_cons (fun v w1 w2 h hb => Own.below h hb (Nat.le_refl _)) (keeps_cons (fun _ _ _ h _ => h) (keeps_cons (fun _ _ _ h _ => h) (keeps_cons (fun v w1 w2 h hb => Own.below h hb (Nat.le_refl _)) (keeps_cons (fun v w1 w2 h hb => Own.below h hb (Nat.le_refl _)) (keeps_cons (fun _ _ _ h _ => h) (keeps_cons (fun _ _ _ h _ => h) (keeps_cons (fun v w1 w2 h hb => Own.below h hb (Nat.le_refl _)) (keeps_cons (fun _ _ _ h _ => h) (keeps_cons (fun _ _ _ h _ => h) (keeps_cons (fun v w1 w2 h hb => Rd.below h hb (Nat.le_refl _)) (keeps_cons (fun v w1 w2 h hb => Own.below h hb (Nat.le_refl _)) (keeps_cons (fun v w1 w2 h hb => Own.below h hb (Nat.le_refl _)) (keeps_cons (fun v w1 w2 h hb => Own.below h hb (Nat.le_refl _)) (keeps_nil))))))))))))))))
  · refine .cons (owed_go rfl ?_) (.cons (owed_go rfl ?_) (.cons (owed_go rfl ?_) (.cons (owed_go rfl ?_) (.cons (owed_go rfl ?_) (.cons (owed_go rfl ?_) (.cons (owed_go rfl ?_) (.cons (owed_go rfl ?_) (.cons (owed_go rfl ?_) (.cons (owed_go rfl ?_) (.cons (owed_go rfl ?_) (.cons (owed_go rfl ?_) (.cons (owed_go rfl ?_) (.cons (owed_go rfl ?_) (.cons (owed_go rfl ?_) (.cons (owed_go rfl ?_) (.nil))))))))))))))))
    · intro a wx hbx ho hf K hK
      have e0 : a.tmps[1]?.getD undef = .pointer (some ⟨w.heap.size, 0, none⟩) := ho 1 (by kernel_rfl)
      go_simp
      exact hK _ _ rfl (Below.refl _ _)
    · intro a wx hbx ho hf K hK
      have e0 : a.tmps[4]?.getD undef = .pointer (some ⟨w.heap.size, 0, none⟩) := hf.1
      have c0 := (hbx.cell (p := ⟨w.heap.size, 0, none⟩) hgx).trans y0
      go_simp
      exact hK _ _ rfl (Below.refl _ _)
    · intro a wx hbx ho hf K hK
      have e0 : a.tmps[5]?.getD undef = .slice a1 n1 c1 := hf.1
      go_simp
      refine (rvec_any _ D1 wx (r1.below hbx (Nat.le_refl _)) (by have := HL.out; omega)).mono ?_
      rintro e w2 ⟨v2, rfl, hown, hb2⟩
      exact hK _ _ (hown.mono (by have := hbx.size; omega)) hb2
    · intro a wx hbx ho hf K hK
      have e0 : a.tmps[1]?.getD undef = .pointer (some ⟨w.heap.size, 0, none⟩) := ho 1 (by kernel_rfl)
      go_simp
      exact hK _ _ rfl (Below.refl _ _)
    · intro a wx hbx ho hf K hK
      have e0 : a.tmps[7]?.getD undef = .pointer (some ⟨w.heap.size, 1, none⟩) := hf.1
      have c0 := (hbx.cell (p := ⟨w.heap.size, 1, none⟩) hgx).trans y1
      go_simp
      exact hK _ _ rfl (Below.refl _ _)
    · intro a wx hbx ho hf K hK
      have e0 : a.tmps[8]?.getD undef = .slice a2 n2 c2 := hf.1
      go_simp
      refine (rvec_any _ D2 wx (r2.below hbx (Nat.le_refl _)) (by have := HL.out; omega)).mono ?_
      rintro e w2 ⟨v2, rfl, hown, hb2⟩
      exact hK _ _ (hown.mono (by have := hbx.size; omega)) hb2
    · intro a wx hbx ho hf K hK
      have o1 : Own wx w.heap.size 5 (a.tmps[6]?.getD undef) (bvs (vecB D1)) := hf.1
      obtain ⟨v1, hv1⟩ : ∃ v, v = a.tmps[6]?.getD undef := ⟨_, rfl⟩
      rw [← hv1] at o1
      have e1 := hv1.symm
      clear hv1
      have o2 : Own wx w.heap.size 5 (a.tmps[9]?.getD undef) (bvs (vecB D2)) := hf.2.1
      obtain ⟨v2, hv2⟩ : ∃ v, v = a.tmps[9]?.getD undef := ⟨_, rfl⟩
      rw [← hv2] at o2
      have e2 := hv2.symm
      clear hv2
      go_simp
      refine (join16_any v1 v2 _ _ wx o1.rd o2.rd (by omega)).mono ?_
      rintro e w2 ⟨v9, rfl, hown, hb2⟩
      exact hK _ _ (hown.mono (by have := hbx.size; omega)) hb2
    · intro a wx hbx ho hf K hK
      have e0 : a.tmps[1]?.getD undef = .pointer (some ⟨w.heap.size, 0, none⟩) := ho 1 (by kernel_rfl)
      go_simp
      exact hK _ _ rfl (Below.refl _ _)
    · intro a wx hbx ho hf K hK
      have e0 : a.tmps[11]?.getD undef = .pointer (some ⟨w.heap.size, 2, none⟩) := hf.1
      have c0 := (hbx.cell (p := ⟨w.heap.size, 2, none⟩) hgx).trans y2
      go_simp
      exact hK _ _ rfl (Below.refl _ _)
    · intro a wx hbx ho hf K hK
      have e0 : a.tmps[12]?.getD undef = .slice a3 n3 c3 := hf.1
      go_simp
      refine (rvec_any _ D3 wx (r3.below hbx (Nat.le_refl _)) (by have := HL.out; omega)).mono ?_
      rintro e w2 ⟨v2, rfl, hown, hb2⟩
      exact hK _ _ (hown.mono (by have := hbx.size; omega)) hb2
    · intro a wx hbx ho hf K hK
      have e0 : a.tmps[1]?.getD undef = .pointer (some ⟨w.heap.size, 0, none⟩) := ho 1 (by kernel_rfl)
      go_simp
      exact hK _ _ rfl (Below.refl _ _)
    · intro a wx hbx ho hf K hK
      have e0 : a.tmps[14]?.getD undef = .pointer (some ⟨w.heap.size, 3, none⟩) := hf.1
      have c0 := (hbx.cell (p := ⟨w.heap.size, 3, none⟩) hgx).trans y3
      go_simp
      exact hK _ _ rfl (Below.refl _ _)
    · intro a wx hbx ho hf K hK
      have e0 : a.tmps[15]?.getD undef = .int .u8 (src : Nat) := hf.1
      go_simp
      exact hK _ _ (lit_rd (cs := #[.int .u8 (src : Nat)]) (L := [src]) rfl rfl (by simp)) ((Below.refl _ _).alloc (Nat.le_refl _) _)
    · intro a wx hbx ho hf K hK
      have o1 : Own wx w.heap.size 5 (a.tmps[13]?.getD undef) (bvs (vecB D3)) := hf.1
      obtain ⟨v1, hv1⟩ : ∃ v, v = a.tmps[13]?.getD undef := ⟨_, rfl⟩
      rw [← hv1] at o1
      have e1 := hv1.symm
      clear hv1
      have o2 : Rd wx (a.tmps[16]?.getD undef) (bvs [src]) := hf.2.1
      obtain ⟨v2, hv2⟩ : ∃ v, v = a.tmps[16]?.getD undef := ⟨_, rfl⟩
      rw [← hv2] at o2
      have e2 := hv2.symm
      clear hv2
      go_simp
      refine (join16_any v1 v2 _ _ wx o1.rd o2 (by simp only [List.length_cons, List.length_nil]; omega)).mono ?_
      rintro e w2 ⟨v9, rfl, hown, hb2⟩
      exact hK _ _ (hown.mono (by have := hbx.size; omega)) hb2
    · intro a wx hbx ho hf K hK
      have o1 : Own wx w.heap.size 5 (a.tmps[10]?.getD undef) (bvs (vecB D1 ++ vecB D2)) := hf.1
      obtain ⟨v1, hv1⟩ : ∃ v, v = a.tmps[10]?.getD undef := ⟨_, rfl⟩
      rw [← hv1] at o1
      have e1 := hv1.symm
      clear hv1
      have o2 : Own wx w.heap.size 5 (a.tmps[17]?.getD undef) (bvs (vecB D3 ++ [src])) := hf.2.1
      obtain ⟨v2, hv2⟩ : ∃ v, v = a.tmps[17]?.getD undef := ⟨_, rfl⟩
      rw [← hv2] at o2
      have e2 := hv2.symm
      clear hv2
      go_simp
      refine (join16_any v1 v2 _ _ wx o1.rd o2.rd (by simp only [List.length_append, List.length_cons, List.length_nil]; omega)).mono ?_
      rintro e w2 ⟨v9, rfl, hown, hb2⟩
      exact hK _ _ (hown.mono (by have := hbx.size; omega)) hb2
    · intro a wx hbx ho hf K hK
      have o0 : Own wx w.heap.size 5 (a.tmps[18]?.getD undef) (bvs ((vecB D1 ++ vecB D2) ++ (vecB D3 ++ [src]))) := hf.1
      obtain ⟨v0, hv0⟩ : ∃ v, v = a.tmps[18]?.getD undef := ⟨_, rfl⟩
      rw [← hv0] at o0
      have e0 := hv0.symm
      clear hv0
      go_simp
      exact hK _ _ o0 (Below.refl _ _)
  · rintro f w3 hb3 ⟨-, -, -, -, -, -, -, -, -, -, -, -, -, -, -, f8, -⟩
    have h8 : Own w3 w.heap.size 5 (f 3) (bvs ((vecB D1 ++ vecB D2) ++ (vecB D3 ++ [src]))) := f8
    have H8 := Lib.hid h8
    have x3 := (hb3.cell (p := ⟨w.heap.size, 3, none⟩) hgx).trans HY3.out
    have x4 := (hb3.cell (p := ⟨w.heap.size, 4, none⟩) hgx).trans HY4.out
    have HR := Lib.hid (HR4.out.below hb3 (Nat.le_refl _))
    have HB3 := Lib.hid (HW0.out.trans (hb3.mono (show w.heap.size ≤ W1.heap.size by omega)))
    have hgx3 : w.heap.size < w3.heap.size := by have := hb3.size; omega
    clear h8 f8 hb3 y0 y1 y2 y3 y4 r1 r2 r3 r4
    simp only [frameOf, dstsOf, zipF, List.filterMap_cons, List.filterMap_nil, List.contains_cons, List.contains_nil, Nat.reduceBEq, Nat.reduceAdd, Bool.or_false, Bool.or_true, cond_true, cond_false]
    by_cases k3 : src = 3
    · have t3 : ((src : Int) == 3) = true := by rw [beq_iff_eq]; omega
      have HUU := HU.out
      rw [if_pos k3] at HUU
      have HU3 := Lib.hid HUU
      have HV := Lib.hid (rvec_any _ D4 w3 HR.out (by have := HL.out; omega))
      clear k3 HUU
      go_wp2_with fail
      refine HV.out.mono ?_
      rintro e w4 ⟨v4, rfl, hown, hb4⟩
      have HJ := Lib.hid (join16_any (f 3) v4 _ _ w4 (H8.out.rd.below hb4 (Nat.le_refl _)) hown.rd (by simp only [List.length_append, List.length_cons, List.length_nil]; omega))
      have hz4 := hb4.size
      have HB4 := Lib.hid (HB3.out.trans (hb4.mono (by omega)))
      clear hown hb4
      go_wp2_with fail
      refine HJ.out.mono ?_
      rintro e w5 ⟨v5, rfl, hown, hb5⟩
      have HO5 := Lib.hid (hown.mono (show w.heap.size ≤ w4.heap.size by omega))
      have HB5 := Lib.hid (HB4.out.trans (hb5.mono (by omega)))
      clear hown hb5
      go_wp2_with fail
      go_ret
      exact ⟨_, rfl, by rw [HU3.out]; exact HO5.out, HB5.out⟩
    · have t3 : ((src : Int) == 3) = false := by rw [beq_eq_false_iff_ne]; omega
      have HUU := HU.out
      rw [if_neg k3, List.append_nil] at HUU
      have HU3 := Lib.hid HUU
      clear k3 HUU
      go_wp2_with fail
      go_ret
      exact ⟨_, rfl, by rw [HU3.out]; exact H8.out, HB3.out⟩
end Go.Proofs.Ytkihcngllhjabaa
