/- Walks: the reference's LeafBytes, Bytes of nodes. -/
import Derived.Test.YtohldijomcljkaaZHashTrees25
import Derived.Test.YtohldijomcljkaaZHashTrees00
import Derived.Deep.RegionLaw
import Derived.Test.YtohldijomcljkaaZHashTrees18
import Derived.Test.YtohldijomcljkaaZHashTrees10
import Derived.Test.YtohldijomcljkaaZHashTrees01
import Derived.Test.YtohldijomcljkaaZHashTrees02
namespace Go.Proofs.Ytohldijomcljkaa
open Go.RowKit WireM
set_option linter.unusedVariables false
def leafB (d : LeafD) : List Nat := unsB d ++ vecB d.sig
set_option maxRecDepth 100000 in
set_option maxHeartbeats 4000000 in
theorem rleafBytes_any (d : LeafD) (a1 a2 a3 a4 a5 : Option Addr) (c1 c2 c3 c4 c5 : Nat) (w : World) (hs : SmallL d) (hsrc : d.source < 256)
    (h1 : Rd w (.slice a1 d.box.length c1) (bvs d.box)) (h2 : Rd w (.slice a2 d.sign.length c2) (bvs d.sign)) (h3 : Rd w (.slice a3 d.ident.length c3) (bvs d.ident)) (h4 : Rd w (.slice a4 d.par.length c4) (bvs d.par)) (h5 : Rd w (.slice a5 d.sig.length c5) (bvs d.sig)) :
    Calls Try.prog 129 #[.agg #[.slice a1 d.box.length c1, .slice a2 d.sign.length c2, .slice a3 d.ident.length c3, .int .u8 (d.source : Nat), .slice a4 d.par.length c4, .slice a5 d.sig.length c5]] w
      fun e w' => ∃ v, e = .returned v ∧ Own w' w.heap.size 5 v (bvs (leafB d)) ∧ Below w.heap.size w w' := by
  have hul := unsB_len hs
  have hu : leafB d = unsB d ++ vecB d.sig := rfl
  have hsl := hs
  obtain ⟨s1, s2, s3, s4, s5⟩ := hs
  have l5 := vecB_len d.sig (by omega)
  have AH := fun W (hw : Below w.heap.size w W) => ahead_any d a1 a2 a3 a4 a5 c1 c2 c3 c4 c5 W hsl hsrc (h1.below hw (Nat.le_refl _)) (h2.below hw (Nat.le_refl _)) (h3.below hw (Nat.le_refl _)) (h4.below hw (Nat.le_refl _))
  obtain ⟨n1, hn1⟩ : ∃ n, n = d.box.length := ⟨_, rfl⟩
  obtain ⟨n2, hn2⟩ : ∃ n, n = d.sign.length := ⟨_, rfl⟩
  obtain ⟨n3, hn3⟩ : ∃ n, n = d.ident.length := ⟨_, rfl⟩
  obtain ⟨n4, hn4⟩ : ∃ n, n = d.par.length := ⟨_, rfl⟩
  obtain ⟨n5, hn5⟩ : ∃ n, n = d.sig.length := ⟨_, rfl⟩
  obtain ⟨src, hsr⟩ : ∃ n, n = d.source := ⟨_, rfl⟩
  rw [← hn1, ← hn2, ← hn3, ← hn4, ← hn5, ← hsr] at AH
  rw [← hn1, ← hn2, ← hn3, ← hn4, ← hn5, ← hsr]
  rw [← hn5] at h5 s5 l5
  have hbk := Blk.new w 42 #[.slice a1 n1 c1, .slice a2 n2 c2, .slice a3 n3 c3, .int .u8 (src : Nat), .slice a4 n4 c4, .slice a5 n5 c5]
  have hw0 := (Below.refl w.heap.size w).alloc (Nat.le_refl _) (.cells #[.slice a1 n1 c1, .slice a2 n2 c2, .slice a3 n3 c3, .int .u8 (src : Nat), .slice a4 n4 c4, .slice a5 n5 c5] 42)
  have hz : (w.alloc (.cells #[.slice a1 n1 c1, .slice a2 n2 c2, .slice a3 n3 c3, .int .u8 (src : Nat), .slice a4 n4 c4, .slice a5 n5 c5] 42)).heap.size = w.heap.size + 1 := by simp
  obtain ⟨W1, hW1⟩ : ∃ W1, W1 = w.alloc (.cells #[.slice a1 n1 c1, .slice a2 n2 c2, .slice a3 n3 c3, .int .u8 (src : Nat), .slice a4 n4 c4, .slice a5 n5 c5] 42) := ⟨_, rfl⟩
  rw [← hW1] at hbk hw0 hz
  have r5 := h5.below hw0 (Nat.le_refl _)
  have y0 := hbk.cell 0
  have y1 := hbk.cell 1
  have y2 := hbk.cell 2
  have y3 := hbk.cell 3
  have y4 := hbk.cell 4
  have y5 := hbk.cell 5
  simp only [List.getElem?_toArray, List.getElem?_cons_zero, List.getElem?_cons_succ] at y0 y1 y2 y3 y4 y5
  have hgx : w.heap.size < W1.heap.size := by omega
  have HU := Lib.hid hu
  have HW1 := Lib.hid hW1
  have HAH := Lib.hid AH
  have HN5 := Lib.hid hn5
  clear hbk hW1 hu hn1 hn2 hn3 hn4 hn5 hsr h1 h2 h3 h4 h5 AH hsl hsrc s1 s2 s3 s4
  go_enter Try.func129, Try.ntmps129
  go_wp2_with fail
  rw [← HW1.out]
  refine wp_region_once [fun v _ => v = .agg #[.slice a1 n1 c1, .slice a2 n2 c2, .slice a3 n3 c3, .int .u8 (src : Nat), .slice a4 n4 c4, .slice a5 n5 c5], fun v w' => Own w' w.heap.size 5 v (bvs (unsB d)), fun v _ => v = .pointer (some ⟨w.heap.size, 5, none⟩), fun v _ => v = .slice a5 n5 c5, fun v w' => Own w' w.heap.size 5 v (bvs (vecB d.sig)), fun v w' => Own w' w.heap.size 5 v (bvs ((unsB d) ++ (vecB d.sig))), fun v w' => Own w' w.heap.size 5 v (bvs (unsB d ++ vecB d.sig))]
    (by kernel_rfl) ?_ (by kernel_rfl) (by kernel_rfl) ?_ ?_
  · exact keeps_cons (fun _ _ _ h _ => h) (keeps_cons (fun v w1 w2 h hb => Own.below h hb (Nat.le_refl _)) (keeps_cons (fun _ _ _ h _ => h) (keeps_cons (fun _ _ _ h _ => h) (keeps_cons (fun v w1 w2 h hb => Own.below h hb (Nat.le_refl _)) (keeps_cons (fun v w1 w2 h hb => Own.below h hb (Nat.le_refl _)) (keeps_cons (fun v w1 w2 h hb => Own.below h hb (Nat.le_refl _)) (keeps_nil)))))))
  · refine .cons (owed_go rfl ?_) (.cons (owed_go rfl ?_) (.cons (owed_go rfl ?_) (.cons (owed_go rfl ?_) (.cons (owed_go rfl ?_) (.cons (owed_go rfl ?_) (.cons (owed_go rfl ?_) (.nil)))))))
    · intro a wx hbx ho hf K hK
      have e0 : a.tmps[1]?.getD undef = .pointer (some ⟨w.heap.size, 0, none⟩) := ho 1 (by kernel_rfl)
      have c0 := (hbx.cell (p := ⟨w.heap.size, 0, none⟩) hgx).trans y0
      have c1 := (hbx.cell (p := ⟨w.heap.size, 1, none⟩) hgx).trans y1
      have c2 := (hbx.cell (p := ⟨w.heap.size, 2, none⟩) hgx).trans y2
      have c3 := (hbx.cell (p := ⟨w.heap.size, 3, none⟩) hgx).trans y3
      have c4 := (hbx.cell (p := ⟨w.heap.size, 4, none⟩) hgx).trans y4
      have c5 := (hbx.cell (p := ⟨w.heap.size, 5, none⟩) hgx).trans y5
      go_simp
      exact hK _ _ rfl (Below.refl _ _)
    · intro a wx hbx ho hf K hK
      have e0 : a.tmps[3]?.getD undef = .agg #[.slice a1 n1 c1, .slice a2 n2 c2, .slice a3 n3 c3, .int .u8 (src : Nat), .slice a4 n4 c4, .slice a5 n5 c5] := hf.1
      go_simp
      refine (HAH.out wx (hw0.trans (hbx.mono (by omega)))).mono ?_
      rintro e w2 ⟨v2, rfl, hown, hb2⟩
      exact hK _ _ (hown.mono (by have := hbx.size; omega)) hb2
    · intro a wx hbx ho hf K hK
      have e0 : a.tmps[1]?.getD undef = .pointer (some ⟨w.heap.size, 0, none⟩) := ho 1 (by kernel_rfl)
      go_simp
      exact hK _ _ rfl (Below.refl _ _)
    · intro a wx hbx ho hf K hK
      have e0 : a.tmps[5]?.getD undef = .pointer (some ⟨w.heap.size, 5, none⟩) := hf.1
      have c0 := (hbx.cell (p := ⟨w.heap.size, 5, none⟩) hgx).trans y5
      go_simp
      exact hK _ _ rfl (Below.refl _ _)
    · intro a wx hbx ho hf K hK
      have e0 : a.tmps[6]?.getD undef = .slice a5 n5 c5 := hf.1
      go_simp
      refine (rvec_any _ d.sig wx (r5.below hbx (Nat.le_refl _)) (by have := HN5.out; omega)).mono ?_
      rintro e w2 ⟨v2, rfl, hown, hb2⟩
      exact hK _ _ (hown.mono (by have := hbx.size; omega)) hb2
    · intro a wx hbx ho hf K hK
      have o1 : Own wx w.heap.size 5 (a.tmps[4]?.getD undef) (bvs (unsB d)) := hf.1
      obtain ⟨v1, hv1⟩ : ∃ v, v = a.tmps[4]?.getD undef := ⟨_, rfl⟩
      rw [← hv1] at o1
      have e1 := hv1.symm
      clear hv1
      have o2 : Own wx w.heap.size 5 (a.tmps[7]?.getD undef) (bvs (vecB d.sig)) := hf.2.1
      obtain ⟨v2, hv2⟩ : ∃ v, v = a.tmps[7]?.getD undef := ⟨_, rfl⟩
      rw [← hv2] at o2
      have e2 := hv2.symm
      clear hv2
      go_simp
      refine (join16_any v1 v2 _ _ wx o1.rd o2.rd (by omega)).mono ?_
      rintro e w2 ⟨v9, rfl, hown, hb2⟩
      exact hK _ _ (hown.mono (by have := hbx.size; omega)) hb2
    · intro a wx hbx ho hf K hK
      have o0 : Own wx w.heap.size 5 (a.tmps[8]?.getD undef) (bvs (unsB d ++ vecB d.sig)) := hf.1
      obtain ⟨v0, hv0⟩ : ∃ v, v = a.tmps[8]?.getD undef := ⟨_, rfl⟩
      rw [← hv0] at o0
      have e0 := hv0.symm
      clear hv0
      go_simp
      exact hK _ _ o0 (Below.refl _ _)
  · rintro f w3 hb3 ⟨-, -, -, -, -, -, f8, -⟩
    have h8 : Own w3 w.heap.size 5 (f 2) (bvs (unsB d ++ vecB d.sig)) := f8
    have H8 := Lib.hid h8
    have HB3 := Lib.hid (hw0.trans (hb3.mono (show w.heap.size ≤ W1.heap.size by omega)))
    clear h8 f8 hb3 y0 y1 y2 y3 y4 y5 r5 hw0
    simp only [frameOf, dstsOf, zipF, List.filterMap_cons, List.filterMap_nil, List.contains_cons, List.contains_nil, Nat.reduceBEq, Nat.reduceAdd, Bool.or_false, Bool.or_true, cond_true, cond_false]
    go_wp2_with fail
    go_ret
    exact ⟨_, rfl, by rw [HU.out]; exact H8.out, HB3.out⟩
set_option maxRecDepth 100000 in
set_option maxHeartbeats 4000000 in
theorem rbytes_any (d : NodeD) (c : Array Value) (w : World) (h : NodeC w d c) (hk : NodeOk d) (hs : smallB d = true) (hlate : d.kind = 2 → ∀ x ∈ d.par.late, 0 ≤ x ∧ x < 65536) :
    Calls Try.prog 96 #[.agg c] w fun e w' => ∃ v, e = .returned v ∧ Own w' w.heap.size 5 v (bvs (nodeB d)) ∧ Below w.heap.size w w' := by
  have hsm := of_decide_eq_true hs
  have hsl : SmallL d.leaf := ⟨hsm.1, hsm.2.1, hsm.2.2.1, hsm.2.2.2.1, hsm.2.2.2.2.1⟩
  obtain ⟨a1, c1, a2, c2, a3, c3, a4, c4, a5, c5, b1, e1, b2, e2, b3, e3, rfl, h1, h2, h3, h4, h5, h6, h7, h8⟩ := h
  have LB := fun W (hw : Below w.heap.size w W) => rleafBytes_any d.leaf a1 a2 a3 a4 a5 c1 c2 c3 c4 c5 W hsl hk.source (h1.below hw (Nat.le_refl _)) (h2.below hw (Nat.le_refl _)) (h3.below hw (Nat.le_refl _)) (h4.below hw (Nat.le_refl _)) (h5.below hw (Nat.le_refl _))
  have hul := unsB_len hsl
  have hvl := vecB_len d.leaf.sig (by have := hsl.2.2.2.2; omega)
  have hll : (leafB d.leaf).length ≤ 1024 := by have := hsl.2.2.2.2; unfold leafB; rw [List.length_append]; omega
  have hn1 : d.kind = 1 → nodeB d = [1] ++ leafB d.leaf := fun h => by rw [nodeB, if_pos h]; rfl
  have hn2 : d.kind = 2 → nodeB d = (([2] ++ vecB d.par.box) ++ (vecB d.par.hash ++ vecB (lateL d.par.late))) := fun h => by
    rw [nodeB, if_neg (by omega), if_pos h, parB]
    simp [List.append_assoc]
  have hn0 : d.kind ≠ 1 → d.kind ≠ 2 → nodeB d = [0] := fun h h' => by rw [nodeB, if_neg h, if_neg h']
  have hp1 := hsm.2.2.2.2.2.1
  have hp2 := hsm.2.2.2.2.2.2.1
  have hp3 := hsm.2.2.2.2.2.2.2
  have hlen := slice_len h8
  have hget := fun r (hr : r < d.par.late.length) => h8.get (r := r) (show (ivs .i64 d.par.late)[r]? = some (.int .i64 (d.par.late.getD r 0)) by simp [ivs, hr])
  have hts := fun (r : Nat) (h : r < d.par.late.length) => (show d.par.late.take (r + 1) = d.par.late.take r ++ [d.par.late.getD r 0] by rw [List.take_succ_eq_append_getElem h, List.getD_eq_getElem?_getD, List.getElem?_eq_getElem h]; rfl)
  have hval := fun (h2 : d.kind = 2) (r : Nat) (h : r < d.par.late.length) => (show 0 ≤ d.par.late.getD r 0 ∧ d.par.late.getD r 0 < 65536 by rw [List.getD_eq_getElem?_getD, List.getElem?_eq_getElem h]; exact hlate h2 _ (List.getElem_mem h))
  have htl := fun r => lateL_len (d.par.late.take r)
  have v6 := vecB_len d.par.box (by omega)
  have v7 := vecB_len d.par.hash (by omega)
  obtain ⟨m1, hm1⟩ : ∃ b, b = d.leaf.box.length := ⟨_, rfl⟩
  obtain ⟨m2, hm2⟩ : ∃ b, b = d.leaf.sign.length := ⟨_, rfl⟩
  obtain ⟨m3, hm3⟩ : ∃ b, b = d.leaf.ident.length := ⟨_, rfl⟩
  obtain ⟨m4, hm4⟩ : ∃ b, b = d.leaf.par.length := ⟨_, rfl⟩
  obtain ⟨m5, hm5⟩ : ∃ b, b = d.leaf.sig.length := ⟨_, rfl⟩
  obtain ⟨m6, hm6⟩ : ∃ b, b = d.par.box.length := ⟨_, rfl⟩
  obtain ⟨m7, hm7⟩ : ∃ b, b = d.par.hash.length := ⟨_, rfl⟩
  obtain ⟨m8, hm8⟩ : ∃ b, b = d.par.late.length := ⟨_, rfl⟩
  obtain ⟨kd, hkk⟩ : ∃ b, b = d.kind := ⟨_, rfl⟩
  obtain ⟨src, hsrc⟩ : ∃ b, b = d.leaf.source := ⟨_, rfl⟩
  obtain ⟨PB, hPB⟩ : ∃ b, b = d.par.box := ⟨_, rfl⟩
  obtain ⟨PH, hPH⟩ : ∃ b, b = d.par.hash := ⟨_, rfl⟩
  obtain ⟨LT, hLT⟩ : ∃ b, b = d.par.late := ⟨_, rfl⟩
  obtain ⟨LL, hLL⟩ : ∃ b, b = leafB d.leaf := ⟨_, rfl⟩
  obtain ⟨NB, hNB⟩ : ∃ b, b = nodeB d := ⟨_, rfl⟩
  rw [← hm1, ← hm2, ← hm3, ← hm4, ← hm5, ← hm6, ← hm7, ← hm8, ← hkk, ← hsrc, ← hNB]
  obtain ⟨kz, hkz⟩ : ∃ kz : Int, kz = (kd : Int) := ⟨_, rfl⟩
  rw [← hkz]
  rw [← hm1, ← hm2, ← hm3, ← hm4, ← hm5, ← hsrc, ← hLL] at LB
  rw [← hm6] at h6 hp1 v6
  rw [← hm7] at h7 hp2 v7
  rw [← hm8] at hp3 hlen hget hts hval
  rw [← hkk] at hn0 hn1 hn2 hval
  rw [← hLL] at hn1 hll
  rw [← hPB] at h6 hm6 hn2 v6
  rw [← hPH] at h7 hm7 hn2 v7
  rw [← hLT] at hm8 hn2 hget hts hval htl
  rw [← hNB] at hn0 hn1 hn2
  have hw0 := (Below.refl w.heap.size w).alloc (Nat.le_refl _) (.cells #[.int .u8 kz, .slice a1 m1 c1, .slice a2 m2 c2, .slice a3 m3 c3, .int .u8 (src : Nat), .slice a4 m4 c4, .slice a5 m5 c5, .slice b1 m6 e1, .slice b2 m7 e2, .slice b3 m8 e3] 46)
  have hbk := Blk.new w 46 #[.int .u8 kz, .slice a1 m1 c1, .slice a2 m2 c2, .slice a3 m3 c3, .int .u8 (src : Nat), .slice a4 m4 c4, .slice a5 m5 c5, .slice b1 m6 e1, .slice b2 m7 e2, .slice b3 m8 e3]
  have hz : (w.alloc (.cells #[.int .u8 kz, .slice a1 m1 c1, .slice a2 m2 c2, .slice a3 m3 c3, .int .u8 (src : Nat), .slice a4 m4 c4, .slice a5 m5 c5, .slice b1 m6 e1, .slice b2 m7 e2, .slice b3 m8 e3] 46)).heap.size = w.heap.size + 1 := by simp
  obtain ⟨W1, hW1⟩ : ∃ W1, W1 = w.alloc (.cells #[.int .u8 kz, .slice a1 m1 c1, .slice a2 m2 c2, .slice a3 m3 c3, .int .u8 (src : Nat), .slice a4 m4 c4, .slice a5 m5 c5, .slice b1 m6 e1, .slice b2 m7 e2, .slice b3 m8 e3] 46) := ⟨_, rfl⟩
  rw [← hW1] at hw0 hbk hz
  have hgx : w.heap.size < W1.heap.size := by omega
  have x0 := hbk.cell 0
  have x1 := hbk.cell 1
  have x2 := hbk.cell 2
  have x3 := hbk.cell 3
  have x4 := hbk.cell 4
  have x5 := hbk.cell 5
  have x6 := hbk.cell 6
  have x7 := hbk.cell 7
  have x8 := hbk.cell 8
  have x9 := hbk.cell 9
  simp only [List.getElem?_toArray, List.getElem?_cons_zero, List.getElem?_cons_succ] at x0 x1 x2 x3 x4 x5 x6 x7 x8 x9
  have HLB := Lib.hid LB
  have HN0 := Lib.hid hn0
  have HN1 := Lib.hid hn1
  have HN2 := Lib.hid hn2
  have H6 := Lib.hid h6
  have H7 := Lib.hid h7
  have HM := Lib.hid (show m6 = PB.length ∧ m7 = PH.length ∧ m8 = LT.length from ⟨hm6, hm7, hm8⟩)
  have HW0 := Lib.hid hw0
  have HW1 := Lib.hid hW1
  have HGT := Lib.hid hget
  have HTS := Lib.hid hts
  have HV := Lib.hid hval
  have HTL := Lib.hid htl
  clear hsm hsl LB hn0 hn1 hn2 h1 h2 h3 h4 h5 h6 h7 h8 hm1 hm2 hm3 hm4 hm5 hm6 hm7 hm8 hkk hsrc hPB hPH hLT hLL hNB hW1 hget hts hval htl hs hk hlate hw0 hul hvl
  by_cases k1 : kd = 1
  · obtain rfl : kz = 1 := by omega
    subst k1
    clear hkz
    go_enter Try.func96, Try.ntmps96
    go_wp2_with fail
    rw [← HW1.out]
    have hbt := HW0.out.alloc HW0.out.size (.cells #[.int .u8 1] 5)
    have HO : Hid (Rd (W1.alloc (.cells #[.int .u8 1] 5)) (.slice (some ⟨w.heap.size + 1, 0, none⟩) 1 1) (bvs [1])) := Lib.hid (lit_rd (w := W1) (cs := #[.int .u8 1]) (L := [1]) hz.symm rfl (by simp))
    refine (HLB.out _ hbt).mono ?_
    rintro e w3 ⟨v3, rfl, hown, hb3⟩
    have hz3 := hb3.size
    have HJ := Lib.hid (join16_any _ v3 [1] LL w3 (HO.out.below hb3 (Nat.le_refl _)) hown.rd (by simp only [List.length_cons, List.length_nil]; omega))
    have hbt3 := hbt.trans (hb3.mono hbt.size)
    have HB3 := Lib.hid hbt3
    have hws3 := hbt3.size
    clear hown hb3 hbt hbt3 hz3
    go_wp2_with fail
    refine HJ.out.mono ?_
    rintro e w4 ⟨v4, rfl, hown, hb4⟩
    have HO4 := Lib.hid (hown.mono hws3)
    have HB4 := Lib.hid (HB3.out.trans (hb4.mono hws3))
    clear hown hb4
    go_wp2_with fail
    go_ret
    exact ⟨_, rfl, by rw [HN1.out trivial]; exact HO4.out, HB4.out⟩
  · have t1 : (kz == 1) = false := by rw [beq_eq_false_iff_ne]; omega
    by_cases k2 : kd = 2
    · obtain rfl : kz = 2 := by omega
      subst k2
      clear k1 t1 hkz
      go_enter Try.func96, Try.ntmps96
      go_wp2_with fail
      rw [← HW1.out]
      go_loopg [3, 4] m8 (fun q lv i wr => ∃ r : Nat, r + q = m8 ∧ i = .int .i64 (r : Int) ∧ Rd wr lv (bvs (lateL (LT.take r))) ∧ Below (w.heap.size + 1) W1 wr)
      case atStart => exact ⟨0, by omega, rfl, ⟨none, 0, rfl, Nat.le_refl _, Nat.zero_le _, .inl ⟨rfl, fun _ => rfl⟩⟩, Below.refl _ _⟩
      case round =>
        obtain ⟨r, hr, rfl, hrl, hbw⟩ := hrel
        have HRL := Lib.hid hrl
        have HBW := Lib.hid hbw
        have hzw := hbw.size
        rw [hz] at hzw
        have y0 := (hbw.cell (p := ⟨w.heap.size, 0, none⟩) (Nat.lt_succ_self _)).trans x0
        have y7 := (hbw.cell (p := ⟨w.heap.size, 7, none⟩) (Nat.lt_succ_self _)).trans x7
        have y8 := (hbw.cell (p := ⟨w.heap.size, 8, none⟩) (Nat.lt_succ_self _)).trans x8
        have y9 := (hbw.cell (p := ⟨w.heap.size, 9, none⟩) (Nat.lt_succ_self _)).trans x9
        have hgw : w.heap.size < wr.heap.size := by omega
        clear hrl hbw
        by_cases hrk : r < m8
        · obtain ⟨b1', o1', rfl, hb1', c0⟩ := HGT.out r hrk
          have c0' := (HBW.out.cell (p := ⟨b1', o1' + r, none⟩) (by simp only; omega)).trans ((HW0.out.cell (p := ⟨b1', o1' + r, none⟩) hb1').trans c0)
          have hts := HTS.out r hrk
          obtain ⟨q0, q1⟩ := HV.out trivial r hrk
          have hll' := HTL.out r
          obtain ⟨x, hx⟩ : ∃ x, x = LT.getD r 0 := ⟨_, rfl⟩
          rw [← hx] at c0' hts q0 q1
          obtain ⟨m, rfl⟩ : ∃ m : Nat, x = (m : Int) := ⟨x.toNat, by omega⟩
          have hl60 : (LT.take r).length ≤ r := List.length_take_le _ _
          have HPN := Lib.hid (fun W => rnum_any 4 m W (by omega) (by omega))
          have HT := Lib.hid hts
          have HLEN := Lib.hid (show (lateL (LT.take r)).length + (beN 4 m).length < 1000000000 by rw [beN_len]; omega)
          clear c0 hx hts hll' hl60 hb1'
          go_wp2_with fail
          refine (HPN.out _).mono ?_
          rintro e w2 ⟨v2, rfl, hown, hb2⟩
          have hz2 := hb2.size
          have HJ := Lib.hid (join16_any _ v2 _ _ w2 (HRL.out.below hb2 (Nat.le_refl _)) hown.rd HLEN.out)
          have HB2 := Lib.hid (HBW.out.trans (hb2.mono hzw))
          clear hown hb2
          go_wp2_with fail
          refine HJ.out.mono ?_
          rintro e w5 ⟨v5, rfl, hown, hb5⟩
          have HO5 := Lib.hid hown.rd
          have HB5 := Lib.hid (HB2.out.trans (hb5.mono (by omega)))
          clear hown hb5
          go_wp2_with fail
          go_roundg (gk - 1)
          case measure => omega
          case rel => exact ⟨r + 1, by omega, by go_num, by rw [HT.out, lateL_snoc, Int.toNat_natCast]; exact HO5.out, HB5.out⟩
        · obtain rfl : r = m8 := by omega
          have ht : LT.take r = LT := by rw [HM.out.2.2, List.take_length]
          have hll' := HTL.out r
          rw [ht] at HRL hll'
          have hrk' : decide ((r : Int) < (r : Int)) = false := by rw [decide_eq_false_iff_not]; omega
          have hbw1 := HW0.out.trans (HBW.out.mono (by omega))
          have r1 := H6.out.below hbw1 (Nat.le_refl _)
          have r2 := H7.out.below hbw1 (Nat.le_refl _)
          have r3 := HRL.out
          have hws : w.heap.size ≤ wr.heap.size := by omega
          have HLT8 := Lib.hid (show (lateL LT).length ≤ 240 by have := HM.out.2.2; rw [hll']; omega)
          clear hll' ht
          go_wp2_with fail
          refine wp_region_once [fun v w' => Rd w' v (bvs [2]), fun v _ => v = .pointer (some ⟨w.heap.size, 7, none⟩), fun v _ => v = .pointer (some ⟨w.heap.size, 7, none⟩), fun v _ => v = .slice b1 m6 e1, fun v w' => Own w' w.heap.size 5 v (bvs (vecB PB)), fun v w' => Own w' w.heap.size 5 v (bvs (([2]) ++ (vecB PB))), fun v _ => v = .pointer (some ⟨w.heap.size, 7, none⟩), fun v _ => v = .pointer (some ⟨w.heap.size, 8, none⟩), fun v _ => v = .slice b2 m7 e2, fun v w' => Own w' w.heap.size 5 v (bvs (vecB PH)), fun v w' => Rd w' v (bvs (lateL LT)), fun v w' => Own w' w.heap.size 5 v (bvs (vecB (lateL LT))), fun v w' => Own w' w.heap.size 5 v (bvs ((vecB PH) ++ (vecB (lateL LT)))), fun v w' => Own w' w.heap.size 5 v (bvs (([2] ++ vecB PB) ++ (vecB PH ++ vecB (lateL LT)))), fun v w' => Own w' w.heap.size 5 v (bvs (([2] ++ vecB PB) ++ (vecB PH ++ vecB (lateL LT))))]
            (by kernel_rfl) ?_ (by kernel_rfl) (by kernel_rfl) ?_ ?_
          · exact keeps_cons (fun v w1 w2 h hb => Rd.below h hb (Nat.le_refl _)) (keeps_cons (fun _ _ _ h _ => h) (keeps_cons (fun _ _ _ h _ => h) (keeps_cons (fun _ _ _ h _ => h) (keeps_cons (fun v w1 w2 h hb => Own.below h hb (Nat.le_refl _)) (keeps_cons (fun v w1 w2 h hb => Own.below h hb (Nat.le_refl _)) (keeps_cons (fun _ _ _ h _ => h) (keeps_cons (fun _ _ _ h _ => h) (keeps_cons (fun _ _ _ h _ => h) (keeps_cons (fun v w1 w2 h hb => Own.below h hb (Nat.le_refl _)) (keeps_cons (fun v w1 w2 h hb => Rd.below h hb (Nat.le_refl _)) (keeps_cons (fun v w1 w2 h hb => Own.below h hb (Nat.le_refl _)) (keeps_cons (fun v w1 w2 h hb => Own.below h hb (Nat.le_refl _)) (keeps_cons (fun v w1 w2 h hb => Own.below h hb (Nat.le_refl _)) (keeps_cons (fun v w1 w2 h hb => Own.below h hb (Nat.le_refl _)) (keeps_nil)))))))))))))))
          · refine .cons (owed_go rfl ?_) (.cons (owed_go rfl ?_) (.cons (owed_go rfl ?_) (.cons (owed_go rfl ?_) (.cons (owed_go rfl ?_) (.cons (owed_go rfl ?_) (.cons (owed_go rfl ?_) (.cons (owed_go rfl ?_) (.cons (owed_go rfl ?_) (.cons (owed_go rfl ?_) (.cons (owed_go rfl ?_) (.cons (owed_go rfl ?_) (.cons (owed_go rfl ?_) (.cons (owed_go rfl ?_) (.cons (owed_go rfl ?_) (.nil)))))))))))))))
            · intro a wx hbx ho hf K hK
              go_simp
              exact hK _ _ (lit_rd (cs := #[.int .u8 2]) (L := [2]) rfl rfl (by simp)) ((Below.refl _ _).alloc (Nat.le_refl _) _)
            · intro a wx hbx ho hf K hK
              have e0 : a.tmps[1]?.getD undef = .pointer (some ⟨w.heap.size, 0, none⟩) := ho 1 (by kernel_rfl)
              go_simp
              exact hK _ _ rfl (Below.refl _ _)
            · intro a wx hbx ho hf K hK
              have e0 : a.tmps[35]?.getD undef = .pointer (some ⟨w.heap.size, 7, none⟩) := hf.1
              go_simp
              exact hK _ _ rfl (Below.refl _ _)
            · intro a wx hbx ho hf K hK
              have e0 : a.tmps[36]?.getD undef = .pointer (some ⟨w.heap.size, 7, none⟩) := hf.1
              have c0 := (hbx.cell (p := ⟨w.heap.size, 7, none⟩) hgw).trans y7
              go_simp
              exact hK _ _ rfl (Below.refl _ _)
            · intro a wx hbx ho hf K hK
              have e0 : a.tmps[37]?.getD undef = .slice b1 m6 e1 := hf.1
              go_simp
              refine (rvec_any _ PB wx (r1.below hbx (Nat.le_refl _)) (by have := HM.out; omega)).mono ?_
              rintro e w2 ⟨v2, rfl, hown, hb2⟩
              exact hK _ _ (hown.mono (by have := hbx.size; omega)) hb2
            · intro a wx hbx ho hf K hK
              have o1 : Rd wx (a.tmps[34]?.getD undef) (bvs [2]) := hf.1
              obtain ⟨v1, hv1⟩ : ∃ v, v = a.tmps[34]?.getD undef := ⟨_, rfl⟩
              rw [← hv1] at o1
              have e1 := hv1.symm
              clear hv1
              have o2 : Own wx w.heap.size 5 (a.tmps[38]?.getD undef) (bvs (vecB PB)) := hf.2.1
              obtain ⟨v2, hv2⟩ : ∃ v, v = a.tmps[38]?.getD undef := ⟨_, rfl⟩
              rw [← hv2] at o2
              have e2 := hv2.symm
              clear hv2
              go_simp
              refine (join16_any v1 v2 _ _ wx o1 o2.rd (by simp only [List.length_cons, List.length_nil]; omega)).mono ?_
              rintro e w2 ⟨v9, rfl, hown, hb2⟩
              exact hK _ _ (hown.mono (by have := hbx.size; omega)) hb2
            · intro a wx hbx ho hf K hK
              have e0 : a.tmps[1]?.getD undef = .pointer (some ⟨w.heap.size, 0, none⟩) := ho 1 (by kernel_rfl)
              go_simp
              exact hK _ _ rfl (Below.refl _ _)
            · intro a wx hbx ho hf K hK
              have e0 : a.tmps[40]?.getD undef = .pointer (some ⟨w.heap.size, 7, none⟩) := hf.1
              go_simp
              exact hK _ _ rfl (Below.refl _ _)
            · intro a wx hbx ho hf K hK
              have e0 : a.tmps[41]?.getD undef = .pointer (some ⟨w.heap.size, 8, none⟩) := hf.1
              have c0 := (hbx.cell (p := ⟨w.heap.size, 8, none⟩) hgw).trans y8
              go_simp
              exact hK _ _ rfl (Below.refl _ _)
            · intro a wx hbx ho hf K hK
              have e0 : a.tmps[42]?.getD undef = .slice b2 m7 e2 := hf.1
              go_simp
              refine (rvec_any _ PH wx (r2.below hbx (Nat.le_refl _)) (by have := HM.out; omega)).mono ?_
              rintro e w2 ⟨v2, rfl, hown, hb2⟩
              exact hK _ _ (hown.mono (by have := hbx.size; omega)) hb2
            · intro a wx hbx ho hf K hK
              have e0 : a.tmps[3]?.getD undef = u3 := ho 3 (by kernel_rfl)
              go_simp
              exact hK _ _ (r3.below hbx (Nat.le_refl _)) (Below.refl _ _)
            · intro a wx hbx ho hf K hK
              have o1 : Rd wx (a.tmps[44]?.getD undef) (bvs (lateL LT)) := hf.1
              obtain ⟨v1, hv1⟩ : ∃ v, v = a.tmps[44]?.getD undef := ⟨_, rfl⟩
              rw [← hv1] at o1
              have e1 := hv1.symm
              clear hv1
              go_simp
              refine (rvec_any v1 (lateL LT) wx o1 (by have := HLT8.out; omega)).mono ?_
              rintro e w2 ⟨v2, rfl, hown, hb2⟩
              exact hK _ _ (hown.mono (by have := hbx.size; omega)) hb2
            · intro a wx hbx ho hf K hK
              have o1 : Own wx w.heap.size 5 (a.tmps[43]?.getD undef) (bvs (vecB PH)) := hf.1
              obtain ⟨v1, hv1⟩ : ∃ v, v = a.tmps[43]?.getD undef := ⟨_, rfl⟩
              rw [← hv1] at o1
              have e1 := hv1.symm
              clear hv1
              have o2 : Own wx w.heap.size 5 (a.tmps[45]?.getD undef) (bvs (vecB (lateL LT))) := hf.2.1
              obtain ⟨v2, hv2⟩ : ∃ v, v = a.tmps[45]?.getD undef := ⟨_, rfl⟩
              rw [← hv2] at o2
              have e2 := hv2.symm
              clear hv2
              go_simp
              refine (join16_any v1 v2 _ _ wx o1.rd o2.rd (by have := HLT8.out; have := vecB_len (lateL LT) (by omega); omega)).mono ?_
              rintro e w2 ⟨v9, rfl, hown, hb2⟩
              exact hK _ _ (hown.mono (by have := hbx.size; omega)) hb2
            · intro a wx hbx ho hf K hK
              have o1 : Own wx w.heap.size 5 (a.tmps[39]?.getD undef) (bvs ([2] ++ vecB PB)) := hf.1
              obtain ⟨v1, hv1⟩ : ∃ v, v = a.tmps[39]?.getD undef := ⟨_, rfl⟩
              rw [← hv1] at o1
              have e1 := hv1.symm
              clear hv1
              have o2 : Own wx w.heap.size 5 (a.tmps[46]?.getD undef) (bvs (vecB PH ++ vecB (lateL LT))) := hf.2.1
              obtain ⟨v2, hv2⟩ : ∃ v, v = a.tmps[46]?.getD undef := ⟨_, rfl⟩
              rw [← hv2] at o2
              have e2 := hv2.symm
              clear hv2
              go_simp
              refine (join16_any v1 v2 _ _ wx o1.rd o2.rd (by have := HLT8.out; have := vecB_len (lateL LT) (by omega); simp only [List.length_append, List.length_cons, List.length_nil]; omega)).mono ?_
              rintro e w2 ⟨v9, rfl, hown, hb2⟩
              exact hK _ _ (hown.mono (by have := hbx.size; omega)) hb2
            · intro a wx hbx ho hf K hK
              have o0 : Own wx w.heap.size 5 (a.tmps[47]?.getD undef) (bvs (([2] ++ vecB PB) ++ (vecB PH ++ vecB (lateL LT)))) := hf.1
              obtain ⟨v0, hv0⟩ : ∃ v, v = a.tmps[47]?.getD undef := ⟨_, rfl⟩
              rw [← hv0] at o0
              have e0 := hv0.symm
              clear hv0
              go_simp
              exact hK _ _ o0 (Below.refl _ _)
          · rintro f w3 hb3 ⟨-, -, -, -, -, -, -, -, -, -, -, -, -, -, f8, -⟩
            have h8 : Own w3 w.heap.size 5 (f 2) (bvs (([2] ++ vecB PB) ++ (vecB PH ++ vecB (lateL LT)))) := f8
            have H8 := Lib.hid h8
            have HB3 := Lib.hid (hbw1.trans (hb3.mono hws))
            clear h8 f8 hb3 r1 r2 r3 hbw1
            simp only [frameOf, dstsOf, zipF, List.filterMap_cons, List.filterMap_nil, List.contains_cons, List.contains_nil, Nat.reduceBEq, Nat.reduceAdd, Bool.or_false, Bool.or_true, cond_true, cond_false]
            go_wp2_with fail
            go_ret
            exact ⟨_, rfl, by rw [HN2.out trivial]; exact H8.out, HB3.out⟩
    · have t2 : (kz == 2) = false := by rw [beq_eq_false_iff_ne]; omega
      have HN := Lib.hid (HN0.out k1 k2)
      clear k1 k2 hkz
      go_enter Try.func96, Try.ntmps96
      go_wp2_with fail
      rw [← HW1.out]
      go_ret
      refine ⟨_, rfl, ?_, HW0.out.alloc HW0.out.size _⟩
      rw [HN.out]
      exact Own.full (w := W1) (B := w.heap.size) (e := 5) (cs := #[.int .u8 0]) hz.symm (Nat.le_succ _) (by unfold maxLen; simp) (n := 1) rfl
end Go.Proofs.Ytohldijomcljkaa
/- Append on a slice that the call owns, as one step of a region that draws its order. -/
namespace Go.Proofs.Ytohldijomcljkaa
open Go.RowKit
theorem wp_app {P : Program} {w : World} {o : Oper} {a : Act} {K : Act → World → Prop} {Q : Exit → Act → World → Prop} (s x : Operand) (t : TypeId)
    (ho : o.op = .call { callee := .builtin .append, args := #[s, x], argTypes := #[t, t] })
    (B : Nat) (e : TypeId) (z : Value) (bytes : Nat) (F : Elem P t e z bytes)
    (v : Value) (xs : List Value) (hs : a.eval s = v) (hown : Own w B e v xs)
    (r : Value) (ys : List Value) (hx : a.eval x = r) (hr : Rd w r ys) (h1 : ∀ u ∈ ys, u.oneCell' = true)
    (hn : xs.length + ys.length < 1099511627776) (hB : B ≤ w.heap.size)
    (h : ∀ v' w', Own w' B e v' (xs ++ ys) → Below B w w' → K (a.put o.dst v') w') : o.wp P a w K Q := by
  obtain ⟨i, hi, hz, hsz, hby⟩ := info_parts F.inf
  have low := F.low
  have hmul : (xs.length + ys.length) * bytes ≤ (xs.length + ys.length) * 64 := Nat.mul_le_mul_left _ low
  have fin : ∀ (ad : Addr) cap, r = .slice (some ad) ys.length cap → (∀ (j : Nat) u, ys[j]? = some u → w.cell? (ad.add j) = some u) → o.wp P a w K Q := by
    intro ad cap hv hu
    subst hv
    refine wp_append_own w s x t ho B e i z 1 bytes F.ty hi hz hsz hby F.one (by omega) v xs.length xs hs hown ad ys.length cap ys hx (by omega) hu h1 (by unfold maxLen; omega) (by omega) hB ?_
    intro v' w' h2 h3 _
    have e1 : (xs ++ ys).length = xs.length + ys.length := by simp
    refine h v' w' (by unfold Own; rw [e1]; exact h2) ?_
    refine (Below.refl B w).grown h3 hB ?_
    intro k hk
    exact (World.ownsRow.lt hown k hk).1
  obtain ⟨ad, cap, rfl, _, _, ⟨rfl, hcap⟩ | ⟨b, off, rfl, hc⟩⟩ := hr
  · cases ad with
    | none =>
      obtain rfl := hcap rfl
      have hrun := run_append_owned_none (P := P) (w := w) B t o.type e i 1 F.ty hi v xs.length xs hown
      unfold Oper.wp
      have hx' : a.eval x = .slice none 0 0 := hx
      simp [execOp, ho, resolve, invoke, builtin, hs, hx', hrun, Result.andThen]
      exact h v w (by simpa using hown) (Below.refl _ _)
    | some ad => exact fin ad cap rfl (by simp)
  · exact fin _ cap rfl (fun j u hu => by rw [Addr.add_lit]; exact hc j u hu)
theorem step_app {P : Program} {w : World} {ops : Array Oper} {o : Oper} {a : Act} {K : Act → World → Prop} {Q : Exit → Act → World → Prop} {E : Prop} (hgd : o.guard = none) (s x : Operand) (t : TypeId)
    (ho : o.op = .call { callee := .builtin .append, args := #[s, x], argTypes := #[t, t] })
    (B : Nat) (e : TypeId) (z : Value) (bytes : Nat) (F : Elem P t e z bytes)
    (v : Value) (xs : List Value) (hs : a.eval s = v) (hown : Own w B e v xs)
    (r : Value) (ys : List Value) (hx : a.eval x = r) (hr : Rd w r ys) (h1 : ∀ u ∈ ys, u.oneCell' = true)
    (hn : xs.length + ys.length < 1099511627776) (hB : B ≤ w.heap.size)
    (h : ∀ v' w', Own w' B e v' (xs ++ ys) → Below B w w' → K (a.put o.dst v') w') : if Region.wanted o (yielded ops a.tmps) = true then Oper.wp P o a w K Q else E := by
  have hw : Region.wanted o (yielded ops a.tmps) = true := by simp [Region.wanted, hgd]
  rw [if_pos hw]
  exact wp_app s x t ho B e z bytes F v xs hs hown r ys hx hr h1 hn hB h
end Go.Proofs.Ytohldijomcljkaa
/- Walks: the law's alive, HashTexts. -/
namespace Go.Proofs.Ytohldijomcljkaa
open Go.RowKit WireM
set_option linter.unusedVariables false
theorem step_app' {P : Program} {w : World} {ops : Array Oper} {o : Oper} {a : Act} {K : Act → World → Prop} {Q : Exit → Act → World → Prop} {E : Prop} (hw : Region.wanted o (yielded ops a.tmps) = true) (s x : Operand) (t : TypeId)
    (ho : o.op = .call { callee := .builtin .append, args := #[s, x], argTypes := #[t, t] })
    (B : Nat) (e : TypeId) (z : Value) (bytes : Nat) (F : Elem P t e z bytes)
    (v : Value) (xs : List Value) (hs : a.eval s = v) (hown : Own w B e v xs)
    (r : Value) (ys : List Value) (hx : a.eval x = r) (hr : Rd w r ys) (h1 : ∀ u ∈ ys, u.oneCell' = true)
    (hn : xs.length + ys.length < 1099511627776) (hB : B ≤ w.heap.size)
    (h : ∀ v' w', Own w' B e v' (xs ++ ys) → Below B w w' → K (a.put o.dst v') w') : if Region.wanted o (yielded ops a.tmps) = true then Oper.wp P o a w K Q else E := by
  rw [if_pos hw]
  exact wp_app s x t ho B e z bytes F v xs hs hown r ys hx hr h1 hn hB h
theorem lt18 (w : World) : Calls Try.prog 25 #[.int .i64 2, .agg #[.int .u8 0, .slice none 0 0, .slice none 0 0, .slice none 0 0, .int .u8 0, .slice none 0 0, .slice none 0 0, .slice none 0 0, .slice none 0 0, .slice none 0 0]] w fun e w' => Below w.heap.size w w' ∧ ∃ v, e = .returned (.tuple #[v, .int .u8 0]) ∧ Own w' w.heap.size 5 v (bvs [1, 0, 0, 0, 2, 0]) := by
  have P := leafText_any 2 noNodeD _ w (noNode_c w) noNode_ok (by decide)
  have e0 : ltF 2 noNodeD = ([1, 0, 0, 0, 2, 0], 0) := by
    have h1 : rightB noNodeD = true := by decide
    have h2 : nodeB noNodeD = [0] := by decide
    have h3 : noNodeD.kind = 0 := rfl
    have h4 : beN 4 (2:Int).toNat = [0,0,0,2] := by decide
    unfold ltF
    rw [if_neg (by omega), h1, h2, h3, h4, if_neg (by simp)]
    rfl
  unfold TextP at P
  rw [e0] at P
  exact P
set_option maxRecDepth 100000 in
set_option maxHeartbeats 2000000 in
theorem alive18 (w : World) : Calls Try.prog 14 #[] w fun e w' => e = .returned (.bool true) ∧ Below w.heap.size w w' := by
  have HP := Lib.hid (fun w => lt18 w)
  go_enter Try.func14, Try.ntmps14
  go_wp2_with fail
  refine (HP.out _).mono ?_
  rintro e w1 ⟨hb1, v1, rfl, hown⟩
  have HB1 := Lib.hid hb1
  have HS := Lib.hid (same_dec v1 _ [1, 0, 0, 0, 2, 0] [1, 0, 0, 0, 2, 0] _ ((hown.alloc _).rd) (lit_rd (w := w1) (cs := #[.int .u8 1, .int .u8 0, .int .u8 0, .int .u8 0, .int .u8 2, .int .u8 0]) (L := [1, 0, 0, 0, 2, 0]) rfl rfl (by simp)) (by decide) (by decide) true (by decide))
  clear hown hb1
  go_wp2_with fail
  refine HS.out.mono ?_
  rintro e w' ⟨rfl, n, rfl⟩
  go_wp2_with fail
  go_ret
  exact ⟨rfl, below_drewN' (HB1.out.alloc HB1.out.size _) _⟩
end Go.Proofs.Ytohldijomcljkaa
/- A small vocabulary: a reader's memory. -/
namespace Go.Proofs.Ytohldijomcljkaa
open Go.RowKit WireM
set_option linter.unusedVariables false
/-- v reads as xs, out of blocks below B -/
def RdK (w : World) (B : Nat) (v : Value) (xs : List Value) : Prop :=
  ∃ a cap, v = .slice a xs.length cap ∧ xs.length ≤ cap ∧ cap ≤ maxLen ∧
    ((xs = [] ∧ (a = none → cap = 0)) ∨ ∃ b off, a = some ⟨b, off, none⟩ ∧ b < B ∧ ∀ (j : Nat) u, xs[j]? = some u → w.cell? ⟨b, off + j, none⟩ = some u)
theorem RdK.rd {w : World} {B : Nat} {v : Value} {xs : List Value} (h : RdK w B v xs) : Rd w v xs := by
  obtain ⟨a, cap, h1, h2, h3, h4 | ⟨b, off, h4, _, h5⟩⟩ := h
  · exact ⟨a, cap, h1, h2, h3, .inl h4⟩
  · exact ⟨a, cap, h1, h2, h3, .inr ⟨b, off, h4, h5⟩⟩
theorem Rd.k {w : World} {v : Value} {xs : List Value} {B : Nat} (h : Rd w v xs) (hB : w.heap.size ≤ B) : RdK w B v xs := by
  obtain ⟨a, cap, h1, h2, h3, h4⟩ := h
  refine ⟨a, cap, h1, h2, h3, ?_⟩
  cases xs with
  | nil =>
    rcases h4 with h4 | ⟨b, off, rfl, _⟩
    · exact .inl h4
    · exact .inl ⟨rfl, fun h => by cases h⟩
  | cons x xs =>
    rcases h4 with h4 | ⟨b, off, rfl, hc⟩
    · cases h4.1
    · have := World.block_lt_of_cell? w _ (hc 0 x rfl)
      exact .inr ⟨b, off, rfl, by simp only at this; omega, hc⟩
theorem RdK.keep {w w' : World} {B : Nat} {v : Value} {xs : List Value} (h : RdK w B v xs) (hk : ∀ p : Addr, p.block < B → w'.cell? p = w.cell? p) : RdK w' B v xs := by
  obtain ⟨a, cap, h1, h2, h3, h4 | ⟨b, off, h4, h5, h6⟩⟩ := h
  · exact ⟨a, cap, h1, h2, h3, .inl h4⟩
  · exact ⟨a, cap, h1, h2, h3, .inr ⟨b, off, h4, h5, fun j u hu => (hk _ h5).trans (h6 j u hu)⟩⟩
/-- w is a, with new blocks, and writes to the block B alone -/
def Only (B : Nat) (a w : World) : Prop := a.grownBy w (some B)
theorem Only.refl (B : Nat) (a : World) : Only B a a := World.grownBy.refl a _
theorem Only.trans {B : Nat} {a b c : World} (h : Only B a b) (k : Only B b c) : Only B a c :=
  ⟨k.os.trans h.os, k.tape.trans h.tape, k.output.trans h.output, Nat.le_trans h.size k.size, fun i hi hne => (k.block i (Nat.lt_of_lt_of_le hi h.size) hne).trans (h.block i hi hne)⟩
theorem Only.of {B : Nat} {a w : World} (h : Below a.heap.size a w) : Only B a w := ⟨h.os, h.tape, h.output, h.size, fun i hi _ => h.block i hi⟩
theorem Only.set {a : World} {B : Nat} (i : Nat) (u : Value) : Only B a (a.setCell ⟨B, i, none⟩ u) :=
  ⟨rfl, rfl, rfl, by simp [World.setCell], fun k hk hne => Below.heap_setCell _ _ _ _ (fun e => hne (by rw [e]))⟩
theorem Only.below {B C : Nat} {a w : World} (h : Only B a w) (h1 : C ≤ B) (h2 : C ≤ a.heap.size) : Below C a w :=
  ⟨h.os, h.tape, h.output, h.size, fun i hi => h.block i (by omega) (fun e => by simp at e; omega)⟩
theorem Only.cell {B : Nat} {a w : World} (h : Only B a w) {p : Addr} (hp : p.block < B) (hs : B ≤ a.heap.size) : w.cell? p = a.cell? p :=
  World.cell?_of_block (h.block p.block (by omega) (fun e => by simp at e; omega))
theorem RdK.only {w w' : World} {B : Nat} {v : Value} {xs : List Value} (h : RdK w B v xs) (ho : Only B w w') (hs : B ≤ w.heap.size) : RdK w' B v xs := h.keep fun _ hp => ho.cell hp hs

theorem bvs_take (L : List Nat) (n : Nat) : bvs (L.take n) = (bvs L).take n := by simp [bvs, List.map_take]
theorem bvs_drop (L : List Nat) (n : Nat) : bvs (L.drop n) = (bvs L).drop n := by simp [bvs, List.map_drop]
theorem RdK.front {w : World} {B : Nat} {a : Option Addr} {cap n : Nat} {L : List Nat} (h : RdK w B (.slice a L.length cap) (bvs L)) (hn : n ≤ L.length) : RdK w B (.slice a n cap) (bvs (L.take n)) := by
  obtain ⟨a', cap', he, h2, h3, h4⟩ := h
  simp only [Value.slice.injEq] at he
  obtain ⟨rfl, _, rfl⟩ := he
  have hl : (bvs (L.take n)).length = n := by rw [bvs_len, List.length_take]; omega
  rw [bvs_len] at h2
  refine ⟨a, cap, by rw [hl], by rw [hl]; omega, h3, ?_⟩
  rcases h4 with ⟨h4, h5⟩ | ⟨b, off, h4, h5, h6⟩
  · left
    refine ⟨by rw [bvs_take, h4]; simp, h5⟩
  · right
    refine ⟨b, off, h4, h5, ?_⟩
    intro j u hu
    rw [bvs_take, List.getElem?_take] at hu
    split at hu
    · exact h6 j u hu
    · cases hu
theorem RdK.rest {w : World} {B : Nat} {a : Option Addr} {cap n : Nat} {L : List Nat} (h : RdK w B (.slice a L.length cap) (bvs L)) (hn : n ≤ L.length) : RdK w B (.slice (a.map (·.add n)) (L.length - n) (cap - n)) (bvs (L.drop n)) := by
  obtain ⟨a', cap', he, h2, h3, h4⟩ := h
  simp only [Value.slice.injEq] at he
  obtain ⟨rfl, _, rfl⟩ := he
  have hl : (bvs (L.drop n)).length = L.length - n := by rw [bvs_len, List.length_drop]
  rw [bvs_len] at h2
  refine ⟨_, cap - n, by rw [hl], by rw [hl]; omega, by omega, ?_⟩
  rcases h4 with ⟨h4, h5⟩ | ⟨b, off, rfl, h5, h6⟩
  · left
    refine ⟨by rw [bvs_drop, h4]; simp, ?_⟩
    intro h
    have : a = none := by cases a with
      | none => rfl
      | some a => simp at h
    rw [h5 this]; omega
  · right
    refine ⟨b, off + n, by simp [Addr.add_lit], h5, ?_⟩
    intro j u hu
    rw [bvs_drop, List.getElem?_drop] at hu
    rw [Nat.add_assoc]
    exact h6 _ u hu
theorem RdK.rest0 {w : World} {B : Nat} {a : Option Addr} {n : Nat} {L : List Nat} (hn : L.length ≤ n) : RdK w B (.slice a (L.length - n) 0) (bvs (L.drop n)) := by
  have hl : bvs (L.drop n) = [] := by rw [List.drop_eq_nil_of_le hn]; rfl
  rw [hl]
  refine ⟨a, 0, by simp; omega, by simp, Nat.zero_le _, .inl ⟨rfl, fun _ => rfl⟩⟩
end Go.Proofs.Ytohldijomcljkaa
/- Walks: a reader's fail, take. -/
namespace Go.Proofs.Ytohldijomcljkaa
open Go.RowKit WireM
set_option linter.unusedVariables false
end Go.Proofs.Ytohldijomcljkaa
