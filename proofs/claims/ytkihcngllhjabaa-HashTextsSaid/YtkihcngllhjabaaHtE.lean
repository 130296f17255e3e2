/- Walks: HashTexts, the combinations ae be de. -/
import Derived.Test.YtkihcngllhjabaaHtBase
namespace Go.Proofs.Ytkihcngllhjabaa
open Go.RowKit WireM
set_option linter.unusedVariables false
set_option maxRecDepth 100000 in
set_option maxHeartbeats 4000000 in
theorem ht_ae (i : Int) (d : NodeD) (c : Array Value) (vl vr : Value) (l r : List Nat) (w : World) (h : NodeC w d c) (hk : NodeOk d) (hs : smallB d = true) (hl : Rd w vl (bvs l)) (hr : Rd w vr (bvs r)) (hlb : ∀ n ∈ l, n < 256) (hrb : ∀ n ∈ r, n < 256) (hl1 : l.length ≤ 100) (hr1 : r.length ≤ 100)
    (k0 : i < 0) (hrt : rightB d = true) (t1 : ((d.kind : Int) == 1) = false) (t3 : ((l.length : Int) != 32) = false) (t4 : ((r.length : Int) != 32) = false) :
    Calls Try.prog 6 #[.int .i64 i, .agg c, vl, vr] w fun e w' => e = .returned (.bool true) ∧ Below w.heap.size w w' := by
  have eL : ltF i d = ([], 1) := by
    unfold ltF; rw [if_pos (.inl k0)]
  have eP : ptF d l r = (([2] ++ nodeB d ++ vecB l ++ vecB r), 0) := by
    unfold ptF; rw [if_neg (by rw [hrt]; have := beq_eq_false_iff_ne.1 t1; simp; omega)]
    rw [if_neg (by have := bne_eq_false_iff_eq.1 t3; have := bne_eq_false_iff_eq.1 t4; omega)]
  have LT := fun W (hw : Below w.heap.size w W) => lt_eq _ _ eL (leafText_any i d c W (h.below hw (Nat.le_refl _)) hk hs)
  have PT := fun W (hw : Below w.heap.size w W) => lt_eq _ _ eP (parentText_any d c vl vr l r W (h.below hw (Nat.le_refl _)) hk hs (hl.below hw (Nat.le_refl _)) (hr.below hw (Nat.le_refl _)))
  have RR := fun W (hw : Below w.heap.size w W) => rright_eq _ hrt (rright_any d c W (h.below hw (Nat.le_refl _)) hk)
  have SM := fun W => smalls_any d c w W h hs
  have BY := fun W (hw : Below w.heap.size w W) => rbytes_any d c W (h.below hw (Nat.le_refl _)) hk hs (late_of hrt)
  have hnl := nodeB_len hs
  have hnb := nodeB_lt hk hs
  have VL := fun W (hw : Below w.heap.size w W) => rvec_any vl l W (hl.below hw (Nat.le_refl _)) (by omega)
  have VR := fun W (hw : Below w.heap.size w W) => rvec_any vr r W (hr.below hw (Nat.le_refl _)) (by omega)
  have hvl := vecB_len l (by omega)
  have hvr := vecB_len r (by omega)
  have hvbl := vecB_lt (v := l) (by omega) hlb
  have hvbr := vecB_lt (v := r) (by omega) hrb
  obtain ⟨a1, c1, a2, c2, a3, c3, a4, c4, a5, c5, b1, e1, b2, e2, b3, e3, rfl, -⟩ := h
  obtain ⟨al, cl, rfl, -⟩ := hl
  obtain ⟨ar, cr, rfl, -⟩ := hr
  simp only [bvs_len] at PT VL VR ⊢
  obtain ⟨m1, hm1⟩ : ∃ b, b = d.leaf.box.length := ⟨_, rfl⟩
  obtain ⟨m2, hm2⟩ : ∃ b, b = d.leaf.sign.length := ⟨_, rfl⟩
  obtain ⟨m3, hm3⟩ : ∃ b, b = d.leaf.ident.length := ⟨_, rfl⟩
  obtain ⟨m4, hm4⟩ : ∃ b, b = d.leaf.par.length := ⟨_, rfl⟩
  obtain ⟨m5, hm5⟩ : ∃ b, b = d.leaf.sig.length := ⟨_, rfl⟩
  obtain ⟨m6, hm6⟩ : ∃ b, b = d.par.box.length := ⟨_, rfl⟩
  obtain ⟨m7, hm7⟩ : ∃ b, b = d.par.hash.length := ⟨_, rfl⟩
  obtain ⟨m8, hm8⟩ : ∃ b, b = d.par.late.length := ⟨_, rfl⟩
  obtain ⟨kd, hkd⟩ : ∃ b, b = d.kind := ⟨_, rfl⟩
  obtain ⟨src, hsrc⟩ : ∃ b, b = d.leaf.source := ⟨_, rfl⟩
  obtain ⟨nl, hnnl⟩ : ∃ b, b = l.length := ⟨_, rfl⟩
  obtain ⟨nr, hnnr⟩ : ∃ b, b = r.length := ⟨_, rfl⟩
  obtain ⟨NB, hNB⟩ : ∃ b, b = nodeB d := ⟨_, rfl⟩
  simp only [← hm1, ← hm2, ← hm3, ← hm4, ← hm5, ← hm6, ← hm7, ← hm8, ← hkd, ← hsrc, ← hNB, ← hnnl, ← hnnr] at LT PT RR SM BY VL VR hl1 hr1 hnl hnb hvl hvr t1 t3 t4 ⊢
  have HB0 := Lib.hid ((Below.refl w.heap.size w).alloc (Nat.le_refl _) (.cells #[.int .u8 (kd : Nat), .slice a1 m1 c1, .slice a2 m2 c2, .slice a3 m3 c3, .int .u8 (src : Nat), .slice a4 m4 c4, .slice a5 m5 c5, .slice b1 m6 e1, .slice b2 m7 e2, .slice b3 m8 e3] 57))
  have HLT := Lib.hid LT
  have HPT := Lib.hid PT
  have HRR := Lib.hid RR
  have HSM := Lib.hid SM
  have HBY := Lib.hid BY
  have HVL := Lib.hid VL
  have HVR := Lib.hid VR
  have HAL := Lib.hid (fun W => alive18 W)
  have g1 : decide ((100 : Int) < (nl : Int)) = false := by rw [decide_eq_false_iff_not]; omega
  have g2 : decide ((100 : Int) < (nr : Int)) = false := by rw [decide_eq_false_iff_not]; omega
  have g3 : decide (100 < nl) = false := by rw [decide_eq_false_iff_not]; omega
  have g4 : decide (100 < nr) = false := by rw [decide_eq_false_iff_not]; omega
  have Zhnl := Lib.hid hnl
  have Zhnb := Lib.hid hnb
  have Zhvl := Lib.hid hvl
  have Zhvr := Lib.hid hvr
  have Zhvbl := Lib.hid hvbl
  have Zhvbr := Lib.hid hvbr
  clear hm1 hm2 hm3 hm4 hm5 hm6 hm7 hm8 hkd hsrc hNB hnnl hnnr hlb hrb hk hs hrt eL eP LT PT RR SM BY VL VR hnl hnb hvl hvr hvbl hvbr
  go_enter Try.func6, Try.ntmps6
  go_wp2_with fail
  refine (HAL.out _).mono ?_
  rintro e w1 ⟨rfl, hb1⟩
  have HA1 := Lib.hid hb1
  have HB1 := Lib.hid (Below.next HB0.out HA1.out)
  have hc1 := bcell HA1.out
  have hg1 : w.heap.size < w1.heap.size := by have := HA1.out.size; simp at this; omega
  clear hb1
  go_wp2_with fail
  refine (HSM.out _).mono ?_
  rintro e w2 ⟨rfl, hb2⟩
  have HA2 := Lib.hid (Below.next HA1.out hb2)
  clear hc1 hg1
  have HB2 := Lib.hid (Below.next HB0.out HA2.out)
  have hc2 := bcell HA2.out
  have hg2 : w.heap.size < w2.heap.size := by have := HA2.out.size; simp at this; omega
  clear hb2
  go_wp2_with fail
  refine (HLT.out _ HB2.out).mono ?_
  rintro e w3 ⟨hb3, v1, rfl, ho1⟩
  have HA3 := Lib.hid (Below.next HA2.out hb3)
  clear hc2 hg2
  have HB3 := Lib.hid (Below.next HB0.out HA3.out)
  have hc3 := bcell HA3.out
  have hg3 : w.heap.size < w3.heap.size := by have := HA3.out.size; simp at this; omega
  clear hb3
  obtain ⟨a6, c6, rfl, -⟩ := ho1.rd
  clear ho1
  go_wp2_with fail
  refine (HPT.out _ HB3.out).mono ?_
  rintro e w4 ⟨hb4, v2, rfl, ho2⟩
  have HA4 := Lib.hid (Below.next HA3.out hb4)
  clear hc3 hg3
  have HB4 := Lib.hid (Below.next HB0.out HA4.out)
  have hc4 := bcell HA4.out
  have hg4 : w.heap.size < w4.heap.size := by have := HA4.out.size; simp at this; omega
  clear hb4
  have HO2 := Lib.hid ho2
  clear ho2
  go_wp2_with fail
  refine (HRR.out _ HB4.out).mono ?_
  rintro e w5 ⟨rfl, hb5⟩
  have HS2 := Lib.hid (HO2.out.below hb5 (Nat.le_refl _))
  have HA5 := Lib.hid (Below.next HA4.out hb5)
  clear hc4 hg4
  have HB5 := Lib.hid (Below.next HB0.out HA5.out)
  have hc5 := bcell HA5.out
  have hg5 : w.heap.size < w5.heap.size := by have := HA5.out.size; simp at this; omega
  clear hb5
  go_wp2_with fail
  refine (HBY.out _ (HB5.out.alloc HB5.out.size _)).mono ?_
  rintro e x6 ⟨v3, rfl, ho3, hb6⟩
  have hW6 : Below w5.heap.size w5 x6 := ((Below.refl _ _).alloc (Nat.le_refl _) _).trans (hb6.mono (by simp))
  have ol := (Own.full (w := w5) (B := w5.heap.size) (e := 5) (cs := #[.int .u8 2]) rfl (Nat.le_refl _) (by unfold maxLen; simp) (n := 1) rfl).below hb6 (Nat.le_refl _)
  have HOL := Lib.hid ol
  have HO3 := Lib.hid ho3
  have HW6 := Lib.hid hW6
  clear ol ho3 hb6 hW6
  go_wp2_with (at_builtin; refine wpList_app rfl (.tmp 121) (.tmp 123) 22 rfl w5.heap.size 5 _ 1 bytesE _ (bvs [2]) rfl HOL.out _ (bvs NB) rfl HO3.out.rd (bvs_one _) ?c1 ?c2 ?_)
  case c1 => rw [bvs_len, bvs_len]; have := Zhnl.out; simp only [List.length_cons, List.length_nil]; omega
  case c2 => exact HW6.out.size
  rintro v4 x7 ho4 - hb7
  rw [← bvs_append] at ho4
  have HW7 := Lib.hid (HW6.out.trans hb7)
  have HO4 := Lib.hid ho4
  clear ho4 hb7
  go_wp2_with fail
  refine (HVL.out _ (Below.next HB5.out HW7.out)).mono ?_
  rintro e x8 ⟨v5, rfl, ho5, hb8⟩
  have HO5 := Lib.hid ho5
  have HO4' := Lib.hid (HO4.out.below hb8 (Nat.le_refl _))
  have HW8 := Lib.hid (Below.next HW7.out hb8)
  clear ho5 hb8
  go_wp2_with (at_builtin; refine wpList_app rfl (.tmp 124) (.tmp 126) 22 rfl w5.heap.size 5 _ 1 bytesE _ (bvs ([2] ++ NB)) rfl HO4'.out _ (bvs (vecB l)) rfl HO5.out.rd (bvs_one _) ?c3 ?c4 ?_)
  case c3 => rw [bvs_len, bvs_len, List.length_append]; have := Zhnl.out; have := Zhvl.out; simp only [List.length_cons, List.length_nil]; omega
  case c4 => exact HW8.out.size
  rintro v6 x9 ho6 - hb9
  rw [← bvs_append] at ho6
  have HW9 := Lib.hid (HW8.out.trans hb9)
  have HO6 := Lib.hid ho6
  clear ho6 hb9
  go_wp2_with fail
  refine (HVR.out _ (Below.next HB5.out HW9.out)).mono ?_
  rintro e xa ⟨v7, rfl, ho7, hba⟩
  have HO7 := Lib.hid ho7
  have HO6' := Lib.hid (HO6.out.below hba (Nat.le_refl _))
  have HWa := Lib.hid (Below.next HW9.out hba)
  clear ho7 hba
  go_wp2_with (at_builtin; refine wpList_wanted rfl ?_; refine wpList_app rfl (.tmp 133) (.tmp 135) 22 rfl w5.heap.size 5 _ 1 bytesE v6 (bvs ([2] ++ NB ++ vecB l)) ?x1 ?x2 v7 (bvs (vecB r)) ?x3 ?x4 (bvs_one _) ?c5 ?c6 ?_)
  case x1 => rfl
  case x2 => exact HO6'.out
  case x3 => rfl
  case x4 => exact HO7.out.rd
  case c5 => rw [bvs_len, bvs_len, List.length_append, List.length_append]; have := Zhnl.out; have := Zhvl.out; have := Zhvr.out; simp only [List.length_cons, List.length_nil]; omega
  case c6 => exact HWa.out.size
  rintro v8 xb ho8 - hbb
  rw [← bvs_append] at ho8
  have hlt : ∀ n ∈ [2] ++ NB ++ vecB l ++ vecB r, n < 256 := all4 (by decide) Zhnb.out Zhvbl.out Zhvbr.out
  have HS := Lib.hid (same_dec v2 v8 _ _ xb (HS2.out.below (HWa.out.trans hbb) (Nat.le_refl _)).rd ho8.rd hlt hlt true (decide_eq_true rfl))
  have HF := Lib.hid (Below.next HB5.out (HWa.out.trans hbb))
  clear ho8 hbb hlt
  go_wp2_with fail
  refine HS.out.mono ?_
  rintro e w' ⟨rfl, n, rfl⟩
  go_wp2_with fail
  go_ret
  exact ⟨rfl, below_drewN' HF.out _⟩
set_option maxRecDepth 100000 in
set_option maxHeartbeats 4000000 in
theorem ht_be (i : Int) (d : NodeD) (c : Array Value) (vl vr : Value) (l r : List Nat) (w : World) (h : NodeC w d c) (hk : NodeOk d) (hs : smallB d = true) (hl : Rd w vl (bvs l)) (hr : Rd w vr (bvs r)) (hlb : ∀ n ∈ l, n < 256) (hrb : ∀ n ∈ r, n < 256) (hl1 : l.length ≤ 100) (hr1 : r.length ≤ 100)
    (k0 : ¬ i < 0) (k1 : 65535 < i) (hrt : rightB d = true) (t1 : ((d.kind : Int) == 1) = false) (t3 : ((l.length : Int) != 32) = false) (t4 : ((r.length : Int) != 32) = false) :
    Calls Try.prog 6 #[.int .i64 i, .agg c, vl, vr] w fun e w' => e = .returned (.bool true) ∧ Below w.heap.size w w' := by
  have eL : ltF i d = ([], 1) := by
    unfold ltF; rw [if_pos (.inr k1)]
  have eP : ptF d l r = (([2] ++ nodeB d ++ vecB l ++ vecB r), 0) := by
    unfold ptF; rw [if_neg (by rw [hrt]; have := beq_eq_false_iff_ne.1 t1; simp; omega)]
    rw [if_neg (by have := bne_eq_false_iff_eq.1 t3; have := bne_eq_false_iff_eq.1 t4; omega)]
  have LT := fun W (hw : Below w.heap.size w W) => lt_eq _ _ eL (leafText_any i d c W (h.below hw (Nat.le_refl _)) hk hs)
  have PT := fun W (hw : Below w.heap.size w W) => lt_eq _ _ eP (parentText_any d c vl vr l r W (h.below hw (Nat.le_refl _)) hk hs (hl.below hw (Nat.le_refl _)) (hr.below hw (Nat.le_refl _)))
  have RR := fun W (hw : Below w.heap.size w W) => rright_eq _ hrt (rright_any d c W (h.below hw (Nat.le_refl _)) hk)
  have SM := fun W => smalls_any d c w W h hs
  have BY := fun W (hw : Below w.heap.size w W) => rbytes_any d c W (h.below hw (Nat.le_refl _)) hk hs (late_of hrt)
  have hnl := nodeB_len hs
  have hnb := nodeB_lt hk hs
  have VL := fun W (hw : Below w.heap.size w W) => rvec_any vl l W (hl.below hw (Nat.le_refl _)) (by omega)
  have VR := fun W (hw : Below w.heap.size w W) => rvec_any vr r W (hr.below hw (Nat.le_refl _)) (by omega)
  have hvl := vecB_len l (by omega)
  have hvr := vecB_len r (by omega)
  have hvbl := vecB_lt (v := l) (by omega) hlb
  have hvbr := vecB_lt (v := r) (by omega) hrb
  obtain ⟨a1, c1, a2, c2, a3, c3, a4, c4, a5, c5, b1, e1, b2, e2, b3, e3, rfl, -⟩ := h
  obtain ⟨al, cl, rfl, -⟩ := hl
  obtain ⟨ar, cr, rfl, -⟩ := hr
  simp only [bvs_len] at PT VL VR ⊢
  obtain ⟨m1, hm1⟩ : ∃ b, b = d.leaf.box.length := ⟨_, rfl⟩
  obtain ⟨m2, hm2⟩ : ∃ b, b = d.leaf.sign.length := ⟨_, rfl⟩
  obtain ⟨m3, hm3⟩ : ∃ b, b = d.leaf.ident.length := ⟨_, rfl⟩
  obtain ⟨m4, hm4⟩ : ∃ b, b = d.leaf.par.length := ⟨_, rfl⟩
  obtain ⟨m5, hm5⟩ : ∃ b, b = d.leaf.sig.length := ⟨_, rfl⟩
  obtain ⟨m6, hm6⟩ : ∃ b, b = d.par.box.length := ⟨_, rfl⟩
  obtain ⟨m7, hm7⟩ : ∃ b, b = d.par.hash.length := ⟨_, rfl⟩
  obtain ⟨m8, hm8⟩ : ∃ b, b = d.par.late.length := ⟨_, rfl⟩
  obtain ⟨kd, hkd⟩ : ∃ b, b = d.kind := ⟨_, rfl⟩
  obtain ⟨src, hsrc⟩ : ∃ b, b = d.leaf.source := ⟨_, rfl⟩
  obtain ⟨nl, hnnl⟩ : ∃ b, b = l.length := ⟨_, rfl⟩
  obtain ⟨nr, hnnr⟩ : ∃ b, b = r.length := ⟨_, rfl⟩
  obtain ⟨NB, hNB⟩ : ∃ b, b = nodeB d := ⟨_, rfl⟩
  simp only [← hm1, ← hm2, ← hm3, ← hm4, ← hm5, ← hm6, ← hm7, ← hm8, ← hkd, ← hsrc, ← hNB, ← hnnl, ← hnnr] at LT PT RR SM BY VL VR hl1 hr1 hnl hnb hvl hvr t1 t3 t4 ⊢
  have HB0 := Lib.hid ((Below.refl w.heap.size w).alloc (Nat.le_refl _) (.cells #[.int .u8 (kd : Nat), .slice a1 m1 c1, .slice a2 m2 c2, .slice a3 m3 c3, .int .u8 (src : Nat), .slice a4 m4 c4, .slice a5 m5 c5, .slice b1 m6 e1, .slice b2 m7 e2, .slice b3 m8 e3] 57))
  have HLT := Lib.hid LT
  have HPT := Lib.hid PT
  have HRR := Lib.hid RR
  have HSM := Lib.hid SM
  have HBY := Lib.hid BY
  have HVL := Lib.hid VL
  have HVR := Lib.hid VR
  have HAL := Lib.hid (fun W => alive18 W)
  have g1 : decide ((100 : Int) < (nl : Int)) = false := by rw [decide_eq_false_iff_not]; omega
  have g2 : decide ((100 : Int) < (nr : Int)) = false := by rw [decide_eq_false_iff_not]; omega
  have g3 : decide (100 < nl) = false := by rw [decide_eq_false_iff_not]; omega
  have g4 : decide (100 < nr) = false := by rw [decide_eq_false_iff_not]; omega
  have Zhnl := Lib.hid hnl
  have Zhnb := Lib.hid hnb
  have Zhvl := Lib.hid hvl
  have Zhvr := Lib.hid hvr
  have Zhvbl := Lib.hid hvbl
  have Zhvbr := Lib.hid hvbr
  clear hm1 hm2 hm3 hm4 hm5 hm6 hm7 hm8 hkd hsrc hNB hnnl hnnr hlb hrb hk hs hrt eL eP LT PT RR SM BY VL VR hnl hnb hvl hvr hvbl hvbr
  have k2 : 65536 ≤ i := by omega
  have k3 : 0 ≤ i := by omega
  clear k0 k1
  go_enter Try.func6, Try.ntmps6
  go_wp2_with fail
  refine (HAL.out _).mono ?_
  rintro e w1 ⟨rfl, hb1⟩
  have HA1 := Lib.hid hb1
  have HB1 := Lib.hid (Below.next HB0.out HA1.out)
  have hc1 := bcell HA1.out
  have hg1 : w.heap.size < w1.heap.size := by have := HA1.out.size; simp at this; omega
  clear hb1
  go_wp2_with fail
  refine (HSM.out _).mono ?_
  rintro e w2 ⟨rfl, hb2⟩
  have HA2 := Lib.hid (Below.next HA1.out hb2)
  clear hc1 hg1
  have HB2 := Lib.hid (Below.next HB0.out HA2.out)
  have hc2 := bcell HA2.out
  have hg2 : w.heap.size < w2.heap.size := by have := HA2.out.size; simp at this; omega
  clear hb2
  go_wp2_with fail
  refine (HLT.out _ HB2.out).mono ?_
  rintro e w3 ⟨hb3, v1, rfl, ho1⟩
  have HA3 := Lib.hid (Below.next HA2.out hb3)
  clear hc2 hg2
  have HB3 := Lib.hid (Below.next HB0.out HA3.out)
  have hc3 := bcell HA3.out
  have hg3 : w.heap.size < w3.heap.size := by have := HA3.out.size; simp at this; omega
  clear hb3
  obtain ⟨a6, c6, rfl, -⟩ := ho1.rd
  clear ho1
  go_wp2_with fail
  refine (HPT.out _ HB3.out).mono ?_
  rintro e w4 ⟨hb4, v2, rfl, ho2⟩
  have HA4 := Lib.hid (Below.next HA3.out hb4)
  clear hc3 hg3
  have HB4 := Lib.hid (Below.next HB0.out HA4.out)
  have hc4 := bcell HA4.out
  have hg4 : w.heap.size < w4.heap.size := by have := HA4.out.size; simp at this; omega
  clear hb4
  have HO2 := Lib.hid ho2
  clear ho2
  go_wp2_with fail
  refine (HRR.out _ HB4.out).mono ?_
  rintro e w5 ⟨rfl, hb5⟩
  have HS2 := Lib.hid (HO2.out.below hb5 (Nat.le_refl _))
  have HA5 := Lib.hid (Below.next HA4.out hb5)
  clear hc4 hg4
  have HB5 := Lib.hid (Below.next HB0.out HA5.out)
  have hc5 := bcell HA5.out
  have hg5 : w.heap.size < w5.heap.size := by have := HA5.out.size; simp at this; omega
  clear hb5
  go_wp2_with fail
  refine (HBY.out _ (HB5.out.alloc HB5.out.size _)).mono ?_
  rintro e x6 ⟨v3, rfl, ho3, hb6⟩
  have hW6 : Below w5.heap.size w5 x6 := ((Below.refl _ _).alloc (Nat.le_refl _) _).trans (hb6.mono (by simp))
  have ol := (Own.full (w := w5) (B := w5.heap.size) (e := 5) (cs := #[.int .u8 2]) rfl (Nat.le_refl _) (by unfold maxLen; simp) (n := 1) rfl).below hb6 (Nat.le_refl _)
  have HOL := Lib.hid ol
  have HO3 := Lib.hid ho3
  have HW6 := Lib.hid hW6
  clear ol ho3 hb6 hW6
  go_wp2_with (at_builtin; refine wpList_app rfl (.tmp 121) (.tmp 123) 22 rfl w5.heap.size 5 _ 1 bytesE _ (bvs [2]) rfl HOL.out _ (bvs NB) rfl HO3.out.rd (bvs_one _) ?c1 ?c2 ?_)
  case c1 => rw [bvs_len, bvs_len]; have := Zhnl.out; simp only [List.length_cons, List.length_nil]; omega
  case c2 => exact HW6.out.size
  rintro v4 x7 ho4 - hb7
  rw [← bvs_append] at ho4
  have HW7 := Lib.hid (HW6.out.trans hb7)
  have HO4 := Lib.hid ho4
  clear ho4 hb7
  go_wp2_with fail
  refine (HVL.out _ (Below.next HB5.out HW7.out)).mono ?_
  rintro e x8 ⟨v5, rfl, ho5, hb8⟩
  have HO5 := Lib.hid ho5
  have HO4' := Lib.hid (HO4.out.below hb8 (Nat.le_refl _))
  have HW8 := Lib.hid (Below.next HW7.out hb8)
  clear ho5 hb8
  go_wp2_with (at_builtin; refine wpList_app rfl (.tmp 124) (.tmp 126) 22 rfl w5.heap.size 5 _ 1 bytesE _ (bvs ([2] ++ NB)) rfl HO4'.out _ (bvs (vecB l)) rfl HO5.out.rd (bvs_one _) ?c3 ?c4 ?_)
  case c3 => rw [bvs_len, bvs_len, List.length_append]; have := Zhnl.out; have := Zhvl.out; simp only [List.length_cons, List.length_nil]; omega
  case c4 => exact HW8.out.size
  rintro v6 x9 ho6 - hb9
  rw [← bvs_append] at ho6
  have HW9 := Lib.hid (HW8.out.trans hb9)
  have HO6 := Lib.hid ho6
  clear ho6 hb9
  go_wp2_with fail
  refine (HVR.out _ (Below.next HB5.out HW9.out)).mono ?_
  rintro e xa ⟨v7, rfl, ho7, hba⟩
  have HO7 := Lib.hid ho7
  have HO6' := Lib.hid (HO6.out.below hba (Nat.le_refl _))
  have HWa := Lib.hid (Below.next HW9.out hba)
  clear ho7 hba
  go_wp2_with (at_builtin; refine wpList_wanted rfl ?_; refine wpList_app rfl (.tmp 133) (.tmp 135) 22 rfl w5.heap.size 5 _ 1 bytesE v6 (bvs ([2] ++ NB ++ vecB l)) ?x1 ?x2 v7 (bvs (vecB r)) ?x3 ?x4 (bvs_one _) ?c5 ?c6 ?_)
  case x1 => rfl
  case x2 => exact HO6'.out
  case x3 => rfl
  case x4 => exact HO7.out.rd
  case c5 => rw [bvs_len, bvs_len, List.length_append, List.length_append]; have := Zhnl.out; have := Zhvl.out; have := Zhvr.out; simp only [List.length_cons, List.length_nil]; omega
  case c6 => exact HWa.out.size
  rintro v8 xb ho8 - hbb
  rw [← bvs_append] at ho8
  have hlt : ∀ n ∈ [2] ++ NB ++ vecB l ++ vecB r, n < 256 := all4 (by decide) Zhnb.out Zhvbl.out Zhvbr.out
  have HS := Lib.hid (same_dec v2 v8 _ _ xb (HS2.out.below (HWa.out.trans hbb) (Nat.le_refl _)).rd ho8.rd hlt hlt true (decide_eq_true rfl))
  have HF := Lib.hid (Below.next HB5.out (HWa.out.trans hbb))
  clear ho8 hbb hlt
  go_wp2_with fail
  refine HS.out.mono ?_
  rintro e w' ⟨rfl, n, rfl⟩
  go_wp2_with fail
  go_ret
  exact ⟨rfl, below_drewN' HF.out _⟩
set_option maxRecDepth 100000 in
set_option maxHeartbeats 4000000 in
theorem ht_de (i : Int) (d : NodeD) (c : Array Value) (vl vr : Value) (l r : List Nat) (w : World) (h : NodeC w d c) (hk : NodeOk d) (hs : smallB d = true) (hl : Rd w vl (bvs l)) (hr : Rd w vr (bvs r)) (hlb : ∀ n ∈ l, n < 256) (hrb : ∀ n ∈ r, n < 256) (hl1 : l.length ≤ 100) (hr1 : r.length ≤ 100)
    (k0 : 0 ≤ i) (k1 : i < 65536) (hrt : rightB d = true) (t1 : ((d.kind : Int) == 1) = false) (t2 : ((d.kind : Int) == 2) = true) (t3 : ((l.length : Int) != 32) = false) (t4 : ((r.length : Int) != 32) = false) :
    Calls Try.prog 6 #[.int .i64 i, .agg c, vl, vr] w fun e w' => e = .returned (.bool true) ∧ Below w.heap.size w w' := by
  have eL : ltF i d = ([], 3) := by
    unfold ltF; rw [if_neg (by omega), if_pos (.inr (by have := beq_iff_eq.1 t2; omega))]
  have eP : ptF d l r = (([2] ++ nodeB d ++ vecB l ++ vecB r), 0) := by
    unfold ptF; rw [if_neg (by rw [hrt]; have := beq_eq_false_iff_ne.1 t1; simp; omega)]
    rw [if_neg (by have := bne_eq_false_iff_eq.1 t3; have := bne_eq_false_iff_eq.1 t4; omega)]
  have LT := fun W (hw : Below w.heap.size w W) => lt_eq _ _ eL (leafText_any i d c W (h.below hw (Nat.le_refl _)) hk hs)
  have PT := fun W (hw : Below w.heap.size w W) => lt_eq _ _ eP (parentText_any d c vl vr l r W (h.below hw (Nat.le_refl _)) hk hs (hl.below hw (Nat.le_refl _)) (hr.below hw (Nat.le_refl _)))
  have RR := fun W (hw : Below w.heap.size w W) => rright_eq _ hrt (rright_any d c W (h.below hw (Nat.le_refl _)) hk)
  have SM := fun W => smalls_any d c w W h hs
  have BY := fun W (hw : Below w.heap.size w W) => rbytes_any d c W (h.below hw (Nat.le_refl _)) hk hs (late_of hrt)
  have hnl := nodeB_len hs
  have hnb := nodeB_lt hk hs
  have VL := fun W (hw : Below w.heap.size w W) => rvec_any vl l W (hl.below hw (Nat.le_refl _)) (by omega)
  have VR := fun W (hw : Below w.heap.size w W) => rvec_any vr r W (hr.below hw (Nat.le_refl _)) (by omega)
  have hvl := vecB_len l (by omega)
  have hvr := vecB_len r (by omega)
  have hvbl := vecB_lt (v := l) (by omega) hlb
  have hvbr := vecB_lt (v := r) (by omega) hrb
  obtain ⟨a1, c1, a2, c2, a3, c3, a4, c4, a5, c5, b1, e1, b2, e2, b3, e3, rfl, -⟩ := h
  obtain ⟨al, cl, rfl, -⟩ := hl
  obtain ⟨ar, cr, rfl, -⟩ := hr
  simp only [bvs_len] at PT VL VR ⊢
  obtain ⟨m1, hm1⟩ : ∃ b, b = d.leaf.box.length := ⟨_, rfl⟩
  obtain ⟨m2, hm2⟩ : ∃ b, b = d.leaf.sign.length := ⟨_, rfl⟩
  obtain ⟨m3, hm3⟩ : ∃ b, b = d.leaf.ident.length := ⟨_, rfl⟩
  obtain ⟨m4, hm4⟩ : ∃ b, b = d.leaf.par.length := ⟨_, rfl⟩
  obtain ⟨m5, hm5⟩ : ∃ b, b = d.leaf.sig.length := ⟨_, rfl⟩
  obtain ⟨m6, hm6⟩ : ∃ b, b = d.par.box.length := ⟨_, rfl⟩
  obtain ⟨m7, hm7⟩ : ∃ b, b = d.par.hash.length := ⟨_, rfl⟩
  obtain ⟨m8, hm8⟩ : ∃ b, b = d.par.late.length := ⟨_, rfl⟩
  obtain ⟨kd, hkd⟩ : ∃ b, b = d.kind := ⟨_, rfl⟩
  obtain ⟨src, hsrc⟩ : ∃ b, b = d.leaf.source := ⟨_, rfl⟩
  obtain ⟨nl, hnnl⟩ : ∃ b, b = l.length := ⟨_, rfl⟩
  obtain ⟨nr, hnnr⟩ : ∃ b, b = r.length := ⟨_, rfl⟩
  obtain ⟨NB, hNB⟩ : ∃ b, b = nodeB d := ⟨_, rfl⟩
  simp only [← hm1, ← hm2, ← hm3, ← hm4, ← hm5, ← hm6, ← hm7, ← hm8, ← hkd, ← hsrc, ← hNB, ← hnnl, ← hnnr] at LT PT RR SM BY VL VR hl1 hr1 hnl hnb hvl hvr t1 t2 t3 t4 ⊢
  have HB0 := Lib.hid ((Below.refl w.heap.size w).alloc (Nat.le_refl _) (.cells #[.int .u8 (kd : Nat), .slice a1 m1 c1, .slice a2 m2 c2, .slice a3 m3 c3, .int .u8 (src : Nat), .slice a4 m4 c4, .slice a5 m5 c5, .slice b1 m6 e1, .slice b2 m7 e2, .slice b3 m8 e3] 57))
  have HLT := Lib.hid LT
  have HPT := Lib.hid PT
  have HRR := Lib.hid RR
  have HSM := Lib.hid SM
  have HBY := Lib.hid BY
  have HVL := Lib.hid VL
  have HVR := Lib.hid VR
  have HAL := Lib.hid (fun W => alive18 W)
  have g1 : decide ((100 : Int) < (nl : Int)) = false := by rw [decide_eq_false_iff_not]; omega
  have g2 : decide ((100 : Int) < (nr : Int)) = false := by rw [decide_eq_false_iff_not]; omega
  have g3 : decide (100 < nl) = false := by rw [decide_eq_false_iff_not]; omega
  have g4 : decide (100 < nr) = false := by rw [decide_eq_false_iff_not]; omega
  have Zhnl := Lib.hid hnl
  have Zhnb := Lib.hid hnb
  have Zhvl := Lib.hid hvl
  have Zhvr := Lib.hid hvr
  have Zhvbl := Lib.hid hvbl
  have Zhvbr := Lib.hid hvbr
  clear hm1 hm2 hm3 hm4 hm5 hm6 hm7 hm8 hkd hsrc hNB hnnl hnnr hlb hrb hk hs hrt eL eP LT PT RR SM BY VL VR hnl hnb hvl hvr hvbl hvbr
  go_enter Try.func6, Try.ntmps6
  go_wp2_with fail
  refine (HAL.out _).mono ?_
  rintro e w1 ⟨rfl, hb1⟩
  have HA1 := Lib.hid hb1
  have HB1 := Lib.hid (Below.next HB0.out HA1.out)
  have hc1 := bcell HA1.out
  have hg1 : w.heap.size < w1.heap.size := by have := HA1.out.size; simp at this; omega
  clear hb1
  go_wp2_with fail
  refine (HSM.out _).mono ?_
  rintro e w2 ⟨rfl, hb2⟩
  have HA2 := Lib.hid (Below.next HA1.out hb2)
  clear hc1 hg1
  have HB2 := Lib.hid (Below.next HB0.out HA2.out)
  have hc2 := bcell HA2.out
  have hg2 : w.heap.size < w2.heap.size := by have := HA2.out.size; simp at this; omega
  clear hb2
  go_wp2_with fail
  refine (HLT.out _ HB2.out).mono ?_
  rintro e w3 ⟨hb3, v1, rfl, ho1⟩
  have HA3 := Lib.hid (Below.next HA2.out hb3)
  clear hc2 hg2
  have HB3 := Lib.hid (Below.next HB0.out HA3.out)
  have hc3 := bcell HA3.out
  have hg3 : w.heap.size < w3.heap.size := by have := HA3.out.size; simp at this; omega
  clear hb3
  obtain ⟨a6, c6, rfl, -⟩ := ho1.rd
  clear ho1
  go_wp2_with fail
  refine (HPT.out _ HB3.out).mono ?_
  rintro e w4 ⟨hb4, v2, rfl, ho2⟩
  have HA4 := Lib.hid (Below.next HA3.out hb4)
  clear hc3 hg3
  have HB4 := Lib.hid (Below.next HB0.out HA4.out)
  have hc4 := bcell HA4.out
  have hg4 : w.heap.size < w4.heap.size := by have := HA4.out.size; simp at this; omega
  clear hb4
  have HO2 := Lib.hid ho2
  clear ho2
  go_wp2_with fail
  refine (HRR.out _ HB4.out).mono ?_
  rintro e w5 ⟨rfl, hb5⟩
  have HS2 := Lib.hid (HO2.out.below hb5 (Nat.le_refl _))
  have HA5 := Lib.hid (Below.next HA4.out hb5)
  clear hc4 hg4
  have HB5 := Lib.hid (Below.next HB0.out HA5.out)
  have hc5 := bcell HA5.out
  have hg5 : w.heap.size < w5.heap.size := by have := HA5.out.size; simp at this; omega
  clear hb5
  go_wp2_with fail
  refine (HBY.out _ (HB5.out.alloc HB5.out.size _)).mono ?_
  rintro e x6 ⟨v3, rfl, ho3, hb6⟩
  have hW6 : Below w5.heap.size w5 x6 := ((Below.refl _ _).alloc (Nat.le_refl _) _).trans (hb6.mono (by simp))
  have ol := (Own.full (w := w5) (B := w5.heap.size) (e := 5) (cs := #[.int .u8 2]) rfl (Nat.le_refl _) (by unfold maxLen; simp) (n := 1) rfl).below hb6 (Nat.le_refl _)
  have HOL := Lib.hid ol
  have HO3 := Lib.hid ho3
  have HW6 := Lib.hid hW6
  clear ol ho3 hb6 hW6
  go_wp2_with (at_builtin; refine wpList_app rfl (.tmp 121) (.tmp 123) 22 rfl w5.heap.size 5 _ 1 bytesE _ (bvs [2]) rfl HOL.out _ (bvs NB) rfl HO3.out.rd (bvs_one _) ?c1 ?c2 ?_)
  case c1 => rw [bvs_len, bvs_len]; have := Zhnl.out; simp only [List.length_cons, List.length_nil]; omega
  case c2 => exact HW6.out.size
  rintro v4 x7 ho4 - hb7
  rw [← bvs_append] at ho4
  have HW7 := Lib.hid (HW6.out.trans hb7)
  have HO4 := Lib.hid ho4
  clear ho4 hb7
  go_wp2_with fail
  refine (HVL.out _ (Below.next HB5.out HW7.out)).mono ?_
  rintro e x8 ⟨v5, rfl, ho5, hb8⟩
  have HO5 := Lib.hid ho5
  have HO4' := Lib.hid (HO4.out.below hb8 (Nat.le_refl _))
  have HW8 := Lib.hid (Below.next HW7.out hb8)
  clear ho5 hb8
  go_wp2_with (at_builtin; refine wpList_app rfl (.tmp 124) (.tmp 126) 22 rfl w5.heap.size 5 _ 1 bytesE _ (bvs ([2] ++ NB)) rfl HO4'.out _ (bvs (vecB l)) rfl HO5.out.rd (bvs_one _) ?c3 ?c4 ?_)
  case c3 => rw [bvs_len, bvs_len, List.length_append]; have := Zhnl.out; have := Zhvl.out; simp only [List.length_cons, List.length_nil]; omega
  case c4 => exact HW8.out.size
  rintro v6 x9 ho6 - hb9
  rw [← bvs_append] at ho6
  have HW9 := Lib.hid (HW8.out.trans hb9)
  have HO6 := Lib.hid ho6
  clear ho6 hb9
  go_wp2_with fail
  refine (HVR.out _ (Below.next HB5.out HW9.out)).mono ?_
  rintro e xa ⟨v7, rfl, ho7, hba⟩
  have HO7 := Lib.hid ho7
  have HO6' := Lib.hid (HO6.out.below hba (Nat.le_refl _))
  have HWa := Lib.hid (Below.next HW9.out hba)
  clear ho7 hba
  go_wp2_with (at_builtin; refine wpList_wanted rfl ?_; refine wpList_app rfl (.tmp 133) (.tmp 135) 22 rfl w5.heap.size 5 _ 1 bytesE v6 (bvs ([2] ++ NB ++ vecB l)) ?x1 ?x2 v7 (bvs (vecB r)) ?x3 ?x4 (bvs_one _) ?c5 ?c6 ?_)
  case x1 => rfl
  case x2 => exact HO6'.out
  case x3 => rfl
  case x4 => exact HO7.out.rd
  case c5 => rw [bvs_len, bvs_len, List.length_append, List.length_append]; have := Zhnl.out; have := Zhvl.out; have := Zhvr.out; simp only [List.length_cons, List.length_nil]; omega
  case c6 => exact HWa.out.size
  rintro v8 xb ho8 - hbb
  rw [← bvs_append] at ho8
  have hlt : ∀ n ∈ [2] ++ NB ++ vecB l ++ vecB r, n < 256 := all4 (by decide) Zhnb.out Zhvbl.out Zhvbr.out
  have HS := Lib.hid (same_dec v2 v8 _ _ xb (HS2.out.below (HWa.out.trans hbb) (Nat.le_refl _)).rd ho8.rd hlt hlt true (decide_eq_true rfl))
  have HF := Lib.hid (Below.next HB5.out (HWa.out.trans hbb))
  clear ho8 hbb hlt
  go_wp2_with fail
  refine HS.out.mono ?_
  rintro e w' ⟨rfl, n, rfl⟩
  go_wp2_with fail
  go_ret
  exact ⟨rfl, below_drewN' HF.out _⟩
end Go.Proofs.Ytkihcngllhjabaa
