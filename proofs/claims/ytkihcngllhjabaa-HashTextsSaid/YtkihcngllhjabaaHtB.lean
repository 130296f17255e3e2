/- Walks: HashTexts, the combinations ad ba bb. -/
import Derived.Test.YtkihcngllhjabaaHtBase
namespace Go.Proofs.Ytkihcngllhjabaa
open Go.RowKit WireM
set_option linter.unusedVariables false
set_option maxRecDepth 100000 in
set_option maxHeartbeats 4000000 in
theorem ht_ad (i : Int) (d : NodeD) (c : Array Value) (vl vr : Value) (l r : List Nat) (w : World) (h : NodeC w d c) (hk : NodeOk d) (hs : smallB d = true) (hl : Rd w vl (bvs l)) (hr : Rd w vr (bvs r)) (hlb : ∀ n ∈ l, n < 256) (hrb : ∀ n ∈ r, n < 256) (hl1 : l.length ≤ 100) (hr1 : r.length ≤ 100)
    (k0 : i < 0) (hrt : rightB d = true) (t1 : ((d.kind : Int) == 1) = false) (t3 : ((l.length : Int) != 32) = false) (t4 : ((r.length : Int) != 32) = true) :
    Calls Try.prog 6 #[.int .i64 i, .agg c, vl, vr] w fun e w' => e = .returned (.bool true) ∧ Below w.heap.size w w' := by
  have eL : ltF i d = ([], 1) := by
    unfold ltF; rw [if_pos (.inl k0)]
  have eP : ptF d l r = ([], 1) := by
    unfold ptF; rw [if_neg (by rw [hrt]; have := beq_eq_false_iff_ne.1 t1; simp; omega)]
    rw [if_pos (.inr (by have := bne_iff_ne.1 t4; omega))]
  have LT := fun W (hw : Below w.heap.size w W) => lt_eq _ _ eL (leafText_any i d c W (h.below hw (Nat.le_refl _)) hk hs)
  have PT := fun W (hw : Below w.heap.size w W) => lt_eq _ _ eP (parentText_any d c vl vr l r W (h.below hw (Nat.le_refl _)) hk hs (hl.below hw (Nat.le_refl _)) (hr.below hw (Nat.le_refl _)))
  have RR := fun W (hw : Below w.heap.size w W) => rright_eq _ hrt (rright_any d c W (h.below hw (Nat.le_refl _)) hk)
  have SM := fun W => smalls_any d c w W h hs
  obtain ⟨a1, c1, a2, c2, a3, c3, a4, c4, a5, c5, b1, e1, b2, e2, b3, e3, rfl, -⟩ := h
  obtain ⟨al, cl, rfl, -⟩ := hl
  obtain ⟨ar, cr, rfl, -⟩ := hr
  simp only [bvs_len] at PT ⊢
  obtain ⟨m1, hm1⟩ : ∃ b, b = d.leaf.box.length := ⟨_, rfl⟩
  obtain ⟨m2, hm2⟩ : ∃ b, b = d.leaf.sign.length := ⟨_, rfl⟩
  obtain ⟨m3, hm3⟩ : ∃ b, b = d.leaf.ident.length := ⟨_, rfl⟩
  obtain ⟨m4, hm4⟩ : ∃ b, b = d.leaf.par.length := ⟨_, rfl⟩
  obtain ⟨m5, hm5⟩ : ∃ b, b = d.leaf.sig.length := ⟨_, rfl⟩
  obtain ⟨m6, hm6⟩ : ∃ b, b = d.par.box.length := ⟨_, rfl⟩
  obtain ⟨m7, hm7⟩ : ∃ b, b = d.par.hash.length := ⟨_, rfl⟩
  obtain ⟨m8, hm8⟩ : ∃ b, b = d.par.late.length := ⟨_, rfl⟩
  obtain ⟨kd, hkd⟩ : ∃ b, b = d.kind := ⟨_, rfl⟩
  obtain ⟨src, hsrc⟩ : ∃ b, b = d.leaf.source := ⟨_, rfl⟩
  obtain ⟨nl, hnnl⟩ : ∃ b, b = l.length := ⟨_, rfl⟩
  obtain ⟨nr, hnnr⟩ : ∃ b, b = r.length := ⟨_, rfl⟩
  obtain ⟨NB, hNB⟩ : ∃ b, b = nodeB d := ⟨_, rfl⟩
  simp only [← hm1, ← hm2, ← hm3, ← hm4, ← hm5, ← hm6, ← hm7, ← hm8, ← hkd, ← hsrc, ← hnnl, ← hnnr] at LT PT RR SM hl1 hr1 t1 t3 t4 ⊢
  have HB0 := Lib.hid ((Below.refl w.heap.size w).alloc (Nat.le_refl _) (.cells #[.int .u8 (kd : Nat), .slice a1 m1 c1, .slice a2 m2 c2, .slice a3 m3 c3, .int .u8 (src : Nat), .slice a4 m4 c4, .slice a5 m5 c5, .slice b1 m6 e1, .slice b2 m7 e2, .slice b3 m8 e3] 57))
  have HLT := Lib.hid LT
  have HPT := Lib.hid PT
  have HRR := Lib.hid RR
  have HSM := Lib.hid SM
  have HAL := Lib.hid (fun W => alive18 W)
  have g1 : decide ((100 : Int) < (nl : Int)) = false := by rw [decide_eq_false_iff_not]; omega
  have g2 : decide ((100 : Int) < (nr : Int)) = false := by rw [decide_eq_false_iff_not]; omega
  have g3 : decide (100 < nl) = false := by rw [decide_eq_false_iff_not]; omega
  have g4 : decide (100 < nr) = false := by rw [decide_eq_false_iff_not]; omega
  clear hm1 hm2 hm3 hm4 hm5 hm6 hm7 hm8 hkd hsrc hNB hnnl hnnr hlb hrb hk hs hrt eL eP LT PT RR SM 
  go_enter Try.func6, Try.ntmps6
  go_wp2_with fail
  refine (HAL.out _).mono ?_
  rintro e w1 ⟨rfl, hb1⟩
  have HA1 := Lib.hid hb1
  have HB1 := Lib.hid (Below.next HB0.out HA1.out)
  have hc1 := bcell HA1.out
  have hg1 : w.heap.size < w1.heap.size := by have := HA1.out.size; simp at this; omega
  clear hb1
  go_wp2_with fail
  refine (HSM.out _).mono ?_
  rintro e w2 ⟨rfl, hb2⟩
  have HA2 := Lib.hid (Below.next HA1.out hb2)
  clear hc1 hg1
  have HB2 := Lib.hid (Below.next HB0.out HA2.out)
  have hc2 := bcell HA2.out
  have hg2 : w.heap.size < w2.heap.size := by have := HA2.out.size; simp at this; omega
  clear hb2
  go_wp2_with fail
  refine (HLT.out _ HB2.out).mono ?_
  rintro e w3 ⟨hb3, v1, rfl, ho1⟩
  have HA3 := Lib.hid (Below.next HA2.out hb3)
  clear hc2 hg2
  have HB3 := Lib.hid (Below.next HB0.out HA3.out)
  have hc3 := bcell HA3.out
  have hg3 : w.heap.size < w3.heap.size := by have := HA3.out.size; simp at this; omega
  clear hb3
  obtain ⟨a6, c6, rfl, -⟩ := ho1.rd
  clear ho1
  go_wp2_with fail
  refine (HPT.out _ HB3.out).mono ?_
  rintro e w4 ⟨hb4, v2, rfl, ho2⟩
  have HA4 := Lib.hid (Below.next HA3.out hb4)
  clear hc3 hg3
  have HB4 := Lib.hid (Below.next HB0.out HA4.out)
  have hc4 := bcell HA4.out
  have hg4 : w.heap.size < w4.heap.size := by have := HA4.out.size; simp at this; omega
  clear hb4
  obtain ⟨a7, c7, rfl, -⟩ := ho2.rd
  clear ho2
  go_wp2_with fail
  refine (HRR.out _ HB4.out).mono ?_
  rintro e w5 ⟨rfl, hb5⟩
  have HA5 := Lib.hid (Below.next HA4.out hb5)
  clear hc4 hg4
  have HB5 := Lib.hid (Below.next HB0.out HA5.out)
  have hc5 := bcell HA5.out
  have hg5 : w.heap.size < w5.heap.size := by have := HA5.out.size; simp at this; omega
  clear hb5
  go_wp2_with fail
  go_ret
  exact ⟨rfl, HB5.out⟩
set_option maxRecDepth 100000 in
set_option maxHeartbeats 4000000 in
theorem ht_ba (i : Int) (d : NodeD) (c : Array Value) (vl vr : Value) (l r : List Nat) (w : World) (h : NodeC w d c) (hk : NodeOk d) (hs : smallB d = true) (hl : Rd w vl (bvs l)) (hr : Rd w vr (bvs r)) (hlb : ∀ n ∈ l, n < 256) (hrb : ∀ n ∈ r, n < 256) (hl1 : l.length ≤ 100) (hr1 : r.length ≤ 100)
    (k0 : ¬ i < 0) (k1 : 65535 < i) (hrt : rightB d = false) :
    Calls Try.prog 6 #[.int .i64 i, .agg c, vl, vr] w fun e w' => e = .returned (.bool true) ∧ Below w.heap.size w w' := by
  have eL : ltF i d = ([], 1) := by
    unfold ltF; rw [if_pos (.inr k1)]
  have eP : ptF d l r = ([], 3) := by
    unfold ptF; rw [if_pos (.inl hrt)]
  have LT := fun W (hw : Below w.heap.size w W) => lt_eq _ _ eL (leafText_any i d c W (h.below hw (Nat.le_refl _)) hk hs)
  have PT := fun W (hw : Below w.heap.size w W) => lt_eq _ _ eP (parentText_any d c vl vr l r W (h.below hw (Nat.le_refl _)) hk hs (hl.below hw (Nat.le_refl _)) (hr.below hw (Nat.le_refl _)))
  have RR := fun W (hw : Below w.heap.size w W) => rright_eq _ hrt (rright_any d c W (h.below hw (Nat.le_refl _)) hk)
  have SM := fun W => smalls_any d c w W h hs
  obtain ⟨a1, c1, a2, c2, a3, c3, a4, c4, a5, c5, b1, e1, b2, e2, b3, e3, rfl, -⟩ := h
  obtain ⟨al, cl, rfl, -⟩ := hl
  obtain ⟨ar, cr, rfl, -⟩ := hr
  simp only [bvs_len] at PT ⊢
  obtain ⟨m1, hm1⟩ : ∃ b, b = d.leaf.box.length := ⟨_, rfl⟩
  obtain ⟨m2, hm2⟩ : ∃ b, b = d.leaf.sign.length := ⟨_, rfl⟩
  obtain ⟨m3, hm3⟩ : ∃ b, b = d.leaf.ident.length := ⟨_, rfl⟩
  obtain ⟨m4, hm4⟩ : ∃ b, b = d.leaf.par.length := ⟨_, rfl⟩
  obtain ⟨m5, hm5⟩ : ∃ b, b = d.leaf.sig.length := ⟨_, rfl⟩
  obtain ⟨m6, hm6⟩ : ∃ b, b = d.par.box.length := ⟨_, rfl⟩
  obtain ⟨m7, hm7⟩ : ∃ b, b = d.par.hash.length := ⟨_, rfl⟩
  obtain ⟨m8, hm8⟩ : ∃ b, b = d.par.late.length := ⟨_, rfl⟩
  obtain ⟨kd, hkd⟩ : ∃ b, b = d.kind := ⟨_, rfl⟩
  obtain ⟨src, hsrc⟩ : ∃ b, b = d.leaf.source := ⟨_, rfl⟩
  obtain ⟨nl, hnnl⟩ : ∃ b, b = l.length := ⟨_, rfl⟩
  obtain ⟨nr, hnnr⟩ : ∃ b, b = r.length := ⟨_, rfl⟩
  obtain ⟨NB, hNB⟩ : ∃ b, b = nodeB d := ⟨_, rfl⟩
  simp only [← hm1, ← hm2, ← hm3, ← hm4, ← hm5, ← hm6, ← hm7, ← hm8, ← hkd, ← hsrc, ← hnnl, ← hnnr] at LT PT RR SM hl1 hr1 ⊢
  have HB0 := Lib.hid ((Below.refl w.heap.size w).alloc (Nat.le_refl _) (.cells #[.int .u8 (kd : Nat), .slice a1 m1 c1, .slice a2 m2 c2, .slice a3 m3 c3, .int .u8 (src : Nat), .slice a4 m4 c4, .slice a5 m5 c5, .slice b1 m6 e1, .slice b2 m7 e2, .slice b3 m8 e3] 57))
  have HLT := Lib.hid LT
  have HPT := Lib.hid PT
  have HRR := Lib.hid RR
  have HSM := Lib.hid SM
  have HAL := Lib.hid (fun W => alive18 W)
  have g1 : decide ((100 : Int) < (nl : Int)) = false := by rw [decide_eq_false_iff_not]; omega
  have g2 : decide ((100 : Int) < (nr : Int)) = false := by rw [decide_eq_false_iff_not]; omega
  have g3 : decide (100 < nl) = false := by rw [decide_eq_false_iff_not]; omega
  have g4 : decide (100 < nr) = false := by rw [decide_eq_false_iff_not]; omega
  clear hm1 hm2 hm3 hm4 hm5 hm6 hm7 hm8 hkd hsrc hNB hnnl hnnr hlb hrb hk hs hrt eL eP LT PT RR SM 
  have k2 : 65536 ≤ i := by omega
  have k3 : 0 ≤ i := by omega
  clear k0 k1
  go_enter Try.func6, Try.ntmps6
  go_wp2_with fail
  refine (HAL.out _).mono ?_
  rintro e w1 ⟨rfl, hb1⟩
  have HA1 := Lib.hid hb1
  have HB1 := Lib.hid (Below.next HB0.out HA1.out)
  have hc1 := bcell HA1.out
  have hg1 : w.heap.size < w1.heap.size := by have := HA1.out.size; simp at this; omega
  clear hb1
  go_wp2_with fail
  refine (HSM.out _).mono ?_
  rintro e w2 ⟨rfl, hb2⟩
  have HA2 := Lib.hid (Below.next HA1.out hb2)
  clear hc1 hg1
  have HB2 := Lib.hid (Below.next HB0.out HA2.out)
  have hc2 := bcell HA2.out
  have hg2 : w.heap.size < w2.heap.size := by have := HA2.out.size; simp at this; omega
  clear hb2
  go_wp2_with fail
  refine (HLT.out _ HB2.out).mono ?_
  rintro e w3 ⟨hb3, v1, rfl, ho1⟩
  have HA3 := Lib.hid (Below.next HA2.out hb3)
  clear hc2 hg2
  have HB3 := Lib.hid (Below.next HB0.out HA3.out)
  have hc3 := bcell HA3.out
  have hg3 : w.heap.size < w3.heap.size := by have := HA3.out.size; simp at this; omega
  clear hb3
  obtain ⟨a6, c6, rfl, -⟩ := ho1.rd
  clear ho1
  go_wp2_with fail
  refine (HPT.out _ HB3.out).mono ?_
  rintro e w4 ⟨hb4, v2, rfl, ho2⟩
  have HA4 := Lib.hid (Below.next HA3.out hb4)
  clear hc3 hg3
  have HB4 := Lib.hid (Below.next HB0.out HA4.out)
  have hc4 := bcell HA4.out
  have hg4 : w.heap.size < w4.heap.size := by have := HA4.out.size; simp at this; omega
  clear hb4
  obtain ⟨a7, c7, rfl, -⟩ := ho2.rd
  clear ho2
  go_wp2_with fail
  refine (HRR.out _ HB4.out).mono ?_
  rintro e w5 ⟨rfl, hb5⟩
  have HA5 := Lib.hid (Below.next HA4.out hb5)
  clear hc4 hg4
  have HB5 := Lib.hid (Below.next HB0.out HA5.out)
  have hc5 := bcell HA5.out
  have hg5 : w.heap.size < w5.heap.size := by have := HA5.out.size; simp at this; omega
  clear hb5
  go_wp2_with fail
  go_ret
  exact ⟨rfl, HB5.out⟩
set_option maxRecDepth 100000 in
set_option maxHeartbeats 4000000 in
theorem ht_bb (i : Int) (d : NodeD) (c : Array Value) (vl vr : Value) (l r : List Nat) (w : World) (h : NodeC w d c) (hk : NodeOk d) (hs : smallB d = true) (hl : Rd w vl (bvs l)) (hr : Rd w vr (bvs r)) (hlb : ∀ n ∈ l, n < 256) (hrb : ∀ n ∈ r, n < 256) (hl1 : l.length ≤ 100) (hr1 : r.length ≤ 100)
    (k0 : ¬ i < 0) (k1 : 65535 < i) (hrt : rightB d = true) (t1 : ((d.kind : Int) == 1) = true) :
    Calls Try.prog 6 #[.int .i64 i, .agg c, vl, vr] w fun e w' => e = .returned (.bool true) ∧ Below w.heap.size w w' := by
  have eL : ltF i d = ([], 1) := by
    unfold ltF; rw [if_pos (.inr k1)]
  have eP : ptF d l r = ([], 3) := by
    unfold ptF; rw [if_pos (.inr (by have := beq_iff_eq.1 t1; omega))]
  have LT := fun W (hw : Below w.heap.size w W) => lt_eq _ _ eL (leafText_any i d c W (h.below hw (Nat.le_refl _)) hk hs)
  have PT := fun W (hw : Below w.heap.size w W) => lt_eq _ _ eP (parentText_any d c vl vr l r W (h.below hw (Nat.le_refl _)) hk hs (hl.below hw (Nat.le_refl _)) (hr.below hw (Nat.le_refl _)))
  have RR := fun W (hw : Below w.heap.size w W) => rright_eq _ hrt (rright_any d c W (h.below hw (Nat.le_refl _)) hk)
  have SM := fun W => smalls_any d c w W h hs
  obtain ⟨a1, c1, a2, c2, a3, c3, a4, c4, a5, c5, b1, e1, b2, e2, b3, e3, rfl, -⟩ := h
  obtain ⟨al, cl, rfl, -⟩ := hl
  obtain ⟨ar, cr, rfl, -⟩ := hr
  simp only [bvs_len] at PT ⊢
  obtain ⟨m1, hm1⟩ : ∃ b, b = d.leaf.box.length := ⟨_, rfl⟩
  obtain ⟨m2, hm2⟩ : ∃ b, b = d.leaf.sign.length := ⟨_, rfl⟩
  obtain ⟨m3, hm3⟩ : ∃ b, b = d.leaf.ident.length := ⟨_, rfl⟩
  obtain ⟨m4, hm4⟩ : ∃ b, b = d.leaf.par.length := ⟨_, rfl⟩
  obtain ⟨m5, hm5⟩ : ∃ b, b = d.leaf.sig.length := ⟨_, rfl⟩
  obtain ⟨m6, hm6⟩ : ∃ b, b = d.par.box.length := ⟨_, rfl⟩
  obtain ⟨m7, hm7⟩ : ∃ b, b = d.par.hash.length := ⟨_, rfl⟩
  obtain ⟨m8, hm8⟩ : ∃ b, b = d.par.late.length := ⟨_, rfl⟩
  obtain ⟨kd, hkd⟩ : ∃ b, b = d.kind := ⟨_, rfl⟩
  obtain ⟨src, hsrc⟩ : ∃ b, b = d.leaf.source := ⟨_, rfl⟩
  obtain ⟨nl, hnnl⟩ : ∃ b, b = l.length := ⟨_, rfl⟩
  obtain ⟨nr, hnnr⟩ : ∃ b, b = r.length := ⟨_, rfl⟩
  obtain ⟨NB, hNB⟩ : ∃ b, b = nodeB d := ⟨_, rfl⟩
  simp only [← hm1, ← hm2, ← hm3, ← hm4, ← hm5, ← hm6, ← hm7, ← hm8, ← hkd, ← hsrc, ← hnnl, ← hnnr] at LT PT RR SM hl1 hr1 t1 ⊢
  have HB0 := Lib.hid ((Below.refl w.heap.size w).alloc (Nat.le_refl _) (.cells #[.int .u8 (kd : Nat), .slice a1 m1 c1, .slice a2 m2 c2, .slice a3 m3 c3, .int .u8 (src : Nat), .slice a4 m4 c4, .slice a5 m5 c5, .slice b1 m6 e1, .slice b2 m7 e2, .slice b3 m8 e3] 57))
  have HLT := Lib.hid LT
  have HPT := Lib.hid PT
  have HRR := Lib.hid RR
  have HSM := Lib.hid SM
  have HAL := Lib.hid (fun W => alive18 W)
  have g1 : decide ((100 : Int) < (nl : Int)) = false := by rw [decide_eq_false_iff_not]; omega
  have g2 : decide ((100 : Int) < (nr : Int)) = false := by rw [decide_eq_false_iff_not]; omega
  have g3 : decide (100 < nl) = false := by rw [decide_eq_false_iff_not]; omega
  have g4 : decide (100 < nr) = false := by rw [decide_eq_false_iff_not]; omega
  clear hm1 hm2 hm3 hm4 hm5 hm6 hm7 hm8 hkd hsrc hNB hnnl hnnr hlb hrb hk hs hrt eL eP LT PT RR SM 
  have k2 : 65536 ≤ i := by omega
  have k3 : 0 ≤ i := by omega
  clear k0 k1
  go_enter Try.func6, Try.ntmps6
  go_wp2_with fail
  refine (HAL.out _).mono ?_
  rintro e w1 ⟨rfl, hb1⟩
  have HA1 := Lib.hid hb1
  have HB1 := Lib.hid (Below.next HB0.out HA1.out)
  have hc1 := bcell HA1.out
  have hg1 : w.heap.size < w1.heap.size := by have := HA1.out.size; simp at this; omega
  clear hb1
  go_wp2_with fail
  refine (HSM.out _).mono ?_
  rintro e w2 ⟨rfl, hb2⟩
  have HA2 := Lib.hid (Below.next HA1.out hb2)
  clear hc1 hg1
  have HB2 := Lib.hid (Below.next HB0.out HA2.out)
  have hc2 := bcell HA2.out
  have hg2 : w.heap.size < w2.heap.size := by have := HA2.out.size; simp at this; omega
  clear hb2
  go_wp2_with fail
  refine (HLT.out _ HB2.out).mono ?_
  rintro e w3 ⟨hb3, v1, rfl, ho1⟩
  have HA3 := Lib.hid (Below.next HA2.out hb3)
  clear hc2 hg2
  have HB3 := Lib.hid (Below.next HB0.out HA3.out)
  have hc3 := bcell HA3.out
  have hg3 : w.heap.size < w3.heap.size := by have := HA3.out.size; simp at this; omega
  clear hb3
  obtain ⟨a6, c6, rfl, -⟩ := ho1.rd
  clear ho1
  go_wp2_with fail
  refine (HPT.out _ HB3.out).mono ?_
  rintro e w4 ⟨hb4, v2, rfl, ho2⟩
  have HA4 := Lib.hid (Below.next HA3.out hb4)
  clear hc3 hg3
  have HB4 := Lib.hid (Below.next HB0.out HA4.out)
  have hc4 := bcell HA4.out
  have hg4 : w.heap.size < w4.heap.size := by have := HA4.out.size; simp at this; omega
  clear hb4
  obtain ⟨a7, c7, rfl, -⟩ := ho2.rd
  clear ho2
  go_wp2_with fail
  refine (HRR.out _ HB4.out).mono ?_
  rintro e w5 ⟨rfl, hb5⟩
  have HA5 := Lib.hid (Below.next HA4.out hb5)
  clear hc4 hg4
  have HB5 := Lib.hid (Below.next HB0.out HA5.out)
  have hc5 := bcell HA5.out
  have hg5 : w.heap.size < w5.heap.size := by have := HA5.out.size; simp at this; omega
  clear hb5
  go_wp2_with fail
  go_ret
  exact ⟨rfl, HB5.out⟩
end Go.Proofs.Ytkihcngllhjabaa
