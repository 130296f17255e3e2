/- Walks: the reference's Same of nodes. -/
import Derived.Test.YtohldijomcljkaaZHashTrees05
namespace Go.Proofs.Ytohldijomcljkaa
open Go.RowKit WireM
set_option linter.unusedVariables false
def sameNB (a b : NodeD) : Bool := decide (a.kind = b.kind ∧ sameLB a.leaf b.leaf = true ∧ a.par.box = b.par.box ∧ a.par.hash = b.par.hash ∧ a.par.late = b.par.late)
set_option maxRecDepth 100000 in
set_option maxHeartbeats 8000000 in
theorem rsameNode_any (d e : NodeD) (c c' : Array Value) (w : World) (hc : NodeC w d c) (hc' : NodeC w e c') (hd : NodeOk d) (he : NodeOk e) :
    Calls Try.prog 60 #[.agg c, .agg c'] w fun e' w' => e' = .returned (.bool (sameNB d e)) ∧ Below w.heap.size w w' := by
  obtain ⟨a1, c1, a2, c2, a3, c3, a4, c4, a5, c5, a6, c6, a7, c7, a8, c8, rfl, h1, h2, h3, h4, h5, h6, h7, h8⟩ := hc
  obtain ⟨b1, e1, b2, e2, b3, e3, b4, e4, b5, e5, b6, e6, b7, e7, b8, e8, rfl, k1, k2, k3, k4, k5, k6, k7, k8⟩ := hc'
  have SL := fun W (hw : Below w.heap.size w W) => rsameLeaf_any d.leaf e.leaf _ _ W ⟨a1, c1, a2, c2, a3, c3, a4, c4, a5, c5, rfl, h1.below hw (Nat.le_refl _), h2.below hw (Nat.le_refl _), h3.below hw (Nat.le_refl _), h4.below hw (Nat.le_refl _), h5.below hw (Nat.le_refl _)⟩
    ⟨b1, e1, b2, e2, b3, e3, b4, e4, b5, e5, rfl, k1.below hw (Nat.le_refl _), k2.below hw (Nat.le_refl _), k3.below hw (Nat.le_refl _), k4.below hw (Nat.le_refl _), k5.below hw (Nat.le_refl _)⟩ hd.leaf he.leaf
  have S6 := fun W (hw : Below w.heap.size w W) b hb => same_dec _ _ d.par.box e.par.box W (h6.below hw (Nat.le_refl _)) (k6.below hw (Nat.le_refl _)) hd.pbox he.pbox b hb
  have S7 := fun W (hw : Below w.heap.size w W) b hb => same_dec _ _ d.par.hash e.par.hash W (h7.below hw (Nat.le_refl _)) (k7.below hw (Nat.le_refl _)) hd.hash he.hash b hb
  have S8 := fun W (hw : Below w.heap.size w W) => sameI_any _ _ d.par.late e.par.late W (h8.below hw (Nat.le_refl _)) (k8.below hw (Nat.le_refl _))
  have hE : sameNB d e = decide (d.kind = e.kind ∧ sameLB d.leaf e.leaf = true ∧ d.par.box = e.par.box ∧ d.par.hash = e.par.hash ∧ d.par.late = e.par.late) := rfl
  rw [hE]
  clear hE
  obtain ⟨m1, hm1⟩ : ∃ m, m = d.leaf.box.length := ⟨_, rfl⟩
  obtain ⟨q1, hq1⟩ : ∃ m, m = e.leaf.box.length := ⟨_, rfl⟩
  obtain ⟨m2, hm2⟩ : ∃ m, m = d.leaf.sign.length := ⟨_, rfl⟩
  obtain ⟨q2, hq2⟩ : ∃ m, m = e.leaf.sign.length := ⟨_, rfl⟩
  obtain ⟨m3, hm3⟩ : ∃ m, m = d.leaf.ident.length := ⟨_, rfl⟩
  obtain ⟨q3, hq3⟩ : ∃ m, m = e.leaf.ident.length := ⟨_, rfl⟩
  obtain ⟨m4, hm4⟩ : ∃ m, m = d.leaf.par.length := ⟨_, rfl⟩
  obtain ⟨q4, hq4⟩ : ∃ m, m = e.leaf.par.length := ⟨_, rfl⟩
  obtain ⟨m5, hm5⟩ : ∃ m, m = d.leaf.sig.length := ⟨_, rfl⟩
  obtain ⟨q5, hq5⟩ : ∃ m, m = e.leaf.sig.length := ⟨_, rfl⟩
  obtain ⟨m6, hm6⟩ : ∃ m, m = d.par.box.length := ⟨_, rfl⟩
  obtain ⟨q6, hq6⟩ : ∃ m, m = e.par.box.length := ⟨_, rfl⟩
  obtain ⟨m7, hm7⟩ : ∃ m, m = d.par.hash.length := ⟨_, rfl⟩
  obtain ⟨q7, hq7⟩ : ∃ m, m = e.par.hash.length := ⟨_, rfl⟩
  obtain ⟨m8, hm8⟩ : ∃ m, m = d.par.late.length := ⟨_, rfl⟩
  obtain ⟨q8, hq8⟩ : ∃ m, m = e.par.late.length := ⟨_, rfl⟩
  obtain ⟨s1, hs1⟩ : ∃ m, m = d.leaf.source := ⟨_, rfl⟩
  obtain ⟨s2, hs2⟩ : ∃ m, m = e.leaf.source := ⟨_, rfl⟩
  obtain ⟨kd, hkd⟩ : ∃ m, m = d.kind := ⟨_, rfl⟩
  obtain ⟨ke, hke⟩ : ∃ m, m = e.kind := ⟨_, rfl⟩
  rw [← hm1, ← hm2, ← hm3, ← hm4, ← hm5, ← hq1, ← hq2, ← hq3, ← hq4, ← hq5, ← hs1, ← hs2] at SL
  rw [← hm6, ← hq6] at S6
  rw [← hm7, ← hq7] at S7
  rw [← hm8, ← hq8] at S8
  rw [← hm1, ← hm2, ← hm3, ← hm4, ← hm5, ← hm6, ← hm7, ← hm8, ← hq1, ← hq2, ← hq3, ← hq4, ← hq5, ← hq6, ← hq7, ← hq8, ← hs1, ← hs2, ← hkd, ← hke]
  obtain ⟨sl, hsl⟩ : ∃ m, m = sameLB d.leaf e.leaf := ⟨_, rfl⟩
  rw [← hsl] at SL ⊢
  obtain ⟨A6, hA6⟩ : ∃ m, m = d.par.box := ⟨_, rfl⟩
  obtain ⟨B6, hB6⟩ : ∃ m, m = e.par.box := ⟨_, rfl⟩
  rw [← hA6, ← hB6] at S6 ⊢
  obtain ⟨A7, hA7⟩ : ∃ m, m = d.par.hash := ⟨_, rfl⟩
  obtain ⟨B7, hB7⟩ : ∃ m, m = e.par.hash := ⟨_, rfl⟩
  rw [← hA7, ← hB7] at S7 ⊢
  obtain ⟨A8, hA8⟩ : ∃ m, m = d.par.late := ⟨_, rfl⟩
  obtain ⟨B8, hB8⟩ : ∃ m, m = e.par.late := ⟨_, rfl⟩
  rw [← hA8, ← hB8] at S8 ⊢
  have HSL := Lib.hid SL
  have HS6 := Lib.hid S6
  have HS7 := Lib.hid S7
  have HS8 := Lib.hid S8
  have HB0 := Lib.hid (((Below.refl w.heap.size w).alloc (Nat.le_refl _) (.cells #[.int .u8 (kd : Nat), .slice a1 m1 c1, .slice a2 m2 c2, .slice a3 m3 c3, .int .u8 (s1 : Nat), .slice a4 m4 c4, .slice a5 m5 c5, .slice a6 m6 c6, .slice a7 m7 c7, .slice a8 m8 c8] 46)).alloc (by simp) (.cells #[.int .u8 (ke : Nat), .slice b1 q1 e1, .slice b2 q2 e2, .slice b3 q3 e3, .int .u8 (s2 : Nat), .slice b4 q4 e4, .slice b5 q5 e5, .slice b6 q6 e6, .slice b7 q7 e7, .slice b8 q8 e8] 46))
  have HK1 := Lib.hid ((Blk.new w 46 #[.int .u8 (kd : Nat), .slice a1 m1 c1, .slice a2 m2 c2, .slice a3 m3 c3, .int .u8 (s1 : Nat), .slice a4 m4 c4, .slice a5 m5 c5, .slice a6 m6 c6, .slice a7 m7 c7, .slice a8 m8 c8]).alloc (.cells #[.int .u8 (ke : Nat), .slice b1 q1 e1, .slice b2 q2 e2, .slice b3 q3 e3, .int .u8 (s2 : Nat), .slice b4 q4 e4, .slice b5 q5 e5, .slice b6 q6 e6, .slice b7 q7 e7, .slice b8 q8 e8] 46))
  have hk2 := Blk.new (w.alloc (.cells #[.int .u8 (kd : Nat), .slice a1 m1 c1, .slice a2 m2 c2, .slice a3 m3 c3, .int .u8 (s1 : Nat), .slice a4 m4 c4, .slice a5 m5 c5, .slice a6 m6 c6, .slice a7 m7 c7, .slice a8 m8 c8] 46)) 46 #[.int .u8 (ke : Nat), .slice b1 q1 e1, .slice b2 q2 e2, .slice b3 q3 e3, .int .u8 (s2 : Nat), .slice b4 q4 e4, .slice b5 q5 e5, .slice b6 q6 e6, .slice b7 q7 e7, .slice b8 q8 e8]
  have hz : (w.alloc (.cells #[.int .u8 (kd : Nat), .slice a1 m1 c1, .slice a2 m2 c2, .slice a3 m3 c3, .int .u8 (s1 : Nat), .slice a4 m4 c4, .slice a5 m5 c5, .slice a6 m6 c6, .slice a7 m7 c7, .slice a8 m8 c8] 46)).heap.size = w.heap.size + 1 := by simp
  rw [hz] at hk2
  have HK2 := Lib.hid hk2
  clear hz hk2 SL S6 S7 S8 hd he h1 k1 hm1 hq1 h2 k2 hm2 hq2 h3 k3 hm3 hq3 h4 k4 hm4 hq4 h5 k5 hm5 hq5 h6 k6 hm6 hq6 h7 k7 hm7 hq7 h8 k8 hm8 hq8 hs1 hs2 hkd hke hsl hA6 hA7 hA8 hB6 hB7 hB8
  by_cases k0 : kd = ke
  · have t0 : ((kd : Int) == (ke : Int)) = true := by rw [beq_iff_eq]; omega
    cases sl with
    | true =>
      by_cases k6 : A6 = B6
      · by_cases k7 : A7 = B7
        · have HN6 := Lib.hid k6
          have HN7 := Lib.hid k7
          by_cases k8 : A8 = B8
          · have HE : Hid (decide (kd = ke ∧ (true : Bool) = true ∧ A6 = B6 ∧ A7 = B7 ∧ A8 = B8) = true) := Lib.hid (decide_eq_true ⟨k0, rfl, k6, k7, k8⟩)
            have HN8 := Lib.hid k8
            clear k0 k6 k7 k8
            go_enter Try.func60, Try.ntmps60
            go_wp2_with fail
            refine (HSL.out _ HB0.out).mono ?_
            rintro e' w3 ⟨rfl, hb3⟩
            have hk1 := HK1.out.below hb3 (by simp; omega)
            have hk2 := HK2.out.below hb3 (by simp)
            have y6 := hk1.cell 7
            have y7 := hk1.cell 8
            have y8 := hk1.cell 9
            have z6 := hk2.cell 7
            have z7 := hk2.cell 8
            have z8 := hk2.cell 9
            simp only [List.getElem?_toArray, List.getElem?_cons_zero, List.getElem?_cons_succ] at y6 y7 y8 z6 z7 z8
            have HB3 := Lib.hid (HB0.out.trans (hb3.mono (by simp; omega)))
            have hz3 := hb3.size
            simp only [World.alloc, Array.size_push] at hz3
            have hg1 : w.heap.size < w3.heap.size := by omega
            have hg2 : w.heap.size + 1 < w3.heap.size := by omega
            clear hk1 hk2 hb3 hz3
            go_wp2_with fail
            refine (HS6.out _ (by repeat (first | exact HB3.out | exact HB0.out | refine below_drewN' ?_ _)) true (decide_eq_true HN6.out)).mono ?_
            rintro e' w' ⟨rfl, n6, rfl⟩
            go_wp2_with fail
            refine (HS7.out _ (by repeat (first | exact HB3.out | exact HB0.out | refine below_drewN' ?_ _)) true (decide_eq_true HN7.out)).mono ?_
            rintro e' w' ⟨rfl, n7, rfl⟩
            go_wp2_with fail
            refine (HS8.out _ (by repeat (first | exact HB3.out | exact HB0.out | refine below_drewN' ?_ _))).mono ?_
            rintro e' w' ⟨he8, n8, rfl⟩
            rw [decide_eq_true HN8.out] at he8
            subst he8
            go_wp2_with fail
            go_ret
            exact ⟨ret_bool HE.out.symm, (by repeat (first | exact HB3.out | exact HB0.out | refine below_drewN' ?_ _))⟩
          · have HE : Hid (decide (kd = ke ∧ (true : Bool) = true ∧ A6 = B6 ∧ A7 = B7 ∧ A8 = B8) = false) := Lib.hid (decide_eq_false (fun h => k8 h.2.2.2.2))
            have HN8 := Lib.hid k8
            clear k0 k6 k7 k8
            go_enter Try.func60, Try.ntmps60
            go_wp2_with fail
            refine (HSL.out _ HB0.out).mono ?_
            rintro e' w3 ⟨rfl, hb3⟩
            have hk1 := HK1.out.below hb3 (by simp; omega)
            have hk2 := HK2.out.below hb3 (by simp)
            have y6 := hk1.cell 7
            have y7 := hk1.cell 8
            have y8 := hk1.cell 9
            have z6 := hk2.cell 7
            have z7 := hk2.cell 8
            have z8 := hk2.cell 9
            simp only [List.getElem?_toArray, List.getElem?_cons_zero, List.getElem?_cons_succ] at y6 y7 y8 z6 z7 z8
            have HB3 := Lib.hid (HB0.out.trans (hb3.mono (by simp; omega)))
            have hz3 := hb3.size
            simp only [World.alloc, Array.size_push] at hz3
            have hg1 : w.heap.size < w3.heap.size := by omega
            have hg2 : w.heap.size + 1 < w3.heap.size := by omega
            clear hk1 hk2 hb3 hz3
            go_wp2_with fail
            refine (HS6.out _ (by repeat (first | exact HB3.out | exact HB0.out | refine below_drewN' ?_ _)) true (decide_eq_true HN6.out)).mono ?_
            rintro e' w' ⟨rfl, n6, rfl⟩
            go_wp2_with fail
            refine (HS7.out _ (by repeat (first | exact HB3.out | exact HB0.out | refine below_drewN' ?_ _)) true (decide_eq_true HN7.out)).mono ?_
            rintro e' w' ⟨rfl, n7, rfl⟩
            go_wp2_with fail
            refine (HS8.out _ (by repeat (first | exact HB3.out | exact HB0.out | refine below_drewN' ?_ _))).mono ?_
            rintro e' w' ⟨he8, n8, rfl⟩
            rw [decide_eq_false HN8.out] at he8
            subst he8
            go_wp2_with fail
            go_ret
            exact ⟨ret_bool HE.out.symm, (by repeat (first | exact HB3.out | exact HB0.out | refine below_drewN' ?_ _))⟩
        · have HE : Hid (decide (kd = ke ∧ (true : Bool) = true ∧ A6 = B6 ∧ A7 = B7 ∧ A8 = B8) = false) := Lib.hid (decide_eq_false (fun h => k7 h.2.2.2.1))
          have HN6 := Lib.hid k6
          have HN7 := Lib.hid k7
          clear k0 k6 k7
          go_enter Try.func60, Try.ntmps60
          go_wp2_with fail
          refine (HSL.out _ HB0.out).mono ?_
          rintro e' w3 ⟨rfl, hb3⟩
          have hk1 := HK1.out.below hb3 (by simp; omega)
          have hk2 := HK2.out.below hb3 (by simp)
          have y6 := hk1.cell 7
          have y7 := hk1.cell 8
          have y8 := hk1.cell 9
          have z6 := hk2.cell 7
          have z7 := hk2.cell 8
          have z8 := hk2.cell 9
          simp only [List.getElem?_toArray, List.getElem?_cons_zero, List.getElem?_cons_succ] at y6 y7 y8 z6 z7 z8
          have HB3 := Lib.hid (HB0.out.trans (hb3.mono (by simp; omega)))
          have hz3 := hb3.size
          simp only [World.alloc, Array.size_push] at hz3
          have hg1 : w.heap.size < w3.heap.size := by omega
          have hg2 : w.heap.size + 1 < w3.heap.size := by omega
          clear hk1 hk2 hb3 hz3
          go_wp2_with fail
          refine (HS6.out _ (by repeat (first | exact HB3.out | exact HB0.out | refine below_drewN' ?_ _)) true (decide_eq_true HN6.out)).mono ?_
          rintro e' w' ⟨rfl, n6, rfl⟩
          go_wp2_with fail
          refine (HS7.out _ (by repeat (first | exact HB3.out | exact HB0.out | refine below_drewN' ?_ _)) false (decide_eq_false HN7.out)).mono ?_
          rintro e' w' ⟨rfl, n7, rfl⟩
          go_wp2_with fail
          go_ret
          exact ⟨ret_bool HE.out.symm, (by repeat (first | exact HB3.out | exact HB0.out | refine below_drewN' ?_ _))⟩
      · have HE : Hid (decide (kd = ke ∧ (true : Bool) = true ∧ A6 = B6 ∧ A7 = B7 ∧ A8 = B8) = false) := Lib.hid (decide_eq_false (fun h => k6 h.2.2.1))
        have HN6 := Lib.hid k6
        clear k0 k6
        go_enter Try.func60, Try.ntmps60
        go_wp2_with fail
        refine (HSL.out _ HB0.out).mono ?_
        rintro e' w3 ⟨rfl, hb3⟩
        have hk1 := HK1.out.below hb3 (by simp; omega)
        have hk2 := HK2.out.below hb3 (by simp)
        have y6 := hk1.cell 7
        have y7 := hk1.cell 8
        have y8 := hk1.cell 9
        have z6 := hk2.cell 7
        have z7 := hk2.cell 8
        have z8 := hk2.cell 9
        simp only [List.getElem?_toArray, List.getElem?_cons_zero, List.getElem?_cons_succ] at y6 y7 y8 z6 z7 z8
        have HB3 := Lib.hid (HB0.out.trans (hb3.mono (by simp; omega)))
        have hz3 := hb3.size
        simp only [World.alloc, Array.size_push] at hz3
        have hg1 : w.heap.size < w3.heap.size := by omega
        have hg2 : w.heap.size + 1 < w3.heap.size := by omega
        clear hk1 hk2 hb3 hz3
        go_wp2_with fail
        refine (HS6.out _ (by repeat (first | exact HB3.out | exact HB0.out | refine below_drewN' ?_ _)) false (decide_eq_false HN6.out)).mono ?_
        rintro e' w' ⟨rfl, n6, rfl⟩
        go_wp2_with fail
        go_ret
        exact ⟨ret_bool HE.out.symm, (by repeat (first | exact HB3.out | exact HB0.out | refine below_drewN' ?_ _))⟩
    | false =>
      have HE : Hid (decide (kd = ke ∧ (false : Bool) = true ∧ A6 = B6 ∧ A7 = B7 ∧ A8 = B8) = false) := Lib.hid (decide_eq_false (fun h => by simp at h))
      clear k0
      go_enter Try.func60, Try.ntmps60
      go_wp2_with fail
      refine (HSL.out _ HB0.out).mono ?_
      rintro e' w3 ⟨rfl, hb3⟩
      have hk1 := HK1.out.below hb3 (by simp; omega)
      have hk2 := HK2.out.below hb3 (by simp)
      have y6 := hk1.cell 7
      have y7 := hk1.cell 8
      have y8 := hk1.cell 9
      have z6 := hk2.cell 7
      have z7 := hk2.cell 8
      have z8 := hk2.cell 9
      simp only [List.getElem?_toArray, List.getElem?_cons_zero, List.getElem?_cons_succ] at y6 y7 y8 z6 z7 z8
      have HB3 := Lib.hid (HB0.out.trans (hb3.mono (by simp; omega)))
      have hz3 := hb3.size
      simp only [World.alloc, Array.size_push] at hz3
      have hg1 : w.heap.size < w3.heap.size := by omega
      have hg2 : w.heap.size + 1 < w3.heap.size := by omega
      clear hk1 hk2 hb3 hz3
      go_wp2_with fail
      go_ret
      exact ⟨ret_bool HE.out.symm, (by repeat (first | exact HB3.out | exact HB0.out | refine below_drewN' ?_ _))⟩
  · have t0 : ((kd : Int) == (ke : Int)) = false := by rw [beq_eq_false_iff_ne]; omega
    have HE : Hid (decide (kd = ke ∧ sl = true ∧ A6 = B6 ∧ A7 = B7 ∧ A8 = B8) = false) := Lib.hid (decide_eq_false (fun h => k0 h.1))
    clear k0
    go_enter Try.func60, Try.ntmps60
    go_wp2_with fail
    go_ret
    exact ⟨ret_bool HE.out.symm, HB0.out⟩
end Go.Proofs.Ytohldijomcljkaa
