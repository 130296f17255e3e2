/- Walks: the reference's SameLeaf, Same of nodes. -/
import Derived.Test.YtkihcngllhjabaaNodeOut
namespace Go.Proofs.Ytkihcngllhjabaa
open Go.RowKit WireM
set_option linter.unusedVariables false
/-- one call of Same, decided -/
theorem same_dec (v v' : Value) (A B : List Nat) (w : World) (h : Rd w v (bvs A)) (h' : Rd w v' (bvs B)) (hA : ∀ n ∈ A, n < 256) (hB : ∀ n ∈ B, n < 256) (b : Bool) (hb : decide (A = B) = b) :
    Calls Try.prog 16 #[v, v'] w fun e w' => e = .returned (.bool b) ∧ ∃ n, w' = w.drewN n := by
  refine (same_any v v' A B w h h' hA hB).mono ?_
  rintro e w' ⟨he, hw⟩
  rw [hb] at he
  exact ⟨he, hw⟩
structure LeafOk (d : LeafD) : Prop where
  source : d.source < 256
  box : ∀ n ∈ d.box, n < 256
  sign : ∀ n ∈ d.sign, n < 256
  ident : ∀ n ∈ d.ident, n < 256
  par : ∀ n ∈ d.par, n < 256
  sig : ∀ n ∈ d.sig, n < 256
theorem NodeOk.leaf {d : NodeD} (h : NodeOk d) : LeafOk d.leaf := ⟨h.source, h.box, h.sign, h.ident, h.par, h.sig⟩
/-- the six cells of a leaf -/
def LeafC (w : World) (d : LeafD) (c : Array Value) : Prop :=
  ∃ a1 c1 a2 c2 a3 c3 a4 c4 a5 c5, c = #[.slice a1 d.box.length c1, .slice a2 d.sign.length c2, .slice a3 d.ident.length c3, .int .u8 (d.source : Nat), .slice a4 d.par.length c4, .slice a5 d.sig.length c5] ∧
    Rd w (.slice a1 d.box.length c1) (bvs d.box) ∧ Rd w (.slice a2 d.sign.length c2) (bvs d.sign) ∧ Rd w (.slice a3 d.ident.length c3) (bvs d.ident) ∧
    Rd w (.slice a4 d.par.length c4) (bvs d.par) ∧ Rd w (.slice a5 d.sig.length c5) (bvs d.sig)
theorem LeafC.below {w w' : World} {B : Nat} {d : LeafD} {c : Array Value} (h : LeafC w d c) (hb : Below B w w') (hB : w.heap.size ≤ B) : LeafC w' d c := by
  obtain ⟨a1, c1, a2, c2, a3, c3, a4, c4, a5, c5, rfl, h1, h2, h3, h4, h5⟩ := h
  exact ⟨a1, c1, a2, c2, a3, c3, a4, c4, a5, c5, rfl, h1.below hb hB, h2.below hb hB, h3.below hb hB, h4.below hb hB, h5.below hb hB⟩
def sameLB (a b : LeafD) : Bool := decide (a.box = b.box ∧ a.sign = b.sign ∧ a.ident = b.ident ∧ a.source = b.source ∧ a.par = b.par ∧ a.sig = b.sig)
set_option maxRecDepth 100000 in
set_option maxHeartbeats 8000000 in
theorem rsameLeaf_any (d e : LeafD) (c c' : Array Value) (w : World) (hc : LeafC w d c) (hc' : LeafC w e c') (hd : LeafOk d) (he : LeafOk e) :
    Calls Try.prog 92 #[.agg c, .agg c'] w fun e' w' => e' = .returned (.bool (sameLB d e)) ∧ Below w.heap.size w w' := by
  obtain ⟨a1, c1, a2, c2, a3, c3, a4, c4, a5, c5, rfl, h1, h2, h3, h4, h5⟩ := hc
  obtain ⟨b1, e1, b2, e2, b3, e3, b4, e4, b5, e5, rfl, k1, k2, k3, k4, k5⟩ := hc'
  have S1 := fun W (hw : Below w.heap.size w W) b hb => same_dec _ _ d.box e.box W (h1.below hw (Nat.le_refl _)) (k1.below hw (Nat.le_refl _)) hd.box he.box b hb
  have S2 := fun W (hw : Below w.heap.size w W) b hb => same_dec _ _ d.sign e.sign W (h2.below hw (Nat.le_refl _)) (k2.below hw (Nat.le_refl _)) hd.sign he.sign b hb
  have S3 := fun W (hw : Below w.heap.size w W) b hb => same_dec _ _ d.ident e.ident W (h3.below hw (Nat.le_refl _)) (k3.below hw (Nat.le_refl _)) hd.ident he.ident b hb
  have S4 := fun W (hw : Below w.heap.size w W) b hb => same_dec _ _ d.par e.par W (h4.below hw (Nat.le_refl _)) (k4.below hw (Nat.le_refl _)) hd.par he.par b hb
  have S5 := fun W (hw : Below w.heap.size w W) b hb => same_dec _ _ d.sig e.sig W (h5.below hw (Nat.le_refl _)) (k5.below hw (Nat.le_refl _)) hd.sig he.sig b hb
  have hE : sameLB d e = decide (d.box = e.box ∧ d.sign = e.sign ∧ d.ident = e.ident ∧ d.source = e.source ∧ d.par = e.par ∧ d.sig = e.sig) := rfl
  rw [hE]
  clear hE
  obtain ⟨m1, hm1⟩ : ∃ m, m = d.box.length := ⟨_, rfl⟩
  obtain ⟨q1, hq1⟩ : ∃ m, m = e.box.length := ⟨_, rfl⟩
  rw [← hm1, ← hq1] at S1
  obtain ⟨m2, hm2⟩ : ∃ m, m = d.sign.length := ⟨_, rfl⟩
  obtain ⟨q2, hq2⟩ : ∃ m, m = e.sign.length := ⟨_, rfl⟩
  rw [← hm2, ← hq2] at S2
  obtain ⟨m3, hm3⟩ : ∃ m, m = d.ident.length := ⟨_, rfl⟩
  obtain ⟨q3, hq3⟩ : ∃ m, m = e.ident.length := ⟨_, rfl⟩
  rw [← hm3, ← hq3] at S3
  obtain ⟨m4, hm4⟩ : ∃ m, m = d.par.length := ⟨_, rfl⟩
  obtain ⟨q4, hq4⟩ : ∃ m, m = e.par.length := ⟨_, rfl⟩
  rw [← hm4, ← hq4] at S4
  obtain ⟨m5, hm5⟩ : ∃ m, m = d.sig.length := ⟨_, rfl⟩
  obtain ⟨q5, hq5⟩ : ∃ m, m = e.sig.length := ⟨_, rfl⟩
  rw [← hm5, ← hq5] at S5
  rw [← hm1, ← hm2, ← hm3, ← hm4, ← hm5, ← hq1, ← hq2, ← hq3, ← hq4, ← hq5]
  obtain ⟨s1, hs1⟩ : ∃ m, m = d.source := ⟨_, rfl⟩
  obtain ⟨s2, hs2⟩ : ∃ m, m = e.source := ⟨_, rfl⟩
  rw [← hs1, ← hs2]
  obtain ⟨A1, hA1⟩ : ∃ m, m = d.box := ⟨_, rfl⟩
  obtain ⟨B1, hB1⟩ : ∃ m, m = e.box := ⟨_, rfl⟩
  rw [← hA1, ← hB1] at S1
  obtain ⟨A2, hA2⟩ : ∃ m, m = d.sign := ⟨_, rfl⟩
  obtain ⟨B2, hB2⟩ : ∃ m, m = e.sign := ⟨_, rfl⟩
  rw [← hA2, ← hB2] at S2
  obtain ⟨A3, hA3⟩ : ∃ m, m = d.ident := ⟨_, rfl⟩
  obtain ⟨B3, hB3⟩ : ∃ m, m = e.ident := ⟨_, rfl⟩
  rw [← hA3, ← hB3] at S3
  obtain ⟨A4, hA4⟩ : ∃ m, m = d.par := ⟨_, rfl⟩
  obtain ⟨B4, hB4⟩ : ∃ m, m = e.par := ⟨_, rfl⟩
  rw [← hA4, ← hB4] at S4
  obtain ⟨A5, hA5⟩ : ∃ m, m = d.sig := ⟨_, rfl⟩
  obtain ⟨B5, hB5⟩ : ∃ m, m = e.sig := ⟨_, rfl⟩
  rw [← hA5, ← hB5] at S5
  rw [← hA1, ← hA2, ← hA3, ← hA4, ← hA5, ← hB1, ← hB2, ← hB3, ← hB4, ← hB5]
  have HS1 := Lib.hid S1
  have HS2 := Lib.hid S2
  have HS3 := Lib.hid S3
  have HS4 := Lib.hid S4
  have HS5 := Lib.hid S5
  have HB0 := Lib.hid (((Below.refl w.heap.size w).alloc (Nat.le_refl _) (.cells #[.slice a1 m1 c1, .slice a2 m2 c2, .slice a3 m3 c3, .int .u8 (s1 : Nat), .slice a4 m4 c4, .slice a5 m5 c5] 53)).alloc (by simp) (.cells #[.slice b1 q1 e1, .slice b2 q2 e2, .slice b3 q3 e3, .int .u8 (s2 : Nat), .slice b4 q4 e4, .slice b5 q5 e5] 53))
  clear h1 k1 S1 hm1 hq1 hA1 hB1 h2 k2 S2 hm2 hq2 hA2 hB2 h3 k3 S3 hm3 hq3 hA3 hB3 h4 k4 S4 hm4 hq4 hA4 hB4 h5 k5 S5 hm5 hq5 hA5 hB5 hs1 hs2 hd he
  by_cases k1 : A1 = B1
  · skip
    by_cases k2 : A2 = B2
    · skip
      by_cases k3 : A3 = B3
      · skip
        by_cases ks : s1 = s2
        · have ts : ((s1 : Int) == (s2 : Int)) = true := by rw [beq_iff_eq]; omega
          by_cases k4 : A4 = B4
          · skip
            by_cases k5 : A5 = B5
            · skip
              have HE : Hid (decide (A1 = B1 ∧ A2 = B2 ∧ A3 = B3 ∧ s1 = s2 ∧ A4 = B4 ∧ A5 = B5) = true) := Lib.hid (decide_eq_true ⟨k1, k2, k3, ks, k4, k5⟩)
              have HK := Lib.hid (show A1 = B1 ∧ A2 = B2 ∧ A3 = B3 ∧ A4 = B4 ∧ A5 = B5 from ⟨k1, k2, k3, k4, k5⟩)
              clear k1 k2 k3 ks k4 k5
              go_enter Try.func92, Try.ntmps92
              go_wp2_with fail
              refine (HS1.out _ (by repeat (first | exact HB0.out | refine below_drewN' ?_ _)) true (decide_eq_true (HK.out.1))).mono ?_
              rintro e' w' ⟨rfl, n1, rfl⟩
              go_wp2_with fail
              refine (HS2.out _ (by repeat (first | exact HB0.out | refine below_drewN' ?_ _)) true (decide_eq_true (HK.out.2.1))).mono ?_
              rintro e' w' ⟨rfl, n2, rfl⟩
              go_wp2_with fail
              refine (HS3.out _ (by repeat (first | exact HB0.out | refine below_drewN' ?_ _)) true (decide_eq_true (HK.out.2.2.1))).mono ?_
              rintro e' w' ⟨rfl, n3, rfl⟩
              go_wp2_with fail
              refine (HS4.out _ (by repeat (first | exact HB0.out | refine below_drewN' ?_ _)) true (decide_eq_true (HK.out.2.2.2.1))).mono ?_
              rintro e' w' ⟨rfl, n4, rfl⟩
              go_wp2_with fail
              refine (HS5.out _ (by repeat (first | exact HB0.out | refine below_drewN' ?_ _)) true (decide_eq_true (HK.out.2.2.2.2))).mono ?_
              rintro e' w' ⟨rfl, n5, rfl⟩
              go_wp2_with fail
              go_ret
              exact ⟨ret_bool HE.out.symm, (by repeat (first | exact HB0.out | refine below_drewN' ?_ _))⟩
            · have HE : Hid (decide (A1 = B1 ∧ A2 = B2 ∧ A3 = B3 ∧ s1 = s2 ∧ A4 = B4 ∧ A5 = B5) = false) := Lib.hid (decide_eq_false (fun h => k5 (h.2.2.2.2.2)))
              have HK1 := Lib.hid k1
              have HK2 := Lib.hid k2
              have HK3 := Lib.hid k3
              have HK4 := Lib.hid k4
              have HN := Lib.hid k5
              clear k1 k2 k3 ks k4 k5
              go_enter Try.func92, Try.ntmps92
              go_wp2_with fail
              refine (HS1.out _ (by repeat (first | exact HB0.out | refine below_drewN' ?_ _)) true (decide_eq_true HK1.out)).mono ?_
              rintro e' w' ⟨rfl, n1, rfl⟩
              go_wp2_with fail
              refine (HS2.out _ (by repeat (first | exact HB0.out | refine below_drewN' ?_ _)) true (decide_eq_true HK2.out)).mono ?_
              rintro e' w' ⟨rfl, n2, rfl⟩
              go_wp2_with fail
              refine (HS3.out _ (by repeat (first | exact HB0.out | refine below_drewN' ?_ _)) true (decide_eq_true HK3.out)).mono ?_
              rintro e' w' ⟨rfl, n3, rfl⟩
              go_wp2_with fail
              refine (HS4.out _ (by repeat (first | exact HB0.out | refine below_drewN' ?_ _)) true (decide_eq_true HK4.out)).mono ?_
              rintro e' w' ⟨rfl, n4, rfl⟩
              go_wp2_with fail
              refine (HS5.out _ (by repeat (first | exact HB0.out | refine below_drewN' ?_ _)) false (decide_eq_false HN.out)).mono ?_
              rintro e' w' ⟨rfl, n5, rfl⟩
              go_wp2_with fail
              go_ret
              exact ⟨ret_bool HE.out.symm, (by repeat (first | exact HB0.out | refine below_drewN' ?_ _))⟩
          · have HE : Hid (decide (A1 = B1 ∧ A2 = B2 ∧ A3 = B3 ∧ s1 = s2 ∧ A4 = B4 ∧ A5 = B5) = false) := Lib.hid (decide_eq_false (fun h => k4 (h.2.2.2.2.1)))
            have HK1 := Lib.hid k1
            have HK2 := Lib.hid k2
            have HK3 := Lib.hid k3
            have HN := Lib.hid k4
            clear k1 k2 k3 ks k4
            go_enter Try.func92, Try.ntmps92
            go_wp2_with fail
            refine (HS1.out _ (by repeat (first | exact HB0.out | refine below_drewN' ?_ _)) true (decide_eq_true HK1.out)).mono ?_
            rintro e' w' ⟨rfl, n1, rfl⟩
            go_wp2_with fail
            refine (HS2.out _ (by repeat (first | exact HB0.out | refine below_drewN' ?_ _)) true (decide_eq_true HK2.out)).mono ?_
            rintro e' w' ⟨rfl, n2, rfl⟩
            go_wp2_with fail
            refine (HS3.out _ (by repeat (first | exact HB0.out | refine below_drewN' ?_ _)) true (decide_eq_true HK3.out)).mono ?_
            rintro e' w' ⟨rfl, n3, rfl⟩
            go_wp2_with fail
            refine (HS4.out _ (by repeat (first | exact HB0.out | refine below_drewN' ?_ _)) false (decide_eq_false HN.out)).mono ?_
            rintro e' w' ⟨rfl, n4, rfl⟩
            go_wp2_with fail
            go_ret
            exact ⟨ret_bool HE.out.symm, (by repeat (first | exact HB0.out | refine below_drewN' ?_ _))⟩
        · have HE : Hid (decide (A1 = B1 ∧ A2 = B2 ∧ A3 = B3 ∧ s1 = s2 ∧ A4 = B4 ∧ A5 = B5) = false) := Lib.hid (decide_eq_false (fun h => ks (h.2.2.2.1)))
          have HK1 := Lib.hid k1
          have HK2 := Lib.hid k2
          have HK3 := Lib.hid k3
          have ts : ((s1 : Int) == (s2 : Int)) = false := by rw [beq_eq_false_iff_ne]; omega
          clear k1 k2 k3 ks
          go_enter Try.func92, Try.ntmps92
          go_wp2_with fail
          refine (HS1.out _ (by repeat (first | exact HB0.out | refine below_drewN' ?_ _)) true (decide_eq_true HK1.out)).mono ?_
          rintro e' w' ⟨rfl, n1, rfl⟩
          go_wp2_with fail
          refine (HS2.out _ (by repeat (first | exact HB0.out | refine below_drewN' ?_ _)) true (decide_eq_true HK2.out)).mono ?_
          rintro e' w' ⟨rfl, n2, rfl⟩
          go_wp2_with fail
          refine (HS3.out _ (by repeat (first | exact HB0.out | refine below_drewN' ?_ _)) true (decide_eq_true HK3.out)).mono ?_
          rintro e' w' ⟨rfl, n3, rfl⟩
          go_wp2_with fail
          go_ret
          exact ⟨ret_bool HE.out.symm, (by repeat (first | exact HB0.out | refine below_drewN' ?_ _))⟩
      · have HE : Hid (decide (A1 = B1 ∧ A2 = B2 ∧ A3 = B3 ∧ s1 = s2 ∧ A4 = B4 ∧ A5 = B5) = false) := Lib.hid (decide_eq_false (fun h => k3 (h.2.2.1)))
        have HK1 := Lib.hid k1
        have HK2 := Lib.hid k2
        have HN := Lib.hid k3
        clear k1 k2 k3
        go_enter Try.func92, Try.ntmps92
        go_wp2_with fail
        refine (HS1.out _ (by repeat (first | exact HB0.out | refine below_drewN' ?_ _)) true (decide_eq_true HK1.out)).mono ?_
        rintro e' w' ⟨rfl, n1, rfl⟩
        go_wp2_with fail
        refine (HS2.out _ (by repeat (first | exact HB0.out | refine below_drewN' ?_ _)) true (decide_eq_true HK2.out)).mono ?_
        rintro e' w' ⟨rfl, n2, rfl⟩
        go_wp2_with fail
        refine (HS3.out _ (by repeat (first | exact HB0.out | refine below_drewN' ?_ _)) false (decide_eq_false HN.out)).mono ?_
        rintro e' w' ⟨rfl, n3, rfl⟩
        go_wp2_with fail
        go_ret
        exact ⟨ret_bool HE.out.symm, (by repeat (first | exact HB0.out | refine below_drewN' ?_ _))⟩
    · have HE : Hid (decide (A1 = B1 ∧ A2 = B2 ∧ A3 = B3 ∧ s1 = s2 ∧ A4 = B4 ∧ A5 = B5) = false) := Lib.hid (decide_eq_false (fun h => k2 (h.2.1)))
      have HK1 := Lib.hid k1
      have HN := Lib.hid k2
      clear k1 k2
      go_enter Try.func92, Try.ntmps92
      go_wp2_with fail
      refine (HS1.out _ (by repeat (first | exact HB0.out | refine below_drewN' ?_ _)) true (decide_eq_true HK1.out)).mono ?_
      rintro e' w' ⟨rfl, n1, rfl⟩
      go_wp2_with fail
      refine (HS2.out _ (by repeat (first | exact HB0.out | refine below_drewN' ?_ _)) false (decide_eq_false HN.out)).mono ?_
      rintro e' w' ⟨rfl, n2, rfl⟩
      go_wp2_with fail
      go_ret
      exact ⟨ret_bool HE.out.symm, (by repeat (first | exact HB0.out | refine below_drewN' ?_ _))⟩
  · have HE : Hid (decide (A1 = B1 ∧ A2 = B2 ∧ A3 = B3 ∧ s1 = s2 ∧ A4 = B4 ∧ A5 = B5) = false) := Lib.hid (decide_eq_false (fun h => k1 (h.1)))
    have HN := Lib.hid k1
    clear k1
    go_enter Try.func92, Try.ntmps92
    go_wp2_with fail
    refine (HS1.out _ (by repeat (first | exact HB0.out | refine below_drewN' ?_ _)) false (decide_eq_false HN.out)).mono ?_
    rintro e' w' ⟨rfl, n1, rfl⟩
    go_wp2_with fail
    go_ret
    exact ⟨ret_bool HE.out.symm, (by repeat (first | exact HB0.out | refine below_drewN' ?_ _))⟩
end Go.Proofs.Ytkihcngllhjabaa
