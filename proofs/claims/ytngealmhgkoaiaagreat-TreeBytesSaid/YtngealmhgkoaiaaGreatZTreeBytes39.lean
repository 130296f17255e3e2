/- Walks: the law TreeBytes. -/
import Derived.Test.YtngealmhgkoaiaaGreatZTreeBytes34
import Derived.Test.YtngealmhgkoaiaaGreatZTreeBytes31
import Derived.Test.YtngealmhgkoaiaaGreatZTreeBytes20
import Derived.Test.YtngealmhgkoaiaaGreatZTreeBytes35
import Derived.Test.YtngealmhgkoaiaaGreatZTreeBytes36
import Derived.Test.YtngealmhgkoaiaaGreatZTreeBytes38
namespace Go.Proofs.YtngealmhgkoaiaaGreat
open Go.RowKit WalkM WireM
set_option linter.unusedVariables false
theorem tby_refl (t : List NodeD) : sameT t t = true := sameT_yes rfl fun i hi => by simp [sameNB, sameLB]
set_option maxRecDepth 100000 in
set_option maxHeartbeats 16000000 in
theorem tby_big {w : World} (v : Value) (t : List NodeD) (h : TreeR w v t) (hok : TreeOk t) (hs : smallT t = false) :
    Calls Tryz.prog 3 #[v] w fun e w' => e = .returned (.bool true) ∧ Below w.heap.size w w' := by
  have TB := fun (W : World) (hw : Below w.heap.size w W) => h.below hw (Nat.le_refl _)
  have AL := fun (W : World) (hw : Below w.heap.size w W) => alive17 W
  have SM := fun (W : World) (hw : Below w.heap.size w W) => tsmall_any v t W (TB W hw)
  rw [hs] at SM
  obtain ⟨a, c0, rfl, hc0, hc1⟩ := h.sl
  obtain ⟨n, hn⟩ : ∃ n, n = t.length := ⟨_, rfl⟩
  simp only [← hn] at AL SM ⊢
  have HAL := Lib.hid AL
  have HSM := Lib.hid SM
  clear TB AL SM h hok hn hs
  go_enter Tryz.func3, Tryz.ntmps3
  go_wp2_with fail
  refine (HAL.out w (Below.refl w.heap.size w) ).mono ?_
  rintro e w1 ⟨rfl, hb⟩
  have HB1 := Lib.hid ((Below.refl w.heap.size w).trans (hb.mono ((Below.refl w.heap.size w)).size))
  clear hb
  go_wp2_with fail
  refine (HSM.out w1 HB1.out ).mono ?_
  rintro e w2 ⟨rfl, hb⟩
  have HB2 := Lib.hid (HB1.out.trans (hb.mono (HB1.out).size))
  clear hb
  go_wp2_with fail
  go_ret
  exact ⟨rfl, HB2.out⟩
set_option maxRecDepth 100000 in
set_option maxHeartbeats 16000000 in
theorem tby_no {w : World} (v : Value) (t : List NodeD) (h : TreeR w v t) (hok : TreeOk t) (hs : smallT t = true) (hr : rightT t = false) :
    Calls Tryz.prog 3 #[v] w fun e w' => e = .returned (.bool true) ∧ Below w.heap.size w w' := by
  have hm := smallT_med hs
  have TB := fun (W : World) (hw : Below w.heap.size w W) => h.below hw (Nat.le_refl _)
  have AL := fun (W : World) (hw : Below w.heap.size w W) => alive17 W
  have SM := fun (W : World) (hw : Below w.heap.size w W) => tsmall_any v t W (TB W hw)
  have BY := fun (W : World) (hw : Below w.heap.size w W) => tbytes_no v t W (TB W hw) hm hok hr
  have RR := fun (W : World) (hw : Below w.heap.size w W) => rtright_any v t W (TB W hw) hs hok
  rw [hs] at SM
  rw [hr] at RR
  obtain ⟨a, c0, rfl, hc0, hc1⟩ := h.sl
  obtain ⟨n, hn⟩ : ∃ n, n = t.length := ⟨_, rfl⟩
  simp only [← hn] at AL SM BY RR ⊢
  have HAL := Lib.hid AL
  have HSM := Lib.hid SM
  have HBY := Lib.hid BY
  have HRR := Lib.hid RR
  clear TB AL SM BY RR h hok hn hs hr hm
  go_enter Tryz.func3, Tryz.ntmps3
  go_wp2_with fail
  refine (HAL.out w (Below.refl w.heap.size w) ).mono ?_
  rintro e w1 ⟨rfl, hb⟩
  have HB1 := Lib.hid ((Below.refl w.heap.size w).trans (hb.mono ((Below.refl w.heap.size w)).size))
  clear hb
  go_wp2_with fail
  refine (HSM.out w1 HB1.out ).mono ?_
  rintro e w2 ⟨rfl, hb⟩
  have HB2 := Lib.hid (HB1.out.trans (hb.mono (HB1.out).size))
  clear hb
  go_wp2_with fail
  refine (HBY.out w2 HB2.out ).mono ?_
  rintro e w3 ⟨rfl, hb⟩
  have HB3 := Lib.hid (HB2.out.trans (hb.mono (HB2.out).size))
  clear hb
  go_wp2_with fail
  refine (HRR.out w3 HB3.out ).mono ?_
  rintro e w4 ⟨rfl, hb⟩
  have HB4 := Lib.hid (HB3.out.trans (hb.mono (HB3.out).size))
  clear hb
  go_wp2_with fail
  go_ret
  exact ⟨rfl, HB4.out⟩
set_option maxRecDepth 100000 in
set_option maxHeartbeats 16000000 in
theorem tby_yes {w : World} (v : Value) (t : List NodeD) (h : TreeR w v t) (hok : TreeOk t) (hs : smallT t = true) (hr : rightT t = true) :
    Calls Tryz.prog 3 #[v] w fun e w' => e = .returned (.bool true) ∧ Below w.heap.size w w' := by
  have hm := smallT_med hs
  have hlt := bytesT_lt hm hok
  have TB := fun (W : World) (hw : Below w.heap.size w W) => h.below hw (Nat.le_refl _)
  have AL := fun (W : World) (hw : Below w.heap.size w W) => alive17 W
  have SM := fun (W : World) (hw : Below w.heap.size w W) => tsmall_any v t W (TB W hw)
  have RR := fun (W : World) (hw : Below w.heap.size w W) => rtright_any v t W (TB W hw) hs hok
  have BY := fun (W : World) (hw : Below w.heap.size w W) => tbytes_yes v t W (TB W hw) hm hok hr
  have OF := fun (W : World) (_ : Below w.heap.size w W) (v : Value) (hv : Rd W v (bvs (bytesT t))) => tof_on v t W hv hm hok hr
  have RB := fun (W : World) (hw : Below w.heap.size w W) => rtbytes_any v t W (TB W hw) hm hok hr
  have SA := fun (W : World) (x y : Value) (hx : Rd W x (bvs (bytesT t))) (hy : Rd W y (bvs (bytesT t))) => (show Calls Tryz.prog 20 #[x, y] W fun e w' => e = .returned (.bool true) ∧ Below W.heap.size W w' from (same_any x y _ _ W hx hy hlt hlt).mono (by rintro e w' ⟨rfl, n, rfl⟩; exact ⟨by simp, below_drewN' (Below.refl _ _) n⟩))
  have SU := fun (W : World) (hw : Below w.heap.size w W) (x : Value) (hx : TreeR W x t) => (show Calls Tryz.prog 22 #[x, v] W fun e w' => e = .returned (.bool true) ∧ Below W.heap.size W w' from by have := tsame_any x v t t W hx (TB W hw) hok hok (by have := medT_len hm; omega); rwa [tby_refl] at this)
  rw [hs] at SM
  rw [hr] at RR
  obtain ⟨K, hK⟩ : ∃ K, K = bytesT t := ⟨_, rfl⟩
  simp only [← hK] at BY OF RB SA
  obtain ⟨nb, hnb⟩ : ∃ n, n = K.length := ⟨_, rfl⟩
  obtain ⟨a, c0, rfl, hc0, hc1⟩ := h.sl
  obtain ⟨n, hn⟩ : ∃ n, n = t.length := ⟨_, rfl⟩
  simp only [← hn] at AL SM RR BY OF RB SA SU ⊢
  have HAL := Lib.hid AL
  have HSM := Lib.hid SM
  have HRR := Lib.hid RR
  have HBY := Lib.hid BY
  have HOF := Lib.hid OF
  have HRB := Lib.hid RB
  have HSA := Lib.hid SA
  have HSU := Lib.hid SU
  have HNB := Lib.hid hnb.symm
  have HNN := Lib.hid hn.symm
  clear hnb TB AL SM RR BY OF RB SA SU h hok hn hs hr hm hlt hK
  go_enter Tryz.func3, Tryz.ntmps3
  go_wp2_with fail
  refine (HAL.out w (Below.refl w.heap.size w) ).mono ?_
  rintro e w1 ⟨rfl, hb⟩
  have HB1 := Lib.hid ((Below.refl w.heap.size w).trans (hb.mono ((Below.refl w.heap.size w)).size))
  clear hb
  go_wp2_with fail
  refine (HSM.out w1 HB1.out ).mono ?_
  rintro e w2 ⟨rfl, hb⟩
  have HB2 := Lib.hid (HB1.out.trans (hb.mono (HB1.out).size))
  clear hb
  go_wp2_with fail
  refine (HBY.out w2 HB2.out ).mono ?_
  rintro e w3 ⟨vb, rfl, hown, hb⟩
  have HB3 := Lib.hid (HB2.out.trans (hb.mono (HB2.out).size))
  have HTb_3 := Lib.hid hown
  obtain ⟨ab, cb, rfl⟩ : ∃ a c, vb = .slice a nb c := by obtain ⟨a, c, e, _⟩ := hown.rd; rw [bvs_len, HNB.out] at e; exact ⟨a, c, e⟩
  clear hown
  clear hb
  go_wp2_with fail
  refine (HRR.out w3 HB3.out ).mono ?_
  rintro e w4 ⟨rfl, hb⟩
  have HB4 := Lib.hid (HB3.out.trans (hb.mono (HB3.out).size))
  have HTb_4 := Lib.hid (HTb_3.out.below hb (Nat.le_refl _))
  clear hb
  go_wp2_with fail
  refine (HOF.out w4 HB4.out _ HTb_4.out.rd).mono ?_
  rintro e w5 ⟨vu, rfl, hto, hb⟩
  have HB5 := Lib.hid (HB4.out.trans (hb.mono (HB4.out).size))
  have HTb_5 := Lib.hid (HTb_4.out.below hb (Nat.le_refl _))
  have HTu_5 := Lib.hid hto
  obtain ⟨au, cu, rfl⟩ : ∃ a c, vu = .slice a n c := by obtain ⟨a, c, e, _⟩ := hto.r.sl; rw [HNN.out] at e; exact ⟨a, c, e⟩
  clear hto
  clear hb
  go_wp2_with fail
  refine (HRB.out w5 HB5.out ).mono ?_
  rintro e w6 ⟨vr, rfl, hown, hb⟩
  have HB6 := Lib.hid (HB5.out.trans (hb.mono (HB5.out).size))
  have HTb_6 := Lib.hid (HTb_5.out.below hb (Nat.le_refl _))
  have HTu_6 := Lib.hid (HTu_5.out.below hb (Nat.le_refl _))
  have HTr_6 := Lib.hid hown
  clear hown
  clear hb
  go_wp2_with fail
  refine (HSA.out w6 _ _ HTb_6.out.rd HTr_6.out.rd).mono ?_
  rintro e w7 ⟨rfl, hb⟩
  have HB7 := Lib.hid (HB6.out.trans (hb.mono HB6.out.size))
  have HTu_7 := Lib.hid (HTu_6.out.below hb (Nat.le_refl _))
  clear hb
  go_wp2_with fail
  refine (HSU.out w7 HB7.out _ HTu_7.out.r).mono ?_
  rintro e w8 ⟨rfl, hb⟩
  have HB8 := Lib.hid (HB7.out.trans (hb.mono HB7.out.size))
  clear hb
  go_wp2_with fail
  go_ret
  exact ⟨rfl, HB8.out⟩
theorem treeBytes_walk {w : World} (v : Value) (t : List NodeD) (hop : TreeR w v t ∧ TreeOk t) :
    Calls Tryz.prog 3 #[v] w fun e w' => e = .returned (.bool true) ∧ Below w.heap.size w w' := by
  obtain ⟨h, hok⟩ := hop
  cases hs : smallT t with
  | false => exact tby_big v t h hok hs
  | true =>
    cases hr : rightT t with
    | false => exact tby_no v t h hok hs hr
    | true => exact tby_yes v t h hok hs hr
end Go.Proofs.YtngealmhgkoaiaaGreat
