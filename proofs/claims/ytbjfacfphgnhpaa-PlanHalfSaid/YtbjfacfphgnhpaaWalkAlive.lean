/- Walks: the law's alive, WalkTree, WalkTwo. -/
import Derived.Test.YtbjfacfphgnhpaaWalkCommon
import Derived.Test.YtbjfacfphgnhpaaWalkRCommon
namespace Go.Proofs.Ytbjfacfphgnhpaa
open Go.RowKit WalkM
set_option linter.unusedVariables false
theorem Below.next {a w w' : World} (h : Below a.heap.size a w) (h' : Below w.heap.size w w') : Below a.heap.size a w' := h.trans (h'.mono h.size)
theorem Below.draws {a w : World} (h : Below a.heap.size a w) (n : Nat) : Below a.heap.size a (w.drewN n) := below_drewN' h n
theorem sameI_self (v v' : Value) (L : List Int) (w : World) (h : Rd w v (ivs .i64 L)) (h' : Rd w v' (ivs .i64 L)) :
    Calls Try.prog 28 #[v, v'] w fun e w' => e = .returned (.bool true) ∧ ∃ n, w' = w.drewN n := by
  refine (sameI_any v v' L L w h h').mono ?_
  rintro e w' ⟨he, hw⟩
  rw [decide_eq_true rfl] at he
  exact ⟨he, hw⟩
theorem lit2 {w : World} {a b : Int} {N : Nat} (hN : N = w.heap.size) : Rd (w.alloc (.cells #[.int .i64 a, .int .i64 b] 3)) (.slice (some ⟨N, 0, none⟩) 2 2) (ivs .i64 [a, b]) :=
  (Own.full (B := w.heap.size) hN (by omega) (by unfold maxLen; simp) rfl).rd
set_option maxRecDepth 100000 in
set_option maxHeartbeats 2000000 in
theorem alive14 (w : World) : Calls Try.prog 23 #[] w fun e w' => e = .returned (.bool true) ∧ Below w.heap.size w w' := by
  have P := fun w => path_all 0 4 w (by omega) (by omega)
  have C := fun w => copath_any 0 4 w (by omega) (by omega)
  have M := fun w => common_any 0 2 4 w (by omega) (by omega)
  have e0 : pathL 0 4 = [1, 3] := by decide +kernel
  have e1 : nvs (pathL 0 4) = ivs .i64 [1, 3] := by rw [nvs, e0]; rfl
  have e2 : copL 0 4 = [2, 5] := by decide +kernel
  have e3 : comZ 0 2 4 = 1 := by decide +kernel
  rw [e1] at P
  rw [e2] at C
  rw [e3] at M
  have HP := Lib.hid P
  have HC := Lib.hid C
  have HM := Lib.hid M
  clear P C M e0 e1 e2 e3
  go_enter Try.func23, Try.ntmps23
  go_wp2_with fail
  refine (HP.out _).mono ?_
  rintro e w1 ⟨v1, rfl, hown, hb1⟩
  have HO1 := Lib.hid hown.rd
  have HB1 := Lib.hid hb1
  clear hown hb1
  go_wp2_with fail
  refine (sameI_self _ _ _ _ (HO1.out.alloc _) (lit2 rfl)).mono ?_
  rintro e w2 ⟨rfl, n, rfl⟩
  go_wp2_with fail
  refine (HC.out _).mono ?_
  rintro e w2 ⟨v2, rfl, hown, hb2⟩
  have HO2 := Lib.hid hown.rd
  have HB2 := Lib.hid (Below.next (Below.draws (HB1.out.alloc HB1.out.size _) _) hb2)
  clear hown hb2
  go_wp2_with fail
  refine (sameI_self _ _ _ _ (HO2.out.alloc _) (lit2 rfl)).mono ?_
  rintro e w3 ⟨rfl, n, rfl⟩
  go_wp2_with fail
  refine (HM.out _).mono ?_
  rintro e w3 ⟨rfl, hb3⟩
  have HB3 := Lib.hid (Below.next (Below.draws (HB2.out.alloc HB2.out.size _) _) hb3)
  clear hb3
  go_wp2_with fail
  go_ret
  exact ⟨rfl, HB3.out⟩
set_option maxRecDepth 100000 in
set_option maxHeartbeats 2000000 in
theorem walkTree_walk (x n : Int) (hx : -9223372036854775808 ≤ x ∧ x ≤ 9223372036854775807) (hn : -9223372036854775808 ≤ n ∧ n ≤ 9223372036854775807) (w : World) :
    Calls Try.prog 5 #[.int .i64 x, .int .i64 n] w fun e w' => e = .returned (.bool true) ∧ Below w.heap.size w w' := by
  have HA := Lib.hid (fun w => alive14 w)
  have P := fun w => parent_any x n w hn.1 hn.2
  have RP := fun w => rparent_any x n w hn.1 hn.2
  have S := fun w => sibling_any x n w hn.1 hn.2
  have RS := fun w => rsib_any x n w hn.1 hn.2
  have T := fun w => path_all x n w hn.1 hn.2
  have RT := fun w => rpath_any x n w hn.1 hn.2
  have C := fun w => copath_any x n w hn.1 hn.2
  have RC := fun w => rcopath_any x n w hn.1 hn.2
  obtain ⟨p, hp⟩ : ∃ p, p = parZ x n := ⟨_, rfl⟩
  obtain ⟨s, hs⟩ : ∃ p, p = sibZ x n := ⟨_, rfl⟩
  obtain ⟨t, ht⟩ : ∃ t : List Int, ivs .i64 t = nvs (pathL x n) := ⟨_, rfl⟩
  obtain ⟨c, hc⟩ : ∃ t, t = copL x n := ⟨_, rfl⟩
  rw [← hp] at P RP
  rw [← hs] at S RS
  rw [← ht] at T RT
  rw [← hc] at C RC
  have HP := Lib.hid P
  have HRP := Lib.hid RP
  have HS := Lib.hid S
  have HRS := Lib.hid RS
  have HT := Lib.hid T
  have HRT := Lib.hid RT
  have HC := Lib.hid C
  have HRC := Lib.hid RC
  clear P RP S RS T RT C RC hp hs ht hc hx hn
  go_enter Try.func5, Try.ntmps5
  go_wp2_with fail
  refine (HA.out _).mono ?_
  rintro e w1 ⟨rfl, hb⟩
  have HB1 := Lib.hid hb
  clear hb
  go_wp2_with fail
  refine (HP.out _).mono ?_
  rintro e w2 ⟨rfl, k, rfl⟩
  go_wp2_with fail
  refine (HRP.out _).mono ?_
  rintro e w2 ⟨rfl, hb⟩
  have HB2 := Lib.hid (Below.next (Below.draws HB1.out _) hb)
  clear hb
  go_wp2_with fail
  refine (HS.out _).mono ?_
  rintro e w3 ⟨rfl, k, rfl⟩
  go_wp2_with fail
  refine (HRS.out _).mono ?_
  rintro e w3 ⟨rfl, hb⟩
  have HB3 := Lib.hid (Below.next (Below.draws HB2.out _) hb)
  clear hb
  go_wp2_with fail
  refine (HT.out _).mono ?_
  rintro e w4 ⟨v4, rfl, hown, hb⟩
  have HO4 := Lib.hid hown.rd
  have HB4 := Lib.hid (Below.next HB3.out hb)
  clear hown hb
  go_wp2_with fail
  refine (HRT.out _).mono ?_
  rintro e w5 ⟨v5, rfl, hown, hb⟩
  have HO5 := Lib.hid hown.rd
  have HO4' := Lib.hid (HO4.out.below hb (Nat.le_refl _))
  have HB5 := Lib.hid (Below.next HB4.out hb)
  clear hown hb
  go_wp2_with fail
  refine (sameI_self _ _ _ _ HO4'.out HO5.out).mono ?_
  rintro e w6 ⟨rfl, k, rfl⟩
  go_wp2_with fail
  refine (HC.out _).mono ?_
  rintro e w6 ⟨v6, rfl, hown, hb⟩
  have HO6 := Lib.hid hown.rd
  have HB6 := Lib.hid (Below.next (Below.draws HB5.out _) hb)
  clear hown hb
  go_wp2_with fail
  refine (HRC.out _).mono ?_
  rintro e w7 ⟨v7, rfl, hown, hb⟩
  have HO7 := Lib.hid hown.rd
  have HO6' := Lib.hid (HO6.out.below hb (Nat.le_refl _))
  have HB7 := Lib.hid (Below.next HB6.out hb)
  clear hown hb
  go_wp2_with fail
  refine (sameI_self _ _ _ _ HO6'.out HO7.out).mono ?_
  rintro e w8 ⟨rfl, k, rfl⟩
  go_wp2_with fail
  go_ret
  exact ⟨rfl, Below.draws HB7.out _⟩
set_option maxRecDepth 100000 in
set_option maxHeartbeats 2000000 in
theorem walkTwo_walk (x y n : Int) (hx : -9223372036854775808 ≤ x ∧ x ≤ 9223372036854775807) (hy : -9223372036854775808 ≤ y ∧ y ≤ 9223372036854775807) (hn : -9223372036854775808 ≤ n ∧ n ≤ 9223372036854775807) (w : World) :
    Calls Try.prog 6 #[.int .i64 x, .int .i64 y, .int .i64 n] w fun e w' => e = .returned (.bool true) ∧ Below w.heap.size w w' := by
  have HA := Lib.hid (fun w => alive14 w)
  have C := fun w => common_any x y n w hn.1 hn.2
  have C' := fun w => common_any y x n w hn.1 hn.2
  have RC := fun w => rcommon_any x y n w hn.1 hn.2
  have U := fun w => under_any x y w
  have RU := fun w => runder_any x y w
  rw [comZ_symm y x n] at C'
  obtain ⟨c, hc⟩ : ∃ p, p = comZ x y n := ⟨_, rfl⟩
  obtain ⟨u, hu⟩ : ∃ p, p = undZ x y := ⟨_, rfl⟩
  rw [← hc] at C C' RC
  rw [← hu] at U RU
  have HC := Lib.hid C
  have HC' := Lib.hid C'
  have HRC := Lib.hid RC
  have HU := Lib.hid U
  have HRU := Lib.hid RU
  clear C C' RC U RU hc hu hx hn hy
  go_enter Try.func6, Try.ntmps6
  go_wp2_with fail
  refine (HA.out _).mono ?_
  rintro e w1 ⟨rfl, hb⟩
  have HB1 := Lib.hid hb
  clear hb
  go_wp2_with fail
  refine (HC.out _).mono ?_
  rintro e w2 ⟨rfl, hb⟩
  have HB2 := Lib.hid (Below.next HB1.out hb)
  clear hb
  go_wp2_with fail
  refine (HRC.out _).mono ?_
  rintro e w3 ⟨rfl, hb⟩
  have HB3 := Lib.hid (Below.next HB2.out hb)
  clear hb
  go_wp2_with fail
  refine (HC'.out _).mono ?_
  rintro e w4 ⟨rfl, hb⟩
  have HB4 := Lib.hid (Below.next HB3.out hb)
  clear hb
  go_wp2_with fail
  refine (HC.out _).mono ?_
  rintro e w5 ⟨rfl, hb⟩
  have HB5 := Lib.hid (Below.next HB4.out hb)
  clear hb
  go_wp2_with fail
  refine (HU.out _).mono ?_
  rintro e w6 ⟨rfl, rfl⟩
  go_wp2_with fail
  refine (HRU.out _).mono ?_
  rintro e w6 ⟨rfl, hb⟩
  have HB6 := Lib.hid (Below.next HB5.out hb)
  clear hb
  go_wp2_with fail
  go_ret
  exact ⟨rfl, HB6.out⟩
end Go.Proofs.Ytbjfacfphgnhpaa
