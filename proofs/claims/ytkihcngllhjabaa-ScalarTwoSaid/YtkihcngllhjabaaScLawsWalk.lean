/- Walks: ScalarLaws. -/
import Derived.Test.YtkihcngllhjabaaScExactWalk
namespace Go.Proofs.Ytkihcngllhjabaa
open Go.RowKit ScM
set_option linter.unusedVariables false
theorem L_pos : 0 < L := by decide
theorem law1 (x y z : Nat) : x * ((y + z) % L) % L = (x * y % L + x * z % L) % L := by
  rw [Nat.mul_mod, Nat.mod_mod, ← Nat.mul_mod, Nat.mul_add, Nat.add_mod]
theorem law2 (x y z : Nat) : x * (y * z % L) % L = x * y % L * z % L := by
  rw [Nat.mul_mod, Nat.mod_mod, ← Nat.mul_mod, Nat.mul_mod (x * y % L), Nat.mod_mod, ← Nat.mul_mod, Nat.mul_assoc]
theorem law3 (x y z : Nat) : (x + (y + z) % L) % L = ((x + y) % L + z) % L := by
  rw [Nat.add_mod, Nat.mod_mod, ← Nat.add_mod, Nat.add_mod ((x + y) % L), Nat.mod_mod, ← Nat.add_mod, Nat.add_assoc]
theorem law4 {x : Nat} (h : x < L) : (x + (L - x) % L) % L = 0 := by
  rw [Nat.add_mod, Nat.mod_mod, ← Nat.add_mod, show x + (L - x) = L by omega, Nat.mod_self]
theorem law5 {x : Nat} (h : x < L) : x * ((L - 1) % L) % L = (L - x) % L := by
  rw [Nat.mul_mod, Nat.mod_mod, ← Nat.mul_mod]
  by_cases h0 : x = 0
  · subst h0; simp
  · obtain ⟨k, hk⟩ : ∃ k, x = k + 1 := ⟨x - 1, by omega⟩
    have hp := L_pos
    obtain ⟨M, hM⟩ : ∃ M, M = L := ⟨_, rfl⟩
    rw [← hM] at h hp ⊢
    have e : x * (M - 1) = k * M + (M - x) := by
      have h1 : x * (M - 1) + x = x * M := by
        rw [← Nat.mul_succ, show (M - 1).succ = M by omega]
      have h2 : (k + 1) * M = k * M + M := Nat.succ_mul k M
      rw [hk, h2] at h1
      rw [hk]
      generalize (k + 1) * (M - 1) = u at h1 ⊢
      generalize k * M = v at h1 ⊢
      omega
    rw [e, Nat.add_comm, Nat.add_mul_mod_self_right]
theorem blk3 (w : World) (A B C : Array Value) (t1 t2 t3 : TypeId) :
    Blk (((w.alloc (.cells A t1)).alloc (.cells B t2)).alloc (.cells C t3)) w.heap.size t1 A ∧
    Blk (((w.alloc (.cells A t1)).alloc (.cells B t2)).alloc (.cells C t3)) (w.heap.size + 1) t2 B ∧
    Blk (((w.alloc (.cells A t1)).alloc (.cells B t2)).alloc (.cells C t3)) (w.heap.size + 2) t3 C ∧
      Below w.heap.size w (((w.alloc (.cells A t1)).alloc (.cells B t2)).alloc (.cells C t3)) := by
  obtain ⟨h1, h2, h3⟩ := blk2 w A B t1 t2
  have k := Blk.new ((w.alloc (.cells A t1)).alloc (.cells B t2)) t3 C
  have e : ((w.alloc (.cells A t1)).alloc (.cells B t2)).heap.size = w.heap.size + 2 := by simp
  rw [e] at k
  exact ⟨h1.alloc _, h2.alloc _, k, h3.alloc h3.size _⟩
set_option maxRecDepth 100000 in
set_option maxHeartbeats 16000000 in
theorem scalarLaws_walk {w : World} (v1 : Value) (M1 : List Nat) (v2 : Value) (M2 : List Nat) (v3 : Value) (M3 : List Nat) (hM1 : ∀ n ∈ M1, n < 256) (h1 : Rd w v1 (bvs M1)) (hM2 : ∀ n ∈ M2, n < 256) (h2 : Rd w v2 (bvs M2)) (hM3 : ∀ n ∈ M3, n < 256) (h3 : Rd w v3 (bvs M3)) :
    Calls Try.prog 4 #[v1, v2, v3] w fun e w' => e = .returned (.bool true) ∧ Below w.heap.size w w' := by
  have hv1 : ∃ a c n, v1 = .slice a n c := by obtain ⟨a, c, e, _⟩ := h1; exact ⟨a, c, _, e⟩
  have O1 := fun (w1 : World) (hb : Below w.heap.size w w1) => sof_any v1 M1 w1 (h1.below hb (Nat.le_refl _)) hM1
  obtain ⟨a1, c1, n1, rfl⟩ := hv1
  have hv2 : ∃ a c n, v2 = .slice a n c := by obtain ⟨a, c, e, _⟩ := h2; exact ⟨a, c, _, e⟩
  have O2 := fun (w1 : World) (hb : Below w.heap.size w w1) => sof_any v2 M2 w1 (h2.below hb (Nat.le_refl _)) hM2
  obtain ⟨a2, c2, n2, rfl⟩ := hv2
  have hv3 : ∃ a c n, v3 = .slice a n c := by obtain ⟨a, c, e, _⟩ := h3; exact ⟨a, c, _, e⟩
  have O3 := fun (w1 : World) (hb : Below w.heap.size w w1) => sof_any v3 M3 w1 (h3.below hb (Nat.le_refl _)) hM3
  obtain ⟨a3, c3, n3, rfl⟩ := hv3
  have HAL := Lib.hid (salive_any w)
  obtain ⟨x, hx'⟩ : ∃ x, x = leV (M1.take 64) % L := ⟨_, rfl⟩
  obtain ⟨y, hy'⟩ : ∃ x, x = leV (M2.take 64) % L := ⟨_, rfl⟩
  obtain ⟨z, hz'⟩ : ∃ x, x = leV (M3.take 64) % L := ⟨_, rfl⟩
  rw [← hx'] at O1
  rw [← hy'] at O2
  rw [← hz'] at O3
  have hx : x < L := by rw [hx']; exact Nat.mod_lt _ L_pos
  have hy : y < L := by rw [hy']; exact Nat.mod_lt _ L_pos
  have hz : z < L := by rw [hz']; exact Nat.mod_lt _ L_pos
  have HO1 := Lib.hid O1
  have HO2 := Lib.hid O2
  have HO3 := Lib.hid O3
  obtain ⟨one, hone'⟩ : ∃ n, n = 1 := ⟨_, rfl⟩
  have hone : one < L := by rw [hone']; decide
  have LIT : ∀ w1 : World, Calls Try.prog 18 #[.slice (some ⟨w1.heap.size, 0, none⟩) 1 1] (w1.alloc (.cells #[.int .u8 1] 5)) fun e w' => e = .returned (.agg (w4 one)) ∧ Below w1.heap.size w1 w' := by
    intro w1
    have := sof_any (.slice (some ⟨w1.heap.size, 0, none⟩) 1 1) [1] (w1.alloc (.cells #[.int .u8 1] 5)) ((Own.full (B := w1.heap.size) (cs := #[.int .u8 1]) rfl (Nat.le_refl _) (by unfold maxLen; simp) rfl).rd) (by simp)
    have e : leV (([1] : List Nat).take 64) % L = one := by rw [hone']; decide
    rw [e] at this
    refine this.mono ?_
    rintro e w2 ⟨rfl, hb⟩
    exact ⟨rfl, ((Below.refl w1.heap.size w1).alloc (Nat.le_refl _) _).trans (hb.mono (by simp))⟩
  have HLIT := Lib.hid LIT
  have hz0 : w4 0 = #[.int .u64 0, .int .u64 0, .int .u64 0, .int .u64 0] := by kernel_rfl
  have C37 := fun w => sadd2_any y z w hy hz
  obtain ⟨r37, e37⟩ : ∃ r, r = (y + z) % L := ⟨_, rfl⟩
  rw [← e37] at C37
  have hr37 : r37 < L := by rw [e37]; exact Nat.mod_lt _ L_pos
  have C38 := fun w => smul_any x r37 w hx hr37
  obtain ⟨r38, e38⟩ : ∃ r, r = x * r37 % L := ⟨_, rfl⟩
  rw [← e38] at C38
  have hr38 : r38 < L := by rw [e38]; exact Nat.mod_lt _ L_pos
  have C41 := fun w => smul_any x y w hx hy
  obtain ⟨r41, e41⟩ : ∃ r, r = x * y % L := ⟨_, rfl⟩
  rw [← e41] at C41
  have hr41 : r41 < L := by rw [e41]; exact Nat.mod_lt _ L_pos
  have C44 := fun w => smul_any x z w hx hz
  obtain ⟨r44, e44⟩ : ∃ r, r = x * z % L := ⟨_, rfl⟩
  rw [← e44] at C44
  have hr44 : r44 < L := by rw [e44]; exact Nat.mod_lt _ L_pos
  have C45 := fun w => sadd2_any r41 r44 w hr41 hr44
  obtain ⟨r45, e45⟩ : ∃ r, r = (r41 + r44) % L := ⟨_, rfl⟩
  rw [← e45] at C45
  have hr45 : r45 < L := by rw [e45]; exact Nat.mod_lt _ L_pos
  have C52 := fun w => smul_any y z w hy hz
  obtain ⟨r52, e52⟩ : ∃ r, r = y * z % L := ⟨_, rfl⟩
  rw [← e52] at C52
  have hr52 : r52 < L := by rw [e52]; exact Nat.mod_lt _ L_pos
  have C53 := fun w => smul_any x r52 w hx hr52
  obtain ⟨r53, e53⟩ : ∃ r, r = x * r52 % L := ⟨_, rfl⟩
  rw [← e53] at C53
  have hr53 : r53 < L := by rw [e53]; exact Nat.mod_lt _ L_pos
  have C56 := fun w => smul_any x y w hx hy
  obtain ⟨r56, e56⟩ : ∃ r, r = x * y % L := ⟨_, rfl⟩
  rw [← e56] at C56
  have hr56 : r56 < L := by rw [e56]; exact Nat.mod_lt _ L_pos
  have C58 := fun w => smul_any r56 z w hr56 hz
  obtain ⟨r58, e58⟩ : ∃ r, r = r56 * z % L := ⟨_, rfl⟩
  rw [← e58] at C58
  have hr58 : r58 < L := by rw [e58]; exact Nat.mod_lt _ L_pos
  have C66 := fun w => sadd2_any y z w hy hz
  obtain ⟨r66, e66⟩ : ∃ r, r = (y + z) % L := ⟨_, rfl⟩
  rw [← e66] at C66
  have hr66 : r66 < L := by rw [e66]; exact Nat.mod_lt _ L_pos
  have C67 := fun w => sadd2_any x r66 w hx hr66
  obtain ⟨r67, e67⟩ : ∃ r, r = (x + r66) % L := ⟨_, rfl⟩
  rw [← e67] at C67
  have hr67 : r67 < L := by rw [e67]; exact Nat.mod_lt _ L_pos
  have C70 := fun w => sadd2_any x y w hx hy
  obtain ⟨r70, e70⟩ : ∃ r, r = (x + y) % L := ⟨_, rfl⟩
  rw [← e70] at C70
  have hr70 : r70 < L := by rw [e70]; exact Nat.mod_lt _ L_pos
  have C72 := fun w => sadd2_any r70 z w hr70 hz
  obtain ⟨r72, e72⟩ : ∃ r, r = (r70 + z) % L := ⟨_, rfl⟩
  rw [← e72] at C72
  have hr72 : r72 < L := by rw [e72]; exact Nat.mod_lt _ L_pos
  have C78 := fun w => smul_any x y w hx hy
  obtain ⟨r78, e78⟩ : ∃ r, r = x * y % L := ⟨_, rfl⟩
  rw [← e78] at C78
  have hr78 : r78 < L := by rw [e78]; exact Nat.mod_lt _ L_pos
  have C81 := fun w => smul_any y x w hy hx
  obtain ⟨r81, e81⟩ : ∃ r, r = y * x % L := ⟨_, rfl⟩
  rw [← e81] at C81
  have hr81 : r81 < L := by rw [e81]; exact Nat.mod_lt _ L_pos
  have C86 := fun w => sadd2_any x y w hx hy
  obtain ⟨r86, e86⟩ : ∃ r, r = (x + y) % L := ⟨_, rfl⟩
  rw [← e86] at C86
  have hr86 : r86 < L := by rw [e86]; exact Nat.mod_lt _ L_pos
  have C89 := fun w => sadd2_any y x w hy hx
  obtain ⟨r89, e89⟩ : ∃ r, r = (y + x) % L := ⟨_, rfl⟩
  rw [← e89] at C89
  have hr89 : r89 < L := by rw [e89]; exact Nat.mod_lt _ L_pos
  have C95 := fun w => sneg_any x w hx
  obtain ⟨r95, e95⟩ : ∃ r, r = (L - x) % L := ⟨_, rfl⟩
  rw [← e95] at C95
  have hr95 : r95 < L := by rw [e95]; exact Nat.mod_lt _ L_pos
  have C96 := fun w => sadd2_any x r95 w hx hr95
  obtain ⟨r96, e96⟩ : ∃ r, r = (x + r95) % L := ⟨_, rfl⟩
  rw [← e96] at C96
  have hr96 : r96 < L := by rw [e96]; exact Nat.mod_lt _ L_pos
  have C103 := fun w => smul_any x one w hx hone
  obtain ⟨r103, e103⟩ : ∃ r, r = x * one % L := ⟨_, rfl⟩
  rw [← e103] at C103
  have hr103 : r103 < L := by rw [e103]; exact Nat.mod_lt _ L_pos
  have C110 := fun w => sneg_any one w hone
  obtain ⟨r110, e110⟩ : ∃ r, r = (L - one) % L := ⟨_, rfl⟩
  rw [← e110] at C110
  have hr110 : r110 < L := by rw [e110]; exact Nat.mod_lt _ L_pos
  have C111 := fun w => smul_any x r110 w hx hr110
  obtain ⟨r111, e111⟩ : ∃ r, r = x * r110 % L := ⟨_, rfl⟩
  rw [← e111] at C111
  have hr111 : r111 < L := by rw [e111]; exact Nat.mod_lt _ L_pos
  have C113 := fun w => sneg_any x w hx
  obtain ⟨r113, e113⟩ : ∃ r, r = (L - x) % L := ⟨_, rfl⟩
  rw [← e113] at C113
  have hr113 : r113 < L := by rw [e113]; exact Nat.mod_lt _ L_pos
  have C119 := fun (v : Value) (w : World) (h : Rd w v (bvs (leN 32 x))) => sof_any v (leN 32 x) w h (leN_lt _ _)
  obtain ⟨r119, e119⟩ : ∃ r, r = leV ((leN 32 x).take 64) % L := ⟨_, rfl⟩
  rw [← e119] at C119
  have hr119 : r119 < L := by rw [e119]; exact Nat.mod_lt _ L_pos
  have q46 : r38 = r45 := by rw [e38, e37, e45, e41, e44]; exact law1 x y z
  have q59 : r53 = r58 := by rw [e53, e52, e58, e56]; exact law2 x y z
  have q73 : r67 = r72 := by rw [e67, e66, e72, e70]; exact law3 x y z
  have q82 : r78 = r81 := by rw [e78, e81, Nat.mul_comm]
  have q90 : r86 = r89 := by rw [e86, e89, Nat.add_comm]
  have q98 : r96 = 0 := by rw [e96, e95]; exact law4 hx
  have q105 : r103 = x := by rw [e103, hone', Nat.mul_one, Nat.mod_eq_of_lt hx]
  have q114 : r111 = r113 := by rw [e111, e110, e113, hone']; exact law5 hx
  have q121 : r119 = x := by
    rw [e119, List.take_of_length_le (by rw [leN_len]; omega), leV_leN 32 x (by rw [← P32]; exact Nat.lt_trans hx L_lt), Nat.mod_eq_of_lt hx]
  have C46 := fun w => ssame_any r38 r45 w (Nat.lt_trans hr38 L_lt) (Nat.lt_trans hr45 L_lt)
  rw [decide_eq_true q46] at C46
  have C59 := fun w => ssame_any r53 r58 w (Nat.lt_trans hr53 L_lt) (Nat.lt_trans hr58 L_lt)
  rw [decide_eq_true q59] at C59
  have C73 := fun w => ssame_any r67 r72 w (Nat.lt_trans hr67 L_lt) (Nat.lt_trans hr72 L_lt)
  rw [decide_eq_true q73] at C73
  have C82 := fun w => ssame_any r78 r81 w (Nat.lt_trans hr78 L_lt) (Nat.lt_trans hr81 L_lt)
  rw [decide_eq_true q82] at C82
  have C90 := fun w => ssame_any r86 r89 w (Nat.lt_trans hr86 L_lt) (Nat.lt_trans hr89 L_lt)
  rw [decide_eq_true q90] at C90
  have C98 := fun w => ssame_any r96 0 w (Nat.lt_trans hr96 L_lt) (Nat.lt_trans L_pos L_lt)
  rw [decide_eq_true q98] at C98
  have C105 := fun w => ssame_any r103 x w (Nat.lt_trans hr103 L_lt) (Nat.lt_trans hx L_lt)
  rw [decide_eq_true q105] at C105
  have C114 := fun w => ssame_any r111 r113 w (Nat.lt_trans hr111 L_lt) (Nat.lt_trans hr113 L_lt)
  rw [decide_eq_true q114] at C114
  have C121 := fun w => ssame_any r119 x w (Nat.lt_trans hr119 L_lt) (Nat.lt_trans hx L_lt)
  rw [decide_eq_true q121] at C121
  rw [hz0] at C98
  have C118 := fun w => sbytes_any x w
  have HC37 := Lib.hid C37
  have HC38 := Lib.hid C38
  have HC41 := Lib.hid C41
  have HC44 := Lib.hid C44
  have HC45 := Lib.hid C45
  have HC52 := Lib.hid C52
  have HC53 := Lib.hid C53
  have HC56 := Lib.hid C56
  have HC58 := Lib.hid C58
  have HC66 := Lib.hid C66
  have HC67 := Lib.hid C67
  have HC70 := Lib.hid C70
  have HC72 := Lib.hid C72
  have HC78 := Lib.hid C78
  have HC81 := Lib.hid C81
  have HC86 := Lib.hid C86
  have HC89 := Lib.hid C89
  have HC95 := Lib.hid C95
  have HC96 := Lib.hid C96
  have HC103 := Lib.hid C103
  have HC110 := Lib.hid C110
  have HC111 := Lib.hid C111
  have HC113 := Lib.hid C113
  have HC119 := Lib.hid C119
  have HC46 := Lib.hid C46
  have HC59 := Lib.hid C59
  have HC73 := Lib.hid C73
  have HC82 := Lib.hid C82
  have HC90 := Lib.hid C90
  have HC98 := Lib.hid C98
  have HC105 := Lib.hid C105
  have HC114 := Lib.hid C114
  have HC121 := Lib.hid C121
  have HC118 := Lib.hid C118
  clear O1 O2 O3 LIT hz0 hx' hy' hz' hone' h1 h2 h3 hM1 hM2 hM3 hx hy hz hone C37 C38 C41 C44 C45 C52 C53 C56 C58 C66 C67 C70 C72 C78 C81 C86 C89 C95 C96 C103 C110 C111 C113 C119 C46 C59 C73 C82 C90 C98 C105 C114 C121 C118 e37 hr37 e38 hr38 e41 hr41 e44 hr44 e45 hr45 e52 hr52 e53 hr53 e56 hr56 e58 hr58 e66 hr66 e67 hr67 e70 hr70 e72 hr72 e78 hr78 e81 hr81 e86 hr86 e89 hr89 e95 hr95 e96 hr96 e103 hr103 e110 hr110 e111 hr111 e113 hr113 e119 hr119 q46 q59 q73 q82 q90 q98 q105 q114 q121
  by_cases k1 : 100 < n1
  · have t1 : decide ((100 : Int) < (n1 : Int)) = true := by rw [decide_eq_true_iff]; omega
    go_enter Try.func4, Try.ntmps4
    go_wp2_with fail
    refine (HAL.out).mono ?_
    rintro e w1 ⟨rfl, hb1⟩
    have HB1 := Lib.hid hb1
    clear hb1
    go_wp2_with fail
    go_ret
    exact ⟨rfl, HB1.out⟩
  · have t1 : decide ((100 : Int) < (n1 : Int)) = false := by rw [decide_eq_false_iff_not]; omega
    by_cases k2 : 100 < n2
    · have t2 : decide ((100 : Int) < (n2 : Int)) = true := by rw [decide_eq_true_iff]; omega
      go_enter Try.func4, Try.ntmps4
      go_wp2_with fail
      refine (HAL.out).mono ?_
      rintro e w1 ⟨rfl, hb1⟩
      have HB1 := Lib.hid hb1
      clear hb1
      go_wp2_with fail
      go_ret
      exact ⟨rfl, HB1.out⟩
    · have t2 : decide ((100 : Int) < (n2 : Int)) = false := by rw [decide_eq_false_iff_not]; omega
      by_cases k3 : 100 < n3
      · have t3 : decide ((100 : Int) < (n3 : Int)) = true := by rw [decide_eq_true_iff]; omega
        go_enter Try.func4, Try.ntmps4
        go_wp2_with fail
        refine (HAL.out).mono ?_
        rintro e w1 ⟨rfl, hb1⟩
        have HB1 := Lib.hid hb1
        clear hb1
        go_wp2_with fail
        go_ret
        exact ⟨rfl, HB1.out⟩
      · have t3 : decide ((100 : Int) < (n3 : Int)) = false := by rw [decide_eq_false_iff_not]; omega
        go_enter Try.func4, Try.ntmps4
        go_wp2_with fail
        refine (HAL.out).mono ?_
        rintro e w1 ⟨rfl, hb1⟩
        have HB1 := Lib.hid hb1
        clear hb1
        go_wp2_with fail
        refine (HO1.out _ HB1.out).mono ?_
        rintro e w2 ⟨rfl, hb2⟩
        have HB2 := Lib.hid (HB1.out.trans (hb2.mono HB1.out.size))
        clear hb2
        go_wp2_with fail
        refine (HO2.out _ HB2.out).mono ?_
        rintro e w3 ⟨rfl, hb3⟩
        have HB3 := Lib.hid (HB2.out.trans (hb3.mono HB2.out.size))
        clear hb3
        go_wp2_with fail
        refine (HO3.out _ HB3.out).mono ?_
        rintro e w5 ⟨rfl, hb5⟩
        have HB5 := Lib.hid (HB3.out.trans (hb5.mono HB3.out.size))
        clear hb5
        obtain ⟨k1', k2', k3', k5'⟩ := blk3 w5 #[.int .u64 0, .int .u64 0, .int .u64 0, .int .u64 0] #[.int .u64 0, .int .u64 0, .int .u64 0, .int .u64 0] #[.int .u64 0, .int .u64 0, .int .u64 0, .int .u64 0] 27 27 27
        have K1 := Lib.hid k1'
        have K2 := Lib.hid k2'
        have K3 := Lib.hid k3'
        have K5 := Lib.hid k5'
        clear k1' k2' k3' k5'
        go_wp2_with (refine wpList_store_blk rfl 27 (.tmp 7) (.tmp 27) rfl w5.heap.size (w4 x) rfl rfl _ _ K1.out (by kernel_rfl) rfl rfl ?_)
        rintro u1 kk1 ub1 uo1 -
        have A1 := Lib.hid kk1
        have A2 := Lib.hid (show Blk u1 (w5.heap.size + 1) _ _ from (uo1 (w5.heap.size + 1) (by omega)).trans K2.out)
        have A3 := Lib.hid (show Blk u1 (w5.heap.size + 2) _ _ from (uo1 (w5.heap.size + 2) (by omega)).trans K3.out)
        have AB := Lib.hid (HB5.out.trans ((K5.out.trans (ub1 w5.heap.size (Nat.le_refl _))).mono HB5.out.size))
        clear kk1 ub1 uo1
        go_wp2_with (refine wpList_store_blk rfl 27 (.tmp 8) (.tmp 29) rfl (w5.heap.size + 1) (w4 y) rfl rfl _ _ A2.out (by kernel_rfl) rfl rfl ?_)
        rintro u2 kk2 ub2 uo2 -
        have B2 := Lib.hid kk2
        have B1 := Lib.hid (show Blk u2 w5.heap.size _ _ from (uo2 w5.heap.size (by omega)).trans A1.out)
        have B3 := Lib.hid (show Blk u2 (w5.heap.size + 2) _ _ from (uo2 (w5.heap.size + 2) (by omega)).trans A3.out)
        have BB := Lib.hid (AB.out.trans (ub2 w.heap.size (by have := HB5.out.size; omega)))
        clear kk2 ub2 uo2
        go_wp2_with (refine wpList_store_blk rfl 27 (.tmp 9) (.tmp 31) rfl (w5.heap.size + 2) (w4 z) rfl rfl _ _ B3.out (by kernel_rfl) rfl rfl ?_)
        rintro u3 kk3 ub3 uo3 -
        have D3 := Lib.hid kk3
        have D1 := Lib.hid (show Blk u3 w5.heap.size _ _ from (uo3 w5.heap.size (by omega)).trans B1.out)
        have D2 := Lib.hid (show Blk u3 (w5.heap.size + 1) _ _ from (uo3 (w5.heap.size + 1) (by omega)).trans B2.out)
        have DB := Lib.hid (BB.out.trans (ub3 w.heap.size (by have := HB5.out.size; omega)))
        clear kk3 ub3 uo3
        go_wp2_with fail
        refine (HLIT.out u3).mono ?_
        rintro e u4 ⟨rfl, hb4⟩
        have E1 := Lib.hid (D1.out.below hb4 D1.out.lt)
        have E2 := Lib.hid (D2.out.below hb4 D2.out.lt)
        have E3 := Lib.hid (D3.out.below hb4 D3.out.lt)
        have EB := Lib.hid (DB.out.trans (hb4.mono DB.out.size))
        clear hb4
        go_wp2_with (refine wpList_store_new rfl 27 (.tmp 10) (.tmp 33) rfl u4.heap.size rfl (w4 one) rfl rfl _ _ (by kernel_rfl) rfl (by rw [← Array.all_toList]; rfl) ?_)
        have G4' := Blk.new u4 27 (w4 one)
        have G1' := E1.out.alloc (.cells (w4 one) 27)
        have G2' := E2.out.alloc (.cells (w4 one) 27)
        have G3' := E3.out.alloc (.cells (w4 one) 27)
        have GB' := EB.out.alloc EB.out.size (.cells (w4 one) 27)
        obtain ⟨g, hg⟩ : ∃ g, g = u4.heap.size := ⟨_, rfl⟩
        obtain ⟨wr, hwr⟩ : ∃ wr, wr = u4.alloc (.cells (w4 one) 27) := ⟨_, rfl⟩
        rw [← hg] at G4'
        rw [← hwr] at G1' G2' G3' G4' GB'
        rw [← hg, ← hwr]
        obtain ⟨m, hm⟩ : ∃ m, m = w5.heap.size := ⟨_, rfl⟩
        rw [← hm] at G1' G2' G3'
        rw [← hm]
        have G1 := Lib.hid G1'
        have G2 := Lib.hid G2'
        have G3 := Lib.hid G3'
        have G4 := Lib.hid G4'
        have GB := Lib.hid GB'
        clear G1' G2' G3' G4' GB' hg hwr hm
        go_wp2_with fail
        dsimp only [Act.put]
        refine wp_region_live [fun v _ => v = .agg (w4 x), fun v _ => v = .agg (w4 y), fun v _ => v = .agg (w4 z), fun v _ => v = .agg (w4 r37), fun v _ => v = .agg (w4 r38), fun v _ => v = .agg (w4 x), fun v _ => v = .agg (w4 y), fun v _ => v = .agg (w4 r41), fun v _ => v = .agg (w4 x), fun v _ => v = .agg (w4 z), fun v _ => v = .agg (w4 r44), fun v _ => v = .agg (w4 r45), fun v _ => v = .bool true, fun v _ => v = .bool false, fun v _ => v = .bool false, fun v _ => v = .agg (w4 x), fun v _ => v = .agg (w4 y), fun v _ => v = .agg (w4 z), fun v _ => v = .agg (w4 r52), fun v _ => v = .agg (w4 r53), fun v _ => v = .agg (w4 x), fun v _ => v = .agg (w4 y), fun v _ => v = .agg (w4 r56), fun v _ => v = .agg (w4 z), fun v _ => v = .agg (w4 r58), fun v _ => v = .bool true, fun v _ => v = .bool false, fun v _ => v = .bool false, fun v _ => v = .bool false, fun v _ => v = .agg (w4 x), fun v _ => v = .agg (w4 y), fun v _ => v = .agg (w4 z), fun v _ => v = .agg (w4 r66), fun v _ => v = .agg (w4 r67), fun v _ => v = .agg (w4 x), fun v _ => v = .agg (w4 y), fun v _ => v = .agg (w4 r70), fun v _ => v = .agg (w4 z), fun v _ => v = .agg (w4 r72), fun v _ => v = .bool true, fun v _ => v = .bool false, fun v _ => v = .bool false]
          [false, false, false, false, false, false, false, false, false, false, false, false, false, false, false, false, false, false, false, false, false, false, false, false, false, false, false, false, false, false, false, false, false, false, false, false, false, false, false, false, false, true] [] [true, true, true, true, true, true, true, true, true, true, true, true, true, true, true, true, true, true, true, true, true, true, true, true, true, true, true, true, true, true, true, true, true, true, true, true, true, true, true, true, true, true]
          (by kernel_rfl) ?_ (by kernel_rfl) (by kernel_rfl) ?_ (by kernel_rfl) ?_ ?_
        · exact keeps_cons (fun _ _ _ h _ => h) (keeps_cons (fun _ _ _ h _ => h) (keeps_cons (fun _ _ _ h _ => h) (keeps_cons (fun _ _ _ h _ => h) (keeps_cons (fun _ _ _ h _ => h) (keeps_cons (fun _ _ _ h _ => h) (keeps_cons (fun _ _ _ h _ => h) (keeps_cons (fun _ _ _ h _ => h) (keeps_cons (fun _ _ _ h _ => h) (keeps_cons (fun _ _ _ h _ => h) (keeps_cons (fun _ _ _ h _ => h) (keeps_cons (fun _ _ _ h _ => h) (keeps_cons (fun _ _ _ h _ => h) (keeps_cons (fun _ _ _ h _ => h) (keeps_cons (fun _ _ _ h _ => h) (keeps_cons (fun _ _ _ h _ => h) (keeps_cons (fun _ _ _ h _ => h) (keeps_cons (fun _ _ _ h _ => h) (keeps_cons (fun _ _ _ h _ => h) (keeps_cons (fun _ _ _ h _ => h) (keeps_cons (fun _ _ _ h _ => h) (keeps_cons (fun _ _ _ h _ => h) (keeps_cons (fun _ _ _ h _ => h) (keeps_cons (fun _ _ _ h _ => h) (keeps_cons (fun _ _ _ h _ => h) (keeps_cons (fun _ _ _ h _ => h) (keeps_cons (fun _ _ _ h _ => h) (keeps_cons (fun _ _ _ h _ => h) (keeps_cons (fun _ _ _ h _ => h) (keeps_cons (fun _ _ _ h _ => h) (keeps_cons (fun _ _ _ h _ => h) (keeps_cons (fun _ _ _ h _ => h) (keeps_cons (fun _ _ _ h _ => h) (keeps_cons (fun _ _ _ h _ => h) (keeps_cons (fun _ _ _ h _ => h) (keeps_cons (fun _ _ _ h _ => h) (keeps_cons (fun _ _ _ h _ => h) (keeps_cons (fun _ _ _ h _ => h) (keeps_cons (fun _ _ _ h _ => h) (keeps_cons (fun _ _ _ h _ => h) (keeps_cons (fun _ _ _ h _ => h) (keeps_cons (fun _ _ _ h _ => h) (keeps_nil))))))))))))))))))))))))))))))))))))))))))
        · exact pures_t (fun _ _ _ h => h) (pures_t (fun _ _ _ h => h) (pures_t (fun _ _ _ h => h) (pures_t (fun _ _ _ h => h) (pures_t (fun _ _ _ h => h) (pures_t (fun _ _ _ h => h) (pures_t (fun _ _ _ h => h) (pures_t (fun _ _ _ h => h) (pures_t (fun _ _ _ h => h) (pures_t (fun _ _ _ h => h) (pures_t (fun _ _ _ h => h) (pures_t (fun _ _ _ h => h) (pures_t (fun _ _ _ h => h) (pures_t (fun _ _ _ h => h) (pures_t (fun _ _ _ h => h) (pures_t (fun _ _ _ h => h) (pures_t (fun _ _ _ h => h) (pures_t (fun _ _ _ h => h) (pures_t (fun _ _ _ h => h) (pures_t (fun _ _ _ h => h) (pures_t (fun _ _ _ h => h) (pures_t (fun _ _ _ h => h) (pures_t (fun _ _ _ h => h) (pures_t (fun _ _ _ h => h) (pures_t (fun _ _ _ h => h) (pures_t (fun _ _ _ h => h) (pures_t (fun _ _ _ h => h) (pures_t (fun _ _ _ h => h) (pures_t (fun _ _ _ h => h) (pures_t (fun _ _ _ h => h) (pures_t (fun _ _ _ h => h) (pures_t (fun _ _ _ h => h) (pures_t (fun _ _ _ h => h) (pures_t (fun _ _ _ h => h) (pures_t (fun _ _ _ h => h) (pures_t (fun _ _ _ h => h) (pures_t (fun _ _ _ h => h) (pures_t (fun _ _ _ h => h) (pures_t (fun _ _ _ h => h) (pures_t (fun _ _ _ h => h) (pures_t (fun _ _ _ h => h) (pures_t (fun _ _ _ h => h) (pures_nil))))))))))))))))))))))))))))))))))))))))))
        · refine .cons (owed2_go ?_) (.cons (owed2_go ?_) (.cons (owed2_go ?_) (.cons (owed2_go ?_) (.cons (owed2_go ?_) (.cons (owed2_go ?_) (.cons (owed2_go ?_) (.cons (owed2_go ?_) (.cons (owed2_go ?_) (.cons (owed2_go ?_) (.cons (owed2_go ?_) (.cons (owed2_go ?_) (.cons (owed2_go ?_) (.cons (owed2_go ?_) (.cons (owed2_go ?_) (.cons (owed2_go ?_) (.cons (owed2_go ?_) (.cons (owed2_go ?_) (.cons (owed2_go ?_) (.cons (owed2_go ?_) (.cons (owed2_go ?_) (.cons (owed2_go ?_) (.cons (owed2_go ?_) (.cons (owed2_go ?_) (.cons (owed2_go ?_) (.cons (owed2_go ?_) (.cons (owed2_go ?_) (.cons (owed2_go ?_) (.cons (owed2_go ?_) (.cons (owed2_go ?_) (.cons (owed2_go ?_) (.cons (owed2_go ?_) (.cons (owed2_go ?_) (.cons (owed2_go ?_) (.cons (owed2_go ?_) (.cons (owed2_go ?_) (.cons (owed2_go ?_) (.cons (owed2_go ?_) (.cons (owed2_go ?_) (.cons (owed2_go ?_) (.cons (owed2_go ?_) (.cons (owed2_go ?_) (.nil))))))))))))))))))))))))))))))))))))))))))
          · intro a wx hbx ho hf
            refine ⟨rfl, ?_⟩
            intro K hK
            have e0 : a.tmps[7]?.getD undef = .pointer (some ⟨m, 0, none⟩) := ho 7 (by kernel_rfl)
            exact wp_load_row 27 (.tmp 7) rfl _ (evs e0) _ (w4 x) (0, 0) _ (G1.out.below hbx G1.out.lt) Try.underlying27 rfl (by kernel_rfl) (hK _ _ rfl (Below.refl _ _))
          · intro a wx hbx ho hf
            refine ⟨rfl, ?_⟩
            intro K hK
            have e0 : a.tmps[8]?.getD undef = .pointer (some ⟨m + 1, 0, none⟩) := ho 8 (by kernel_rfl)
            exact wp_load_row 27 (.tmp 8) rfl _ (evs e0) _ (w4 y) (0, 0) _ (G2.out.below hbx G2.out.lt) Try.underlying27 rfl (by kernel_rfl) (hK _ _ rfl (Below.refl _ _))
          · intro a wx hbx ho hf
            refine ⟨rfl, ?_⟩
            intro K hK
            have e0 : a.tmps[9]?.getD undef = .pointer (some ⟨m + 2, 0, none⟩) := ho 9 (by kernel_rfl)
            exact wp_load_row 27 (.tmp 9) rfl _ (evs e0) _ (w4 z) (0, 0) _ (G3.out.below hbx G3.out.lt) Try.underlying27 rfl (by kernel_rfl) (hK _ _ rfl (Below.refl _ _))
          · intro a wx hbx ho hf
            refine ⟨rfl, ?_⟩
            intro K hK
            have e0 : a.tmps[35]?.getD undef = .agg (w4 y) := hf.1
            have e1 : a.tmps[36]?.getD undef = .agg (w4 z) := hf.2.1
            go_simp
            refine (HC37.out wx).mono ?_
            rintro e w2 ⟨rfl, hb2⟩
            exact hK _ _ rfl hb2
          · intro a wx hbx ho hf
            refine ⟨rfl, ?_⟩
            intro K hK
            have e0 : a.tmps[34]?.getD undef = .agg (w4 x) := hf.1
            have e1 : a.tmps[37]?.getD undef = .agg (w4 r37) := hf.2.1
            go_simp
            refine (HC38.out wx).mono ?_
            rintro e w2 ⟨rfl, hb2⟩
            exact hK _ _ rfl hb2
          · intro a wx hbx ho hf
            refine ⟨rfl, ?_⟩
            intro K hK
            have e0 : a.tmps[7]?.getD undef = .pointer (some ⟨m, 0, none⟩) := ho 7 (by kernel_rfl)
            exact wp_load_row 27 (.tmp 7) rfl _ (evs e0) _ (w4 x) (0, 0) _ (G1.out.below hbx G1.out.lt) Try.underlying27 rfl (by kernel_rfl) (hK _ _ rfl (Below.refl _ _))
          · intro a wx hbx ho hf
            refine ⟨rfl, ?_⟩
            intro K hK
            have e0 : a.tmps[8]?.getD undef = .pointer (some ⟨m + 1, 0, none⟩) := ho 8 (by kernel_rfl)
            exact wp_load_row 27 (.tmp 8) rfl _ (evs e0) _ (w4 y) (0, 0) _ (G2.out.below hbx G2.out.lt) Try.underlying27 rfl (by kernel_rfl) (hK _ _ rfl (Below.refl _ _))
          · intro a wx hbx ho hf
            refine ⟨rfl, ?_⟩
            intro K hK
            have e0 : a.tmps[39]?.getD undef = .agg (w4 x) := hf.1
            have e1 : a.tmps[40]?.getD undef = .agg (w4 y) := hf.2.1
            go_simp
            refine (HC41.out wx).mono ?_
            rintro e w2 ⟨rfl, hb2⟩
            exact hK _ _ rfl hb2
          · intro a wx hbx ho hf
            refine ⟨rfl, ?_⟩
            intro K hK
            have e0 : a.tmps[7]?.getD undef = .pointer (some ⟨m, 0, none⟩) := ho 7 (by kernel_rfl)
            exact wp_load_row 27 (.tmp 7) rfl _ (evs e0) _ (w4 x) (0, 0) _ (G1.out.below hbx G1.out.lt) Try.underlying27 rfl (by kernel_rfl) (hK _ _ rfl (Below.refl _ _))
          · intro a wx hbx ho hf
            refine ⟨rfl, ?_⟩
            intro K hK
            have e0 : a.tmps[9]?.getD undef = .pointer (some ⟨m + 2, 0, none⟩) := ho 9 (by kernel_rfl)
            exact wp_load_row 27 (.tmp 9) rfl _ (evs e0) _ (w4 z) (0, 0) _ (G3.out.below hbx G3.out.lt) Try.underlying27 rfl (by kernel_rfl) (hK _ _ rfl (Below.refl _ _))
          · intro a wx hbx ho hf
            refine ⟨rfl, ?_⟩
            intro K hK
            have e0 : a.tmps[42]?.getD undef = .agg (w4 x) := hf.1
            have e1 : a.tmps[43]?.getD undef = .agg (w4 z) := hf.2.1
            go_simp
            refine (HC44.out wx).mono ?_
            rintro e w2 ⟨rfl, hb2⟩
            exact hK _ _ rfl hb2
          · intro a wx hbx ho hf
            refine ⟨rfl, ?_⟩
            intro K hK
            have e0 : a.tmps[41]?.getD undef = .agg (w4 r41) := hf.1
            have e1 : a.tmps[44]?.getD undef = .agg (w4 r44) := hf.2.1
            go_simp
            refine (HC45.out wx).mono ?_
            rintro e w2 ⟨rfl, hb2⟩
            exact hK _ _ rfl hb2
          · intro a wx hbx ho hf
            refine ⟨rfl, ?_⟩
            intro K hK
            have e0 : a.tmps[38]?.getD undef = .agg (w4 r38) := hf.1
            have e1 : a.tmps[45]?.getD undef = .agg (w4 r45) := hf.2.1
            go_simp
            refine (HC46.out wx).mono ?_
            rintro e w2 ⟨rfl, hb2⟩
            exact hK _ _ rfl hb2
          · intro a wx hbx ho hf
            refine ⟨rfl, ?_⟩
            intro K hK
            have e0 : a.tmps[46]?.getD undef = .bool true := hf.1
            go_simp
            exact hK _ _ rfl (Below.refl _ _)
          · intro a wx hbx ho hf
            refine ⟨rfl, ?_⟩
            intro K hK
            have e0 : a.tmps[47]?.getD undef = .bool false := hf.1
            go_simp
            exact hK _ _ rfl (Below.refl _ _)
          · intro a wx hbx ho hf
            refine ⟨wanted_slot (j := 14) (b := false) (s := 48) rfl rfl rfl (hf.1), ?_⟩
            intro K hK
            have e0 : a.tmps[7]?.getD undef = .pointer (some ⟨m, 0, none⟩) := ho 7 (by kernel_rfl)
            exact wp_load_row 27 (.tmp 7) rfl _ (evs e0) _ (w4 x) (0, 0) _ (G1.out.below hbx G1.out.lt) Try.underlying27 rfl (by kernel_rfl) (hK _ _ rfl (Below.refl _ _))
          · intro a wx hbx ho hf
            refine ⟨wanted_slot (j := 14) (b := false) (s := 48) rfl rfl rfl (hf.1), ?_⟩
            intro K hK
            have e0 : a.tmps[8]?.getD undef = .pointer (some ⟨m + 1, 0, none⟩) := ho 8 (by kernel_rfl)
            exact wp_load_row 27 (.tmp 8) rfl _ (evs e0) _ (w4 y) (0, 0) _ (G2.out.below hbx G2.out.lt) Try.underlying27 rfl (by kernel_rfl) (hK _ _ rfl (Below.refl _ _))
          · intro a wx hbx ho hf
            refine ⟨wanted_slot (j := 14) (b := false) (s := 48) rfl rfl rfl (hf.1), ?_⟩
            intro K hK
            have e0 : a.tmps[9]?.getD undef = .pointer (some ⟨m + 2, 0, none⟩) := ho 9 (by kernel_rfl)
            exact wp_load_row 27 (.tmp 9) rfl _ (evs e0) _ (w4 z) (0, 0) _ (G3.out.below hbx G3.out.lt) Try.underlying27 rfl (by kernel_rfl) (hK _ _ rfl (Below.refl _ _))
          · intro a wx hbx ho hf
            refine ⟨wanted_slot (j := 14) (b := false) (s := 48) rfl rfl rfl (hf.2.2.1), ?_⟩
            intro K hK
            have e0 : a.tmps[50]?.getD undef = .agg (w4 y) := hf.1
            have e1 : a.tmps[51]?.getD undef = .agg (w4 z) := hf.2.1
            go_simp
            refine (HC52.out wx).mono ?_
            rintro e w2 ⟨rfl, hb2⟩
            exact hK _ _ rfl hb2
          · intro a wx hbx ho hf
            refine ⟨wanted_slot (j := 14) (b := false) (s := 48) rfl rfl rfl (hf.2.2.2.1), ?_⟩
            intro K hK
            have e0 : a.tmps[49]?.getD undef = .agg (w4 x) := hf.1
            have e1 : a.tmps[52]?.getD undef = .agg (w4 r52) := hf.2.1
            go_simp
            refine (HC53.out wx).mono ?_
            rintro e w2 ⟨rfl, hb2⟩
            exact hK _ _ rfl hb2
          · intro a wx hbx ho hf
            refine ⟨wanted_slot (j := 14) (b := false) (s := 48) rfl rfl rfl (hf.1), ?_⟩
            intro K hK
            have e0 : a.tmps[7]?.getD undef = .pointer (some ⟨m, 0, none⟩) := ho 7 (by kernel_rfl)
            exact wp_load_row 27 (.tmp 7) rfl _ (evs e0) _ (w4 x) (0, 0) _ (G1.out.below hbx G1.out.lt) Try.underlying27 rfl (by kernel_rfl) (hK _ _ rfl (Below.refl _ _))
          · intro a wx hbx ho hf
            refine ⟨wanted_slot (j := 14) (b := false) (s := 48) rfl rfl rfl (hf.1), ?_⟩
            intro K hK
            have e0 : a.tmps[8]?.getD undef = .pointer (some ⟨m + 1, 0, none⟩) := ho 8 (by kernel_rfl)
            exact wp_load_row 27 (.tmp 8) rfl _ (evs e0) _ (w4 y) (0, 0) _ (G2.out.below hbx G2.out.lt) Try.underlying27 rfl (by kernel_rfl) (hK _ _ rfl (Below.refl _ _))
          · intro a wx hbx ho hf
            refine ⟨wanted_slot (j := 14) (b := false) (s := 48) rfl rfl rfl (hf.2.2.2.1), ?_⟩
            intro K hK
            have e0 : a.tmps[54]?.getD undef = .agg (w4 x) := hf.1
            have e1 : a.tmps[55]?.getD undef = .agg (w4 y) := hf.2.1
            go_simp
            refine (HC56.out wx).mono ?_
            rintro e w2 ⟨rfl, hb2⟩
            exact hK _ _ rfl hb2
          · intro a wx hbx ho hf
            refine ⟨wanted_slot (j := 14) (b := false) (s := 48) rfl rfl rfl (hf.1), ?_⟩
            intro K hK
            have e0 : a.tmps[9]?.getD undef = .pointer (some ⟨m + 2, 0, none⟩) := ho 9 (by kernel_rfl)
            exact wp_load_row 27 (.tmp 9) rfl _ (evs e0) _ (w4 z) (0, 0) _ (G3.out.below hbx G3.out.lt) Try.underlying27 rfl (by kernel_rfl) (hK _ _ rfl (Below.refl _ _))
          · intro a wx hbx ho hf
            refine ⟨wanted_slot (j := 14) (b := false) (s := 48) rfl rfl rfl (hf.2.2.2.1), ?_⟩
            intro K hK
            have e0 : a.tmps[56]?.getD undef = .agg (w4 r56) := hf.1
            have e1 : a.tmps[57]?.getD undef = .agg (w4 z) := hf.2.1
            go_simp
            refine (HC58.out wx).mono ?_
            rintro e w2 ⟨rfl, hb2⟩
            exact hK _ _ rfl hb2
          · intro a wx hbx ho hf
            refine ⟨wanted_slot (j := 14) (b := false) (s := 48) rfl rfl rfl (hf.2.2.2.1), ?_⟩
            intro K hK
            have e0 : a.tmps[53]?.getD undef = .agg (w4 r53) := hf.1
            have e1 : a.tmps[58]?.getD undef = .agg (w4 r58) := hf.2.1
            go_simp
            refine (HC59.out wx).mono ?_
            rintro e w2 ⟨rfl, hb2⟩
            exact hK _ _ rfl hb2
          · intro a wx hbx ho hf
            refine ⟨wanted_slot (j := 14) (b := false) (s := 48) rfl rfl rfl (hf.2.1), ?_⟩
            intro K hK
            have e0 : a.tmps[59]?.getD undef = .bool true := hf.1
            go_simp
            exact hK _ _ rfl (Below.refl _ _)
          · intro a wx hbx ho hf
            refine ⟨rfl, ?_⟩
            intro K hK
            have e0 : a.tmps[48]?.getD undef = .bool false := hf.1
            have e1 : a.tmps[60]?.getD undef = .bool false := hf.2.1
            go_simp
            exact hK _ _ rfl (Below.refl _ _)
          · intro a wx hbx ho hf
            refine ⟨rfl, ?_⟩
            intro K hK
            have e0 : a.tmps[61]?.getD undef = .bool false := hf.1
            go_simp
            exact hK _ _ rfl (Below.refl _ _)
          · intro a wx hbx ho hf
            refine ⟨wanted_slot (j := 28) (b := false) (s := 62) rfl rfl rfl (hf.1), ?_⟩
            intro K hK
            have e0 : a.tmps[7]?.getD undef = .pointer (some ⟨m, 0, none⟩) := ho 7 (by kernel_rfl)
            exact wp_load_row 27 (.tmp 7) rfl _ (evs e0) _ (w4 x) (0, 0) _ (G1.out.below hbx G1.out.lt) Try.underlying27 rfl (by kernel_rfl) (hK _ _ rfl (Below.refl _ _))
          · intro a wx hbx ho hf
            refine ⟨wanted_slot (j := 28) (b := false) (s := 62) rfl rfl rfl (hf.1), ?_⟩
            intro K hK
            have e0 : a.tmps[8]?.getD undef = .pointer (some ⟨m + 1, 0, none⟩) := ho 8 (by kernel_rfl)
            exact wp_load_row 27 (.tmp 8) rfl _ (evs e0) _ (w4 y) (0, 0) _ (G2.out.below hbx G2.out.lt) Try.underlying27 rfl (by kernel_rfl) (hK _ _ rfl (Below.refl _ _))
          · intro a wx hbx ho hf
            refine ⟨wanted_slot (j := 28) (b := false) (s := 62) rfl rfl rfl (hf.1), ?_⟩
            intro K hK
            have e0 : a.tmps[9]?.getD undef = .pointer (some ⟨m + 2, 0, none⟩) := ho 9 (by kernel_rfl)
            exact wp_load_row 27 (.tmp 9) rfl _ (evs e0) _ (w4 z) (0, 0) _ (G3.out.below hbx G3.out.lt) Try.underlying27 rfl (by kernel_rfl) (hK _ _ rfl (Below.refl _ _))
          · intro a wx hbx ho hf
            refine ⟨wanted_slot (j := 28) (b := false) (s := 62) rfl rfl rfl (hf.2.2.1), ?_⟩
            intro K hK
            have e0 : a.tmps[64]?.getD undef = .agg (w4 y) := hf.1
            have e1 : a.tmps[65]?.getD undef = .agg (w4 z) := hf.2.1
            go_simp
            refine (HC66.out wx).mono ?_
            rintro e w2 ⟨rfl, hb2⟩
            exact hK _ _ rfl hb2
          · intro a wx hbx ho hf
            refine ⟨wanted_slot (j := 28) (b := false) (s := 62) rfl rfl rfl (hf.2.2.2.1), ?_⟩
            intro K hK
            have e0 : a.tmps[63]?.getD undef = .agg (w4 x) := hf.1
            have e1 : a.tmps[66]?.getD undef = .agg (w4 r66) := hf.2.1
            go_simp
            refine (HC67.out wx).mono ?_
            rintro e w2 ⟨rfl, hb2⟩
            exact hK _ _ rfl hb2
          · intro a wx hbx ho hf
            refine ⟨wanted_slot (j := 28) (b := false) (s := 62) rfl rfl rfl (hf.1), ?_⟩
            intro K hK
            have e0 : a.tmps[7]?.getD undef = .pointer (some ⟨m, 0, none⟩) := ho 7 (by kernel_rfl)
            exact wp_load_row 27 (.tmp 7) rfl _ (evs e0) _ (w4 x) (0, 0) _ (G1.out.below hbx G1.out.lt) Try.underlying27 rfl (by kernel_rfl) (hK _ _ rfl (Below.refl _ _))
          · intro a wx hbx ho hf
            refine ⟨wanted_slot (j := 28) (b := false) (s := 62) rfl rfl rfl (hf.1), ?_⟩
            intro K hK
            have e0 : a.tmps[8]?.getD undef = .pointer (some ⟨m + 1, 0, none⟩) := ho 8 (by kernel_rfl)
            exact wp_load_row 27 (.tmp 8) rfl _ (evs e0) _ (w4 y) (0, 0) _ (G2.out.below hbx G2.out.lt) Try.underlying27 rfl (by kernel_rfl) (hK _ _ rfl (Below.refl _ _))
          · intro a wx hbx ho hf
            refine ⟨wanted_slot (j := 28) (b := false) (s := 62) rfl rfl rfl (hf.2.2.2.1), ?_⟩
            intro K hK
            have e0 : a.tmps[68]?.getD undef = .agg (w4 x) := hf.1
            have e1 : a.tmps[69]?.getD undef = .agg (w4 y) := hf.2.1
            go_simp
            refine (HC70.out wx).mono ?_
            rintro e w2 ⟨rfl, hb2⟩
            exact hK _ _ rfl hb2
          · intro a wx hbx ho hf
            refine ⟨wanted_slot (j := 28) (b := false) (s := 62) rfl rfl rfl (hf.1), ?_⟩
            intro K hK
            have e0 : a.tmps[9]?.getD undef = .pointer (some ⟨m + 2, 0, none⟩) := ho 9 (by kernel_rfl)
            exact wp_load_row 27 (.tmp 9) rfl _ (evs e0) _ (w4 z) (0, 0) _ (G3.out.below hbx G3.out.lt) Try.underlying27 rfl (by kernel_rfl) (hK _ _ rfl (Below.refl _ _))
          · intro a wx hbx ho hf
            refine ⟨wanted_slot (j := 28) (b := false) (s := 62) rfl rfl rfl (hf.2.2.2.1), ?_⟩
            intro K hK
            have e0 : a.tmps[70]?.getD undef = .agg (w4 r70) := hf.1
            have e1 : a.tmps[71]?.getD undef = .agg (w4 z) := hf.2.1
            go_simp
            refine (HC72.out wx).mono ?_
            rintro e w2 ⟨rfl, hb2⟩
            exact hK _ _ rfl hb2
          · intro a wx hbx ho hf
            refine ⟨wanted_slot (j := 28) (b := false) (s := 62) rfl rfl rfl (hf.2.2.2.1), ?_⟩
            intro K hK
            have e0 : a.tmps[67]?.getD undef = .agg (w4 r67) := hf.1
            have e1 : a.tmps[72]?.getD undef = .agg (w4 r72) := hf.2.1
            go_simp
            refine (HC73.out wx).mono ?_
            rintro e w2 ⟨rfl, hb2⟩
            exact hK _ _ rfl hb2
          · intro a wx hbx ho hf
            refine ⟨wanted_slot (j := 28) (b := false) (s := 62) rfl rfl rfl (hf.2.1), ?_⟩
            intro K hK
            have e0 : a.tmps[73]?.getD undef = .bool true := hf.1
            go_simp
            exact hK _ _ rfl (Below.refl _ _)
          · intro a wx hbx ho hf
            refine ⟨rfl, ?_⟩
            intro K hK
            have e0 : a.tmps[62]?.getD undef = .bool false := hf.1
            have e1 : a.tmps[74]?.getD undef = .bool false := hf.2.1
            go_simp
            exact hK _ _ rfl (Below.refl _ _)
        · rintro f w9 hb9 hfin
          have hfe : f 75 = .bool false := hfin.2.2.2.2.2.2.2.2.2.2.2.2.2.2.2.2.2.2.2.2.2.2.2.2.2.2.2.2.2.2.2.2.2.2.2.2.2.2.2.2.2.1
          clear hfin
          simp only [frameOf, dstsOf, zipF, List.filterMap_cons, List.filterMap_nil, List.contains_cons, List.contains_nil, Nat.reduceBEq, Nat.reduceAdd, Bool.or_false, Bool.or_true, cond_true, cond_false]
          rw [hfe]
          have J1 := Lib.hid (G1.out.below hb9 G1.out.lt)
          have J2 := Lib.hid (G2.out.below hb9 G2.out.lt)
          have J3 := Lib.hid (G3.out.below hb9 G3.out.lt)
          have J4 := Lib.hid (G4.out.below hb9 G4.out.lt)
          have JB := Lib.hid (GB.out.trans (hb9.mono GB.out.size))
          clear hb9
          go_wp2_with fail
          refine wp_region_live [fun v _ => v = .agg (w4 x), fun v _ => v = .agg (w4 y), fun v _ => v = .agg (w4 r78), fun v _ => v = .agg (w4 y), fun v _ => v = .agg (w4 x), fun v _ => v = .agg (w4 r81), fun v _ => v = .bool true, fun v _ => v = .bool true, fun v _ => v = .agg (w4 x), fun v _ => v = .agg (w4 y), fun v _ => v = .agg (w4 r86), fun v _ => v = .agg (w4 y), fun v _ => v = .agg (w4 x), fun v _ => v = .agg (w4 r89), fun v _ => v = .bool true, fun v _ => v = .bool true, fun v _ => v = .bool true, fun v _ => v = .agg (w4 x), fun v _ => v = .agg (w4 x), fun v _ => v = .agg (w4 r95), fun v _ => v = .agg (w4 r96), fun v _ => v = .agg #[.int .u64 0, .int .u64 0, .int .u64 0, .int .u64 0], fun v _ => v = .bool true, fun v _ => v = .bool true, fun v _ => v = .bool true, fun v _ => v = .agg (w4 x), fun v _ => v = .agg (w4 one), fun v _ => v = .agg (w4 r103), fun v _ => v = .agg (w4 x), fun v _ => v = .bool true, fun v _ => v = .bool true, fun v _ => v = .bool true, fun v _ => v = .agg (w4 x), fun v _ => v = .agg (w4 one), fun v _ => v = .agg (w4 r110), fun v _ => v = .agg (w4 r111), fun v _ => v = .agg (w4 x), fun v _ => v = .agg (w4 r113), fun v _ => v = .bool true, fun v _ => v = .bool true, fun v _ => v = .bool true, fun v _ => v = .agg (w4 x), fun v w' => Rd w' v (bvs (leN 32 x)), fun v _ => v = .agg (w4 r119), fun v _ => v = .agg (w4 x), fun v _ => v = .bool true, fun v _ => v = .bool true, fun v _ => v = .bool true]
            [false, false, false, false, false, false, false, false, false, false, false, false, false, false, false, false, false, false, false, false, false, false, false, false, false, false, false, false, false, false, false, false, false, false, false, false, false, false, false, false, false, false, false, false, false, false, false, true] [] [true, true, true, true, true, true, true, true, true, true, true, true, true, true, true, true, true, true, true, true, true, true, true, true, true, true, true, true, true, true, true, true, true, true, true, true, true, true, true, true, true, true, false, true, true, true, true, true]
            (by kernel_rfl) ?_ (by kernel_rfl) (by kernel_rfl) ?_ (by kernel_rfl) ?_ ?_
          · exact keeps_cons (fun _ _ _ h _ => h) (keeps_cons (fun _ _ _ h _ => h) (keeps_cons (fun _ _ _ h _ => h) (keeps_cons (fun _ _ _ h _ => h) (keeps_cons (fun _ _ _ h _ => h) (keeps_cons (fun _ _ _ h _ => h) (keeps_cons (fun _ _ _ h _ => h) (keeps_cons (fun _ _ _ h _ => h) (keeps_cons (fun _ _ _ h _ => h) (keeps_cons (fun _ _ _ h _ => h) (keeps_cons (fun _ _ _ h _ => h) (keeps_cons (fun _ _ _ h _ => h) (keeps_cons (fun _ _ _ h _ => h) (keeps_cons (fun _ _ _ h _ => h) (keeps_cons (fun _ _ _ h _ => h) (keeps_cons (fun _ _ _ h _ => h) (keeps_cons (fun _ _ _ h _ => h) (keeps_cons (fun _ _ _ h _ => h) (keeps_cons (fun _ _ _ h _ => h) (keeps_cons (fun _ _ _ h _ => h) (keeps_cons (fun _ _ _ h _ => h) (keeps_cons (fun _ _ _ h _ => h) (keeps_cons (fun _ _ _ h _ => h) (keeps_cons (fun _ _ _ h _ => h) (keeps_cons (fun _ _ _ h _ => h) (keeps_cons (fun _ _ _ h _ => h) (keeps_cons (fun _ _ _ h _ => h) (keeps_cons (fun _ _ _ h _ => h) (keeps_cons (fun _ _ _ h _ => h) (keeps_cons (fun _ _ _ h _ => h) (keeps_cons (fun _ _ _ h _ => h) (keeps_cons (fun _ _ _ h _ => h) (keeps_cons (fun _ _ _ h _ => h) (keeps_cons (fun _ _ _ h _ => h) (keeps_cons (fun _ _ _ h _ => h) (keeps_cons (fun _ _ _ h _ => h) (keeps_cons (fun _ _ _ h _ => h) (keeps_cons (fun _ _ _ h _ => h) (keeps_cons (fun _ _ _ h _ => h) (keeps_cons (fun _ _ _ h _ => h) (keeps_cons (fun _ _ _ h _ => h) (keeps_cons (fun _ _ _ h _ => h) (keeps_cons (fun v w1 w2 h hb => Rd.below h hb (Nat.le_refl _)) (keeps_cons (fun _ _ _ h _ => h) (keeps_cons (fun _ _ _ h _ => h) (keeps_cons (fun _ _ _ h _ => h) (keeps_cons (fun _ _ _ h _ => h) (keeps_cons (fun _ _ _ h _ => h) (keeps_nil))))))))))))))))))))))))))))))))))))))))))))))))
          · exact pures_t (fun _ _ _ h => h) (pures_t (fun _ _ _ h => h) (pures_t (fun _ _ _ h => h) (pures_t (fun _ _ _ h => h) (pures_t (fun _ _ _ h => h) (pures_t (fun _ _ _ h => h) (pures_t (fun _ _ _ h => h) (pures_t (fun _ _ _ h => h) (pures_t (fun _ _ _ h => h) (pures_t (fun _ _ _ h => h) (pures_t (fun _ _ _ h => h) (pures_t (fun _ _ _ h => h) (pures_t (fun _ _ _ h => h) (pures_t (fun _ _ _ h => h) (pures_t (fun _ _ _ h => h) (pures_t (fun _ _ _ h => h) (pures_t (fun _ _ _ h => h) (pures_t (fun _ _ _ h => h) (pures_t (fun _ _ _ h => h) (pures_t (fun _ _ _ h => h) (pures_t (fun _ _ _ h => h) (pures_t (fun _ _ _ h => h) (pures_t (fun _ _ _ h => h) (pures_t (fun _ _ _ h => h) (pures_t (fun _ _ _ h => h) (pures_t (fun _ _ _ h => h) (pures_t (fun _ _ _ h => h) (pures_t (fun _ _ _ h => h) (pures_t (fun _ _ _ h => h) (pures_t (fun _ _ _ h => h) (pures_t (fun _ _ _ h => h) (pures_t (fun _ _ _ h => h) (pures_t (fun _ _ _ h => h) (pures_t (fun _ _ _ h => h) (pures_t (fun _ _ _ h => h) (pures_t (fun _ _ _ h => h) (pures_t (fun _ _ _ h => h) (pures_t (fun _ _ _ h => h) (pures_t (fun _ _ _ h => h) (pures_t (fun _ _ _ h => h) (pures_t (fun _ _ _ h => h) (pures_t (fun _ _ _ h => h) (pures_f (pures_t (fun _ _ _ h => h) (pures_t (fun _ _ _ h => h) (pures_t (fun _ _ _ h => h) (pures_t (fun _ _ _ h => h) (pures_t (fun _ _ _ h => h) (pures_nil))))))))))))))))))))))))))))))))))))))))))))))))
          · refine .cons (owed2_go ?_) (.cons (owed2_go ?_) (.cons (owed2_go ?_) (.cons (owed2_go ?_) (.cons (owed2_go ?_) (.cons (owed2_go ?_) (.cons (owed2_go ?_) (.cons (owed2_go ?_) (.cons (owed2_go ?_) (.cons (owed2_go ?_) (.cons (owed2_go ?_) (.cons (owed2_go ?_) (.cons (owed2_go ?_) (.cons (owed2_go ?_) (.cons (owed2_go ?_) (.cons (owed2_go ?_) (.cons (owed2_go ?_) (.cons (owed2_go ?_) (.cons (owed2_go ?_) (.cons (owed2_go ?_) (.cons (owed2_go ?_) (.cons (owed2_go ?_) (.cons (owed2_go ?_) (.cons (owed2_go ?_) (.cons (owed2_go ?_) (.cons (owed2_go ?_) (.cons (owed2_go ?_) (.cons (owed2_go ?_) (.cons (owed2_go ?_) (.cons (owed2_go ?_) (.cons (owed2_go ?_) (.cons (owed2_go ?_) (.cons (owed2_go ?_) (.cons (owed2_go ?_) (.cons (owed2_go ?_) (.cons (owed2_go ?_) (.cons (owed2_go ?_) (.cons (owed2_go ?_) (.cons (owed2_go ?_) (.cons (owed2_go ?_) (.cons (owed2_go ?_) (.cons (owed2_go ?_) (.cons (owed2_go ?_) (.cons (owed2_go ?_) (.cons (owed2_go ?_) (.cons (owed2_go ?_) (.cons (owed2_go ?_) (.cons (owed2_go ?_) (.nil))))))))))))))))))))))))))))))))))))))))))))))))
            · intro a wx hbx ho hf
              refine ⟨rfl, ?_⟩
              intro K hK
              have e0 : a.tmps[7]?.getD undef = .pointer (some ⟨m, 0, none⟩) := ho 7 (by kernel_rfl)
              exact wp_load_row 27 (.tmp 7) rfl _ (evs e0) _ (w4 x) (0, 0) _ (J1.out.below hbx J1.out.lt) Try.underlying27 rfl (by kernel_rfl) (hK _ _ rfl (Below.refl _ _))
            · intro a wx hbx ho hf
              refine ⟨rfl, ?_⟩
              intro K hK
              have e0 : a.tmps[8]?.getD undef = .pointer (some ⟨m + 1, 0, none⟩) := ho 8 (by kernel_rfl)
              exact wp_load_row 27 (.tmp 8) rfl _ (evs e0) _ (w4 y) (0, 0) _ (J2.out.below hbx J2.out.lt) Try.underlying27 rfl (by kernel_rfl) (hK _ _ rfl (Below.refl _ _))
            · intro a wx hbx ho hf
              refine ⟨rfl, ?_⟩
              intro K hK
              have e0 : a.tmps[76]?.getD undef = .agg (w4 x) := hf.1
              have e1 : a.tmps[77]?.getD undef = .agg (w4 y) := hf.2.1
              go_simp
              refine (HC78.out wx).mono ?_
              rintro e w2 ⟨rfl, hb2⟩
              exact hK _ _ rfl hb2
            · intro a wx hbx ho hf
              refine ⟨rfl, ?_⟩
              intro K hK
              have e0 : a.tmps[8]?.getD undef = .pointer (some ⟨m + 1, 0, none⟩) := ho 8 (by kernel_rfl)
              exact wp_load_row 27 (.tmp 8) rfl _ (evs e0) _ (w4 y) (0, 0) _ (J2.out.below hbx J2.out.lt) Try.underlying27 rfl (by kernel_rfl) (hK _ _ rfl (Below.refl _ _))
            · intro a wx hbx ho hf
              refine ⟨rfl, ?_⟩
              intro K hK
              have e0 : a.tmps[7]?.getD undef = .pointer (some ⟨m, 0, none⟩) := ho 7 (by kernel_rfl)
              exact wp_load_row 27 (.tmp 7) rfl _ (evs e0) _ (w4 x) (0, 0) _ (J1.out.below hbx J1.out.lt) Try.underlying27 rfl (by kernel_rfl) (hK _ _ rfl (Below.refl _ _))
            · intro a wx hbx ho hf
              refine ⟨rfl, ?_⟩
              intro K hK
              have e0 : a.tmps[79]?.getD undef = .agg (w4 y) := hf.1
              have e1 : a.tmps[80]?.getD undef = .agg (w4 x) := hf.2.1
              go_simp
              refine (HC81.out wx).mono ?_
              rintro e w2 ⟨rfl, hb2⟩
              exact hK _ _ rfl hb2
            · intro a wx hbx ho hf
              refine ⟨rfl, ?_⟩
              intro K hK
              have e0 : a.tmps[78]?.getD undef = .agg (w4 r78) := hf.1
              have e1 : a.tmps[81]?.getD undef = .agg (w4 r81) := hf.2.1
              go_simp
              refine (HC82.out wx).mono ?_
              rintro e w2 ⟨rfl, hb2⟩
              exact hK _ _ rfl hb2
            · intro a wx hbx ho hf
              refine ⟨rfl, ?_⟩
              intro K hK
              have e0 : a.tmps[82]?.getD undef = .bool true := hf.1
              go_simp
              exact hK _ _ rfl (Below.refl _ _)
            · intro a wx hbx ho hf
              refine ⟨wanted_slot (j := 7) (b := true) (s := 83) rfl rfl rfl (hf.1), ?_⟩
              intro K hK
              have e0 : a.tmps[7]?.getD undef = .pointer (some ⟨m, 0, none⟩) := ho 7 (by kernel_rfl)
              exact wp_load_row 27 (.tmp 7) rfl _ (evs e0) _ (w4 x) (0, 0) _ (J1.out.below hbx J1.out.lt) Try.underlying27 rfl (by kernel_rfl) (hK _ _ rfl (Below.refl _ _))
            · intro a wx hbx ho hf
              refine ⟨wanted_slot (j := 7) (b := true) (s := 83) rfl rfl rfl (hf.1), ?_⟩
              intro K hK
              have e0 : a.tmps[8]?.getD undef = .pointer (some ⟨m + 1, 0, none⟩) := ho 8 (by kernel_rfl)
              exact wp_load_row 27 (.tmp 8) rfl _ (evs e0) _ (w4 y) (0, 0) _ (J2.out.below hbx J2.out.lt) Try.underlying27 rfl (by kernel_rfl) (hK _ _ rfl (Below.refl _ _))
            · intro a wx hbx ho hf
              refine ⟨wanted_slot (j := 7) (b := true) (s := 83) rfl rfl rfl (hf.2.2.1), ?_⟩
              intro K hK
              have e0 : a.tmps[84]?.getD undef = .agg (w4 x) := hf.1
              have e1 : a.tmps[85]?.getD undef = .agg (w4 y) := hf.2.1
              go_simp
              refine (HC86.out wx).mono ?_
              rintro e w2 ⟨rfl, hb2⟩
              exact hK _ _ rfl hb2
            · intro a wx hbx ho hf
              refine ⟨wanted_slot (j := 7) (b := true) (s := 83) rfl rfl rfl (hf.1), ?_⟩
              intro K hK
              have e0 : a.tmps[8]?.getD undef = .pointer (some ⟨m + 1, 0, none⟩) := ho 8 (by kernel_rfl)
              exact wp_load_row 27 (.tmp 8) rfl _ (evs e0) _ (w4 y) (0, 0) _ (J2.out.below hbx J2.out.lt) Try.underlying27 rfl (by kernel_rfl) (hK _ _ rfl (Below.refl _ _))
            · intro a wx hbx ho hf
              refine ⟨wanted_slot (j := 7) (b := true) (s := 83) rfl rfl rfl (hf.1), ?_⟩
              intro K hK
              have e0 : a.tmps[7]?.getD undef = .pointer (some ⟨m, 0, none⟩) := ho 7 (by kernel_rfl)
              exact wp_load_row 27 (.tmp 7) rfl _ (evs e0) _ (w4 x) (0, 0) _ (J1.out.below hbx J1.out.lt) Try.underlying27 rfl (by kernel_rfl) (hK _ _ rfl (Below.refl _ _))
            · intro a wx hbx ho hf
              refine ⟨wanted_slot (j := 7) (b := true) (s := 83) rfl rfl rfl (hf.2.2.2.1), ?_⟩
              intro K hK
              have e0 : a.tmps[87]?.getD undef = .agg (w4 y) := hf.1
              have e1 : a.tmps[88]?.getD undef = .agg (w4 x) := hf.2.1
              go_simp
              refine (HC89.out wx).mono ?_
              rintro e w2 ⟨rfl, hb2⟩
              exact hK _ _ rfl hb2
            · intro a wx hbx ho hf
              refine ⟨wanted_slot (j := 7) (b := true) (s := 83) rfl rfl rfl (hf.2.2.2.1), ?_⟩
              intro K hK
              have e0 : a.tmps[86]?.getD undef = .agg (w4 r86) := hf.1
              have e1 : a.tmps[89]?.getD undef = .agg (w4 r89) := hf.2.1
              go_simp
              refine (HC90.out wx).mono ?_
              rintro e w2 ⟨rfl, hb2⟩
              exact hK _ _ rfl hb2
            · intro a wx hbx ho hf
              refine ⟨rfl, ?_⟩
              intro K hK
              have e0 : a.tmps[83]?.getD undef = .bool true := hf.1
              have e1 : a.tmps[90]?.getD undef = .bool true := hf.2.1
              go_simp
              exact hK _ _ rfl (Below.refl _ _)
            · intro a wx hbx ho hf
              refine ⟨rfl, ?_⟩
              intro K hK
              have e0 : a.tmps[91]?.getD undef = .bool true := hf.1
              go_simp
              exact hK _ _ rfl (Below.refl _ _)
            · intro a wx hbx ho hf
              refine ⟨wanted_slot (j := 16) (b := true) (s := 92) rfl rfl rfl (hf.1), ?_⟩
              intro K hK
              have e0 : a.tmps[7]?.getD undef = .pointer (some ⟨m, 0, none⟩) := ho 7 (by kernel_rfl)
              exact wp_load_row 27 (.tmp 7) rfl _ (evs e0) _ (w4 x) (0, 0) _ (J1.out.below hbx J1.out.lt) Try.underlying27 rfl (by kernel_rfl) (hK _ _ rfl (Below.refl _ _))
            · intro a wx hbx ho hf
              refine ⟨wanted_slot (j := 16) (b := true) (s := 92) rfl rfl rfl (hf.1), ?_⟩
              intro K hK
              have e0 : a.tmps[7]?.getD undef = .pointer (some ⟨m, 0, none⟩) := ho 7 (by kernel_rfl)
              exact wp_load_row 27 (.tmp 7) rfl _ (evs e0) _ (w4 x) (0, 0) _ (J1.out.below hbx J1.out.lt) Try.underlying27 rfl (by kernel_rfl) (hK _ _ rfl (Below.refl _ _))
            · intro a wx hbx ho hf
              refine ⟨wanted_slot (j := 16) (b := true) (s := 92) rfl rfl rfl (hf.2.1), ?_⟩
              intro K hK
              have e0 : a.tmps[94]?.getD undef = .agg (w4 x) := hf.1
              go_simp
              refine (HC95.out wx).mono ?_
              rintro e w2 ⟨rfl, hb2⟩
              exact hK _ _ rfl hb2
            · intro a wx hbx ho hf
              refine ⟨wanted_slot (j := 16) (b := true) (s := 92) rfl rfl rfl (hf.2.2.2.1), ?_⟩
              intro K hK
              have e0 : a.tmps[93]?.getD undef = .agg (w4 x) := hf.1
              have e1 : a.tmps[95]?.getD undef = .agg (w4 r95) := hf.2.1
              go_simp
              refine (HC96.out wx).mono ?_
              rintro e w2 ⟨rfl, hb2⟩
              exact hK _ _ rfl hb2
            · intro a wx hbx ho hf
              refine ⟨wanted_slot (j := 16) (b := true) (s := 92) rfl rfl rfl (hf.1), ?_⟩
              intro K hK
              go_simp
              exact hK _ _ rfl (Below.refl _ _)
            · intro a wx hbx ho hf
              refine ⟨wanted_slot (j := 16) (b := true) (s := 92) rfl rfl rfl (hf.2.2.2.1), ?_⟩
              intro K hK
              have e0 : a.tmps[96]?.getD undef = .agg (w4 r96) := hf.1
              have e1 : a.tmps[97]?.getD undef = .agg #[.int .u64 0, .int .u64 0, .int .u64 0, .int .u64 0] := hf.2.1
              go_simp
              refine (HC98.out wx).mono ?_
              rintro e w2 ⟨rfl, hb2⟩
              exact hK _ _ rfl hb2
            · intro a wx hbx ho hf
              refine ⟨rfl, ?_⟩
              intro K hK
              have e0 : a.tmps[92]?.getD undef = .bool true := hf.1
              have e1 : a.tmps[98]?.getD undef = .bool true := hf.2.1
              go_simp
              exact hK _ _ rfl (Below.refl _ _)
            · intro a wx hbx ho hf
              refine ⟨rfl, ?_⟩
              intro K hK
              have e0 : a.tmps[99]?.getD undef = .bool true := hf.1
              go_simp
              exact hK _ _ rfl (Below.refl _ _)
            · intro a wx hbx ho hf
              refine ⟨wanted_slot (j := 24) (b := true) (s := 100) rfl rfl rfl (hf.1), ?_⟩
              intro K hK
              have e0 : a.tmps[7]?.getD undef = .pointer (some ⟨m, 0, none⟩) := ho 7 (by kernel_rfl)
              exact wp_load_row 27 (.tmp 7) rfl _ (evs e0) _ (w4 x) (0, 0) _ (J1.out.below hbx J1.out.lt) Try.underlying27 rfl (by kernel_rfl) (hK _ _ rfl (Below.refl _ _))
            · intro a wx hbx ho hf
              refine ⟨wanted_slot (j := 24) (b := true) (s := 100) rfl rfl rfl (hf.1), ?_⟩
              intro K hK
              have e0 : a.tmps[10]?.getD undef = .pointer (some ⟨g, 0, none⟩) := ho 10 (by kernel_rfl)
              exact wp_load_row 27 (.tmp 10) rfl _ (evs e0) _ (w4 one) (0, 0) _ (J4.out.below hbx J4.out.lt) Try.underlying27 rfl (by kernel_rfl) (hK _ _ rfl (Below.refl _ _))
            · intro a wx hbx ho hf
              refine ⟨wanted_slot (j := 24) (b := true) (s := 100) rfl rfl rfl (hf.2.2.1), ?_⟩
              intro K hK
              have e0 : a.tmps[101]?.getD undef = .agg (w4 x) := hf.1
              have e1 : a.tmps[102]?.getD undef = .agg (w4 one) := hf.2.1
              go_simp
              refine (HC103.out wx).mono ?_
              rintro e w2 ⟨rfl, hb2⟩
              exact hK _ _ rfl hb2
            · intro a wx hbx ho hf
              refine ⟨wanted_slot (j := 24) (b := true) (s := 100) rfl rfl rfl (hf.1), ?_⟩
              intro K hK
              have e0 : a.tmps[7]?.getD undef = .pointer (some ⟨m, 0, none⟩) := ho 7 (by kernel_rfl)
              exact wp_load_row 27 (.tmp 7) rfl _ (evs e0) _ (w4 x) (0, 0) _ (J1.out.below hbx J1.out.lt) Try.underlying27 rfl (by kernel_rfl) (hK _ _ rfl (Below.refl _ _))
            · intro a wx hbx ho hf
              refine ⟨wanted_slot (j := 24) (b := true) (s := 100) rfl rfl rfl (hf.2.2.2.1), ?_⟩
              intro K hK
              have e0 : a.tmps[103]?.getD undef = .agg (w4 r103) := hf.1
              have e1 : a.tmps[104]?.getD undef = .agg (w4 x) := hf.2.1
              go_simp
              refine (HC105.out wx).mono ?_
              rintro e w2 ⟨rfl, hb2⟩
              exact hK _ _ rfl hb2
            · intro a wx hbx ho hf
              refine ⟨rfl, ?_⟩
              intro K hK
              have e0 : a.tmps[100]?.getD undef = .bool true := hf.1
              have e1 : a.tmps[105]?.getD undef = .bool true := hf.2.1
              go_simp
              exact hK _ _ rfl (Below.refl _ _)
            · intro a wx hbx ho hf
              refine ⟨rfl, ?_⟩
              intro K hK
              have e0 : a.tmps[106]?.getD undef = .bool true := hf.1
              go_simp
              exact hK _ _ rfl (Below.refl _ _)
            · intro a wx hbx ho hf
              refine ⟨wanted_slot (j := 31) (b := true) (s := 107) rfl rfl rfl (hf.1), ?_⟩
              intro K hK
              have e0 : a.tmps[7]?.getD undef = .pointer (some ⟨m, 0, none⟩) := ho 7 (by kernel_rfl)
              exact wp_load_row 27 (.tmp 7) rfl _ (evs e0) _ (w4 x) (0, 0) _ (J1.out.below hbx J1.out.lt) Try.underlying27 rfl (by kernel_rfl) (hK _ _ rfl (Below.refl _ _))
            · intro a wx hbx ho hf
              refine ⟨wanted_slot (j := 31) (b := true) (s := 107) rfl rfl rfl (hf.1), ?_⟩
              intro K hK
              have e0 : a.tmps[10]?.getD undef = .pointer (some ⟨g, 0, none⟩) := ho 10 (by kernel_rfl)
              exact wp_load_row 27 (.tmp 10) rfl _ (evs e0) _ (w4 one) (0, 0) _ (J4.out.below hbx J4.out.lt) Try.underlying27 rfl (by kernel_rfl) (hK _ _ rfl (Below.refl _ _))
            · intro a wx hbx ho hf
              refine ⟨wanted_slot (j := 31) (b := true) (s := 107) rfl rfl rfl (hf.2.1), ?_⟩
              intro K hK
              have e0 : a.tmps[109]?.getD undef = .agg (w4 one) := hf.1
              go_simp
              refine (HC110.out wx).mono ?_
              rintro e w2 ⟨rfl, hb2⟩
              exact hK _ _ rfl hb2
            · intro a wx hbx ho hf
              refine ⟨wanted_slot (j := 31) (b := true) (s := 107) rfl rfl rfl (hf.2.2.2.1), ?_⟩
              intro K hK
              have e0 : a.tmps[108]?.getD undef = .agg (w4 x) := hf.1
              have e1 : a.tmps[110]?.getD undef = .agg (w4 r110) := hf.2.1
              go_simp
              refine (HC111.out wx).mono ?_
              rintro e w2 ⟨rfl, hb2⟩
              exact hK _ _ rfl hb2
            · intro a wx hbx ho hf
              refine ⟨wanted_slot (j := 31) (b := true) (s := 107) rfl rfl rfl (hf.1), ?_⟩
              intro K hK
              have e0 : a.tmps[7]?.getD undef = .pointer (some ⟨m, 0, none⟩) := ho 7 (by kernel_rfl)
              exact wp_load_row 27 (.tmp 7) rfl _ (evs e0) _ (w4 x) (0, 0) _ (J1.out.below hbx J1.out.lt) Try.underlying27 rfl (by kernel_rfl) (hK _ _ rfl (Below.refl _ _))
            · intro a wx hbx ho hf
              refine ⟨wanted_slot (j := 31) (b := true) (s := 107) rfl rfl rfl (hf.2.2.1), ?_⟩
              intro K hK
              have e0 : a.tmps[112]?.getD undef = .agg (w4 x) := hf.1
              go_simp
              refine (HC113.out wx).mono ?_
              rintro e w2 ⟨rfl, hb2⟩
              exact hK _ _ rfl hb2
            · intro a wx hbx ho hf
              refine ⟨wanted_slot (j := 31) (b := true) (s := 107) rfl rfl rfl (hf.2.2.2.1), ?_⟩
              intro K hK
              have e0 : a.tmps[111]?.getD undef = .agg (w4 r111) := hf.1
              have e1 : a.tmps[113]?.getD undef = .agg (w4 r113) := hf.2.1
              go_simp
              refine (HC114.out wx).mono ?_
              rintro e w2 ⟨rfl, hb2⟩
              exact hK _ _ rfl hb2
            · intro a wx hbx ho hf
              refine ⟨rfl, ?_⟩
              intro K hK
              have e0 : a.tmps[107]?.getD undef = .bool true := hf.1
              have e1 : a.tmps[114]?.getD undef = .bool true := hf.2.1
              go_simp
              exact hK _ _ rfl (Below.refl _ _)
            · intro a wx hbx ho hf
              refine ⟨rfl, ?_⟩
              intro K hK
              have e0 : a.tmps[115]?.getD undef = .bool true := hf.1
              go_simp
              exact hK _ _ rfl (Below.refl _ _)
            · intro a wx hbx ho hf
              refine ⟨wanted_slot (j := 40) (b := true) (s := 116) rfl rfl rfl (hf.1), ?_⟩
              intro K hK
              have e0 : a.tmps[7]?.getD undef = .pointer (some ⟨m, 0, none⟩) := ho 7 (by kernel_rfl)
              exact wp_load_row 27 (.tmp 7) rfl _ (evs e0) _ (w4 x) (0, 0) _ (J1.out.below hbx J1.out.lt) Try.underlying27 rfl (by kernel_rfl) (hK _ _ rfl (Below.refl _ _))
            · intro a wx hbx ho hf
              refine ⟨wanted_slot (j := 40) (b := true) (s := 116) rfl rfl rfl (hf.2.1), ?_⟩
              intro K hK
              have e0 : a.tmps[117]?.getD undef = .agg (w4 x) := hf.1
              go_simp
              refine (HC118.out wx).mono ?_
              rintro e w2 ⟨v2, rfl, hown, hb2⟩
              exact hK _ _ hown.rd hb2
            · intro a wx hbx ho hf
              refine ⟨wanted_slot (j := 40) (b := true) (s := 116) rfl rfl rfl (hf.2.2.1), ?_⟩
              intro K hK
              have o0 : Rd wx (a.tmps[118]?.getD undef) (bvs (leN 32 x)) := hf.1
              obtain ⟨v0, hv0⟩ : ∃ v, v = a.tmps[118]?.getD undef := ⟨_, rfl⟩
              rw [← hv0] at o0
              have e0 := hv0.symm
              clear hv0
              go_simp
              refine (HC119.out v0 wx o0).mono ?_
              rintro e w2 ⟨rfl, hb2⟩
              exact hK _ _ rfl hb2
            · intro a wx hbx ho hf
              refine ⟨wanted_slot (j := 40) (b := true) (s := 116) rfl rfl rfl (hf.1), ?_⟩
              intro K hK
              have e0 : a.tmps[7]?.getD undef = .pointer (some ⟨m, 0, none⟩) := ho 7 (by kernel_rfl)
              exact wp_load_row 27 (.tmp 7) rfl _ (evs e0) _ (w4 x) (0, 0) _ (J1.out.below hbx J1.out.lt) Try.underlying27 rfl (by kernel_rfl) (hK _ _ rfl (Below.refl _ _))
            · intro a wx hbx ho hf
              refine ⟨wanted_slot (j := 40) (b := true) (s := 116) rfl rfl rfl (hf.2.2.2.1), ?_⟩
              intro K hK
              have e0 : a.tmps[119]?.getD undef = .agg (w4 r119) := hf.1
              have e1 : a.tmps[120]?.getD undef = .agg (w4 x) := hf.2.1
              go_simp
              refine (HC121.out wx).mono ?_
              rintro e w2 ⟨rfl, hb2⟩
              exact hK _ _ rfl hb2
            · intro a wx hbx ho hf
              refine ⟨rfl, ?_⟩
              intro K hK
              have e0 : a.tmps[116]?.getD undef = .bool true := hf.1
              have e1 : a.tmps[121]?.getD undef = .bool true := hf.2.1
              go_simp
              exact hK _ _ rfl (Below.refl _ _)
            · intro a wx hbx ho hf
              refine ⟨rfl, ?_⟩
              intro K hK
              have e0 : a.tmps[122]?.getD undef = .bool true := hf.1
              go_simp
              exact hK _ _ rfl (Below.refl _ _)
          · rintro f w10 hb10 hfin
            have hfe : f 6 = .bool true := hfin.2.2.2.2.2.2.2.2.2.2.2.2.2.2.2.2.2.2.2.2.2.2.2.2.2.2.2.2.2.2.2.2.2.2.2.2.2.2.2.2.2.2.2.2.2.2.2.1
            clear hfin
            simp only [frameOf, dstsOf, zipF, List.filterMap_cons, List.filterMap_nil, List.contains_cons, List.contains_nil, Nat.reduceBEq, Nat.reduceAdd, Bool.or_false, Bool.or_true, cond_true, cond_false]
            rw [hfe]
            go_wp2_with fail
            go_ret
            exact ⟨rfl, JB.out.trans (hb10.mono JB.out.size)⟩
end Go.Proofs.Ytkihcngllhjabaa
