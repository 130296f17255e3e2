/- Walks: WalkGrows. -/
import Derived.Test.YtbjfacfphgnhpaaWalkAlive
namespace Go.Proofs.Ytbjfacfphgnhpaa
open Go.RowKit WalkM
set_option linter.unusedVariables false
theorem Rd.front {w : World} {b off n cap k : Nat} {xs : List Value} (h : Rd w (.slice (some ⟨b, off, none⟩) n cap) xs) (hk : k ≤ n) : Rd w (.slice (some ⟨b, off, none⟩) k cap) (xs.take k) := by
  have := h.sub 0 k (Nat.zero_le _) hk (off' := off) (n' := k) (cap' := cap) rfl rfl rfl
  rw [List.drop_zero] at this
  exact this
theorem grow_path {x n : Int} (ho : isOf x n = true) (hn : n ≤ 32768) : pathL x (2 * n) = pathL x n ++ [(2 * n - 1).toNat] := by
  obtain ⟨m, d, rfl, rfl, hd, hm⟩ := isOf_out ho
  have hd15 : d ≤ 15 := by
    rcases Nat.lt_or_ge 15 d with h | h
    · exfalso
      obtain rfl : d = 16 := by omega
      omega
    · exact h
  have e2 : (2 : Int) * ((2 ^ d : Nat) : Int) = ((2 ^ (d + 1) : Nat) : Int) := by rw [Nat.pow_succ]; omega
  have he : 2 ^ (d + 1 + 1) = 2 * 2 ^ (d + 1) := by rw [Nat.pow_succ]; omega
  have h17 := two_pow_le (show d + 1 ≤ 17 by omega)
  have hl := (lev_root hm (lev_is (x := m) (by omega))).1
  rw [e2, pathL_of (by omega) (by omega), pathL_of hd hm, show d + 1 - lev m = (d - lev m) + 1 by omega, ups_snoc]
  congr 2
  rw [show lev m + (d - lev m) + 1 = d + 1 by omega, anc_root (by omega)]
  omega
theorem grow_cop {x n : Int} (ho : isOf x n = true) (hn : n ≤ 32768) : copL x (2 * n) = copL x n ++ [3 * n - 1] ∧ (copL x n).length = (pathL x n).length := by
  obtain ⟨m, d, rfl, rfl, hd, hm⟩ := isOf_out ho
  have hd15 : d ≤ 15 := by
    rcases Nat.lt_or_ge 15 d with h | h
    · exfalso
      obtain rfl : d = 16 := by omega
      omega
    · exact h
  have e2 : (2 : Int) * ((2 ^ d : Nat) : Int) = ((2 ^ (d + 1) : Nat) : Int) := by rw [Nat.pow_succ]; omega
  have he : 2 ^ (d + 1 + 1) = 2 * 2 ^ (d + 1) := by rw [Nat.pow_succ]; omega
  have he1 : 2 ^ (d + 1) = 2 * 2 ^ d := by rw [Nat.pow_succ]; omega
  have h17 := two_pow_le (show d + 1 ≤ 16 by omega)
  have hl := (lev_root hm (lev_is (x := m) (by omega))).1
  have hp := pow_pos' d
  rw [pathL_of hd hm, copL_of hd hm, cops_len, ups_len]
  refine ⟨?_, rfl⟩
  rw [e2, copL_of (by omega) (by omega), show d + 1 - lev m = (d - lev m) + 1 by omega, cops_snoc]
  congr 1
  · unfold cops
    apply List.map_congr_left
    intro j hj
    have hj' := List.mem_range.1 hj
    have p1 := parZ_anc (x := m) (d := d) (j := lev m + j) hd hm (by omega)
    have p2 := parZ_anc (x := m) (d := d + 1) (j := lev m + j) (by omega) (by omega) (by omega)
    have n1 : nxt m d (lev m + j) = ((anc m (lev m + j + 1) : Nat) : Int) := by rw [nxt, if_pos (by omega)]
    have n2 : nxt m (d + 1) (lev m + j) = ((anc m (lev m + j + 1) : Nat) : Int) := by rw [nxt, if_pos (by omega)]
    unfold sibZ
    rw [p1, p2, n1, n2]
  · have p2 := parZ_anc (x := m) (d := d + 1) (j := lev m + (d - lev m)) (by omega) (by omega) (by omega)
    rw [show lev m + (d - lev m) = d by omega] at p2 ⊢
    have n2 : nxt m (d + 1) d = ((anc m (d + 1) : Nat) : Int) := by rw [nxt, if_pos (by omega)]
    unfold sibZ
    rw [p2, n2, anc_root (x := m) (d := d) (by omega), anc_root (x := m) (d := d + 1) (by omega)]
    have hr : IsLev (2 ^ (d + 1) - 1) (d + 1) := by
      unfold IsLev
      exact Nat.mod_eq_of_lt (by omega)
    have hlr := lev_eq (x := 2 ^ (d + 1) - 1) (by omega) hr
    have hz := levZ_nat (x := 2 ^ (d + 1) - 1) (by omega)
    have hh : halfZ ((2 ^ (d + 1) - 1 : Nat) : Int) = ((2 ^ d : Nat) : Int) := by
      rw [halfZ, hz, hlr, if_pos (by omega)]
      simp
    rw [if_neg (by omega), if_pos (by omega), rightZ, hh, if_neg (by omega)]
    congr 1
    omega
set_option maxRecDepth 100000 in
set_option maxHeartbeats 4000000 in
theorem walkGrows_walk (x n : Int) (hx : -9223372036854775808 ≤ x ∧ x ≤ 9223372036854775807) (hn : -9223372036854775808 ≤ n ∧ n ≤ 9223372036854775807) (w : World) :
    Calls Try.prog 7 #[.int .i64 x, .int .i64 n] w fun e w' => e = .returned (.bool true) ∧ Below w.heap.size w w' := by
  have HA := Lib.hid (fun w => alive14 w)
  have F := fun w => fits_any n w hn.1 hn.2
  by_cases hf : fits n.toNat = true
  · have hs := fits_small hf
    rw [hf] at F
    have HF := Lib.hid F
    have hn1 : 1 ≤ n := by omega
    have hn2 : n ≤ 65536 := by omega
    have hd : 32768 < n ∨ (n ≤ 32768 ∧ x < 0) ∨ (n ≤ 32768 ∧ 0 ≤ x ∧ 2 * n - 2 < x) ∨ (n ≤ 32768 ∧ 0 ≤ x ∧ x ≤ 2 * n - 2) := by omega
    rcases hd with h | ⟨h, h'⟩ | ⟨h, h', h''⟩ | ⟨h, h', h''⟩
    · clear F hs hn hx hf
      go_enter Try.func7, Try.ntmps7
      go_wp2_with fail
      refine (HA.out _).mono ?_
      rintro e w1 ⟨rfl, hb⟩
      have HB1 := Lib.hid hb
      clear hb
      go_wp2_with fail
      refine (HF.out _).mono ?_
      rintro e w' ⟨rfl, rfl⟩
      go_wp2_with fail
      go_ret
      exact ⟨rfl, HB1.out⟩
    · clear F hs hn hx hf
      go_enter Try.func7, Try.ntmps7
      go_wp2_with fail
      refine (HA.out _).mono ?_
      rintro e w1 ⟨rfl, hb⟩
      have HB1 := Lib.hid hb
      clear hb
      go_wp2_with fail
      refine (HF.out _).mono ?_
      rintro e w' ⟨rfl, rfl⟩
      go_wp2_with fail
      go_ret
      exact ⟨rfl, HB1.out⟩
    · clear F hs hn hx hf
      go_enter Try.func7, Try.ntmps7
      go_wp2_with fail
      refine (HA.out _).mono ?_
      rintro e w1 ⟨rfl, hb⟩
      have HB1 := Lib.hid hb
      clear hb
      go_wp2_with fail
      refine (HF.out _).mono ?_
      rintro e w' ⟨rfl, rfl⟩
      go_wp2_with fail
      go_ret
      exact ⟨rfl, HB1.out⟩
    · have ho : isOf x n = true := by rw [isOf, hf, Bool.true_and, decide_eq_true]; omega
      have P := fun w => path_all x n w hn.1 hn.2
      have P2 := fun w => path_all x (2 * n) w (by omega) (by omega)
      have C := fun w => copath_any x n w hn.1 hn.2
      have C2 := fun w => copath_any x (2 * n) w (by omega) (by omega)
      have g1 := grow_path ho h
      have g2 := grow_cop ho h
      have hsm : (pathL x n).length ≤ 16 := by
        obtain ⟨m, d, rfl, rfl, hd, hm⟩ := isOf_out ho
        rw [pathL_of hd hm, ups_len]
        omega
      obtain ⟨A, hA⟩ : ∃ A : List Int, A = (pathL x n).map fun (n : Nat) => (n : Int) := ⟨_, rfl⟩
      have e1 : nvs (pathL x n) = ivs .i64 A := by rw [hA]; rfl
      have e2 : nvs (pathL x (2 * n)) = ivs .i64 (A ++ [2 * n - 1]) := by
        have : ((2 * n - 1).toNat : Int) = 2 * n - 1 := by omega
        rw [hA, g1, nvs, List.map_append, List.map_cons, List.map_nil, this]
      obtain ⟨B, hB⟩ : ∃ B, B = copL x n := ⟨_, rfl⟩
      rw [g2.1, ← hB] at C2
      rw [← hB] at C
      rw [e1] at P
      rw [e2] at P2
      have hAl : A.length = B.length := by rw [hA, hB, g2.2, List.length_map]
      obtain ⟨k, hk⟩ : ∃ k, k = A.length := ⟨_, rfl⟩
      have hkB : B.length = k := by omega
      have hk16 : k ≤ 16 := by rw [hk, hA, List.length_map]; exact hsm
      have HP := Lib.hid P
      have HP2 := Lib.hid P2
      have HC := Lib.hid C
      have HC2 := Lib.hid C2
      have HKA := Lib.hid hk
      have HKB := Lib.hid hkB
      clear P P2 C C2 g1 g2 hsm e1 e2 hA hB hAl hk hkB F hs hn hx hf ho
      go_enter Try.func7, Try.ntmps7
      go_wp2_with fail
      refine (HA.out _).mono ?_
      rintro e w1 ⟨rfl, hb⟩
      have HB1 := Lib.hid hb
      clear hb
      go_wp2_with fail
      refine (HF.out _).mono ?_
      rintro e w' ⟨rfl, rfl⟩
      go_wp2_with fail
      refine (HP.out _).mono ?_
      rintro e w2 ⟨v1, rfl, hown, hb⟩
      have HO1 := Lib.hid hown.rd
      have HB2 := Lib.hid (Below.next HB1.out hb)
      clear hown hb
      go_wp2_with fail
      refine (HP2.out _).mono ?_
      rintro e w3 ⟨v2, rfl, hown, hb⟩
      have HO1' := Lib.hid (HO1.out.below hb (Nat.le_refl _))
      have HO2 := Lib.hid hown.rd
      have HB3 := Lib.hid (Below.next HB2.out hb)
      clear hown hb HO1
      go_wp2_with fail
      refine (HC.out _).mono ?_
      rintro e w4 ⟨v3, rfl, hown, hb⟩
      have HO1 := Lib.hid (HO1'.out.below hb (Nat.le_refl _))
      have HO2' := Lib.hid (HO2.out.below hb (Nat.le_refl _))
      have HO3 := Lib.hid hown.rd
      have HB4 := Lib.hid (Below.next HB3.out hb)
      clear hown hb HO1' HO2
      go_wp2_with fail
      refine (HC2.out _).mono ?_
      rintro e w5 ⟨v4, rfl, hown, hb⟩
      have r1 := HO1.out.below hb (Nat.le_refl _)
      have r2 := HO2'.out.below hb (Nat.le_refl _)
      have r3 := HO3.out.below hb (Nat.le_refl _)
      have r4 := hown.rd
      have HB5 := Lib.hid (Below.next HB4.out hb)
      clear hown hb HO1 HO2' HO3
      have hl1 : (A ++ [2 * n - 1]).length = k + 1 := by rw [List.length_append, ← HKA.out]; rfl
      have hl2 : (B ++ [3 * n - 1]).length = k + 1 := by rw [List.length_append, HKB.out]; rfl
      rcases r2.icases with ⟨_, _, _, h0⟩ | ⟨b2, o2, cap2, _, hc2, hc2', rfl, hbl2, hcell2⟩
      · simp at h0
      rcases r4.icases with ⟨_, _, _, h0⟩ | ⟨b4, o4, cap4, _, hc4, hc4', rfl, hbl4, hcell4⟩
      · simp at h0
      rw [hl1] at hc2 hcell2 r2
      rw [hl2] at hc4 hcell4 r4
      have c2 := hcell2 k (by omega)
      have c4 := hcell4 k (by omega)
      rw [List.getD_eq_getElem?_getD, List.getElem?_append_right (by have := HKA.out; omega), ← HKA.out, Nat.sub_self] at c2
      rw [List.getD_eq_getElem?_getD, List.getElem?_append_right (by have := HKB.out; omega), HKB.out, Nat.sub_self] at c4
      simp only [List.getElem?_cons_zero, Option.getD_some] at c2 c4
      have f2 := r2.front (k := k) (by omega)
      have f4 := r4.front (k := k) (by omega)
      have t2 : (ivs .i64 (A ++ [2 * n - 1])).take k = ivs .i64 A := by
        have : (ivs .i64 A).length = k := by rw [ivs_len]; exact HKA.out.symm
        rw [show ivs .i64 (A ++ [2 * n - 1]) = ivs .i64 A ++ [.int .i64 (2 * n - 1)] from ivs_snoc _ _ _, List.take_left' this]
      have t4 : (ivs .i64 (B ++ [3 * n - 1])).take k = ivs .i64 B := by
        have : (ivs .i64 B).length = k := by rw [ivs_len]; exact HKB.out
        rw [show ivs .i64 (B ++ [3 * n - 1]) = ivs .i64 B ++ [.int .i64 (3 * n - 1)] from ivs_snoc _ _ _, List.take_left' this]
      rw [t2] at f2
      rw [t4] at f4
      have S1 := sameI_self _ _ _ _ f2 r1
      obtain ⟨a1, cap1, rfl, _, _, _⟩ := id r1
      obtain ⟨a3, cap3, rfl, _, _, _⟩ := id r3
      have e1 : (ivs .i64 A).length = k := by rw [ivs_len]; exact HKA.out.symm
      have e3 : (ivs .i64 B).length = k := by rw [ivs_len]; exact HKB.out
      rw [e1] at S1 r1 ⊢
      rw [e3] at r3 ⊢
      rw [hl1, hl2]
      have S2 := fun n => sameI_self _ _ _ _ (f4.drewN n) (r3.drewN n)
      have HS1 := Lib.hid S1
      have HS2 := Lib.hid S2
      clear S1 S2 r1 r2 r3 r4 t2 t4 f2 f4 e1 e3 hl1 hl2 hcell2 hcell4
      go_wp2_with fail
      refine (HS1.out).mono ?_
      rintro e w6 ⟨rfl, q, rfl⟩
      go_wp2_with fail
      refine (HS2.out _).mono ?_
      rintro e w6 ⟨rfl, q', rfl⟩
      go_wp2_with fail
      go_ret
      exact ⟨rfl, Below.draws HB5.out _⟩
  · have hf' : fits n.toNat = false := by rw [← Bool.not_eq_true]; exact hf
    rw [hf'] at F
    have HF := Lib.hid F
    clear F hn hx hf hf'
    go_enter Try.func7, Try.ntmps7
    go_wp2_with fail
    refine (HA.out _).mono ?_
    rintro e w1 ⟨rfl, hb⟩
    have HB1 := Lib.hid hb
    clear hb
    go_wp2_with fail
    refine (HF.out _).mono ?_
    rintro e w' ⟨rfl, rfl⟩
    go_wp2_with fail
    go_ret
    exact ⟨rfl, HB1.out⟩
end Go.Proofs.Ytbjfacfphgnhpaa
