/- Walks: scalar's Mul. -/
import Derived.Test.YtkihcngllhjabaaScMul64
import Derived.Test.YtkihcngllhjabaaScBytes
namespace Go.Proofs.Ytkihcngllhjabaa
open Go.RowKit ScM
set_option linter.unusedVariables false
theorem mul_parts (m v c : Nat) (hm : m ≤ 340282366920938463426481119284349108225) (hv : v < 18446744073709551616) (hc : c < 18446744073709551616) :
    (((m % 18446744073709551616 + v) % 18446744073709551616 + c) % 18446744073709551616 = (m + v + c) % 18446744073709551616) ∧
    (m / 18446744073709551616 + (m % 18446744073709551616 + v) / 18446744073709551616 < 18446744073709551616) ∧
    (m / 18446744073709551616 + (m % 18446744073709551616 + v) / 18446744073709551616 + ((m % 18446744073709551616 + v) % 18446744073709551616 + c) / 18446744073709551616 = (m + v + c) / 18446744073709551616) ∧
    ((m + v + c) / 18446744073709551616 < 18446744073709551616) := by
  refine ⟨by omega, by omega, by omega, by omega⟩
theorem wset_get {L : List Nat} {i j d : Nat} (h : i ≠ j) : (L.set i d).getD j 0 = L.getD j 0 := by
  simp [List.getD_eq_getElem?_getD, List.getElem?_set_ne h]
def Z8 : Array Value := (qvs (List.replicate 8 0)).toArray
theorem wds_set {L : List Nat} (h : Wds L) (i : Nat) {d : Nat} (hd : d < 18446744073709551616) : Wds (L.set i d) := by
  intro x hx
  rcases List.mem_or_eq_of_mem_set hx with hx | rfl
  · exact h x hx
  · exact hd
theorem qvs_getD {L : List Nat} {i : Nat} (h : i < L.length) : (qvs L)[i]? = some (.int .u64 ((L.getD i 0 : Nat) : Int)) := by simp [qvs, h]
theorem wds_getD {L : List Nat} (h : Wds L) (i : Nat) : L.getD i 0 < 18446744073709551616 := by
  rcases Nat.lt_or_ge i L.length with hi | hi
  · rw [List.getD_eq_getElem?_getD, List.getElem?_eq_getElem hi]; exact h _ (List.getElem_mem hi)
  · rw [List.getD_eq_getElem?_getD, List.getElem?_eq_none hi]; simp
set_option maxRecDepth 100000 in
set_option maxHeartbeats 8000000 in
theorem smul_any (x y : Nat) (w : World) (hx : x < L) (hy : y < L) :
    Calls Try.prog 19 #[.agg (w4 x), .agg (w4 y)] w fun e w' => e = .returned (.agg (w4 (x * y % L))) ∧ Below w.heap.size w w' := by
  have hyP : y < 18446744073709551616 ^ 4 := by have := Nat.lt_trans hy L_lt; unfold P256 at this; omega
  have hxP : x < 18446744073709551616 ^ 4 := by have := Nat.lt_trans hx L_lt; unfold P256 at this; omega
  obtain ⟨k1, k2, k3, k4, k5⟩ := blk4 w (w4 x) (w4 y) #[.int .u64 0, .int .u64 0, .int .u64 0, .int .u64 0] Z8 27 27 27 24
  have ho : Own ((((w.alloc (.cells (w4 x) 27)).alloc (.cells (w4 y) 27)).alloc (.cells #[.int .u64 0, .int .u64 0, .int .u64 0, .int .u64 0] 27)).alloc (.cells Z8 24)) (w.heap.size + 3) 24 (.slice (some ⟨w.heap.size + 3, 0, none⟩) 8 8) (qvs (List.replicate 8 0)) :=
    Own.full (cs := (qvs (List.replicate 8 0)).toArray) (by simp) (by simp) (by simp; unfold maxLen; omega) (by simp)
  have hmk : ∀ w, (Instr.makeSlice 91 (.int .i64 8) (.int .i64 8)).run Try.prog w = .ok (.slice (some ⟨w.heap.size, 0, none⟩) 8 8) (w.alloc (.cells Z8 24)) := fun _ => by kernel_rfl
  have IX : ∀ i, i < 4 → ∀ w, (Instr.index 25 (.agg (w4 x)) (.int .i64 (i : Nat))).run Try.prog w = .ok (.int .u64 ((wd x i : Nat) : Int)) w := fun i hi w => run_index_arr w Try.underlying25 rfl Try.underlying24 (by kernel_rfl) (w4 x) .i64 i hi _ (w4_get hi)
  have IY : ∀ i, i < 4 → ∀ w, (Instr.index 25 (.agg (w4 y)) (.int .i64 (i : Nat))).run Try.prog w = .ok (.int .u64 ((wd y i : Nat) : Int)) w := fun i hi w => run_index_arr w Try.underlying25 rfl Try.underlying24 (by kernel_rfl) (w4 y) .i64 i hi _ (w4_get hi)
  have HXP := Lib.hid hxP
  have HYP := Lib.hid hyP
  have K1 := Lib.hid k1
  have K2 := Lib.hid k2
  have K3 := Lib.hid k3
  have K5 := Lib.hid k5
  have HO := Lib.hid ho
  have HIX := Lib.hid IX
  have HIY := Lib.hid IY
  obtain ⟨r, hr⟩ : ∃ r, r = x * y % L := ⟨_, rfl⟩
  rw [← hr]
  have HR := Lib.hid hr
  clear k1 k2 k3 k4 k5 ho IX IY hx hy hxP hyP hr
  go_enter Try.func19, Try.ntmps19
  go_wp2_with (refine wpList_load_at rfl 25 (.tmp 15) rfl w.heap.size rfl 27 (w4 x) (0, 0) _ K1.out Try.underlying25 rfl (by kernel_rfl) ?_)
  clear hmk
  go_loopg [17] 4 (fun q iv wr => ∃ (i : Nat) (O : List Nat), i + q = 4 ∧ iv = .int .i64 (i : Nat) ∧ O.length = 8 ∧ Hid (Wds O) ∧ Hid (wv O = x % 18446744073709551616 ^ i * y) ∧ Hid (∀ j, i + 4 ≤ j → O.getD j 0 = 0) ∧ Blk wr (w.heap.size + 1) 27 (w4 y) ∧ Blk wr (w.heap.size + 2) 27 #[.int .u64 0, .int .u64 0, .int .u64 0, .int .u64 0] ∧ Own wr (w.heap.size + 3) 24 (.slice (some ⟨w.heap.size + 3, 0, none⟩) 8 8) (qvs O) ∧ Below w.heap.size w wr)
  case atStart =>
    refine ⟨0, List.replicate 8 0, rfl, rfl, rfl, ?_, ?_, ?_, K2.out, K3.out, HO.out, K5.out⟩
    · intro d hd; obtain ⟨_, rfl⟩ := List.mem_replicate.1 hd; omega
    · show _ = _
      rw [wv_zeros]; simp [Nat.mod_one]
    · intro j _
      rw [List.getD_eq_getElem?_getD, List.getElem?_replicate]
      split <;> rfl
  case round =>
    obtain ⟨i, O, hi, rfl, hlen, HD, HV, HZ, k2, k3, hown, hb⟩ := hrel
    have J2 := Lib.hid k2
    have J3 := Lib.hid k3
    have HO1 := Lib.hid hown
    have HB := Lib.hid hb
    have HL := Lib.hid hlen
    have HI := Lib.hid hi
    by_cases c1 : i < 4
    · have hi4' : decide ((i : Int) < 4) = true := by rw [decide_eq_true_iff]; omega
      have I1 := HIX.out i c1
      have hx := wd_lt x i
      have hxw := wd_wg x i c1
      obtain ⟨X, hXe⟩ : ∃ X, X = wd x i := ⟨_, rfl⟩
      rw [← hXe] at I1 hx hxw
      have HXW := Lib.hid hxw
      clear hown hb hlen hi k2 k3 hXe hxw
      obtain ⟨g1, rfl⟩ : ∃ g1, g1 = gk := ⟨_, rfl⟩
      obtain ⟨wo, rfl⟩ : ∃ wo : World, wo = wr := ⟨_, rfl⟩
      go_wp2_with (refine wpList_load_at rfl 25 (.tmp 21) rfl (w.heap.size + 1) rfl 27 (w4 y) (0, 0) _ J2.out Try.underlying25 rfl (by kernel_rfl) ?_)
      go_loopg [8, 23] 4 (fun q cv kv wr => ∃ (k c : Nat) (O2 : List Nat), k + q = 4 ∧ c < 18446744073709551616 ∧ cv = .int .u64 (c : Nat) ∧ kv = .int .i64 (k : Nat) ∧ O2.length = 8 ∧ Hid (Wds O2) ∧ Hid (wv O2 + 18446744073709551616 ^ (i + k) * c = wv O + 18446744073709551616 ^ i * (X * (y % 18446744073709551616 ^ k))) ∧ Hid (∀ j, i + 4 ≤ j → O2.getD j 0 = 0) ∧ Blk wr (w.heap.size + 1) 27 (w4 y) ∧ Blk wr (w.heap.size + 2) 27 #[.int .u64 0, .int .u64 0, .int .u64 0, .int .u64 0] ∧ Own wr (w.heap.size + 3) 24 (.slice (some ⟨w.heap.size + 3, 0, none⟩) 8 8) (qvs O2) ∧ Below w.heap.size w wr)
      case atStart =>
        exact ⟨0, 0, O, rfl, by omega, rfl, rfl, HL.out, HD, by simp [Hid, Nat.mod_one], HZ, J2.out, J3.out, HO1.out, HB.out⟩
      case round =>
        obtain ⟨k, c, O2, hk, hc, rfl, rfl, hlen2, HD2, HV2, HZ2, k2, k3, hown2, hb2⟩ := hrel
        have M2 := Lib.hid k2
        have M3 := Lib.hid k3
        have HO2 := Lib.hid hown2
        have HB2 := Lib.hid hb2
        have HL2 := Lib.hid hlen2
        have HK := Lib.hid hk
        obtain ⟨hcT, hfT⟩ := hown2.at
        by_cases ck : k < 4
        · have hk4' : decide ((k : Int) < 4) = true := by rw [decide_eq_true_iff]; omega
          have I2 := HIY.out k ck
          have hy := wd_lt y k
          have hyw := wd_wg y k ck
          obtain ⟨Y, hYe⟩ : ∃ Y, Y = wd y k := ⟨_, rfl⟩
          rw [← hYe] at I2 hy hyw
          have q3 := hcT (i + k) _ (qvs_getD (by rw [hlen2]; omega))
          have q4 := hfT (i + k)
          have hv := wds_getD HD2.out (i + k)
          have hox : O2[i + k]? = some (O2.getD (i + k) 0) := by
            rw [List.getD_eq_getElem?_getD, List.getElem?_eq_getElem (show i + k < O2.length by omega)]; rfl
          obtain ⟨v, hve⟩ : ∃ v, v = O2.getD (i + k) 0 := ⟨_, rfl⟩
          rw [← hve] at q3 hv hox
          have MU := fun w => mul64_any X Y hx hy w
          have hm : X * Y ≤ 18446744073709551615 * 18446744073709551615 := Nat.mul_le_mul (by omega) (by omega)
          obtain ⟨m, hme⟩ : ∃ m, m = X * Y := ⟨_, rfl⟩
          rw [← hme] at MU hm
          obtain ⟨p1, p2, p3, p4⟩ := mul_parts m v c hm hv hc
          have A1 := fun w => call_add64 (m % 18446744073709551616) v 0 (by omega) w
          have A2 := fun w => call_add64 ((m % 18446744073709551616 + v) % 18446744073709551616) c 0 (by omega) w
          simp only [Nat.add_zero] at A1 A2
          rw [p1] at A2
          obtain ⟨hi1, ehi⟩ : ∃ z, z = m / 18446744073709551616 := ⟨_, rfl⟩
          obtain ⟨lo1, elo⟩ : ∃ z, z = m % 18446744073709551616 := ⟨_, rfl⟩
          rw [← ehi, ← elo] at MU
          rw [← elo] at A1 A2
          rw [← ehi, ← elo] at p2 p3
          obtain ⟨s1, es1⟩ : ∃ z, z = (lo1 + v) % 18446744073709551616 := ⟨_, rfl⟩
          obtain ⟨t1, et1⟩ : ∃ z, z = (lo1 + v) / 18446744073709551616 := ⟨_, rfl⟩
          rw [← es1, ← et1] at A1
          rw [← es1] at A2
          rw [← es1, ← et1] at p3
          rw [← et1] at p2
          obtain ⟨s2, es2⟩ : ∃ z, z = (m + v + c) % 18446744073709551616 := ⟨_, rfl⟩
          obtain ⟨t2, et2⟩ : ∃ z, z = (s1 + c) / 18446744073709551616 := ⟨_, rfl⟩
          rw [← es2, ← et2] at A2
          rw [← et2] at p3
          obtain ⟨cn, ecn⟩ : ∃ z, z = (m + v + c) / 18446744073709551616 := ⟨_, rfl⟩
          rw [← ecn] at p3 p4
          have A1' : ∀ w, (callFunc 64 #[.int .u64 (lo1 : Nat), .int .u64 (v : Nat), .int .u64 0]).run Try.prog w = .ok (.value (.tuple #[.int .u64 (s1 : Nat), .int .u64 (t1 : Nat)])) w := A1
          have A2' : ∀ w, (callFunc 64 #[.int .u64 (s1 : Nat), .int .u64 (c : Nat), .int .u64 0]).run Try.prog w = .ok (.value (.tuple #[.int .u64 (s2 : Nat), .int .u64 (t2 : Nat)])) w := A2
          have HMU := Lib.hid MU
          have HOX := Lib.hid hox
          have HYW := Lib.hid hyw
          have HME := Lib.hid hme
          have HP := Lib.hid (show cn = (m + v + c) / 18446744073709551616 ∧ s2 = (m + v + c) % 18446744073709551616 ∧ hi1 + t1 + t2 = cn from ⟨ecn, es2, p3⟩)
          clear A1 A2 MU hme hm hox hyw hYe hve ehi elo es1 et1 es2 et2 ecn p1 k2 k3 hown2 hb2 hlen2 hcT hfT hk
          go_wp2_with fail
          refine (HMU.out _).mono ?_
          rintro e w' ⟨rfl, rfl⟩
          go_wp2_with fail
          go_roundg (gk - 1)
          case measure => have := HK.out; omega
          case rel =>
            obtain ⟨h1, h2, h3⟩ := HP.out
            have hs2 : s2 < 18446744073709551616 := by rw [h2]; omega
            refine ⟨k + 1, cn, O2.set (i + k) s2, by have := HK.out; omega, p4, val_int (by omega), by go_num, by rw [List.length_set]; exact HL2.out, wds_set HD2.out _ hs2, ?_, ?_, M2.out.far (by simp) _, M3.out.far (by simp) _, ?_, HB2.out.setCell (by simp only []; omega) _⟩
            · show _ = _
              rw [h1, h2, HME.out]
              refine mul_in (x := v) (y := X) HV2.out (by rw [HYW.out]; omega) ?_
              have := wv_set HOX.out ((v + X * Y + c) % 18446744073709551616)
              rw [show X * Y + v + c = v + X * Y + c by omega]
              exact this
            · intro j hj
              rw [wset_get (by omega)]
              exact HZ2.out j hj
            · rw [qvs_set]
              exact HO2.out.set _ _
        · obtain rfl : k = 4 := by omega
          have hk4' : decide (((4 : Nat) : Int) < 4) = false := rfl
          have q3 := hcT (i + 4) _ (qvs_getD (by rw [hlen2]; omega))
          have q4 := hfT (i + 4)
          have hz := HZ2.out (i + 4) (Nat.le_refl _)
          have hox : O2[i + 4]? = some 0 := by
            rw [← hz, List.getD_eq_getElem?_getD, List.getElem?_eq_getElem (show i + 4 < O2.length by omega)]; rfl
          rw [hz] at q3
          have HOX := Lib.hid hox
          clear k2 k3 hown2 hb2 hlen2 hcT hfT hk hox hz hk4'
          go_wp2_with fail
          go_roundg (g1 - 1)
          case measure => have := HI.out; omega
          case rel =>
            refine ⟨i + 1, O2.set (i + 4) c, by have := HI.out; omega, by go_num, by rw [List.length_set]; exact HL2.out, wds_set HD2.out _ hc, ?_, ?_, M2.out.far (by simp) _, M3.out.far (by simp) _, ?_, HB2.out.setCell (by simp only []; omega) _⟩
            · show _ = _
              have hv := HV2.out
              rw [HV.out, HXW.out] at hv
              refine mul_out HYP.out hv ?_
              have e := wv_set HOX.out c
              rw [Nat.mul_zero, Nat.add_zero] at e
              exact e
            · intro j hj
              rw [wset_get (by omega)]
              exact HZ2.out j (by omega)
            · rw [qvs_set]
              exact HO2.out.set _ _
    · obtain rfl : i = 4 := by omega
      have R := sreduce_any (.slice (some ⟨w.heap.size + 3, 0, none⟩) 8 8) O wr hown.rd HD.out (by omega)
      have e : wv O % L = r := by rw [HV.out, Nat.mod_eq_of_lt HXP.out, HR.out]
      rw [e] at R
      have HRE := Lib.hid R
      clear R e hown hb hlen hi k2 k3
      go_wp2_with fail
      refine (HRE.out).mono ?_
      rintro e w3 ⟨rfl, hb3⟩
      have N3 := Lib.hid (J3.out.below hb3 J3.out.lt)
      have HB3 := Lib.hid (HB.out.trans (hb3.mono HB.out.size))
      clear hb3
      go_wp2_with (refine wpList_store_blk rfl 27 (.tmp 4) (.tmp 70) rfl (w.heap.size + 2) (w4 r) rfl rfl _ _ N3.out (by kernel_rfl) rfl rfl ?_)
      rintro w2 hk2 hb2 - -
      have JK := Lib.hid hk2
      have JD := Lib.hid (HB3.out.trans (hb2 _ (by omega)))
      clear hk2 hb2
      go_wp2_with fail
      exact bodyPost_ret (v := .agg (w4 r)) (results_row1 Try.results19 _ _ (w.heap.size + 2) _ _ _ rfl JK.out Try.underlying27 rfl (by kernel_rfl)) rfl ⟨rfl, JD.out⟩
end Go.Proofs.Ytkihcngllhjabaa
