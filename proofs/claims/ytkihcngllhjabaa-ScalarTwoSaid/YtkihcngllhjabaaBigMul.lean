/- Walks: the reference's Mul, Pow. -/
import Derived.Test.YtkihcngllhjabaaBigLess
import Derived.Laws.MakeOwn
namespace Go.Proofs.Ytkihcngllhjabaa
open Go.RowKit BigM
theorem made_big (n : Nat) : madeCells (Value.int .i64 0).cells (n * 1) = (dvs (List.replicate n 0)).toArray := by
  rw [Nat.mul_one]
  apply Array.ext
  · simp [madeCells, dvs]
  · intro i h1 h2
    simp [madeCells, dvs, Value.cells, Nat.mod_one]
theorem make_big {n : Nat} (hn : n ≤ 4000000) (x : Int) (hx : x = (n : Int)) : ∀ w : World, (Instr.makeSlice 31 (.int .i64 x) (.int .i64 x)).run Try.prog w = .ok (.slice (some ⟨w.heap.size, 0, none⟩) n n) (w.alloc (.cells (dvs (List.replicate n 0)).toArray 3)) := by
  intro w
  subst hx
  obtain ⟨i, hi, hz, hsz, hby⟩ := info_parts bigE.inf
  have hr := run_make (P := Try.prog) w 31 3 i (.int .i64 0) Try.underlying31 hi hz .i64 .i64 n n (by omega) (by omega) (by rw [hby]; omega) (by omega)
  simp only [Int.toNat_natCast, hsz] at hr
  rw [made_big] at hr
  exact hr
theorem own_made (w : World) {n : Nat} (hn : n ≤ 4000000) : Own (w.alloc (.cells (dvs (List.replicate n 0)).toArray 3)) w.heap.size 3 (.slice (some ⟨w.heap.size, 0, none⟩) n n) (dvs (List.replicate n 0)) := by
  exact (Own.full (cs := (dvs (List.replicate n 0)).toArray) rfl (Nat.le_refl _) (by simp; unfold maxLen; omega) (by simp))
theorem set_get {L : List Nat} {i j d : Nat} (h : i ≠ j) : (L.set i d).getD j 0 = L.getD j 0 := by
  simp [List.getD_eq_getElem?_getD, List.getElem?_set_ne h]
set_option maxRecDepth 100000 in
set_option maxHeartbeats 4000000 in
theorem bmul_any (v v' : Value) (A B : Nat) (w : World) (h : Rd w v (dvs (big A))) (h' : Rd w v' (dvs (big B))) (hA : (big A).length < 1000000) (hB : (big B).length < 1000000) :
    Calls Try.prog 29 #[v, v'] w fun e w' => ∃ v2, e = .returned v2 ∧ Own w' w.heap.size 3 v2 (dvs (big (A * B))) ∧ Below w.heap.size w w' := by
  obtain ⟨la, hla⟩ : ∃ k, k = (big A).length := ⟨_, rfl⟩
  obtain ⟨lb, hlb⟩ : ∃ k, k = (big B).length := ⟨_, rfl⟩
  have hv : ∃ a c, v = .slice a la c := by obtain ⟨a, c, e, _⟩ := h; exact ⟨a, c, by rw [e, dvs_len, hla]⟩
  have hv' : ∃ a c, v' = .slice a lb c := by obtain ⟨a, c, e, _⟩ := h'; exact ⟨a, c, by rw [e, dvs_len, hlb]⟩
  obtain ⟨a, c, rfl⟩ := hv
  obtain ⟨a', c', rfl⟩ := hv'
  have C1 : ∀ (i : Nat) (wr : World), i < la → Below w.heap.size w wr → ∃ b off, a = some ⟨b, off, none⟩ ∧ wr.cell? ⟨b, off + i, none⟩ = some (.int .i64 (dg A i : Nat)) := fun i wr hi hb => bcells (h.below hb (Nat.le_refl _)) hla i hi
  have C2 : ∀ (i : Nat) (wr : World), i < lb → Below w.heap.size w wr → ∃ b off, a' = some ⟨b, off, none⟩ ∧ wr.cell? ⟨b, off + i, none⟩ = some (.int .i64 (dg B i : Nat)) := fun i wr hi hb => bcells (h'.below hb (Nat.le_refl _)) hlb i hi
  rw [← hla] at hA
  rw [← hlb] at hB
  obtain ⟨m, hm⟩ : ∃ m, m = la + lb + 1 := ⟨_, rfl⟩
  have hm1 : la + lb + 1 ≤ m := by omega
  have hm2 : m ≤ la + lb + 1 := by omega
  have hmk := make_big (n := m) (by omega) ((la : Int) + lb + 1) (by omega)
  have HW := Lib.hid (own_made w (n := m) (by omega))
  have HC1 := Lib.hid C1
  have HC2 := Lib.hid C2
  have HLA := Lib.hid hla
  have HLB := Lib.hid hlb
  clear C1 C2 h h' hla hlb hm
  go_enter Try.func29, Try.ntmps29
  go_wp2_with fail
  clear hmk
  go_loopg [6] la (fun q iv wr => ∃ (i : Nat) (O : List Nat), i + q = la ∧ iv = .int .i64 (i : Nat) ∧ O.length = m ∧ Hid (Dig O) ∧ Hid (bval O = A % 32768 ^ i * B) ∧ Hid (∀ j, i + lb ≤ j → O.getD j 0 = 0) ∧ Own wr w.heap.size 3 (.slice (some ⟨w.heap.size, 0, none⟩) m m) (dvs O) ∧ Below w.heap.size w wr)
  case atStart =>
    refine ⟨0, List.replicate m 0, by omega, rfl, by simp, Dig.zeros _, ?_, ?_, HW.out, (Below.refl _ _).alloc (Nat.le_refl _) _⟩
    · show _ = _
      rw [bval_zeros]; simp [Nat.mod_one]
    · intro j _
      by_cases hj : j < m <;> simp [List.getD_eq_getElem?_getD, List.getElem?_replicate, hj]
  case round =>
    obtain ⟨i, O, hi, rfl, hlen, HD, HV, HZ, hown, hb⟩ := hrel
    have HO := Lib.hid hown
    have HB := Lib.hid hb
    have HL := Lib.hid hlen
    have HI := Lib.hid hi
    have hsz := hb.size
    by_cases c1 : i < la
    · have hil' : decide ((i : Int) < (la : Int)) = true := by rw [decide_eq_true_iff]; omega
      clear hown hb hlen
      obtain ⟨g1, rfl⟩ : ∃ g1, g1 = gk := ⟨_, rfl⟩
      obtain ⟨wo, rfl⟩ : ∃ wo : World, wo = wr := ⟨_, rfl⟩
      have hy := dg_lt A i
      obtain ⟨y, hye⟩ : ∃ y, y = dg A i := ⟨_, rfl⟩
      rw [← hye] at hy
      have HY := Lib.hid hye
      clear hye hi
      go_wp2_with fail
      go_loopg [7, 8] lb (fun q cv kv wr => ∃ (k c : Nat) (O2 : List Nat), k + q = lb ∧ c < 32768 ∧ cv = .int .i64 (c : Nat) ∧ kv = .int .i64 (k : Nat) ∧ O2.length = m ∧ Hid (Dig O2) ∧ Hid (bval O2 + 32768 ^ (i + k) * c = bval O + 32768 ^ i * (y * (B % 32768 ^ k))) ∧ Hid (∀ j, i + lb ≤ j → O2.getD j 0 = 0) ∧ Own wr w.heap.size 3 (.slice (some ⟨w.heap.size, 0, none⟩) m m) (dvs O2) ∧ Below w.heap.size w wr)
      case atStart =>
        exact ⟨0, 0, O, by omega, by omega, rfl, rfl, HL.out, HD, by simp [Hid, Nat.mod_one], HZ, HO.out, HB.out⟩
      case round =>
        obtain ⟨k, c2, O2, hk, hc2, rfl, rfl, hlen2, HD2, HV2, HZ2, hown2, hb2⟩ := hrel
        have HO2 := Lib.hid hown2
        have HB2 := Lib.hid hb2
        have HL2 := Lib.hid hlen2
        have HK := Lib.hid hk
        have hsz2 := hb2.size
        obtain ⟨hcT, hfT⟩ := hown2.at
        by_cases ck : k < lb
        · have hkl' : decide ((k : Int) < (lb : Int)) = true := by rw [decide_eq_true_iff]; omega
          obtain ⟨b1, o1, rfl, q1⟩ := HC1.out i wr c1 HB2.out
          obtain ⟨b2, o2, rfl, q2⟩ := HC2.out k wr ck HB2.out
          have q3 := hcT (i + k) _ (dvs_getD (by rw [hlen2]; omega))
          have q4 := hfT (i + k)
          have hx : O2.getD (i + k) 0 < 32768 := by
            rw [List.getD_eq_getElem?_getD, List.getElem?_eq_getElem (show i + k < O2.length by omega)]
            exact HD2.out _ (List.getElem_mem _)
          have hz := dg_lt B k
          have hox : O2[i + k]? = some (O2.getD (i + k) 0) := by
            rw [List.getD_eq_getElem?_getD, List.getElem?_eq_getElem (show i + k < O2.length by omega)]; rfl
          obtain ⟨x, hxe⟩ : ∃ x, x = O2.getD (i + k) 0 := ⟨_, rfl⟩
          obtain ⟨z, hze⟩ : ∃ z, z = dg B k := ⟨_, rfl⟩
          rw [← HY.out] at q1
          rw [← hxe] at q3 hx hox
          rw [← hze] at q2 hz
          have hp : y * z ≤ 32767 * 32767 := Nat.mul_le_mul (by omega) (by omega)
          have hp1 : (y : Int) * (z : Int) ≤ 1073676289 := by rw [← Int.natCast_mul]; omega
          have hp0 : 0 ≤ (y : Int) * (z : Int) := by rw [← Int.natCast_mul]; omega
          have HXE := Lib.hid hox
          have HZE := Lib.hid hze
          have eP : (y : Int) * (z : Int) = ((y * z : Nat) : Int) := by simp
          have HEP := Lib.hid eP
          have HP := Lib.hid hp
          clear hxe hze hown2 hb2 hlen2 hcT hfT hk hox eP hp
          go_wp2_with fail
          go_quiet (fail)
          go_wp2_with fail
          go_roundg (gk - 1)
          case measure => have := HK.out; omega
          case rel =>
            have hd : (x : Int) + (y : Int) * (z : Int) + (c2 : Int) = ((x + y * z + c2 : Nat) : Int) := by rw [HEP.out]; omega
            have hp := HP.out
            refine ⟨k + 1, (x + y * z + c2) / 32768, O2.set (i + k) ((x + y * z + c2) % 32768), by have := HK.out; omega, by omega, val_int (by rw [hd]; omega), by go_num, by rw [List.length_set]; exact HL2.out, HD2.out.set _ (Nat.mod_lt _ (by omega)), ?_, ?_, ?_, ?_⟩
            · show _ = _
              refine mul_in (x := x) (y := y) HV2.out (by rw [HZE.out]) ?_
              exact bval_set HXE.out _
            · intro j hj
              rw [set_get (by omega)]
              exact HZ2.out j hj
            · rw [dvs_set, show (((x + y * z + c2) % 32768 : Nat) : Int) = ((x : Int) + (y : Int) * (z : Int) + (c2 : Int)) % 32768 from by rw [hd]; omega]
              exact (HO2.out.drewN _).set _ _
            · exact (below_drewN' HB2.out _).setCell (Nat.le_refl _) _
        · obtain rfl : k = lb := by omega
          have q3 := hcT (i + k) _ (dvs_getD (by rw [hlen2]; omega))
          have q4 := hfT (i + k)
          have hz := HZ2.out (i + k) (Nat.le_refl _)
          have hox : O2[i + k]? = some 0 := by
            rw [← hz, List.getD_eq_getElem?_getD, List.getElem?_eq_getElem (show i + k < O2.length by omega)]; rfl
          rw [hz] at q3
          have HXE := Lib.hid hox
          clear hown2 hb2 hlen2 hcT hfT hk hox hz
          go_wp2_with fail
          go_roundg (g1 - 1)
          case measure => have := HI.out; omega
          case rel =>
            refine ⟨i + 1, O2.set (i + k) c2, by have := HI.out; omega, by go_num, by rw [List.length_set]; exact HL2.out, HD2.out.set _ hc2, ?_, ?_, ?_, ?_⟩
            · show _ = _
              have hlb := HLB.out
              have hv := HV2.out
              rw [HV.out, HY.out] at hv
              rw [hlb] at hv
              refine mul_out hv ?_
              have := bval_set HXE.out c2
              rw [← hlb]
              omega
            · intro j hj
              rw [set_get (by omega)]
              exact HZ2.out j (by omega)
            · rw [dvs_set]
              exact HO2.out.set _ _
            · exact HB2.out.setCell (Nat.le_refl _) _
    · obtain rfl : i = la := by omega
      have T := btrim_any _ O w.heap.size wr hown HD.out (by omega)
      have e : bval O = A * B := by rw [HV.out, HLA.out, mod_out (Nat.le_refl _)]
      rw [e] at T
      have HT := Lib.hid T
      clear T e hown hb hlen hi
      go_wp2_with fail
      refine (HT.out).mono ?_
      rintro e w' ⟨v2, rfl, ho, rfl⟩
      have HO2 := Lib.hid ho
      clear ho
      obtain ⟨s1, s2, s3, rfl⟩ := HO2.out.sl'
      go_wp2_with fail
      go_ret
      exact ⟨_, rfl, HO2.out, HB.out⟩
theorem pow_big (n : Nat) : big (2 ^ n) = List.replicate (n / 15) 0 ++ [2 ^ (n % 15)] := by
  have hp : 2 ^ (n % 15) < 2 ^ 15 := Nat.pow_lt_pow_right (by omega) (Nat.mod_lt _ (by omega))
  have hp0 : 0 < 2 ^ (n % 15) := Nat.pow_pos (by omega)
  have e : bval (List.replicate (n / 15) 0 ++ [2 ^ (n % 15)]) = 2 ^ n := by
    rw [bval_snoc, bval_zeros, Nat.zero_add, List.length_replicate, show (32768 : Nat) = 2 ^ 15 from by decide, ← Nat.pow_mul, ← Nat.pow_add, Nat.div_add_mod]
  rw [← e]
  exact canon _ _ ((Dig.zeros _).snoc (by omega)) (by omega)
set_option maxRecDepth 100000 in
set_option maxHeartbeats 4000000 in
theorem bpow_any (n : Nat) (w : World) (hn : n < 60000) :
    Calls Try.prog 24 #[.int .i64 (n : Nat)] w fun e w' => ∃ v2, e = .returned v2 ∧ Own w' w.heap.size 3 v2 (dvs (big (2 ^ n))) ∧ Below w.heap.size w w' := by
  rw [pow_big]
  obtain ⟨q, hq⟩ : ∃ q, q = n / 15 := ⟨_, rfl⟩
  obtain ⟨r, hr⟩ : ∃ r, r = n % 15 := ⟨_, rfl⟩
  rw [← hq, ← hr]
  have eq1 : (n : Int) / 15 = (q : Int) := by omega
  have er1 : (n : Int) % 15 = (r : Int) := by omega
  have hr15 : r < 15 := by omega
  have hqn : q < 4000 := by omega
  have hmk := make_big (n := q + 1) (by omega) ((q : Int) + 1) (by omega)
  have HW := Lib.hid (own_made w (n := q + 1) (by omega))
  obtain ⟨m, hm⟩ : ∃ m, m = q + 1 := ⟨_, rfl⟩
  have hm1 : q + 1 ≤ m := by omega
  have hm2 : m ≤ q + 1 := by omega
  have hrep : List.replicate m 0 = List.replicate q 0 ++ [0] := by rw [hm, List.replicate_succ']
  rw [← hm, hrep] at hmk HW
  clear hq hr hm hrep
  have hset : ∀ x y : Nat, (List.replicate q 0 ++ [x]).set q y = List.replicate q 0 ++ [y] := by
    intro x y
    rw [List.set_append_right _ _ (by simp)]
    simp
  have hget : ∀ x : Nat, (List.replicate q 0 ++ [x]).getD q 0 = x := by
    intro x
    simp [List.getD_eq_getElem?_getD]
  have HSET := Lib.hid hset
  have HGET := Lib.hid hget
  clear hset hget
  obtain ⟨hc0, hf0⟩ := HW.out.at
  have q0 := hc0 q _ (dvs_getD (by simp))
  have f0 := hf0 q
  rw [HGET.out] at q0
  have hN : w.heap.size = w.heap.size := rfl
  clear hc0 hf0 hN
  go_enter Try.func24, Try.ntmps24
  go_wp2_with fail
  clear hmk
  go_loopg [4] r (fun g iv wr => ∃ (i x : Nat), i + g = r ∧ x < 32768 ∧ Hid (x = 2 ^ i) ∧ iv = .int .i64 (i : Nat) ∧ Own wr w.heap.size 3 (.slice (some ⟨w.heap.size, 0, none⟩) m m) (dvs (List.replicate q 0 ++ [x])) ∧ Below w.heap.size w wr)
  case atStart =>
    refine ⟨0, 1, by omega, by omega, rfl, rfl, ?_, ?_⟩
    · have e : (dvs (List.replicate q 0 ++ [0])).set q (.int .i64 1) = dvs (List.replicate q 0 ++ [1]) := by rw [← HSET.out 0 1, dvs_set]; rfl
      rw [e]
      exact Own.full (cs := (dvs (List.replicate q 0 ++ [1])).toArray) rfl (Nat.le_refl _) (by simp; unfold maxLen; omega) (by simp; omega)
    · exact (Below.refl _ _).alloc (Nat.le_refl _) _
  case round =>
    obtain ⟨i, x, hi, hx, HX, rfl, hown, hb⟩ := hrel
    have HO := Lib.hid hown
    have HB := Lib.hid hb
    have HI := Lib.hid hi
    obtain ⟨hcT, hfT⟩ := hown.at
    by_cases ci : i < r
    · have hil' : decide ((i : Int) < (r : Int)) = true := by rw [decide_eq_true_iff]; omega
      have q3 := hcT q _ (dvs_getD (by simp))
      have q4 := hfT q
      rw [HGET.out] at q3
      clear hcT hfT hown hb hi q0 f0
      go_wp2_with fail
      go_roundg (gk - 1)
      case measure => have := HI.out; omega
      case rel =>
        have hpw : 2 ^ (i + 1) ≤ 2 ^ 14 := Nat.pow_le_pow_right (by omega) (by omega)
        have hxe : 2 * x = 2 ^ (i + 1) := by rw [HX.out, Nat.pow_succ]; omega
        refine ⟨i + 1, 2 * x, by have := HI.out; omega, by omega, hxe, by go_num, ?_, HB.out.setCell (Nat.le_refl _) _⟩
        have := HO.out.set q (.int .i64 ((2 * x : Nat) : Int))
        rw [← dvs_set, HSET.out] at this
        have e : ((2 * x : Nat) : Int) = 2 * (x : Int) := by omega
        rw [e] at this
        exact this
    · obtain rfl : i = r := by omega
      clear hcT hfT hown hb hi q0 f0
      go_wp2_with fail
      go_ret
      refine ⟨_, rfl, ?_, HB.out⟩
      rw [← HX.out]
      exact HO.out
end Go.Proofs.Ytkihcngllhjabaa
