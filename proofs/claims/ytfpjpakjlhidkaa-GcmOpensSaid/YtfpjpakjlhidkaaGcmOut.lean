/- Walks: gcm's bytes of a pair; gcm.Times. -/
import Derived.Test.YtfpjpakjlhidkaaGcmPair
import Derived.BigRegion
namespace Go.Proofs.Ytfpjpakjlhidkaa
open Go.RowKit GcmM GcmB
set_option linter.unusedVariables false
def Z16 : Array Value := (bvs (List.replicate 16 0)).toArray
/-- the bytes that stand when i of the rounds are over -/
def outL (X : List Nat) (i : Nat) : List Nat := (X.take i ++ (List.replicate 8 0).drop i) ++ (((X.drop 8).take i) ++ (List.replicate 8 0).drop i)
theorem outL_len {X : List Nat} (h : X.length = 16) {i : Nat} (hi : i ≤ 8) : (outL X i).length = 16 := by
  simp [outL, h]; omega
theorem outL_zero (X : List Nat) : outL X 0 = List.replicate 16 0 := by simp [outL]
theorem bvs_set' (T : List Nat) (i d : Nat) : bvs (T.set i d) = (bvs T).set i (.int .u8 (d : Int)) := by simp [bvs, List.map_set]
theorem outL_end {X : List Nat} (h : X.length = 16) : outL X 8 = X := by
  have e : (X.drop 8).take 8 = X.drop 8 := List.take_of_length_le (by simp [h])
  simp [outL, e]
theorem outL_step {X : List Nat} (h : X.length = 16) {i : Nat} (hi : i < 8) : ((outL X i).set i (X.getD i 0)).set (8 + i) (X.getD (8 + i) 0) = outL X (i + 1) := by
  have hl1 : (X.take i ++ (List.replicate 8 0).drop i).length = 8 := by simp [h]; omega
  have e1 : (X.take i ++ (List.replicate 8 0).drop i).set i (X.getD i 0) = X.take (i + 1) ++ (List.replicate 8 0).drop (i + 1) := by
    rw [List.set_append_right _ _ (by simp [h]; omega)]
    have hli : (X.take i).length = i := by simp [h]; omega
    rw [hli, Nat.sub_self, take_snoc (by omega), List.append_assoc]
    congr 1
    rw [List.drop_eq_getElem_cons (by simp; omega)]
    rfl
  have e2 : ((X.drop 8).take i ++ (List.replicate 8 0).drop i).set i (X.getD (8 + i) 0) = (X.drop 8).take (i + 1) ++ (List.replicate 8 0).drop (i + 1) := by
    have hli : ((X.drop 8).take i).length = i := by simp [h]; omega
    rw [List.set_append_right _ _ (by rw [hli]; omega), hli, Nat.sub_self, take_snoc (by simp [h]; omega), List.append_assoc]
    congr 1
    rw [List.drop_eq_getElem_cons (by simp; omega)]
    simp [List.getD_eq_getElem?_getD, List.getElem?_drop]
  unfold outL
  rw [List.set_append_left _ _ (by omega), e1, List.set_append_right _ _ (by simp [h]; omega)]
  have hl2 : (X.take (i + 1) ++ (List.replicate 8 0).drop (i + 1)).length = 8 := by simp [h]; omega
  rw [hl2, show 8 + i - 8 = i by omega, e2]
theorem word_byte {v i : Nat} (h : i < 8) : v / 18446744073709551616 / 2 ^ (56 - 8 * i) % 256 = v / 256 ^ (15 - i) % 256 ∧ v % 18446744073709551616 / 2 ^ (56 - 8 * i) % 256 = v / 256 ^ (15 - (8 + i)) % 256 := by
  obtain rfl | rfl | rfl | rfl | rfl | rfl | rfl | rfl : i = 0 ∨ i = 1 ∨ i = 2 ∨ i = 3 ∨ i = 4 ∨ i = 5 ∨ i = 6 ∨ i = 7 := by omega
  all_goals
    simp only [Nat.reduceMul, Nat.reduceSub, Nat.reducePow, Nat.reduceAdd]
    refine ⟨by omega, by omega⟩
set_option maxRecDepth 100000 in
set_option maxHeartbeats 4000000 in
theorem pbytes_any (v : Nat) (w : World) (hv : v < P128) :
    Calls Try.prog 34 #[.agg (pr v)] w fun e w' => ∃ u, e = .returned u ∧ Own w' w.heap.size 5 u (bvs (beN 16 v)) ∧ Below w.heap.size w w' := by
  unfold P128 at hv
  obtain ⟨k1, k2, k3⟩ := blk2 w (pr v) Z16 54 5
  have K1 := Lib.hid k1
  have K3 := Lib.hid k3
  have ho : Own ((w.alloc (.cells (pr v) 54)).alloc (.cells Z16 5)) (w.heap.size + 1) 5 (.slice (some ⟨w.heap.size + 1, 0, none⟩) 16 16) (bvs (List.replicate 16 0)) :=
    Own.full (cs := (bvs (List.replicate 16 0)).toArray) (by simp) (by simp) (by simp; unfold maxLen; omega) (by simp)
  obtain ⟨X, hX⟩ : ∃ X, X = beN 16 v := ⟨_, rfl⟩
  have hXl : X.length = 16 := by rw [hX, beN_len]
  have hXg : ∀ i, i < 16 → X.getD i 0 = v / 256 ^ (15 - i) % 256 := fun i hi => by
    rw [hX, List.getD_eq_getElem?_getD, beN_get hi]; rfl
  rw [← hX, ← outL_zero X] at *
  have HO := Lib.hid ho
  have HXL := Lib.hid hXl
  have HXG := Lib.hid hXg
  have hmk : ∀ w, (Instr.makeSlice 28 (.int .i64 16) (.int .i64 16)).run Try.prog w = .ok (.slice (some ⟨w.heap.size, 0, none⟩) 16 16) (w.alloc (.cells Z16 5)) := fun _ => by kernel_rfl
  obtain ⟨vh, hvh⟩ : ∃ x, x = v / 18446744073709551616 := ⟨_, rfl⟩
  obtain ⟨vl, hvl⟩ : ∃ x, x = v % 18446744073709551616 := ⟨_, rfl⟩
  have hpr : pr v = #[.int .u64 (vh : Int), .int .u64 (vl : Int)] := by unfold pr; rw [← hvh, ← hvl]
  have hvh64 : vh < 18446744073709551616 := by omega
  have hvl64 : vl < 18446744073709551616 := by omega
  have HVH := Lib.hid hvh
  have HVL := Lib.hid hvl
  rw [hpr] at K1 K3 HO ⊢
  clear k1 k2 k3 ho hX hXl hXg hpr hvh hvl hv
  go_enter Try.func34, Try.ntmps34
  go_wp2_with fail
  go_loopg [6] 8 (fun q iv wr => ∃ i : Nat, i + q = 8 ∧ iv = .int .i64 (i : Nat) ∧ Blk wr w.heap.size 54 #[.int .u64 (vh : Int), .int .u64 (vl : Int)] ∧ Own wr (w.heap.size + 1) 5 (.slice (some ⟨w.heap.size + 1, 0, none⟩) 16 16) (bvs (outL X i)) ∧ Below w.heap.size w wr)
  case atStart => exact ⟨0, rfl, rfl, K1.out, HO.out, K3.out⟩
  case round =>
    obtain ⟨i, hi, rfl, k1, hown, hb⟩ := hrel
    have J1 := Lib.hid k1
    have JO := Lib.hid hown
    have JB := Lib.hid hb
    have HI := Lib.hid hi
    by_cases h8 : i < 8
    · have h8' : decide ((i : Int) < 8) = true := by rw [decide_eq_true_iff]; omega
      have c0 := k1.cell 0
      have c1 := k1.cell 1
      simp only [List.getElem?_toArray, List.getElem?_cons_zero, List.getElem?_cons_succ] at c0 c1
      obtain ⟨hcT, hfT⟩ := hown.at
      have hol := outL_len HXL.out (show i ≤ 8 by omega)
      have q1 := hcT i _ (bvs_getD (by rw [hol]; omega))
      have q2 := hcT (8 + i) _ (bvs_getD (by rw [hol]; omega))
      have f1 := hfT i
      have f2 := hfT (8 + i)
      obtain ⟨o1, ho1⟩ : ∃ o, o = (outL X i).getD i 0 := ⟨_, rfl⟩
      obtain ⟨o2, ho2⟩ : ∃ o, o = (outL X i).getD (8 + i) 0 := ⟨_, rfl⟩
      rw [← ho1] at q1
      rw [← ho2] at q2
      obtain ⟨r, hr⟩ : ∃ r, r = 56 - 8 * i := ⟨_, rfl⟩
      have er : (56 : Int) - 8 * (i : Int) = (r : Int) := by omega
      have hr64 : r < 64 := by omega
      have hwb := word_byte (v := v) h8
      rw [← HVH.out, ← HVL.out, ← hr, ← HXG.out i (by omega), ← HXG.out (8 + i) (by omega)] at hwb
      have HWB := Lib.hid hwb
      clear k1 hown hb hcT hfT hol ho1 ho2 hr hi hwb
      go_wp2_with fail
      go_region
      go_wp2_with fail
      go_roundg (gk - 1)
      case measure => have := HI.out; omega
      case rel =>
        obtain ⟨b1, b2⟩ := HWB.out
        refine ⟨i + 1, by have := HI.out; omega, by go_num, (J1.out.far (p := ⟨w.heap.size + 1, i, none⟩) (by simp) _).far (p := ⟨w.heap.size + 1, 8 + i, none⟩) (by simp) _, ?_, ((JB.out.setCell (p := ⟨w.heap.size + 1, i, none⟩) (by simp) _).setCell (p := ⟨w.heap.size + 1, 8 + i, none⟩) (by simp) _).drew⟩
        rw [← outL_step HXL.out h8, ← b1, ← b2, bvs_set', bvs_set']
        rw [show ((vh / 2 ^ r % 256 : Nat) : Int) = (vh : Int) / 2 ^ r % 256 from by simp, show ((vl / 2 ^ r % 256 : Nat) : Int) = (vl : Int) / 2 ^ r % 256 from by simp]
        exact (JO.out.set i _).set (8 + i) _
    · obtain rfl : i = 8 := by omega
      rw [outL_end HXL.out] at JO
      clear k1 hown hb hi
      go_wp2_with fail
      go_ret
      exact ⟨_, rfl, JO.out.mono (by omega), JB.out⟩
theorem slOf {w : World} {B : Nat} {e : TypeId} {v : Value} {xs : List Value} (h : Own w B e v xs) : ∃ a n c, v = .slice a n c := by
  obtain ⟨_, h | ⟨g, cap, cur, h, _⟩⟩ := h
  · exact ⟨_, _, _, h.1⟩
  · exact ⟨_, _, _, h⟩
theorem beV_lt128 {K : List Nat} (hK : ∀ n ∈ K, n < 256) (hl : K.length = 16) : beV K < P128 := by
  have := beV_lt hK
  rw [hl] at this
  exact Nat.lt_of_lt_of_le this (by decide)
set_option maxRecDepth 100000 in
set_option maxHeartbeats 2000000 in
theorem gtimes_on (v1 v2 : Value) (A B : List Nat) (w : World) (h1 : Rd w v1 (bvs A)) (h2 : Rd w v2 (bvs B)) (hA : ∀ n ∈ A, n < 256) (hB : ∀ n ∈ B, n < 256) (la : A.length = 16) (lb : B.length = 16) :
    Calls Try.prog 22 #[v1, v2] w fun e w' => ∃ u, e = .returned (.tuple #[u, .bool true]) ∧ Own w' w.heap.size 5 u (bvs (beN 16 (gm (beV A) (beV B)))) ∧ Below w.heap.size w w' := by
  have hv1 : ∃ a c, v1 = .slice a 16 c := by obtain ⟨a, c, e, _⟩ := h1; exact ⟨a, c, by rw [e, bvs_len, la]⟩
  have hv2 : ∃ a c, v2 = .slice a 16 c := by obtain ⟨a, c, e, _⟩ := h2; exact ⟨a, c, by rw [e, bvs_len, lb]⟩
  have P1 := pairOf_any v1 A w h1 hA la
  have P2 := fun (w' : World) (hb : Below w.heap.size w w') => pairOf_any v2 B w' (h2.below hb (Nat.le_refl _)) hB lb
  obtain ⟨a1, c1, rfl⟩ := hv1
  obtain ⟨a2, c2, rfl⟩ := hv2
  have ha := beV_lt128 hA la
  have hb := beV_lt128 hB lb
  have T := fun w => ptimes_any (beV A) (beV B) w ha hb
  have O := fun w => pbytes_any (gm (beV A) (beV B)) w (gm_lt hb _)
  have HP1 := Lib.hid P1
  have HP2 := Lib.hid P2
  have HT := Lib.hid T
  have HO := Lib.hid O
  clear P1 P2 T O ha hb h1 h2
  go_enter Try.func22, Try.ntmps22
  go_wp2_with fail
  refine (HP1.out).mono ?_
  rintro e w1 ⟨rfl, hb1⟩
  have HB1 := Lib.hid hb1
  clear hb1
  go_wp2_with fail
  refine (HP2.out _ HB1.out).mono ?_
  rintro e w2 ⟨rfl, hb2⟩
  have HB2 := Lib.hid (HB1.out.trans (hb2.mono HB1.out.size))
  clear hb2
  go_wp2_with fail
  refine (HT.out _).mono ?_
  rintro e w3 ⟨rfl, hb3⟩
  have HB3 := Lib.hid (HB2.out.trans (hb3.mono HB2.out.size))
  clear hb3
  go_wp2_with fail
  refine (HO.out _).mono ?_
  rintro e w4 ⟨u, rfl, hown, hb4⟩
  have HU := Lib.hid (hown.mono HB3.out.size)
  have HB4 := Lib.hid (HB3.out.trans (hb4.mono HB3.out.size))
  obtain ⟨s1, s2, s3, rfl⟩ := slOf hown
  clear hown hb4
  go_wp2_with fail
  go_ret2
  exact ⟨_, rfl, HU.out, HB4.out⟩
set_option maxRecDepth 100000 in
set_option maxHeartbeats 2000000 in
theorem gtimes_off (v1 v2 : Value) (A B : List Nat) (w : World) (h1 : Rd w v1 (bvs A)) (h2 : Rd w v2 (bvs B)) (hl : ¬ (A.length = 16 ∧ B.length = 16)) :
    Calls Try.prog 22 #[v1, v2] w fun e w' => e = .returned (.tuple #[.slice none 0 0, .bool false]) ∧ w' = w := by
  obtain ⟨n, hn⟩ : ∃ n, n = A.length := ⟨_, rfl⟩
  obtain ⟨m, hm⟩ : ∃ m, m = B.length := ⟨_, rfl⟩
  have hv1 : ∃ a c, v1 = .slice a n c := by obtain ⟨a, c, e, _⟩ := h1; exact ⟨a, c, by rw [e, bvs_len, hn]⟩
  have hv2 : ∃ a c, v2 = .slice a m c := by obtain ⟨a, c, e, _⟩ := h2; exact ⟨a, c, by rw [e, bvs_len, hm]⟩
  obtain ⟨a1, c1, rfl⟩ := hv1
  obtain ⟨a2, c2, rfl⟩ := hv2
  rw [← hn, ← hm] at hl
  clear h1 h2 hn hm
  by_cases k1 : n = 16
  · have e1 : ((n : Int) != 16) = false := by simp; omega
    have e2 : ((m : Int) != 16) = true := by simp; omega
    clear hl k1
    go_enter Try.func22, Try.ntmps22
    go_wp2_with fail
    go_ret2
    exact ⟨rfl, rfl⟩
  · have e1 : ((n : Int) != 16) = true := by simp; omega
    clear hl k1
    go_enter Try.func22, Try.ntmps22
    go_wp2_with fail
    go_ret2
    exact ⟨rfl, rfl⟩
end Go.Proofs.Ytfpjpakjlhidkaa
