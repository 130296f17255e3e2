/- Walks: the reference's block sealed. -/
import Derived.Test.YtfpjpakjlhidkaaAesRefWords
import Derived.Test.YtfpjpakjlhidkaaAesFill
namespace Go.Proofs.Ytfpjpakjlhidkaa
open Go.RowKit AesM

@[irreducible] def zeroI16 : Array Value := (nvs (List.replicate 16 0)).toArray
theorem zeroI16_own {w : World} {N B : Nat} (hN : N = w.heap.size) (hB : B ≤ N) : Own (w.alloc (.cells zeroI16 3)) B 3 (.slice (some ⟨N, 0, none⟩) 16 16) (nvs (List.replicate 16 0)) := by
  have hz0 : zeroI16 = (nvs (List.replicate 16 0)).toArray := by unfold zeroI16; rfl
  rw [hz0]
  exact Own.full (cs := (nvs (List.replicate 16 0)).toArray) hN hB (by simp [maxLen]) (by simp)
theorem nvs_set (L : List Nat) (i n : Nat) : nvs (L.set i n) = (nvs L).set i (.int .i64 (n : Int)) := by simp [nvs]

theorem wrap_small (n : Int) (h0 : 0 ≤ n) (h1 : n < 1000) : IntKind.i64.wrap n = n := IntWalk.i64_in n ⟨by omega, by omega⟩
theorem ixs {r c : Nat} (hr : r < 4) (hc : c < 4) :
    (IntKind.i64.wrap (4 * (c : Int)) = 4 * (c : Int)) ∧
    (IntKind.i64.wrap ((r : Int) + 4 * (c : Int)) = (r : Int) + 4 * (c : Int)) ∧
    ((0 : Int) ≤ (r : Int) + 4 * (c : Int)) ∧
    ((r : Int) + 4 * (c : Int) < 16) ∧
    (((r : Int) + 4 * (c : Int)).toNat = r + 4 * c) ∧
    (IntKind.i64.wrap ((r : Int) + 1) = (r : Int) + 1) ∧
    (((r : Int) + 1).tmod 4 = (((r : Int) + 1) % 4)) ∧
    (IntKind.i64.wrap (((r : Int) + 1) % 4) = (((r : Int) + 1) % 4)) ∧
    (IntKind.i64.wrap ((((r : Int) + 1) % 4) + 4 * (c : Int)) = (((r : Int) + 1) % 4) + 4 * (c : Int)) ∧
    ((0 : Int) ≤ (((r : Int) + 1) % 4) + 4 * (c : Int)) ∧
    ((((r : Int) + 1) % 4) + 4 * (c : Int) < 16) ∧
    (((((r : Int) + 1) % 4) + 4 * (c : Int)).toNat = (r + 1) % 4 + 4 * c) ∧
    (IntKind.i64.wrap ((r : Int) + 2) = (r : Int) + 2) ∧
    (((r : Int) + 2).tmod 4 = (((r : Int) + 2) % 4)) ∧
    (IntKind.i64.wrap (((r : Int) + 2) % 4) = (((r : Int) + 2) % 4)) ∧
    (IntKind.i64.wrap ((((r : Int) + 2) % 4) + 4 * (c : Int)) = (((r : Int) + 2) % 4) + 4 * (c : Int)) ∧
    ((0 : Int) ≤ (((r : Int) + 2) % 4) + 4 * (c : Int)) ∧
    ((((r : Int) + 2) % 4) + 4 * (c : Int) < 16) ∧
    (((((r : Int) + 2) % 4) + 4 * (c : Int)).toNat = (r + 2) % 4 + 4 * c) ∧
    (IntKind.i64.wrap ((r : Int) + 3) = (r : Int) + 3) ∧
    (((r : Int) + 3).tmod 4 = (((r : Int) + 3) % 4)) ∧
    (IntKind.i64.wrap (((r : Int) + 3) % 4) = (((r : Int) + 3) % 4)) ∧
    (IntKind.i64.wrap ((((r : Int) + 3) % 4) + 4 * (c : Int)) = (((r : Int) + 3) % 4) + 4 * (c : Int)) ∧
    ((0 : Int) ≤ (((r : Int) + 3) % 4) + 4 * (c : Int)) ∧
    ((((r : Int) + 3) % 4) + 4 * (c : Int) < 16) ∧
    (((((r : Int) + 3) % 4) + 4 * (c : Int)).toNat = (r + 3) % 4 + 4 * c) :=
  ⟨wrap_small _ (by omega) (by omega), wrap_small _ (by omega) (by omega), by omega, by omega, by omega, wrap_small _ (by omega) (by omega), by rw [Int.tmod_eq_emod_of_nonneg (by omega)], wrap_small _ (by omega) (by omega), wrap_small _ (by omega) (by omega), by omega, by omega, by omega, wrap_small _ (by omega) (by omega), by rw [Int.tmod_eq_emod_of_nonneg (by omega)], wrap_small _ (by omega) (by omega), wrap_small _ (by omega) (by omega), by omega, by omega, by omega, wrap_small _ (by omega) (by omega), by rw [Int.tmod_eq_emod_of_nonneg (by omega)], wrap_small _ (by omega) (by omega), wrap_small _ (by omega) (by omega), by omega, by omega, by omega⟩
set_option maxRecDepth 100000 in
set_option maxHeartbeats 600000 in
theorem rblock_any (v v' bx : Value) (K M : List Nat) (w : World) (h : Rd w v (bvs K)) (h' : Rd w v' (bvs M)) (hb : Rd w bx (nvs boxL)) (hK : ∀ n ∈ K, n < 256) (hM : ∀ n ∈ M, n < 256) (hl : K.length = 16) (hl' : M.length = 16) :
    Calls Try.prog 20 #[v, v', bx] w fun e w' => ∃ r, e = .returned r ∧ Own w' w.heap.size 5 r (bvs (blk K M)) ∧ Below w.heap.size w w' := by
  rcases h'.cases with ⟨a, cap, rfl, rfl⟩ | ⟨b, off, cap, hpos, hc1, hc2, rfl, hbl, hcell⟩
  · simp at hl'
  obtain ⟨ab, cb, rfl, hb1, hb2, hb3 | ⟨bb, ob, rfl, hbc⟩⟩ := id hb
  · exact absurd hb3.1 (nvs_ne (by rw [boxL_len]; omega))
  have hbbl : bb < w.heap.size := World.block_lt_of_cell? w _ (hbc 0 _ (nvs_getD (by rw [boxL_len]; omega)))
  have hkl := kw_len hK hl
  have hkb := kw_lt hK hl
  have W := rwords_any v _ K w h hb hK hl
  have hblk : blk K M = addRK (blkN (kwords K) M 10) (kwords K) 10 := rfl
  obtain ⟨KW, hKW⟩ : ∃ KW, KW = kwords K := ⟨_, rfl⟩
  rw [← hKW] at hkl hkb W hblk
  rw [hl'] at hc1 hcell ⊢
  rw [nvs_len, boxL_len] at hb1 W ⊢
  have HW := Lib.hid W
  have HC := Lib.hid hcell
  have HBC := Lib.hid hbc
  have HL' := Lib.hid hl'
  have HKL := Lib.hid hkl
  have HBLK := Lib.hid hblk
  clear hcell hbc hKW h h' hb hl hl' hpos hkl W hblk
  have hmk : ∀ w, (Instr.makeSlice 34 (.int .i64 16) (.int .i64 16)).run Try.prog w = .ok (.slice (some ⟨w.heap.size, 0, none⟩) 16 16) (w.alloc (.cells zeroI16 3)) := fun _ => by kernel_rfl
  go_enter Try.func20, Try.ntmps20
  go_wp2_with fail
  refine HW.out.mono ?_
  rintro e w1 ⟨r, rfl, hgr, hb1'⟩
  obtain ⟨go, co, hv5, hco1, hco2, hgol⟩ := hgr.outer (by intro h'; have := congrArg List.length h'; rw [rowsN_len] at this; simp only [List.length_nil] at this; omega)
  rw [rowsN_len] at hco1 hv5
  subst hv5
  have HG := Lib.hid hgr
  have HB1 := Lib.hid hb1'
  have hsz1 := hb1'.size
  clear hgr hb1' HW
  have HZ := Lib.hid (zeroI16_own (w := w1) rfl (Nat.le_refl w1.heap.size))
  have hM0 : (addRK M KW 0).length = 16 ∧ ∀ x ∈ addRK M KW 0, x < 256 := addRK_ok hkb (by have := HKL.out; omega) hM HL'.out
  obtain ⟨S0, hS0⟩ : ∃ S0, S0 = addRK M KW 0 := ⟨_, rfl⟩
  rw [← hS0] at hM0
  have HS0 := Lib.hid hS0
  have HS16 := Lib.hid hM0.1
  clear hS0
  go_wp2_with fail
  go_loopg [9] 16 (fun k i wr => ∃ i' : Nat, i' + k = 16 ∧ i = .int .i64 i' ∧ Own wr w1.heap.size 3 (.slice (some ⟨w1.heap.size, 0, none⟩) 16 16) (nvs (S0.take i' ++ (List.replicate 16 0).drop i')) ∧ Below w1.heap.size w1 wr)
  case atStart => exact ⟨0, rfl, rfl, by simpa using HZ.out, (Below.refl _ _).alloc (Nat.le_refl _) _⟩
  case round =>
    obtain ⟨i, hi, rfl, hown, hbel⟩ := hrel
    have HI := Lib.hid hi
    have HO := Lib.hid hown
    have HB := Lib.hid hbel
    by_cases h16 : i < 16
    · clear hi hown hbel
      have hi16' : decide ((i : Int) < 16) = true := by rw [decide_eq_true_iff]; omega
      have cellW : ∀ p v, w1.cell? p = some v → wr.cell? p = some v := fun p v h => by rw [HB.out.cell (World.block_lt_of_cell? w1 _ h)]; exact h
      have q1 := HC.out i h16
      rw [← HB1.out.cell (p := ⟨b, off + i, none⟩) (by exact hbl)] at q1
      have q1 := cellW _ _ q1
      obtain ⟨g, cp, r1, r1c⟩ := HG.out.num (i := i / 4) (by omega)
      have q2 := cellW _ _ r1
      have q3 := cellW _ _ (r1c (i % 4) (by omega))
      rw [show 4 * (i / 4) + i % 4 = i from by omega] at q3
      obtain ⟨hcT, hfT⟩ := HO.out.at
      have q4 := hcT i _ (nvs_getD (by have := HS16.out; simp; omega))
      obtain ⟨old, hold⟩ : ∃ o, o = (S0.take i ++ (List.replicate 16 0).drop i).getD i 0 := ⟨_, rfl⟩
      rw [← hold] at q4
      have f1 := hfT i
      have x1 := getD_lt hM (by omega) i
      have x2 := getD_lt hkb (by omega) i
      obtain ⟨x, hx⟩ : ∃ x, x = M.getD i 0 := ⟨_, rfl⟩
      obtain ⟨y, hy⟩ : ∃ y, y = KW.getD i 0 := ⟨_, rfl⟩
      rw [← hx] at q1 x1
      rw [← hy] at q3 x2
      have HX := Lib.hid hx
      have HY := Lib.hid hy
      clear hcT hfT hx hy hold r1 r1c cellW
      go_wp2_with fail
      go_region
      go_wp2_with fail
      go_roundg (gk - 1)
      case measure => have := HI.out; omega
      case rel =>
        have h16' := HS16.out
        refine ⟨i + 1, by have := HI.out; omega, by go_num, ?_, (HB.out.setCell (Nat.le_refl _) _).drew⟩
        have hh := (HO.out.set i (.int .i64 ((x ^^^ y : Nat) : Int))).drew
        rw [i64_xor_nat x y (by omega) (by omega), ← upd_step (by simp; omega) (by simp; omega), nvs_set]
        have hz : S0[i]'(by omega) = x ^^^ y := by
          have e : S0.getD i 0 = S0[i]'(by omega) := by simp [List.getD_eq_getElem?_getD, h16', h16]
          rw [← e, HS0.out, addRK, getD_zip (by have := HL'.out; omega) (by rw [List.length_drop]; have := HKL.out; omega), getD_drop, Nat.mul_zero, Nat.zero_add, HX.out, HY.out]
        rw [hz]
        exact hh
    · obtain rfl : i = 16 := by omega
      have hs0 : Own wr w1.heap.size 3 (.slice (some ⟨w1.heap.size, 0, none⟩) 16 16) (nvs (addRK (blkN KW M 0) KW 0)) := by
        have h16' := HS16.out
        rw [List.take_of_length_le (by omega), List.drop_eq_nil_of_le (by simp), List.append_nil, HS0.out] at hown
        exact hown
      have HO2 := Lib.hid hs0
      clear hi hown hbel hs0 HO HI HZ HS0 HS16 hM0
      go_wp2_with fail
      go_loopg [10] 10 (fun k n wr => ∃ n' : Nat, n' + k = 10 ∧ n = .int .i64 ((n' : Int) + 1) ∧ Own wr w1.heap.size 3 (.slice (some ⟨w1.heap.size, 0, none⟩) 16 16) (nvs (addRK (blkN KW M n') KW n')) ∧ Below w1.heap.size w1 wr)
      case atStart => exact ⟨0, rfl, rfl, HO2.out, HB.out⟩
      case round =>
        clear HO2 HB h16
        obtain ⟨n, hn, rfl, hown, hbel⟩ := hrel
        have HN := Lib.hid hn
        have HO := Lib.hid hown
        have HB := Lib.hid hbel
        have hsz := hbel.size
        by_cases h10 : n < 10
        · clear hn hown hbel
          have oB := blkN_ok KW hM HL'.out n (by omega)
          have oS := addRK_ok (n := n) hkb (by have := HKL.out; omega) oB.2 oB.1
          obtain ⟨S, hS⟩ : ∃ S, S = addRK (blkN KW M n) KW n := ⟨_, rfl⟩
          rw [← hS] at HO oS
          have HSd := Lib.hid hS
          obtain ⟨hs16, hsb⟩ := oS
          have HS16 := Lib.hid hs16
          have oR := subRow_ok S
          obtain ⟨R, hR⟩ : ∃ R, R = subRow S := ⟨_, rfl⟩
          rw [← hR] at oR
          have HRd := Lib.hid hR
          obtain ⟨hr16, hrb⟩ := oR
          have HR16 := Lib.hid hr16
          clear hS hs16 hR hr16 oB
          obtain ⟨wo, rfl⟩ : ∃ wo : World, wo = wr := ⟨_, rfl⟩
          obtain ⟨go1, rfl⟩ : ∃ g, g = gk := ⟨_, rfl⟩
          have hn10 : decide ((n : Int) + 1 ≤ 10) = true := by rw [decide_eq_true_iff]; omega
          have hgs : w1.heap.size < wo.heap.size := (World.ownsRow.lt HO.out w1.heap.size rfl).2
          have HZ := Lib.hid (zeroI16_own (w := wo) rfl (Nat.le_refl wo.heap.size))
          go_wp2_with fail
          go_loopg [12] 4 (fun k r wv => ∃ r' : Nat, r' + k = 4 ∧ r = .int .i64 r' ∧ Own wv wo.heap.size 3 (.slice (some ⟨wo.heap.size, 0, none⟩) 16 16) (nvs (fillBy R (dRC r' 0))) ∧ Below wo.heap.size wo wv)
          case atStart => exact ⟨0, rfl, rfl, by rw [fill_none R _ (by intro q hq; simp [dRC])]; exact HZ.out, (Below.refl _ _).alloc (Nat.le_refl _) _⟩
          case round =>
            obtain ⟨r, hr, rfl, hown, hbel⟩ := hrel
            have HRr := Lib.hid hr
            have HT := Lib.hid hown
            have HV := Lib.hid hbel
            by_cases hr4 : r < 4
            · clear hr hown hbel
              obtain ⟨go2, rfl⟩ : ∃ g, g = gk := ⟨_, rfl⟩
              have hr4' : decide ((r : Int) < 4) = true := by rw [decide_eq_true_iff]; omega
              go_wp2_with fail
              go_loopg [13] 4 (fun k c wv => ∃ c' : Nat, c' + k = 4 ∧ c = .int .i64 c' ∧ Own wv wo.heap.size 3 (.slice (some ⟨wo.heap.size, 0, none⟩) 16 16) (nvs (fillBy R (dRC r c'))) ∧ Below wo.heap.size wo wv)
              case atStart => exact ⟨0, rfl, rfl, HT.out, HV.out⟩
              case round =>
                clear HT HV
                obtain ⟨c, hc, rfl, hown, hbel⟩ := hrel
                have HCc := Lib.hid hc
                have HT := Lib.hid hown
                have HV := Lib.hid hbel
                by_cases hc4 : c < 4
                · clear hc hown hbel
                  have cellO : ∀ p v, wo.cell? p = some v → wr.cell? p = some v := fun p v h => by rw [HV.out.cell (World.block_lt_of_cell? wo _ h)]; exact h
                  have q1 := cellO _ _ (HO.out.at.1 (r + 4 * ((c + r) % 4)) _ (nvs_getD (by have := HS16.out; omega)))
                  have yb := getD_lt hsb (by omega) (r + 4 * ((c + r) % 4))
                  obtain ⟨y, hy⟩ : ∃ y, y = S.getD (r + 4 * ((c + r) % 4)) 0 := ⟨_, rfl⟩
                  rw [← hy] at q1 yb
                  have q2 := HBC.out _ _ (nvs_getD (by rw [boxL_len]; exact yb))
                  rw [← HB1.out.cell (p := ⟨bb, ob + y, none⟩) (by exact hbbl), ← HB.out.cell (p := ⟨bb, ob + y, none⟩) (by simp only; omega)] at q2
                  have q2 := cellO _ _ q2
                  have zb := getD_lt boxL_lt (by omega) y
                  have hz : ∃ z, z = boxL.getD y 0 := ⟨_, rfl⟩
                  obtain ⟨z, hz⟩ := hz
                  rw [← hz] at q2 zb
                  obtain ⟨hcT, hfT⟩ := HT.out.at
                  have q3 := hcT (r + 4 * c) _ (nvs_getD (by rw [fillBy_len]; omega))
                  obtain ⟨old, hold⟩ : ∃ o, o = (fillBy R (dRC r c)).getD (r + 4 * c) 0 := ⟨_, rfl⟩
                  rw [← hold] at q3
                  clear hold
                  have f1 := hfT (r + 4 * c)
                  have hstep := fill_step R (dRC r c) (dRC r (c + 1)) (p := r + 4 * c) (by omega) (fun q hq => dRC_step r c q hr4 hc4 hq)
                  have hRv : R.getD (r + 4 * c) 0 = z := by
                    rw [hz, HRd.out, subRow_getD S (by omega), show ((r + 4 * c) + (r + 4 * c) % 4 * 4) % 16 = r + 4 * ((c + r) % 4) from by omega, ← hy]
                  have HST := Lib.hid hstep
                  have HRV := Lib.hid hRv
                  clear hcT hfT hy hz cellO hstep hRv
                  have yi : (y : Int) < 256 := by omega
                  have hc4' : decide ((c : Int) < 4) = true := by rw [decide_eq_true_iff]; omega
                  go_wp2_with fail
                  go_roundg (gk - 1)
                  case measure => have := HCc.out; omega
                  case rel =>
                    refine ⟨c + 1, by have := HCc.out; omega, by go_num, ?_, HV.out.setCell (Nat.le_refl _) _⟩
                    have hh := HT.out.set (r + 4 * c) (.int .i64 (z : Int))
                    rw [← HST.out, nvs_set, HRV.out]
                    exact hh
                · obtain rfl : c = 4 := by omega
                  clear hc hown hbel
                  go_wp2_with fail
                  go_roundg (go2 - 1)
                  case measure => have := HRr.out; omega
                  case rel =>
                    refine ⟨r + 1, by have := HRr.out; omega, by go_num, ?_, HV.out⟩
                    rw [fill_congr R _ _ (fun q hq => (dRC_row r q hq).symm)]
                    exact HT.out
            · obtain rfl : r = 4 := by omega
              have hT : Own wr wo.heap.size 3 (.slice (some ⟨wo.heap.size, 0, none⟩) 16 16) (nvs R) := by
                rw [fill_all R _ HR16.out (by intro q hq; simp [dRC]; omega)] at hown
                exact hown
              have HT2 := Lib.hid hT
              have HV2 := Lib.hid hbel
              have hsz2 := hbel.size
              clear hr hown hbel hT HT HV HZ
              obtain ⟨wp, rfl⟩ : ∃ wp : World, wp = wr := ⟨_, rfl⟩
              obtain ⟨b9, hb9⟩ : ∃ b, decide ((n : Int) + 1 < 10) = b := ⟨_, rfl⟩
              go_upto_if 79 with (fail)
              have HB9 := Lib.hid hb9
              clear hb9
              go_cut [11] (fun t wx => ∃ gt : Nat, t = .slice (some ⟨gt, 0, none⟩) 16 16 ∧ Own wx wo.heap.size 3 t (nvs (blkN KW M (n + 1))) ∧ Below wo.heap.size wo wx)
              case first =>
                cases b9 with
                | true =>
                  have h9 : n + 1 < 10 := by have := HB9.out; rw [decide_eq_true_iff] at this; omega
                  have hB : blkN KW M (n + 1) = mixAll R := by rw [blkN, if_pos h9, ← HSd.out, ← HRd.out]
                  have HBK := Lib.hid hB
                  have hmx := fun c (hc : c < 4) r (hr : r < 4) => mixAll_get HR16.out hrb hc hr
                  have hmo : (mixAll R).length = 16 := (mixS_len R 4).trans HR16.out
                  obtain ⟨X, hX⟩ : ∃ X, X = mixAll R := ⟨_, rfl⟩
                  rw [← hX] at HBK hmo
                  simp only [← hX] at hmx
                  have HMX := Lib.hid hmx
                  have HX16 := Lib.hid hmo
                  have HZ := Lib.hid (zeroI16_own (w := wp) rfl (Nat.le_refl wp.heap.size))
                  clear hB hX hmx hmo
                  go_wp2_with fail
                  go_loopg [15] 4 (fun k c wv => ∃ c' : Nat, c' + k = 4 ∧ c = .int .i64 c' ∧ Own wv wp.heap.size 3 (.slice (some ⟨wp.heap.size, 0, none⟩) 16 16) (nvs (fillBy X (dCR c' 0))) ∧ Below wp.heap.size wp wv)
                  case atStart => exact ⟨0, rfl, rfl, by rw [fill_none X _ (by intro q hq; simp [dCR])]; exact HZ.out, (Below.refl _ _).alloc (Nat.le_refl _) _⟩
                  case round =>
                    obtain ⟨c, hc, rfl, hown, hbel⟩ := hrel
                    have HCc := Lib.hid hc
                    have HT := Lib.hid hown
                    have HV := Lib.hid hbel
                    by_cases hc4 : c < 4
                    · clear hc hown hbel
                      obtain ⟨go2, rfl⟩ : ∃ g, g = gk := ⟨_, rfl⟩
                      have hc4' : decide ((c : Int) < 4) = true := by rw [decide_eq_true_iff]; omega
                      go_wp2_with fail
                      go_loopg [16] 4 (fun k r wv => ∃ r' : Nat, r' + k = 4 ∧ r = .int .i64 r' ∧ Own wv wp.heap.size 3 (.slice (some ⟨wp.heap.size, 0, none⟩) 16 16) (nvs (fillBy X (dCR c r'))) ∧ Below wp.heap.size wp wv)
                      case atStart => exact ⟨0, rfl, rfl, HT.out, HV.out⟩
                      case round =>
                        clear HT HV
                        obtain ⟨r, hr, rfl, hown, hbel⟩ := hrel
                        have HRr := Lib.hid hr
                        have HT := Lib.hid hown
                        have HV := Lib.hid hbel
                        by_cases hr4 : r < 4
                        · clear hr hown hbel
                          have hr4' : decide ((r : Int) < 4) = true := by rw [decide_eq_true_iff]; omega
                          have cellP : ∀ p v, wp.cell? p = some v → wr.cell? p = some v := fun p v h => by rw [HV.out.cell (World.block_lt_of_cell? wp _ h)]; exact h
                          have q0 := cellP _ _ (HT2.out.at.1 (r + 4 * c) _ (nvs_getD (by have := HR16.out; omega)))
                          have q1 := cellP _ _ (HT2.out.at.1 ((r + 1) % 4 + 4 * c) _ (nvs_getD (by have := HR16.out; omega)))
                          have q2 := cellP _ _ (HT2.out.at.1 ((r + 2) % 4 + 4 * c) _ (nvs_getD (by have := HR16.out; omega)))
                          have q3 := cellP _ _ (HT2.out.at.1 ((r + 3) % 4 + 4 * c) _ (nvs_getD (by have := HR16.out; omega)))
                          have y0 := getD_lt hrb (by omega) (r + 4 * c)
                          have y1 := getD_lt hrb (by omega) ((r + 1) % 4 + 4 * c)
                          have y2 := getD_lt hrb (by omega) ((r + 2) % 4 + 4 * c)
                          have y3 := getD_lt hrb (by omega) ((r + 3) % 4 + 4 * c)
                          have hxv := HMX.out c hc4 r hr4
                          obtain ⟨a0, ha0⟩ : ∃ x, x = R.getD (r + 4 * c) 0 := ⟨_, rfl⟩
                          obtain ⟨a1, ha1⟩ : ∃ x, x = R.getD ((r + 1) % 4 + 4 * c) 0 := ⟨_, rfl⟩
                          obtain ⟨a2, ha2⟩ : ∃ x, x = R.getD ((r + 2) % 4 + 4 * c) 0 := ⟨_, rfl⟩
                          obtain ⟨a3, ha3⟩ : ∃ x, x = R.getD ((r + 3) % 4 + 4 * c) 0 := ⟨_, rfl⟩
                          rw [← ha0] at q0 y0 hxv
                          rw [← ha1] at q1 y1 hxv
                          rw [← ha2] at q2 y2 hxv
                          rw [← ha3] at q3 y3 hxv
                          have C2 := rtimes_any 2 a0 (by omega) y0
                          rw [rtms_tms 2 a0 (by omega), tms2l y0] at C2
                          have C3 := rtimes_any 3 a1 (by omega) y1
                          rw [rtms_tms 3 a1 (by omega), tms3l y1] at C3
                          have z0 := xt_lt y0
                          have z1 := xor_lt (xt_lt y1) y1
                          obtain ⟨A, hA⟩ : ∃ x, x = xt a0 := ⟨_, rfl⟩
                          obtain ⟨B, hB⟩ : ∃ x, x = xt a1 ^^^ a1 := ⟨_, rfl⟩
                          rw [← hA] at C2 z0 hxv
                          rw [← hB] at C3 z1 hxv
                          have e1 := i64_xor_nat A B (by omega) (by omega)
                          have e2 := i64_xor_nat (A ^^^ B) a2 (by have := xor_lt z0 z1; omega) (by omega)
                          have e3 := i64_xor_nat (A ^^^ B ^^^ a2) a3 (by have := xor_lt (xor_lt z0 z1) y2; omega) (by omega)
                          obtain ⟨hcT, hfT⟩ := HT.out.at
                          have q4 := hcT (r + 4 * c) _ (nvs_getD (by rw [fillBy_len]; omega))
                          obtain ⟨old, hold⟩ : ∃ o, o = (fillBy X (dCR c r)).getD (r + 4 * c) 0 := ⟨_, rfl⟩
                          rw [← hold] at q4
                          have f1 := hfT (r + 4 * c)
                          have hstep := fill_step X (dCR c r) (dCR c (r + 1)) (p := r + 4 * c) (by omega) (fun q _ => dCR_step c r q)
                          have HC2 := Lib.hid C2
                          have HC3 := Lib.hid C3
                          have HXV := Lib.hid hxv
                          have HST := Lib.hid hstep
                          clear C2 C3 hxv hstep hold ha0 ha1 ha2 ha3 hA hB hcT hfT cellP
                          obtain ⟨w0, s0, p0, l0, t0, v1, m1, u1', s1, p1, l1, t1, v2, m2, u2', s2, p2, l2, t2, v3, m3, u3', s3, p3, l3, t3⟩ := ixs hr4 hc4
                          go_wp2_with fail
                          refine wp_region_still_tail 45 (by kernel_rfl) (by kernel_rfl) ?_
                          simp only [List.take_succ_cons, List.take_zero, List.drop_succ_cons, List.drop_zero]
                          repeat still_step
                          still_call ((HC2.out _).mono (by rintro e w' ⟨rfl, rfl⟩; exact ⟨rfl, rfl⟩))
                          repeat still_step
                          still_call ((HC3.out _).mono (by rintro e w' ⟨rfl, rfl⟩; exact ⟨rfl, rfl⟩))
                          repeat still_step
                          refine wpStill_nil ?_
                          change wpList _ _ _ _ _ wr.drew
                          clear w0 s0 t0 p0 l0 v1 v2 v3 m1 m2 m3 u1' u2' u3' s1 s2 s3 t1 t2 t3 p1 p2 p3 l1 l2 l3
                          go_wp2_with fail
                          go_roundg (gk - 1)
                          case measure => have := HRr.out; omega
                          case rel =>
                            refine ⟨r + 1, by have := HRr.out; omega, by go_num, ?_, (HV.out.setCell (Nat.le_refl _) _).drew⟩
                            have hh := (HT.out.set (r + 4 * c) (.int .i64 ((A ^^^ B ^^^ a2 ^^^ a3 : Nat) : Int))).drew
                            rw [← HST.out, nvs_set, HXV.out]
                            exact hh
                        · obtain rfl : r = 4 := by omega
                          clear hr hown hbel
                          go_wp2_with fail
                          go_roundg (go2 - 1)
                          case measure => have := HCc.out; omega
                          case rel =>
                            refine ⟨c + 1, by have := HCc.out; omega, by go_num, ?_, HV.out⟩
                            rw [fill_congr X _ _ (fun q _ => (dCR_col c q).symm)]
                            exact HT.out
                    · obtain rfl : c = 4 := by omega
                      have hU : Own wr wp.heap.size 3 (.slice (some ⟨wp.heap.size, 0, none⟩) 16 16) (nvs X) := by
                        rw [fill_all X _ HX16.out (by intro q hq; simp [dCR]; omega)] at hown
                        exact hown
                      have HU := Lib.hid hU
                      clear hc hown hU HT
                      have hV := HV.out
                      go_wp2_with fail
                      go_meet
                      exact ⟨_, rfl, by rw [HBK.out]; exact HU.out.mono hsz2, HV2.out.trans (HV.out.mono hsz2)⟩
                | false =>
                  have h9 : ¬ n + 1 < 10 := by have := HB9.out; rw [decide_eq_false_iff_not] at this; omega
                  have hB : blkN KW M (n + 1) = R := by rw [blkN, if_neg h9, ← HSd.out, ← HRd.out]
                  have HBK := Lib.hid hB
                  clear hB
                  go_wp2_with fail
                  go_meet
                  exact ⟨_, rfl, by rw [HBK.out]; exact HT2.out, HV2.out⟩
              case rest =>
                obtain ⟨gt, rfl, hown, hbel⟩ := hcut
                have oT := blkN_ok KW hM HL'.out (n + 1) (by omega)
                obtain ⟨T, hT⟩ : ∃ T, T = blkN KW M (n + 1) := ⟨_, rfl⟩
                rw [← hT] at hown oT
                have oZ := addRK_ok (n := n + 1) hkb (by have := HKL.out; omega) oT.2 oT.1
                obtain ⟨Z, hZ⟩ : ∃ Z, Z = addRK T KW (n + 1) := ⟨_, rfl⟩
                rw [← hZ] at oZ
                obtain ⟨ht16, htb⟩ := oT
                obtain ⟨hz16, hzb⟩ := oZ
                have HTd := Lib.hid hT
                have HZd := Lib.hid hZ
                have HT16 := Lib.hid ht16
                have HZ16 := Lib.hid hz16
                have hgtb : wo.heap.size ≤ gt := (World.ownsRow.lt hown gt rfl).1
                have HOt := Lib.hid hown
                have HOs := Lib.hid (HO.out.below hbel (Nat.le_refl _))
                have HBx : Hid (Below w1.heap.size w1 wc) := Lib.hid (HB.out.trans (hbel.mono (by omega)))
                clear hT hZ ht16 hz16 hown hbel HT2 HV2 HR16 HRd hrb HO HB
                go_wp2_with fail
                go_loopg [17] 16 (fun k i wv => ∃ i' : Nat, i' + k = 16 ∧ i = .int .i64 i' ∧ Own wv w1.heap.size 3 (.slice (some ⟨w1.heap.size, 0, none⟩) 16 16) (nvs (Z.take i' ++ S.drop i')) ∧ Own wv wo.heap.size 3 (.slice (some ⟨gt, 0, none⟩) 16 16) (nvs T) ∧ Below w1.heap.size w1 wv)
                case atStart => exact ⟨0, rfl, rfl, by simpa using HOs.out, HOt.out, HBx.out⟩
                case round =>
                  clear HOs HOt HBx
                  obtain ⟨i, hi, rfl, hs, ht, hbv⟩ := hrel
                  have HIi := Lib.hid hi
                  have HOs := Lib.hid hs
                  have HOt := Lib.hid ht
                  have HBx := Lib.hid hbv
                  by_cases hi16 : i < 16
                  · clear hi hs ht hbv
                    have hi16' : decide ((i : Int) < 16) = true := by rw [decide_eq_true_iff]; omega
                    have cellW : ∀ p v, w1.cell? p = some v → wr.cell? p = some v := fun p v h => by rw [HBx.out.cell (World.block_lt_of_cell? w1 _ h)]; exact h
                    have q1 := HOt.out.at.1 i _ (nvs_getD (by have := HT16.out; omega))
                    obtain ⟨g, cp, r1, r1c⟩ := HG.out.num (i := 4 * (n + 1) + i / 4) (by omega)
                    have q2 := cellW _ _ r1
                    have q3 := cellW _ _ (r1c (i % 4) (by omega))
                    rw [show 4 * (4 * (n + 1) + i / 4) + i % 4 = 16 * (n + 1) + i from by omega] at q3
                    obtain ⟨hcT, hfT⟩ := HOs.out.at
                    have q4 := hcT i _ (nvs_getD (by have := HS16.out; have := HZ16.out; simp; omega))
                    have f1 := hfT i
                    obtain ⟨old, hold⟩ : ∃ o, o = (Z.take i ++ S.drop i).getD i 0 := ⟨_, rfl⟩
                    rw [← hold] at q4
                    have x1 := getD_lt htb (by omega) i
                    have x2 := getD_lt hkb (by omega) (16 * (n + 1) + i)
                    obtain ⟨x, hx⟩ : ∃ x, x = T.getD i 0 := ⟨_, rfl⟩
                    obtain ⟨y, hy⟩ : ∃ y, y = KW.getD (16 * (n + 1) + i) 0 := ⟨_, rfl⟩
                    rw [← hx] at q1 x1
                    rw [← hy] at q3 x2
                    have HX := Lib.hid hx
                    have HY := Lib.hid hy
                    have hgne : gt ≠ w1.heap.size := by omega
                    clear hcT hfT hx hy hold r1 r1c cellW
                    go_wp2_with fail
                    go_region
                    go_wp2_with fail
                    go_roundg (gk - 1)
                    case measure => have := HIi.out; omega
                    case rel =>
                      have hs16 := HS16.out
                      have hz16 := HZ16.out
                      refine ⟨i + 1, by have := HIi.out; omega, by go_num, ?_, (HOt.out.setOther (by simp [Value.ownBlock]; omega) _).drew, (HBx.out.setCell (Nat.le_refl _) _).drew⟩
                      have hh := (HOs.out.set i (.int .i64 ((x ^^^ y : Nat) : Int))).drew
                      rw [i64_xor_nat x y (by omega) (by omega), ← upd_step (by omega) (by omega), nvs_set]
                      have hz : Z[i]'(by omega) = x ^^^ y := by
                        have e : Z.getD i 0 = Z[i]'(by omega) := by simp [List.getD_eq_getElem?_getD, hz16, hi16]
                        rw [← e, HZd.out, addRK, getD_zip (by have := HT16.out; omega) (by rw [List.length_drop]; have := HKL.out; omega), getD_drop, HX.out, HY.out]
                      rw [hz]
                      exact hh
                  · obtain rfl : i = 16 := by omega
                    have hfin : Own wr w1.heap.size 3 (.slice (some ⟨w1.heap.size, 0, none⟩) 16 16) (nvs (addRK (blkN KW M (n + 1)) KW (n + 1))) := by
                      rw [List.take_of_length_le (by have := HZ16.out; omega), List.drop_eq_nil_of_le (by have := HS16.out; omega), List.append_nil, HZd.out, HTd.out] at hs
                      exact hs
                    have HFIN := Lib.hid hfin
                    clear hi hs ht hbv hfin
                    go_wp2_with fail
                    go_roundg (go1 - 1)
                    case measure => have := HN.out; omega
                    case rel => exact ⟨n + 1, by have := HN.out; omega, by go_num, HFIN.out, HBx.out⟩
        · obtain rfl : n = 10 := by omega
          have oB := blkN_ok KW hM HL'.out 10 (by omega)
          have oS := addRK_ok (n := 10) hkb (by have := HKL.out; omega) oB.2 oB.1
          obtain ⟨S, hS⟩ : ∃ S, S = addRK (blkN KW M 10) KW 10 := ⟨_, rfl⟩
          rw [← hS] at HO oS
          have HSd := Lib.hid hS
          obtain ⟨hs16, hsb⟩ := oS
          have HS16 := Lib.hid hs16
          obtain ⟨wo, rfl⟩ : ∃ wo : World, wo = wr := ⟨_, rfl⟩
          have hgs : w1.heap.size < wo.heap.size := (World.ownsRow.lt HO.out w1.heap.size rfl).2
          clear hn hown hbel hS hs16 oB
          go_wp2_with fail
          go_loopg [18, 19] 16 (fun k r i wv => ∃ i' : Nat, i' + k = 16 ∧ i = .int .i64 i' ∧ Own wv wo.heap.size 5 r (bvs (S.take i')) ∧ Below wo.heap.size wo wv)
          case atStart => exact ⟨0, rfl, rfl, Own.nil _ _ _, Below.refl _ _⟩
          case round =>
            obtain ⟨i, hi, rfl, hown, hbel⟩ := hrel
            have HIi := Lib.hid hi
            have HOr := Lib.hid hown
            have HV := Lib.hid hbel
            have hszv := hbel.size
            by_cases hi16 : i < 16
            · clear hi hown hbel
              have hi16' : decide ((i : Int) < 16) = true := by rw [decide_eq_true_iff]; omega
              have q1 := HO.out.at.1 i _ (nvs_getD (by have := HS16.out; omega))
              rw [← HV.out.cell (p := ⟨w1.heap.size, i, none⟩) (by exact hgs)] at q1
              have x1 := getD_lt hsb (by omega) i
              obtain ⟨x, hx⟩ : ∃ x, x = S.getD i 0 := ⟨_, rfl⟩
              rw [← hx] at q1 x1
              have HX := Lib.hid hx
              clear hx
              go_wp2_with (at_builtin; refine wpList_push rfl (.tmp 163) (.tmp 169) 28 rfl wo.heap.size 5 _ 1 bytes28 _ _ rfl (HOr.out.alloc _) ⟨wr.heap.size, 0, none⟩ (.int .u8 (x : Int)) rfl ?c1 rfl ?c2 ?c3 ?_)
              case c1 => exact cell_new rfl
              case c2 => simp; omega
              case c3 => simp; omega
              rintro v' w2 hown1 hg1 hb1
              clear hg1
              have HO3 := Lib.hid hown1
              have HB3 := Lib.hid hb1
              clear hown1 hb1
              go_wp2_with fail
              go_roundg (gk - 1)
              case measure => have := HIi.out; omega
              case rel =>
                refine ⟨i + 1, by have := HIi.out; omega, by go_num, ?_, HV.out.trans (((Below.refl wo.heap.size wr).alloc (by omega) _).trans HB3.out)⟩
                have e : bvs (S.take (i + 1)) = bvs (S.take i) ++ [.int .u8 (x : Int)] := by
                  rw [take_snocD (by have := HS16.out; omega), bvs_append, ← HX.out]; rfl
                rw [e]; exact HO3.out
            · obtain rfl : i = 16 := by omega
              clear hi hown hbel
              go_wp2_with fail
              go_ret
              refine ⟨_, rfl, ?_, ?_⟩
              · have h := HOr.out
                rw [List.take_of_length_le (by have := HS16.out; omega), HSd.out, ← HBLK.out] at h
                exact h.mono (by omega)
              · exact HB1.out.trans ((HB.out.mono hsz1).trans (HV.out.mono (by omega)))
end Go.Proofs.Ytfpjpakjlhidkaa
