/- Walks: the law GcmTimes. -/
import Derived.Test.YtfpjpakjlhidkaaGcmAlive
import Derived.Test.YtfpjpakjlhidkaaSame
import Derived.BigQuiet
namespace Go.Proofs.Ytfpjpakjlhidkaa
open Go.RowKit AesM GcmM GcmB
set_option linter.unusedVariables false
theorem beN_xor_get {p q : Nat} (hp : p < P128) (hq : q < P128) {i : Nat} (hi : i < 16) : (beN 16 (p ^^^ q)).getD i 0 = (beN 16 p).getD i 0 ^^^ (beN 16 q).getD i 0 := by
  have h := xorL_beN (beN_lt 16 p) (beN_lt 16 q) (beN_len _ _) (beN_len _ _)
  rw [beV_beN (by rw [← p128'']; exact hp), beV_beN (by rw [← p128'']; exact hq)] at h
  rw [← h]
  simp [xorL, List.getD_eq_getElem?_getD, hi]
/-- what a loop of sums has written -/
def sumL (B C : List Nat) (i : Nat) : List Nat := (xorL B C 16).take i ++ (List.replicate 16 0).drop i
theorem sumL_len (B C : List Nat) (i : Nat) : (sumL B C i).length = 16 := by simp [sumL, xorL_len]; omega
theorem sumL_step (B C : List Nat) {i : Nat} (hi : i < 16) : (sumL B C i).set i (B.getD i 0 ^^^ C.getD i 0) = sumL B C (i + 1) := by
  have h := upd_step (X := xorL B C 16) (T := List.replicate 16 0) (by rw [xorL_len]; simp) (i := i) (by simp; exact hi)
  unfold sumL
  rw [← h]
  congr 1
  simp [xorL]
set_option maxRecDepth 100000 in
set_option maxHeartbeats 4000000 in
theorem gcmTimes_on (v0 : Value) (A : List Nat) (v1 : Value) (B : List Nat) (v2 : Value) (C : List Nat) (w : World) (hA : ∀ n ∈ A, n < 256) (rA : Rd w v0 (bvs A)) (hB : ∀ n ∈ B, n < 256) (rB : Rd w v1 (bvs B)) (hC : ∀ n ∈ C, n < 256) (rC : Rd w v2 (bvs C)) (la : A.length = 16) (lb : B.length = 16) (lc : C.length = 16) :
    Calls Try.prog 6 #[v0, v1, v2] w fun e w' => e = .returned (.bool true) ∧ Below w.heap.size w w' := by
  have hmk2 : ∀ w, (Instr.makeSlice 28 (.int .i64 16) (.int .i64 16)).run Try.prog w = .ok (.slice (some ⟨w.heap.size, 0, none⟩) 16 16) (w.alloc (.cells Z16 5)) := fun _ => by kernel_rfl
  have OZ : ∀ W : World, Own (W.alloc (.cells Z16 5)) W.heap.size 5 (.slice (some ⟨W.heap.size, 0, none⟩) 16 16) (bvs (sumL B C 0)) := fun W => Own.full (w := W) (B := W.heap.size) (e := 5) (cs := (bvs (List.replicate 16 0)).toArray) rfl (Nat.le_refl _) (by unfold maxLen; simp) (n := 16) (by simp)
  obtain ⟨va, hva⟩ : ∃ x, x = beV A := ⟨_, rfl⟩
  obtain ⟨vb, hvb⟩ : ∃ x, x = beV B := ⟨_, rfl⟩
  obtain ⟨vc, hvc⟩ : ∃ x, x = beV C := ⟨_, rfl⟩
  have la128 : va < P128 := by rw [hva]; exact beV_lt128 hA la
  have lb128 : vb < P128 := by rw [hvb]; exact beV_lt128 hB lb
  have lc128 : vc < P128 := by rw [hvc]; exact beV_lt128 hC lc
  have hsum : beV (xorL B C 16) = vb ^^^ vc := by
    rw [xorL_beN hB hC lb lc, beV_beN, ← hvb, ← hvc]
    have := Nat.xor_lt_two_pow (n := 128) (x := vb) (y := vc) (by rw [← p128]; exact lb128) (by rw [← p128]; exact lc128)
    rw [← hvb, ← hvc, ← p128'', p128]; exact this
  have TAB := fun (W : World) (hw : Below w.heap.size w W) => gtimes_on v0 v1 A B W (rA.below hw (Nat.le_refl _)) (rB.below hw (Nat.le_refl _)) hA hB la lb
  have RAB := fun (W : World) (hw : Below w.heap.size w W) => r12times_any v0 v1 A B W (rA.below hw (Nat.le_refl _)) (rB.below hw (Nat.le_refl _)) hA hB la lb
  have TAC := fun (W : World) (hw : Below w.heap.size w W) => gtimes_on v0 v2 A C W (rA.below hw (Nat.le_refl _)) (rC.below hw (Nat.le_refl _)) hA hC la lc
  have TBC := fun (W : World) (hw : Below w.heap.size w W) => gtimes_on v1 v2 B C W (rB.below hw (Nat.le_refl _)) (rC.below hw (Nat.le_refl _)) hB hC lb lc
  have TAS := fun (W : World) (s : Value) (hw : Below w.heap.size w W) (hs : Rd W s (bvs (xorL B C 16))) => gtimes_on v0 s A (xorL B C 16) W (rA.below hw (Nat.le_refl _)) hs hA (xorL_lt hB hC 16) la (xorL_len _ _ _)
  have TPC := fun (W : World) (p : Value) (hw : Below w.heap.size w W) (hp : Rd W p (bvs (beN 16 (GcmM.gm va vb)))) => gtimes_on p v2 (beN 16 (GcmM.gm va vb)) C W hp (rC.below hw (Nat.le_refl _)) (beN_lt _ _) hC (beN_len _ _) lc
  have TAT := fun (W : World) (t : Value) (hw : Below w.heap.size w W) (ht : Rd W t (bvs (beN 16 (GcmM.gm vb vc)))) => gtimes_on v0 t A (beN 16 (GcmM.gm vb vc)) W (rA.below hw (Nat.le_refl _)) ht hA (beN_lt _ _) la (beN_len _ _)
  have b1 := gm_lt (a := va) lb128
  have b2 := gm_lt (a := va) lc128
  have b3 := gm_lt (a := vb) lc128
  simp only [hsum, ← hva, ← hvb, ← hvc, beV_beN (show GcmM.gm va vb < 256 ^ 16 by rw [← p128'']; exact b1), beV_beN (show GcmM.gm vb vc < 256 ^ 16 by rw [← p128'']; exact b3)] at TAB RAB TAC TBC TAS TPC TAT
  rw [gm_assoc la128 lb128 lc128] at TPC
  simp only [gm_xorB] at TAS
  obtain ⟨pp, hpp⟩ : ∃ x, x = GcmM.gm va vb := ⟨_, rfl⟩
  obtain ⟨qq, hqq⟩ : ∃ x, x = GcmM.gm va vc := ⟨_, rfl⟩
  obtain ⟨tt, htt⟩ : ∃ x, x = GcmM.gm vb vc := ⟨_, rfl⟩
  obtain ⟨uu, huu⟩ : ∃ x, x = GcmM.gm va tt := ⟨_, rfl⟩
  simp only [← hpp, ← hqq, ← htt, ← huu] at TAB RAB TAC TBC TAS TPC TAT b1 b2 b3
  have hv0 : ∃ a c, v0 = .slice a 16 c := by obtain ⟨a, c, e, _⟩ := rA; exact ⟨a, c, by rw [e, bvs_len, la]⟩
  have hv1 : ∃ a c, v1 = .slice a 16 c := by obtain ⟨a, c, e, _⟩ := rB; exact ⟨a, c, by rw [e, bvs_len, lb]⟩
  have hv2 : ∃ a c, v2 = .slice a 16 c := by obtain ⟨a, c, e, _⟩ := rC; exact ⟨a, c, by rw [e, bvs_len, lc]⟩
  obtain ⟨a0, c0, rfl⟩ := hv0
  obtain ⟨a1, c1, rfl⟩ := hv1
  obtain ⟨a2, c2, rfl⟩ := hv2
  have G1 := fun (i : Nat) (hi : i < 16) => rB.get3 (bvs_getD (L := B) (i := i) (by omega))
  have G2 := fun (i : Nat) (hi : i < 16) => rC.get3 (bvs_getD (L := C) (i := i) (by omega))
  have HTAB := Lib.hid TAB
  have HRAB := Lib.hid RAB
  have HTAC := Lib.hid TAC
  have HTBC := Lib.hid TBC
  have HTAS := Lib.hid TAS
  have HTPC := Lib.hid TPC
  have HTAT := Lib.hid TAT
  have HOZ := Lib.hid OZ
  have HG1 := Lib.hid G1
  have HG2 := Lib.hid G2
  have HX := Lib.hid (fun (i : Nat) (hi : i < 16) => beN_xor_get b1 b2 hi)
  clear TAB RAB TAC TBC TAS TPC TAT OZ G1 G2 hva hvb hvc la128 lb128 lc128 hsum hpp hqq htt huu rA rB rC la lb lc b1 b2 b3
  go_enter Try.func6, Try.ntmps6
  go_wp2_with fail
  refine (alive12 _).mono ?_
  rintro e w1 ⟨rfl, hb1⟩
  have HB1 := Lib.hid hb1
  clear hb1
  go_wp2_with fail
  refine (HTAB.out w1 HB1.out).mono ?_
  rintro e w2 ⟨p, rfl, hown, hb⟩
  obtain ⟨p1, p2, rfl⟩ := slLen hown 16 (by rw [bvs_len, beN_len])
  have HP2 := Lib.hid hown.rd
  have HB2 := Lib.hid (HB1.out.trans (hb.mono HB1.out.size))
  clear hown hb
  go_wp2_with fail
  refine (HRAB.out w2 HB2.out).mono ?_
  rintro e w3 ⟨p', rfl, hown, hb⟩
  obtain ⟨p3, p4, rfl⟩ := slLen hown 16 (by rw [bvs_len, beN_len])
  have HP3 := Lib.hid (HP2.out.below hb (Nat.le_refl _))
  have HB3 := Lib.hid (HB2.out.trans (hb.mono HB2.out.size))
  have S := same_any _ _ (beN 16 pp) (beN 16 pp) w3 HP3.out hown.rd (beN_lt _ _) (beN_lt _ _)
  rw [decide_eq_true rfl] at S
  have HS := Lib.hid S
  clear hown hb S
  go_wp2_with fail
  refine HS.out.mono ?_
  rintro e w4 ⟨rfl, n4, rfl⟩
  have HP4 := Lib.hid (HP3.out.drewN n4)
  have HB4 := Lib.hid (below_drewN' HB3.out n4)
  obtain ⟨w4, hw4⟩ : ∃ W, W = w3.drewN n4 := ⟨_, rfl⟩
  rw [← hw4] at HP4 HB4 ⊢
  clear hw4
  go_wp2_with fail
  go_loopg [10] 16 (fun q iv wr => ∃ i : Nat, i + q = 16 ∧ iv = .int .i64 (i : Nat) ∧ Own wr w4.heap.size 5 (.slice (some ⟨w4.heap.size, 0, none⟩) 16 16) (bvs (sumL B C i)) ∧ Below w4.heap.size w4 wr)
  case atStart => exact ⟨0, rfl, rfl, HOZ.out w4, (Below.refl _ _).alloc (Nat.le_refl _) _⟩
  case round =>
    obtain ⟨i, hi, rfl, hown, hb⟩ := hrel
    by_cases hlt : i < 16
    · obtain ⟨bt, ot, rfl, l1, q1⟩ := HG1.out i hlt
      obtain ⟨bu, ou, rfl, l2, q2⟩ := HG2.out i hlt
      obtain ⟨x, hx⟩ : ∃ x, x = B.getD i 0 := ⟨_, rfl⟩
      obtain ⟨y, hy⟩ : ∃ y, y = C.getD i 0 := ⟨_, rfl⟩
      have x1 : x < 256 := by rw [hx]; exact getD_lt hB (by omega) _
      have y1 : y < 256 := by rw [hy]; exact getD_lt hC (by omega) _
      have hxy := u8_xor_nat x y x1 y1
      rw [← hx] at q1
      rw [← hy] at q2
      have hbw := HB4.out.trans (hb.mono HB4.out.size)
      rw [← hbw.cell (p := ⟨bt, ot + i, none⟩) l1] at q1
      rw [← hbw.cell (p := ⟨bu, ou + i, none⟩) l2] at q2
      have f1 := hown.at.2 i
      have q3 := hown.at.1 i (.int .u8 ((sumL B C i).getD i 0 : Nat)) (bvs_getD (by rw [sumL_len]; exact hlt))
      obtain ⟨old, hold⟩ : ∃ o, o = (sumL B C i).getD i 0 := ⟨_, rfl⟩
      rw [← hold] at q3
      have HST := Lib.hid (show (sumL B C i).set i (x ^^^ y) = sumL B C (i + 1) by rw [hx, hy]; exact sumL_step B C hlt)
      obtain ⟨z, hz⟩ : ∃ z, z = x ^^^ y := ⟨_, rfl⟩
      rw [← hz] at hxy HST
      have HO3 := Lib.hid hown
      have HB5 := Lib.hid hb
      have HI := Lib.hid hi
      clear hown hb hi hx hy hold hz hbw
      go_wp2_with fail
      go_region
      go_wp2_with fail
      go_roundg (gk - 1)
      case measure => have := HI.out; omega
      case rel =>
        refine ⟨i + 1, by have := HI.out; omega, by go_num, ?_, (HB5.out.setCell (p := ⟨w4.heap.size, i, none⟩) (Nat.le_refl _) _).drew⟩
        rw [← HST.out, bvs_set1]
        exact (HO3.out.set i (.int .u8 (z : Nat))).drew
    · obtain rfl : i = 16 := by omega
      have hs16 : sumL B C 16 = xorL B C 16 := by
        unfold sumL
        rw [List.take_of_length_le (by rw [xorL_len]; omega), List.drop_eq_nil_of_le (by simp), List.append_nil]
      rw [hs16] at hown
      obtain ⟨g4, hg4⟩ : ∃ g, g = w4.heap.size := ⟨_, rfl⟩
      have HSU := Lib.hid hown.rd
      have HP5 := Lib.hid (HP4.out.below hb (Nat.le_refl _))
      have HB5 := Lib.hid (HB4.out.trans (hb.mono HB4.out.size))
      rw [← hg4] at HSU ⊢
      clear hown hb hi hlt hs16 hg4 HP4 HB4
      obtain ⟨w5, rfl⟩ : ∃ w5, w5 = wr := ⟨_, rfl⟩
      go_wp2_with fail
      refine (HTAC.out w5 HB5.out).mono ?_
      rintro e w6 ⟨q, rfl, hown, hb⟩
      obtain ⟨q1, q2, rfl⟩ := slLen hown 16 (by rw [bvs_len, beN_len])
      have HQ6 := Lib.hid hown.rd
      have HP6 := Lib.hid (HP5.out.below hb (Nat.le_refl _))
      have HSU6 := Lib.hid (HSU.out.below hb (Nat.le_refl _))
      have HB6 := Lib.hid (HB5.out.trans (hb.mono HB5.out.size))
      clear hown hb HP5 HSU
      go_wp2_with fail
      refine (HTAS.out w6 _ HB6.out HSU6.out).mono ?_
      rintro e w7 ⟨r, rfl, hown, hb⟩
      obtain ⟨r1, r2, rfl⟩ := slLen hown 16 (by rw [bvs_len, beN_len])
      have HR7 := Lib.hid hown.rd
      have HP7 := Lib.hid (HP6.out.below hb (Nat.le_refl _))
      have HQ7 := Lib.hid (HQ6.out.below hb (Nat.le_refl _))
      have HB7 := Lib.hid (HB6.out.trans (hb.mono HB6.out.size))
      clear hown hb HP6 HQ6 HSU6
      go_wp2_with fail
      refine (HTPC.out w7 _ HB7.out HP7.out).mono ?_
      rintro e w8 ⟨s, rfl, hown, hb⟩
      obtain ⟨s1, s2, rfl⟩ := slLen hown 16 (by rw [bvs_len, beN_len])
      have HS8 := Lib.hid hown.rd
      have HP8 := Lib.hid (HP7.out.below hb (Nat.le_refl _))
      have HQ8 := Lib.hid (HQ7.out.below hb (Nat.le_refl _))
      have HR8 := Lib.hid (HR7.out.below hb (Nat.le_refl _))
      have HB8 := Lib.hid (HB7.out.trans (hb.mono HB7.out.size))
      clear hown hb HP7 HQ7 HR7
      go_wp2_with fail
      refine (HTBC.out w8 HB8.out).mono ?_
      rintro e w9 ⟨t, rfl, hown, hb⟩
      obtain ⟨t1, t2, rfl⟩ := slLen hown 16 (by rw [bvs_len, beN_len])
      have HT9 := Lib.hid hown.rd
      have HP9 := Lib.hid (HP8.out.below hb (Nat.le_refl _))
      have HQ9 := Lib.hid (HQ8.out.below hb (Nat.le_refl _))
      have HR9 := Lib.hid (HR8.out.below hb (Nat.le_refl _))
      have HS9 := Lib.hid (HS8.out.below hb (Nat.le_refl _))
      have HB9 := Lib.hid (HB8.out.trans (hb.mono HB8.out.size))
      clear hown hb HP8 HQ8 HR8 HS8
      go_wp2_with fail
      refine (HTAT.out w9 _ HB9.out HT9.out).mono ?_
      rintro e wa ⟨u, rfl, hown, hb⟩
      obtain ⟨u1, u2, rfl⟩ := slLen hown 16 (by rw [bvs_len, beN_len])
      have HU := Lib.hid hown.rd
      have HP := Lib.hid (HP9.out.below hb (Nat.le_refl _))
      have HQ := Lib.hid (HQ9.out.below hb (Nat.le_refl _))
      have HR := Lib.hid (HR9.out.below hb (Nat.le_refl _))
      have HSa := Lib.hid (HS9.out.below hb (Nat.le_refl _))
      have HBa := Lib.hid (HB9.out.trans (hb.mono HB9.out.size))
      clear hown hb HP9 HQ9 HR9 HS9 HT9
      have GP := fun (i : Nat) (hi : i < 16) => HP.out.get3 (bvs_getD (L := beN 16 pp) (i := i) (by rw [beN_len]; exact hi))
      have GQ := fun (i : Nat) (hi : i < 16) => HQ.out.get3 (bvs_getD (L := beN 16 qq) (i := i) (by rw [beN_len]; exact hi))
      have GR := fun (i : Nat) (hi : i < 16) => HR.out.get3 (bvs_getD (L := beN 16 (pp ^^^ qq)) (i := i) (by rw [beN_len]; exact hi))
      have HGP := Lib.hid GP
      have HGQ := Lib.hid GQ
      have HGR := Lib.hid GR
      clear GP GQ GR
      go_wp2_with fail
      go_loopg [21] 16 (fun q iv wr => ∃ i n : Nat, i + q = 16 ∧ iv = .int .i64 (i : Nat) ∧ wr = wa.drewN n)
      case atStart => exact ⟨0, 0, rfl, rfl, rfl⟩
      case round =>
        obtain ⟨i, n, hi, rfl, rfl⟩ := hrel
        have HI := Lib.hid hi
        by_cases hlt : i < 16
        · obtain ⟨xb, xo, rfl, k1, k2⟩ := HGP.out i hlt
          obtain ⟨yb, yo, rfl, k3, k4⟩ := HGQ.out i hlt
          obtain ⟨zb, zo, rfl, k5, k6⟩ := HGR.out i hlt
          obtain ⟨x, hx⟩ : ∃ x, x = (beN 16 pp).getD i 0 := ⟨_, rfl⟩
          obtain ⟨y, hy⟩ : ∃ y, y = (beN 16 qq).getD i 0 := ⟨_, rfl⟩
          obtain ⟨z, hz⟩ : ∃ z, z = (beN 16 (pp ^^^ qq)).getD i 0 := ⟨_, rfl⟩
          have x1 : x < 256 := by rw [hx]; exact getD_lt (beN_lt _ _) (by omega) _
          have y1 : y < 256 := by rw [hy]; exact getD_lt (beN_lt _ _) (by omega) _
          have hxy := u8_xor_nat x y x1 y1
          have hzz : x ^^^ y = z := by rw [hx, hy, hz]; exact (HX.out i hlt).symm
          rw [hzz] at hxy
          rw [← hx] at k2
          rw [← hy] at k4
          rw [← hz] at k6
          clear hx hy hz hzz hi k1 k3 k5
          go_wp2_with fail
          go_quiet (fail)
          go_wp2_with fail
          go_roundg (gk - 1)
          case measure => have := HI.out; omega
          case rel => exact ⟨i + 1, _, by have := HI.out; omega, by go_num, rfl⟩
        · obtain rfl : i = 16 := by omega
          have S := same_any _ _ (beN 16 uu) (beN 16 uu) (wa.drewN n) (HSa.out.drewN n) (HU.out.drewN n) (beN_lt _ _) (beN_lt _ _)
          rw [decide_eq_true rfl] at S
          have HS := Lib.hid S
          clear S hi
          go_wp2_with fail
          refine HS.out.mono ?_
          rintro e wb ⟨rfl, nb, rfl⟩
          go_wp2_with fail
          go_ret
          exact ⟨rfl, below_drewN' HBa.out _⟩
set_option maxRecDepth 100000 in
set_option maxHeartbeats 4000000 in
theorem gcmTimes_walk (v0 : Value) (A : List Nat) (v1 : Value) (B : List Nat) (v2 : Value) (C : List Nat) (w : World) (hA : ∀ n ∈ A, n < 256) (rA : Rd w v0 (bvs A)) (hB : ∀ n ∈ B, n < 256) (rB : Rd w v1 (bvs B)) (hC : ∀ n ∈ C, n < 256) (rC : Rd w v2 (bvs C)) :
    Calls Try.prog 6 #[v0, v1, v2] w fun e w' => e = .returned (.bool true) ∧ Below w.heap.size w w' := by
  by_cases hall : A.length = 16 ∧ B.length = 16 ∧ C.length = 16
  · exact gcmTimes_on v0 A v1 B v2 C w hA rA hB rB hC rC hall.1 hall.2.1 hall.2.2
  have TAB := fun (W : World) (hw : Below w.heap.size w W) (la : A.length = 16) (lb : B.length = 16) => gtimes_on v0 v1 A B W (rA.below hw (Nat.le_refl _)) (rB.below hw (Nat.le_refl _)) hA hB la lb
  have RAB := fun (W : World) (hw : Below w.heap.size w W) (la : A.length = 16) (lb : B.length = 16) => r12times_any v0 v1 A B W (rA.below hw (Nat.le_refl _)) (rB.below hw (Nat.le_refl _)) hA hB la lb
  have TOF := fun (W : World) (hw : Below w.heap.size w W) (hl : ¬ (A.length = 16 ∧ B.length = 16)) => gtimes_off v0 v1 A B W (rA.below hw (Nat.le_refl _)) (rB.below hw (Nat.le_refl _)) hl
  obtain ⟨pp, hpp⟩ : ∃ x, x = GcmM.gm (beV A) (beV B) := ⟨_, rfl⟩
  simp only [← hpp] at TAB RAB
  have hv0 : ∃ a c, v0 = .slice a A.length c := by obtain ⟨a, c, e, _⟩ := rA; exact ⟨a, c, by rw [e, bvs_len]⟩
  have hv1 : ∃ a c, v1 = .slice a B.length c := by obtain ⟨a, c, e, _⟩ := rB; exact ⟨a, c, by rw [e, bvs_len]⟩
  have hv2 : ∃ a c, v2 = .slice a C.length c := by obtain ⟨a, c, e, _⟩ := rC; exact ⟨a, c, by rw [e, bvs_len]⟩
  obtain ⟨a0, c0, rfl⟩ := hv0
  obtain ⟨a1, c1, rfl⟩ := hv1
  obtain ⟨a2, c2, rfl⟩ := hv2
  obtain ⟨n0, hn0⟩ : ∃ n, n = A.length := ⟨_, rfl⟩
  obtain ⟨n1, hn1⟩ : ∃ n, n = B.length := ⟨_, rfl⟩
  obtain ⟨n2, hn2⟩ : ∃ n, n = C.length := ⟨_, rfl⟩
  rw [← hn0, ← hn1] at TAB RAB TOF
  rw [← hn0, ← hn1, ← hn2] at hall ⊢
  have HTAB := Lib.hid TAB
  have HRAB := Lib.hid RAB
  have HTOF := Lib.hid TOF
  clear TAB RAB TOF rA rB rC hpp hn0 hn1 hn2
  by_cases hbig : n0 ≤ 40 ∧ n1 ≤ 40 ∧ n2 ≤ 40
  · obtain ⟨k0, k1, k2⟩ := hbig
    by_cases h16 : n0 = 16 ∧ n1 = 16
    · have h2 : n2 ≠ 16 := fun h => hall ⟨h16.1, h16.2, h⟩
      obtain ⟨rfl, rfl⟩ := h16
      have h2' : ((n2 : Int) == 16) = false := by rw [beq_eq_false_iff_ne]; omega
      have h2'' : ((n2 : Int) != 16) = true := by rw [bne, h2']; rfl
      clear hall
      go_enter Try.func6, Try.ntmps6
      go_wp2_with fail
      refine (alive12 _).mono ?_
      rintro e w1 ⟨rfl, hb1⟩
      have HB1 := Lib.hid hb1
      clear hb1
      go_wp2_with fail
      refine (HTAB.out w1 HB1.out (by trivial) (by trivial)).mono ?_
      rintro e w2 ⟨p, rfl, hown, hb⟩
      obtain ⟨p1, p2, rfl⟩ := slLen hown 16 (by rw [bvs_len, beN_len])
      have HP2 := Lib.hid hown.rd
      have HB2 := Lib.hid (HB1.out.trans (hb.mono HB1.out.size))
      clear hown hb
      go_wp2_with fail
      refine (HRAB.out w2 HB2.out (by trivial) (by trivial)).mono ?_
      rintro e w3 ⟨p', rfl, hown, hb⟩
      obtain ⟨p3, p4, rfl⟩ := slLen hown 16 (by rw [bvs_len, beN_len])
      have HP3 := Lib.hid (HP2.out.below hb (Nat.le_refl _))
      have HB3 := Lib.hid (HB2.out.trans (hb.mono HB2.out.size))
      have S := same_any _ _ (beN 16 pp) (beN 16 pp) w3 HP3.out hown.rd (beN_lt _ _) (beN_lt _ _)
      rw [decide_eq_true rfl] at S
      have HS := Lib.hid S
      clear hown hb S
      go_wp2_with fail
      refine HS.out.mono ?_
      rintro e w4 ⟨rfl, n4, rfl⟩
      have HB4 := Lib.hid (below_drewN' HB3.out n4)
      go_wp2_with fail
      go_ret
      exact ⟨rfl, HB4.out⟩
    · have HOF := Lib.hid h16
      have hd : n0 ≠ 16 ∨ (n0 = 16 ∧ n1 ≠ 16) := by omega
      clear hall h16
      rcases hd with h | ⟨rfl, h⟩
      all_goals
        first
        | have h' : ((n0 : Int) == 16) = false := by rw [beq_eq_false_iff_ne]; omega
        | have h' : ((n1 : Int) == 16) = false := by rw [beq_eq_false_iff_ne]; omega
        go_enter Try.func6, Try.ntmps6
        go_wp2_with fail
        refine (alive12 _).mono ?_
        rintro e w1 ⟨rfl, hb1⟩
        have HB1 := Lib.hid hb1
        clear hb1
        go_wp2_with fail
        refine (HTOF.out w1 HB1.out HOF.out).mono ?_
        rintro e w2 ⟨rfl, rfl⟩
        go_wp2_with fail
        go_ret
        exact ⟨rfl, HB1.out⟩
  · have hd : 40 < n0 ∨ (n0 ≤ 40 ∧ 40 < n1) ∨ (n0 ≤ 40 ∧ n1 ≤ 40 ∧ 40 < n2) := by omega
    clear hbig hall
    rcases hd with h | ⟨h, h'⟩ | ⟨h, h', h''⟩
    all_goals
      go_enter Try.func6, Try.ntmps6
      go_wp2_with fail
      refine (alive12 _).mono ?_
      rintro e w1 ⟨rfl, hb1⟩
      have HB1 := Lib.hid hb1
      clear hb1
      go_wp2_with fail
      go_ret
      exact ⟨rfl, HB1.out⟩
#print axioms gcmTimes_walk
end Go.Proofs.Ytfpjpakjlhidkaa
