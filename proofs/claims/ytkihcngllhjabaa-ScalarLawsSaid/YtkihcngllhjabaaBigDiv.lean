/- Walks: the reference's Div. -/
import Derived.Test.YtkihcngllhjabaaBigMul
namespace Go.Proofs.Ytkihcngllhjabaa
open Go.RowKit BigM
theorem Own.setBelow {w : World} {B : Nat} {e : TypeId} {v : Value} {xs : List Value} (h : Own w B e v xs) {a : Addr} (ha : a.block < B) (u : Value) : Own (w.setCell a u) B e v xs := by
  refine h.setOther ?_ u
  rcases h.form with rfl | ⟨g, cap, rfl⟩
  · simp [Value.ownBlock]
  · have hg : B ≤ g := by
      obtain ⟨_, h | ⟨g', cap', cur, hv, hg, _⟩⟩ := h
      · cases h.1
      · simp only [Value.slice.injEq, Option.some.injEq, Addr.mk.injEq, and_true] at hv
        rw [hv.1]; exact hg
    simp only [Value.ownBlock, ne_eq, Option.some.injEq]
    omega
theorem div_mul_le {R b q : Nat} (hb : 0 < b) : (R < b * q) = (R / b < q) := by
  rw [Nat.div_lt_iff_lt_mul hb, Nat.mul_comm]
theorem len_step {R b d : Nat} (h : R < b) (hd : d < 32768) : (big (R * 32768 + d)).length ≤ (big b).length + 1 := by
  apply big_len_le
  have := big_lt b
  rw [Nat.pow_succ]
  have : (R + 1) * 32768 ≤ 32768 ^ (big b).length * 32768 := Nat.mul_le_mul_right _ (by omega)
  omega
set_option maxRecDepth 100000 in
set_option maxHeartbeats 4000000 in
theorem bdiv_any (v v' : Value) (A b : Nat) (w : World) (h : Rd w v (dvs (big A))) (h' : Rd w v' (dvs (big b))) (hA : (big A).length < 100000) (hB : (big b).length < 100000) (hb : 0 < b) :
    Calls Try.prog 23 #[v, v'] w fun e w' => ∃ q r, e = .returned (.tuple #[q, r]) ∧ Own w' w.heap.size 3 q (dvs (big (A / b))) ∧ Own w' w.heap.size 3 r (dvs (big (A % b))) ∧ Below w.heap.size w w' := by
  obtain ⟨la, hla⟩ : ∃ k, k = (big A).length := ⟨_, rfl⟩
  have hv : ∃ a c, v = .slice a la c := by obtain ⟨a, c, e, _⟩ := h; exact ⟨a, c, by rw [e, dvs_len, hla]⟩
  have hv' : ∃ a b c, v' = .slice a b c := by obtain ⟨a, c, e, _⟩ := h'; exact ⟨a, _, c, e⟩
  obtain ⟨a, c, rfl⟩ := hv
  obtain ⟨a', b', c', rfl⟩ := hv'
  have C1 : ∀ (i : Nat) (wr : World), i < la → Below w.heap.size w wr → ∃ b off, a = some ⟨b, off, none⟩ ∧ wr.cell? ⟨b, off + i, none⟩ = some (.int .i64 (dg A i : Nat)) := fun i wr hi hb => bcells (h.below hb (Nat.le_refl _)) hla i hi
  rw [← hla] at hA
  have hmk := make_big (n := la) (by omega) (la : Int) rfl
  have HW := Lib.hid (own_made w (n := la) (by omega))
  have HM := Lib.hid (fun (m : Nat) (hm : m < 18446744073709551616) (wr : World) => bnum_any m wr hm)
  have MU : ∀ (m : Nat) (u : Value) (wr : World), m < 32768 → Below w.heap.size w wr → Rd wr u (dvs (big m)) → Calls Try.prog 29 #[.slice a' b' c', u] wr fun e w' => ∃ v2, e = .returned v2 ∧ Own w' wr.heap.size 3 v2 (dvs (big (b * m))) ∧ Below wr.heap.size wr w' :=
    fun m u wr hm hb2 hu => bmul_any _ u b m wr (h'.below hb2 (Nat.le_refl _)) hu (by omega) (by have := big_len_le (n := m) (k := 5) (by omega); omega)
  have HMU := Lib.hid MU
  have HC1 := Lib.hid C1
  have HLA := Lib.hid hla
  have HLB := Lib.hid hB
  clear C1 MU h h' hla hB
  go_enter Try.func23, Try.ntmps23
  go_wp2_with fail
  clear hmk
  go_loopg [7, 8] la (fun q rv iv wr => ∃ (Q : List Nat) (R : Nat), q ≤ la ∧ iv = .int .i64 ((q : Int) - 1) ∧ Q.length = la ∧ Hid (Dig Q) ∧ Hid (bval Q = 32768 ^ q * (A / 32768 ^ q / b)) ∧ Hid (∀ j, j < q → Q.getD j 0 = 0) ∧ Hid (R = A / 32768 ^ q % b) ∧ Own wr w.heap.size 3 (.slice (some ⟨w.heap.size, 0, none⟩) la la) (dvs Q) ∧ Own wr (w.heap.size + 1) 3 rv (dvs (big R)) ∧ Below w.heap.size w wr ∧ w.heap.size + 1 ≤ wr.heap.size)
  case atStart =>
    have z : A / 32768 ^ la = 0 := by rw [HLA.out]; exact div_out (Nat.le_refl _)
    refine ⟨List.replicate la 0, 0, Nat.le_refl _, rfl, by simp, Dig.zeros _, ?_, ?_, ?_, HW.out, ?_, (Below.refl _ _).alloc (Nat.le_refl _) _, by simp⟩
    · show _ = _
      rw [bval_zeros, z]; simp
    · intro j hj
      simp [List.getD_eq_getElem?_getD, List.getElem?_replicate, hj]
    · show _ = _
      rw [z]; simp
    · rw [big_zero]; exact Own.nil _ _ _
  case round =>
    obtain ⟨Q, R, hq, rfl, hlen, HD, HV, HZ, HR, hown, hrest, hbw, hsz⟩ := hrel
    have HO := Lib.hid hown
    have HRE := Lib.hid hrest
    have HB := Lib.hid hbw
    have HL := Lib.hid hlen
    have HSZ := Lib.hid hsz
    by_cases h0 : gk = 0
    · subst h0
      have T := btrim_any _ Q w.heap.size wr hown HD.out (by omega)
      have e : bval Q = A / b := by rw [HV.out]; simp
      rw [e] at T
      have HT := Lib.hid T
      obtain ⟨s1, s2, s3, hs⟩ := hrest.sl'
      have HR2 : Hid (R = A % b) := Lib.hid (by rw [HR.out]; simp)
      clear T e hown hrest hbw hlen hq
      subst hs
      go_wp2_with fail
      refine (HT.out).mono ?_
      rintro e w' ⟨v2, rfl, ho, rfl⟩
      have HO2 := Lib.hid ho
      clear ho
      obtain ⟨s4, s5, s6, rfl⟩ := HO2.out.sl'
      go_wp2_with fail
      go_ret2
      refine ⟨_, _, rfl, HO2.out, ?_, HB.out⟩
      rw [← HR2.out]
      exact HRE.out.mono (by omega)
    · obtain ⟨j, rfl⟩ : ∃ j, gk = j + 1 := ⟨gk - 1, by omega⟩
      have hjl : j < la := by omega
      have ej : ((j + 1 : Nat) : Int) - 1 = (j : Int) := by omega
      rw [ej]
      obtain ⟨b1, o1, rfl, q1⟩ := HC1.out j wr hjl HB.out
      have hd := dg_lt A j
      obtain ⟨x1, x2, x3, x4⟩ := div_in (A := A) (b := b) (i := j) hb
      rw [← HR.out] at x1 x3 x4
      have hRb : R < b := by rw [HR.out]; exact Nat.mod_lt _ hb
      have hlen2 := len_step hRb hd
      obtain ⟨d, hde⟩ : ∃ d, d = dg A j := ⟨_, rfl⟩
      rw [← hde] at q1 hd x1 x3 x4 hlen2
      obtain ⟨q, hqe⟩ : ∃ q, q = (R * 32768 + d) / b := ⟨_, rfl⟩
      rw [← hqe] at x1 x4
      have hdc : bval (d :: big R) = R * 32768 + d := dg_cons
      have hmod : R * 32768 + d - b * q = A / 32768 ^ j % b := by
        rw [← x3, hqe]
        have := Nat.div_add_mod (R * 32768 + d) b
        omega
      have hqb : b * q ≤ R * 32768 + d := by rw [hqe]; exact Nat.mul_div_le _ _
      obtain ⟨R2, hR2⟩ : ∃ R2, R2 = R * 32768 + d := ⟨_, rfl⟩
      rw [← hR2] at hqe hdc hmod hqb hlen2
      have hdig : Dig (d :: big R) := Dig.cons hd (big_dig R)
      have hl1 : (big R).length < 1000000 := by
        have := big_len_le (n := R) (k := (big b).length) (by have := big_lt b; omega)
        have := HLB.out
        omega
      have hl2 : (d :: big R).length < 1000000 := by
        have := big_len_le (n := R) (k := (big b).length) (by have := big_lt b; omega)
        have := HLB.out
        rw [List.length_cons]; omega
      have hl3 : (big R2).length < 1000000 := by have := HLB.out; omega
      have HX1 := Lib.hid x1
      have HX2 := Lib.hid x2
      have HQE := Lib.hid hqe
      have HDC := Lib.hid hdc
      have HMOD := Lib.hid hmod
      have HQB := Lib.hid hqb
      have HDG := Lib.hid hdig
      have HL2 := Lib.hid hl2
      have HL3 := Lib.hid hl3
      have hq15 : q < 32768 := x4
      clear x1 x2 x3 x4 hde hqe hdc hmod hqb hdig hl2 hl3 hR2 hown hrest hbw hlen hlen2 hRb h0 ej
      go_wp2_with (at_builtin; refine wpList_app rfl (.tmp 26) (.tmp 27) 31 rfl wr.heap.size 3 _ 8 bigE _ [.int .i64 (d : Nat)] rfl (Own.full (cs := #[.int .i64 (d : Nat)]) rfl (Nat.le_refl _) (by unfold maxLen; simp) rfl) _ (dvs (big R)) rfl (HRE.out.rd.alloc _) (dvs_one _) ?c2 ?c3 ?_)
      case c2 => simp; omega
      case c3 => simp
      rintro v1 w1 hown1 - hb1
      have hown1' : Own w1 wr.heap.size 3 v1 (dvs (d :: big R)) := hown1
      have T := btrim_any v1 (d :: big R) wr.heap.size w1 hown1' HDG.out (by have := HL2.out; omega)
      rw [HDC.out] at T
      have HT := Lib.hid T
      have HB1 := Lib.hid (((Below.refl wr.heap.size wr).alloc (Nat.le_refl _) _).trans hb1)
      clear hown1 hown1' hb1 T
      go_wp2_with fail
      refine (HT.out).mono ?_
      rintro e w' ⟨v2, rfl, ho, rfl⟩
      have HR2 := Lib.hid ho
      have HBW := Lib.hid (HB.out.trans (HB1.out.mono (by have := HSZ.out; omega)))
      clear ho HT
      have hsz1 := HB1.out.size
      go_wp2_with fail
      obtain ⟨g1, rfl⟩ : ∃ g1, g1 = j := ⟨_, rfl⟩
      obtain ⟨wo, rfl⟩ : ∃ wo : World, wo = w' := ⟨_, rfl⟩
      go_loopg [9, 10] 32767 (fun g lv hv w2 => ∃ l hh : Nat, l + g = hh ∧ l ≤ q ∧ q ≤ hh ∧ hh ≤ 32767 ∧ lv = .int .i64 (l : Nat) ∧ hv = .int .i64 (hh : Nat) ∧ ∃ n, Below wo.heap.size wo w2 ∧ n = w2.heap.size)
      case atStart => exact ⟨0, 32767, by omega, by omega, by omega, by omega, rfl, rfl, _, Below.refl _ _, rfl⟩
      case round =>
        obtain ⟨l, hh, hlg, hlq, hqh, hhm, rfl, rfl, n2, hb2, hn2⟩ := hrel
        have HB2 := Lib.hid hb2
        have hsz2 := hb2.size
        clear hb2 hn2
        by_cases clh : l < hh
        · have hlt' : decide ((l : Int) < (hh : Int)) = true := by rw [decide_eq_true_iff]; omega
          obtain ⟨mid, hmid⟩ : ∃ mid, mid = (l + hh + 1) / 2 := ⟨_, rfl⟩
          have emid : ((l : Int) + (hh : Int) + 1) / 2 = (mid : Int) := by omega
          have hm1 : l < mid := by omega
          have hm2 : mid ≤ hh := by omega
          have HG := Lib.hid hlg
          clear hmid hlg
          go_wp2_with fail
          refine (HM.out mid (by omega) _).mono ?_
          rintro e w3 ⟨v3, rfl, hown3, hb3⟩
          have HO3 := Lib.hid hown3
          have HB3 := Lib.hid (Below.next' HB2.out hb3)
          clear hown3 hb3
          go_wp2_with fail
          refine (HMU.out mid v3 _ (by omega) (HBW.out.trans (HB3.out.mono (by have := HSZ.out; omega))) HO3.out.rd).mono ?_
          rintro e w4 ⟨v4, rfl, hown4, hb4⟩
          have HO4 := Lib.hid hown4
          have HB4 := Lib.hid (Below.next' HB3.out hb4)
          clear hown4 hb4
          have LS := bless_any v2 v4 R2 (b * mid) w4 ((HR2.out.below HB4.out (Nat.le_refl _)).rd) HO4.out.rd
          by_cases cm : q < mid
          · rw [decide_eq_true (by rw [div_mul_le hb, ← HQE.out]; exact cm)] at LS
            have HLS := Lib.hid LS
            clear LS
            go_wp2_with fail
            refine (HLS.out).mono ?_
            rintro e w5 ⟨rfl, n5, rfl⟩
            go_wp2_with fail
            go_roundg (mid - 1 - l)
            case measure => have := HG.out; omega
            case rel => exact ⟨l, mid - 1, by omega, hlq, by omega, by omega, rfl, val_int (by omega), _, below_drewN' HB4.out n5, rfl⟩
          · rw [decide_eq_false (by rw [div_mul_le hb, ← HQE.out]; exact cm)] at LS
            have HLS := Lib.hid LS
            clear LS
            go_wp2_with fail
            refine (HLS.out).mono ?_
            rintro e w5 ⟨rfl, n5, rfl⟩
            go_wp2_with fail
            go_roundg (hh - mid)
            case measure => have := HG.out; omega
            case rel => exact ⟨mid, hh, by omega, by omega, hqh, hhm, rfl, rfl, _, below_drewN' HB4.out n5, rfl⟩
        · have hlt' : decide ((l : Int) < (hh : Int)) = false := by rw [decide_eq_false_iff_not]; omega
          obtain rfl : l = q := by omega
          have hown2 : Own wr w.heap.size 3 (.slice (some ⟨w.heap.size, 0, none⟩) la la) (dvs Q) :=
            (HO.out.below HB1.out (Nat.le_refl _)).below HB2.out (Nat.le_refl _)
          obtain ⟨hcT, hfT⟩ := hown2.at
          have hz := HZ.out g1 (by omega)
          have q3 := hcT g1 _ (dvs_getD (by have := HL.out; omega))
          have q4 := hfT g1
          rw [hz] at q3
          have hox : Q[g1]? = some 0 := by
            rw [← hz, List.getD_eq_getElem?_getD, List.getElem?_eq_getElem (show g1 < Q.length by have := HL.out; omega)]; rfl
          have HOX := Lib.hid hox
          have hown3 := (hown2.set g1 (.int .i64 (l : Nat)))
          rw [← dvs_set] at hown3
          have hb3 := ((HBW.out.trans (HB2.out.mono (by have := HSZ.out; omega))).setCell (p := ⟨w.heap.size, g1, none⟩) (Nat.le_refl _) (.int .i64 (l : Nat)))
          have hre3 := (HR2.out.below HB2.out (Nat.le_refl _)).setBelow (a := ⟨w.heap.size, g1, none⟩) (by have := HSZ.out; simp only; omega) (.int .i64 (l : Nat))
          have HO3 := Lib.hid hown3
          have HB3 := Lib.hid hb3
          have HR3 := Lib.hid hre3
          clear hown2 hown3 hb3 hre3 hcT hfT hz hox hlg
          go_wp2_with fail
          refine (HM.out l (by omega) _).mono ?_
          rintro e w3 ⟨v3, rfl, hown4, hb4⟩
          have HN4 := Lib.hid hown4
          have HB4 := Lib.hid hb4
          have HBA := Lib.hid (Below.next' HB3.out hb4)
          clear hown4 hb4
          go_wp2_with fail
          refine (HMU.out l v3 _ hq15 HBA.out HN4.out.rd).mono ?_
          rintro e w4 ⟨v4, rfl, hown5, hb5⟩
          have HN5 := Lib.hid hown5
          have HB5 := Lib.hid (Below.next' HB4.out hb5)
          clear hown5 hb5
          have S := bsub_any v2 v4 R2 (b * l) w4 ((HR3.out.below HB5.out (Nat.le_refl _)).rd) HN5.out.rd HL3.out HQB.out
          have HS := Lib.hid S
          clear S
          go_wp2_with fail
          refine (HS.out).mono ?_
          rintro e w5 ⟨v5, rfl, hown6, hb6⟩
          have HN6 := Lib.hid hown6
          have HB6 := Lib.hid (Below.next' HB5.out hb6)
          have hsz6 := HB5.out.size
          clear hown6 hb6
          obtain ⟨s1, s2, s3, rfl⟩ := HN6.out.sl'
          go_wp2_with fail
          go_roundg g1
          case measure => omega
          case rel =>
            refine ⟨Q.set g1 l, R2 - b * l, by omega, rfl, by rw [List.length_set]; exact HL.out, HD.out.set _ hq15, ?_, ?_, HMOD.out, HO3.out.below HB6.out (Nat.le_refl _), HN6.out.mono ?_, Below.next' HB3.out HB6.out, ?_⟩
            · show _ = _
              have e := bval_set HOX.out l
              rw [Nat.mul_zero, Nat.add_zero] at e
              have hv := HV.out
              have a1 := HX1.out
              have a2 := HX2.out
              obtain ⟨X, hX⟩ : ∃ X, X = A / 32768 ^ (g1 + 1) / b := ⟨_, rfl⟩
              rw [← hX] at hv a1 a2
              rw [e, hv, pow_step, Nat.mul_assoc, ← Nat.mul_add]
              congr 1
              omega
            · intro j hj
              rw [set_get (by omega)]
              exact HZ.out j (by omega)
            · have := HSZ.out; simp at hsz6; omega
            · have := HSZ.out; have := HB6.out.size; simp at this; omega
end Go.Proofs.Ytkihcngllhjabaa
