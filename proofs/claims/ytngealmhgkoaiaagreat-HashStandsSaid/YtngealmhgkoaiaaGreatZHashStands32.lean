/- Walks: the reference's Right of trees. -/
import Derived.Test.YtngealmhgkoaiaaGreatZHashStands22
import Derived.Test.YtngealmhgkoaiaaGreatZHashStands07
namespace Go.Proofs.YtngealmhgkoaiaaGreat
open Go.RowKit WalkM
set_option linter.unusedVariables false
set_option maxRecDepth 100000 in
set_option maxHeartbeats 16000000 in
theorem rtright_any (v : Value) (t : List NodeD) (w : World) (h : TreeR w v t) (hs : smallT t = true) (hok : TreeOk t) :
  Calls Tryz.prog 18 #[v] w fun e w' => e = .returned (.bool (rightT t)) ∧ Below w.heap.size w w' := by
 obtain ⟨a, c, rfl, hc, hc2⟩ := h.sl
 have hlen := smallT_len hs
 have LV := fun (W : World) => rleaves_any a t.length c W (by omega)
 have RR := fun (i : Nat) (cs : Array Value) (W : World) (hw : NodeC W (nd t i) cs) => rright_any (nd t i) cs W hw (hok.nd i)
 have GN := fun (W : World) (hw : Below w.heap.size w W) (i : Nat) (hi : i < t.length) => (h.below hw (Nat.le_refl _)).node hi
 have GA := fun (W : World) (hw : Below w.heap.size w W) (i : Nat) (hi : i < t.length) => (h.below hw (Nat.le_refl _)).at hi
 have KB := fun (i : Nat) => (hok.nd i).kind
 have S60 := fun (i : Nat) => (show (nd t i).par.late.length ≤ 60 by have := of_decide_eq_true (smallT_nd hs i); omega)
 have P1 := fun (hh : ∀ i, i < t.length → (nd t i).kind ≠ otherK i ∧ rightB (nd t i) = true) => (placedB_iff t).2 hh
 have P2 := fun (i : Nat) (hi : i < t.length) (hh : (nd t i).kind = otherK i ∨ rightB (nd t i) = false) => placedB_no hi hh
 have L1 := fun (hh : ∀ x, x < t.length → lateTB t x = true) => latesB_yes hh
 have L2 := fun (x : Nat) (hx : x < t.length) (hh : lateTB t x = false) => latesB_no hx hh
 have LY := fun (x : Nat) (hh : ∀ r, r < (nd t x).par.late.length → LateP t x ((nd t x).par.late.getD r 0)) => lateTB_yes (t := t) (x := x) (fun u hu => by
  obtain ⟨r, hr, rfl⟩ := List.getElem_of_mem hu
  have := hh r hr
  rwa [List.getD_eq_getElem?_getD, List.getElem?_eq_getElem hr] at this)
 have MEM := fun (x r : Nat) (hr : r < (nd t x).par.late.length) => (show (nd t x).par.late.getD r 0 ∈ (nd t x).par.late by rw [List.getD_eq_getElem?_getD, List.getElem?_eq_getElem hr]; exact List.getElem_mem hr)
 have NO := fun (x r : Nat) (hr : r < (nd t x).par.late.length) (hh : ¬ LateP t x ((nd t x).par.late.getD r 0)) => lateTB_no (MEM x r hr) hh
 have PLA := fun (hp : placedB t = true) (x : Nat) (hx : x < t.length) => placed_at hp hx
 have NAT := fun (hp : placedB t = true) (x r : Nat) (hx : x < t.length) (hr : r < (nd t x).par.late.length) => (placed_late hp hx (MEM x r hr)).2
 have SU := fun (N : Nat) (hN : leavesN t.length = N) (hl : N ≤ t.length) => someU_all hN hl
 obtain ⟨R, hR⟩ : ∃ R, R = rightT t := ⟨_, rfl⟩
 have hRe : R = (decide (leavesN t.length ≠ 0) && (placedB t && (someB t && latesB t))) := by rw [hR, rightT]
 rw [← hR]
 by_cases h0 : leavesN t.length = 0
 ·rw [h0] at LV
  have HF := Lib.hid (show R = false by rw [hRe, h0]; rfl)
  obtain ⟨n, hn⟩ : ∃ n, n = t.length := ⟨_, rfl⟩
  rw [← hn] at LV ⊢
  have HLV := Lib.hid LV
  clear LV RR GN GA KB S60 P1 P2 L1 L2 LY MEM NO PLA NAT SU hRe hR h0 h hs hok hn hc hlen
  go_enter Tryz.func18, Tryz.ntmps18
  go_wp2_with fail
  refine (HLV.out w).mono ?_
  rintro e w' ⟨rfl, rfl⟩
  go_wp2_with fail
  go_ret
  exact ⟨retB HF.out, Below.refl _ _⟩
 ·obtain ⟨d, hd, hN, hl⟩ := leavesN_pos h0
  rw [decide_eq_true h0, Bool.true_and] at hRe
  have LP := fun (m x : Nat) => lateP_nat (t := t) (m := m) (x := x) hd hl
  rw [← hN] at LP
  have hNl : 2 * leavesN t.length = t.length + 1 := by rw [hN]; omega
  have hSU := SU _ rfl (by omega)
  obtain ⟨N, hNN⟩ : ∃ N, N = leavesN t.length := ⟨_, rfl⟩
  rw [← hNN] at LV h0 hNl LP hSU
  obtain ⟨n, hn⟩ : ∃ n, n = t.length := ⟨_, rfl⟩
  rw [← hn] at LV GN GA P1 P2 L1 L2 PLA NAT LP hNl hSU hc hlen ⊢
  obtain ⟨pb, hpb⟩ : ∃ b, b = placedB t := ⟨_, rfl⟩
  rw [← hpb] at hRe P1 P2 PLA NAT
  obtain ⟨sb, hsb⟩ : ∃ b, b = someB t := ⟨_, rfl⟩
  rw [← hsb] at hRe hSU
  obtain ⟨lb, hlb⟩ : ∃ b, b = latesB t := ⟨_, rfl⟩
  rw [← hlb] at hRe L1 L2
  have hq0 : ((N : Int) == 0) = false := by rw [beq_eq_false_iff_ne]; omega
  have HLV := Lib.hid LV
  have HRR := Lib.hid RR
  have HGN := Lib.hid GN
  have HGA := Lib.hid GA
  have HKB := Lib.hid KB
  have H60 := Lib.hid S60
  have HP1 := Lib.hid P1
  have HP2 := Lib.hid P2
  have HL1 := Lib.hid L1
  have HL2 := Lib.hid L2
  have HLY := Lib.hid LY
  have HMEM := Lib.hid MEM
  have HNO := Lib.hid NO
  have HPLA := Lib.hid PLA
  have HNAT := Lib.hid NAT
  have HLP := Lib.hid LP
  have HSU := Lib.hid hSU
  have HRE := Lib.hid hRe
  clear LV RR GN GA KB S60 P1 P2 L1 L2 LY MEM NO PLA NAT SU LP hSU hRe hR h hs hok hn hl hN hNN hd hpb hsb hlb
  go_enter Tryz.func18, Tryz.ntmps18
  go_wp2_with fail
  refine (HLV.out w).mono ?_
  rintro e w' ⟨rfl, rfl⟩
  go_wp2_with fail
  go_loopg [4, 5] n (fun q sv iv wr => ∃ r : Nat, r + q = n ∧ iv = .int .i64 (r : Nat) ∧ sv = .bool (someU t N r) ∧ (∀ i, i < r → (nd t i).kind ≠ otherK i ∧ rightB (nd t i) = true) ∧ Below w'.heap.size w' wr)
  case atStart => exact ⟨0, by omega, rfl, rfl, fun i hi => by omega, Below.refl _ _⟩
  case round =>
   obtain ⟨r, hr, rfl, rfl, hall, hb⟩ := hrel
   have HR := Lib.hid hr
   have HALL := Lib.hid hall
   have HB := Lib.hid hb
   clear hr hall hb
   by_cases hlt : r < n
   ·have hlt' : decide (r < n) = true := decide_eq_true hlt
    obtain ⟨b, off, cs, rfl, hbl, hnc, hra⟩ := HGN.out wr HB.out r hlt
    have HRA := Lib.hid hra
    have HSZ := Lib.hid hnc.size
    have RC := HRR.out r cs wr hnc
    have ck := hra 0 _ hnc.kind
    have ck' : wr.cell? ⟨b, off + r * 10, none⟩ = some (.int .u8 ((nd t r).kind : Nat)) := ck
    obtain ⟨kd, hkd⟩ : ∃ k, k = (nd t r).kind := ⟨_, rfl⟩
    have hk256 := HKB.out r
    rw [← hkd] at ck' hk256
    have HKD := Lib.hid hkd
    have HSC := Lib.hid (someU_succ t N r)
    obtain ⟨s0, hs0⟩ : ∃ s, s = someU t N r := ⟨_, rfl⟩
    obtain ⟨s1, hs1⟩ : ∃ s, s = someU t N (r + 1) := ⟨_, rfl⟩
    have HS1 := Lib.hid (show s1 = (s0 || (kd == 1 && (N == 1 || decide (N ≤ r)))) by rw [hs1, HSC.out, hs0, hkd])
    have HSE := Lib.hid hs1
    rw [← hs0]
    obtain ⟨m, hm⟩ : ∃ m, m = r % 2 := ⟨_, rfl⟩
    have em1 : (r : Int) % 2 = (m : Int) := by omega
    have em2 : Int.tmod (r : Int) 2 = (m : Int) := by rw [Int.tmod_eq_emod_of_nonneg (by omega)]; omega
    have hm2 : m = 0 ∨ m = 1 := by omega
    have HMM := Lib.hid hm
    cases hrb : rightB (nd t r) with
    | false =>
     rw [hrb] at RC
     have HRC := Lib.hid RC
     have HF := Lib.hid (show R = false by rw [HRE.out, HP2.out r hlt (.inr hrb)]; rfl)
     clear RC hrb ck hra hnc hkd hs0 hs1 hm hm2
     go_wp2_with (refine wpList_load_mid rfl 54 (.tmp 28) rfl b (off + r * 10) rfl cs.toList _ HRA.out Tryz.underlying54 rfl (by rw [Array.length_toList, HSZ.out]; exact node_info) ?_)
     refine (HRC.out).mono ?_
     rintro e w2 ⟨rfl, hb2⟩
     have HB2 := Lib.hid (HB.out.trans (hb2.mono HB.out.size))
     clear hb2
     go_wp2_with fail
     go_ret
     exact ⟨retB HF.out, HB2.out⟩
    | true =>
     rw [hrb] at RC
     have HRC := Lib.hid RC
     have HRB := Lib.hid hrb
     clear RC hrb ck hra hnc hkd hs0 hs1 hm HSC
     rcases hm2 with rfl | rfl
     ·have HOK := Lib.hid (otherK_even HMM.out.symm)
      by_cases hk : kd = 2
      ·have hq : ((kd : Int) == 2) = true := by rw [beq_iff_eq]; omega
       have HF := Lib.hid (show R = false by rw [HRE.out, HP2.out r hlt (.inl (by rw [← HKD.out, HOK.out, hk]))]; rfl)
       clear hk
       go_wp2_with (refine wpList_load_mid rfl 54 (.tmp 28) rfl b (off + r * 10) rfl cs.toList _ HRA.out Tryz.underlying54 rfl (by rw [Array.length_toList, HSZ.out]; exact node_info) ?_)
       refine (HRC.out).mono ?_
       rintro e w2 ⟨rfl, hb2⟩
       have HB2 := Lib.hid (HB.out.trans (hb2.mono HB.out.size))
       clear hb2
       go_wp2_with fail
       go_ret
       exact ⟨retB HF.out, HB2.out⟩
      ·have hq : ((kd : Int) == 2) = false := by rw [beq_eq_false_iff_ne]; omega
       have HKN := Lib.hid (show (nd t r).kind ≠ otherK r by rw [← HKD.out, HOK.out]; exact hk)
       by_cases hk1 : kd = 1
       ·have hq1 : ((kd : Int) == 1) = true := by rw [beq_iff_eq]; omega
        cases s0 with
        | true =>
         have HV := Lib.hid (show s1 = true by rw [HS1.out]; rfl)
         try clear hk1
         try clear hN1
         try clear hk
         go_wp2_with (refine wpList_load_mid rfl 54 (.tmp 28) rfl b (off + r * 10) rfl cs.toList _ HRA.out Tryz.underlying54 rfl (by rw [Array.length_toList, HSZ.out]; exact node_info) ?_)
         refine (HRC.out).mono ?_
         rintro e w2 ⟨rfl, hb2⟩
         have HB2 := Lib.hid (HB.out.trans (hb2.mono HB.out.size))
         clear hb2
         go_wp2_with fail
         go_roundg (gk - 1)
         case measure => have := HR.out; omega
         case rel =>
          refine ⟨r + 1, by have := HR.out; omega, by go_num, by rw [← HSE.out, HV.out], fun i hi => ?_, HB2.out⟩
          by_cases e : i = r
          ·rw [e]; exact ⟨HKN.out, HRB.out⟩
          ·exact HALL.out i (by omega)
        | false =>
         by_cases hN1 : N = 1
         ·have hNq : ((N : Int) == 1) = true := by rw [beq_iff_eq]; omega
          have HV := Lib.hid (show s1 = true by rw [HS1.out, hk1, hN1]; rfl)
          try clear hk1
          try clear hN1
          try clear hk
          go_wp2_with (refine wpList_load_mid rfl 54 (.tmp 28) rfl b (off + r * 10) rfl cs.toList _ HRA.out Tryz.underlying54 rfl (by rw [Array.length_toList, HSZ.out]; exact node_info) ?_)
          refine (HRC.out).mono ?_
          rintro e w2 ⟨rfl, hb2⟩
          have HB2 := Lib.hid (HB.out.trans (hb2.mono HB.out.size))
          clear hb2
          go_wp2_with fail
          go_roundg (gk - 1)
          case measure => have := HR.out; omega
          case rel =>
           refine ⟨r + 1, by have := HR.out; omega, by go_num, by rw [← HSE.out, HV.out], fun i hi => ?_, HB2.out⟩
           by_cases e : i = r
           ·rw [e]; exact ⟨HKN.out, HRB.out⟩
           ·exact HALL.out i (by omega)
         ·have hNq : ((N : Int) == 1) = false := by rw [beq_eq_false_iff_ne]; omega
          have hNb : (N == 1) = false := beq_eq_false_iff_ne.2 hN1
          by_cases hge : N ≤ r
          ·have hg' : decide (N ≤ r) = true := decide_eq_true hge
           have HV := Lib.hid (show s1 = true by rw [HS1.out, hk1, hNb, hg']; rfl)
           try clear hk1
           try clear hN1
           try clear hk
           go_wp2_with (refine wpList_load_mid rfl 54 (.tmp 28) rfl b (off + r * 10) rfl cs.toList _ HRA.out Tryz.underlying54 rfl (by rw [Array.length_toList, HSZ.out]; exact node_info) ?_)
           refine (HRC.out).mono ?_
           rintro e w2 ⟨rfl, hb2⟩
           have HB2 := Lib.hid (HB.out.trans (hb2.mono HB.out.size))
           clear hb2
           go_wp2_with fail
           go_roundg (gk - 1)
           case measure => have := HR.out; omega
           case rel =>
            refine ⟨r + 1, by have := HR.out; omega, by go_num, by rw [← HSE.out, HV.out], fun i hi => ?_, HB2.out⟩
            by_cases e : i = r
            ·rw [e]; exact ⟨HKN.out, HRB.out⟩
            ·exact HALL.out i (by omega)
          ·have hg' : decide (N ≤ r) = false := decide_eq_false hge
           have HV := Lib.hid (show s1 = false by rw [HS1.out, hk1, hNb, hg']; rfl)
           try clear hk1
           try clear hN1
           try clear hk
           go_wp2_with (refine wpList_load_mid rfl 54 (.tmp 28) rfl b (off + r * 10) rfl cs.toList _ HRA.out Tryz.underlying54 rfl (by rw [Array.length_toList, HSZ.out]; exact node_info) ?_)
           refine (HRC.out).mono ?_
           rintro e w2 ⟨rfl, hb2⟩
           have HB2 := Lib.hid (HB.out.trans (hb2.mono HB.out.size))
           clear hb2
           go_wp2_with fail
           go_roundg (gk - 1)
           case measure => have := HR.out; omega
           case rel =>
            refine ⟨r + 1, by have := HR.out; omega, by go_num, by rw [← HSE.out, HV.out], fun i hi => ?_, HB2.out⟩
            by_cases e : i = r
            ·rw [e]; exact ⟨HKN.out, HRB.out⟩
            ·exact HALL.out i (by omega)
       ·have hq1 : ((kd : Int) == 1) = false := by rw [beq_eq_false_iff_ne]; omega
        have hqb : (kd == 1) = false := beq_eq_false_iff_ne.2 hk1
        cases s0 with
        | true =>
         have HV := Lib.hid (show s1 = true by rw [HS1.out]; rfl)
         try clear hk1
         try clear hN1
         try clear hk
         go_wp2_with (refine wpList_load_mid rfl 54 (.tmp 28) rfl b (off + r * 10) rfl cs.toList _ HRA.out Tryz.underlying54 rfl (by rw [Array.length_toList, HSZ.out]; exact node_info) ?_)
         refine (HRC.out).mono ?_
         rintro e w2 ⟨rfl, hb2⟩
         have HB2 := Lib.hid (HB.out.trans (hb2.mono HB.out.size))
         clear hb2
         go_wp2_with fail
         go_roundg (gk - 1)
         case measure => have := HR.out; omega
         case rel =>
          refine ⟨r + 1, by have := HR.out; omega, by go_num, by rw [← HSE.out, HV.out], fun i hi => ?_, HB2.out⟩
          by_cases e : i = r
          ·rw [e]; exact ⟨HKN.out, HRB.out⟩
          ·exact HALL.out i (by omega)
        | false =>
         have HV := Lib.hid (show s1 = false by rw [HS1.out, hqb]; rfl)
         try clear hk1
         try clear hN1
         try clear hk
         go_wp2_with (refine wpList_load_mid rfl 54 (.tmp 28) rfl b (off + r * 10) rfl cs.toList _ HRA.out Tryz.underlying54 rfl (by rw [Array.length_toList, HSZ.out]; exact node_info) ?_)
         refine (HRC.out).mono ?_
         rintro e w2 ⟨rfl, hb2⟩
         have HB2 := Lib.hid (HB.out.trans (hb2.mono HB.out.size))
         clear hb2
         go_wp2_with fail
         go_roundg (gk - 1)
         case measure => have := HR.out; omega
         case rel =>
          refine ⟨r + 1, by have := HR.out; omega, by go_num, by rw [← HSE.out, HV.out], fun i hi => ?_, HB2.out⟩
          by_cases e : i = r
          ·rw [e]; exact ⟨HKN.out, HRB.out⟩
          ·exact HALL.out i (by omega)
     ·have HOK := Lib.hid (otherK_odd HMM.out.symm)
      by_cases hk : kd = 1
      ·have hq : ((kd : Int) == 1) = true := by rw [beq_iff_eq]; omega
       have HF := Lib.hid (show R = false by rw [HRE.out, HP2.out r hlt (.inl (by rw [← HKD.out, HOK.out, hk]))]; rfl)
       clear hk
       go_wp2_with (refine wpList_load_mid rfl 54 (.tmp 28) rfl b (off + r * 10) rfl cs.toList _ HRA.out Tryz.underlying54 rfl (by rw [Array.length_toList, HSZ.out]; exact node_info) ?_)
       refine (HRC.out).mono ?_
       rintro e w2 ⟨rfl, hb2⟩
       have HB2 := Lib.hid (HB.out.trans (hb2.mono HB.out.size))
       clear hb2
       go_wp2_with fail
       go_ret
       exact ⟨retB HF.out, HB2.out⟩
      ·have hq : ((kd : Int) == 1) = false := by rw [beq_eq_false_iff_ne]; omega
       have HKN := Lib.hid (show (nd t r).kind ≠ otherK r by rw [← HKD.out, HOK.out]; exact hk)
       have hqb : (kd == 1) = false := beq_eq_false_iff_ne.2 hk
       cases s0 with
       | true =>
        have HV := Lib.hid (show s1 = true by rw [HS1.out]; rfl)
        try clear hk1
        try clear hN1
        try clear hk
        go_wp2_with (refine wpList_load_mid rfl 54 (.tmp 28) rfl b (off + r * 10) rfl cs.toList _ HRA.out Tryz.underlying54 rfl (by rw [Array.length_toList, HSZ.out]; exact node_info) ?_)
        refine (HRC.out).mono ?_
        rintro e w2 ⟨rfl, hb2⟩
        have HB2 := Lib.hid (HB.out.trans (hb2.mono HB.out.size))
        clear hb2
        go_wp2_with fail
        go_roundg (gk - 1)
        case measure => have := HR.out; omega
        case rel =>
         refine ⟨r + 1, by have := HR.out; omega, by go_num, by rw [← HSE.out, HV.out], fun i hi => ?_, HB2.out⟩
         by_cases e : i = r
         ·rw [e]; exact ⟨HKN.out, HRB.out⟩
         ·exact HALL.out i (by omega)
       | false =>
        have HV := Lib.hid (show s1 = false by rw [HS1.out, hqb]; rfl)
        try clear hk1
        try clear hN1
        try clear hk
        go_wp2_with (refine wpList_load_mid rfl 54 (.tmp 28) rfl b (off + r * 10) rfl cs.toList _ HRA.out Tryz.underlying54 rfl (by rw [Array.length_toList, HSZ.out]; exact node_info) ?_)
        refine (HRC.out).mono ?_
        rintro e w2 ⟨rfl, hb2⟩
        have HB2 := Lib.hid (HB.out.trans (hb2.mono HB.out.size))
        clear hb2
        go_wp2_with fail
        go_roundg (gk - 1)
        case measure => have := HR.out; omega
        case rel =>
         refine ⟨r + 1, by have := HR.out; omega, by go_num, by rw [← HSE.out, HV.out], fun i hi => ?_, HB2.out⟩
         by_cases e : i = r
         ·rw [e]; exact ⟨HKN.out, HRB.out⟩
         ·exact HALL.out i (by omega)
   ·obtain rfl : r = n := by have := HR.out; omega
    have hlt' : decide (r < r) = false := decide_eq_false hlt
    have HPB := Lib.hid (HP1.out HALL.out)
    have HSUE := HSU.out
    rw [HSUE]
    cases hsb : sb with
    | false =>
     have HF := Lib.hid (show R = false by rw [HRE.out, HPB.out, hsb]; rfl)
     clear hsb HSUE
     go_wp2_with fail
     go_ret
     exact ⟨retB HF.out, HB.out⟩
    | true =>
     have HSB := Lib.hid hsb
     clear hsb HSUE
     go_wp2_with fail
     go_loopg [7] r (fun q2 iv wr => ∃ x : Nat, x + q2 = r ∧ iv = .int .i64 (x : Nat) ∧ (∀ i, i < x → lateTB t i = true) ∧ Below w'.heap.size w' wr)
     case atStart => exact ⟨0, by omega, rfl, fun i hi => by omega, HB.out⟩
     case round =>
      obtain ⟨x, hx, rfl, hall, hb⟩ := hrel
      have HX := Lib.hid hx
      have HA2 := Lib.hid hall
      have HB2 := Lib.hid hb
      clear hx hall hb
      by_cases hxn : x < r
      ·have hxn' : decide (x < r) = true := decide_eq_true hxn
       obtain ⟨b, off, l, e, eab, hbl, ck, cl, hrl⟩ := HGA.out wr HB2.out x hxn
       subst eab
       obtain ⟨k0, hk0⟩ : ∃ k, k = (nd t x).par.late.length := ⟨_, rfl⟩
       have hk60 := H60.out x
       rw [← hk0] at cl hrl hk60
       have HRL := Lib.hid hrl
       have HK0 := Lib.hid hk0
       have HBL := Lib.hid hbl
       clear ck hrl hk0 hbl
       go_wp2_with fail
       obtain ⟨g1, rfl⟩ : ∃ g1, g1 = gk := ⟨_, rfl⟩
       obtain ⟨w1, rfl⟩ : ∃ w1, w1 = wr := ⟨_, rfl⟩
       go_loopg [9] k0 (fun q2 iv wr => ∃ s : Nat, s + q2 = k0 ∧ iv = .int .i64 (s : Nat) ∧ (∀ i, i < s → LateP t x ((nd t x).par.late.getD i 0)) ∧ Below w1.heap.size w1 wr)
       case atStart => exact ⟨0, by omega, rfl, fun i hi => by omega, Below.refl _ _⟩
       case round =>
        obtain ⟨s, hs, rfl, hall, hb⟩ := hrel
        have HS := Lib.hid hs
        have HA3 := Lib.hid hall
        have HB3 := Lib.hid hb
        clear hs hall hb
        by_cases hsk : s < k0
        ·have hsk' : decide (s < k0) = true := decide_eq_true hsk
         have hsl : s < (nd t x).par.late.length := by have := HK0.out; omega
         obtain ⟨bl, ol, el', hbll, cm⟩ := HRL.out.at3 (u := .int .i64 ((nd t x).par.late.getD s 0)) (r := s) (by simp [ivs, List.getD_eq_getElem?_getD, hsl])
         subst el'
         obtain ⟨m, hm, hm16⟩ := HNAT.out HPB.out x s hxn hsl
         rw [hm] at cm
         have HCM := Lib.hid cm
         have cm1 := (HB3.out.cell (p := ⟨bl, ol + s, none⟩) hbll).trans cm
         have HM := Lib.hid hm
         have NOM := Lib.hid (fun (hh : ¬ LateP t x (m : Int)) => (show R = false by
          have h1 := HNO.out x s hsl (by rw [HM.out]; exact hh)
          rw [HRE.out, HL2.out x hxn h1]; simp))
         obtain ⟨q, hq⟩ : ∃ q, q = 2 * m := ⟨_, rfl⟩
         have hqI : 2 * (m : Int) = (q : Int) := by omega
         have HQ := Lib.hid hq
         have HHBLL := Lib.hid hbll
         clear hq hm cm hsl hbll
         have HBW := Lib.hid (HB2.out.trans (HB3.out.mono HB2.out.size))
         by_cases c1 : N ≤ m
         ·have g1' : decide (N ≤ m) = true := decide_eq_true c1
          have HF := Lib.hid (NOM.out (fun hh => by have := ((HLP.out m x).1 hh).1; omega))
          go_wp2_with fail
          go_ret
          exact ⟨retB HF.out, HBW.out⟩
         ·have g1' : decide (N ≤ m) = false := decide_eq_false c1
          have hqn : q < r := by have := HQ.out; omega
          have hqw : IntKind.i64.wrap (q : Int) = (q : Int) := by rw [IntKind.wrap_i64]; omega
          obtain ⟨b', off', l2, e2, eb, hblq, ckq, _, _⟩ := HGA.out wr HBW.out q hqn
          simp only [Option.some.injEq, Addr.mk.injEq, and_true] at eb
          obtain ⟨rfl, rfl⟩ := eb
          obtain ⟨kq, hkq⟩ : ∃ k, k = (nd t q).kind := ⟨_, rfl⟩
          rw [← hkq] at ckq
          by_cases c2 : kq = 1
          ·have HKQ := Lib.hid (show (nd t q).kind = 1 by rw [← hkq]; exact c2)
           rw [c2] at ckq
           have ckq' : wr.cell? ⟨b, off + q * 10, none⟩ = some (.int .u8 1) := ckq
           clear hkq c2 ckq
           cases hun : undZ (q : Int) (x : Int) with
           | false =>
            have HF := Lib.hid (NOM.out (fun hh => by
             have := ((HLP.out m x).1 hh).2.1
             rw [← HQ.out, hun] at this
             cases this))
            have U0 := runder_any (q : Int) (x : Int) wr
            rw [hun] at U0
            have HU0 := Lib.hid U0
            clear U0 hun
            go_wp2_with fail
            refine (HU0.out).mono ?_
            rintro e' w2 ⟨rfl, hb2⟩
            have HBX := Lib.hid (HBW.out.trans (hb2.mono HBW.out.size))
            clear hb2
            go_wp2_with fail
            go_ret
            exact ⟨retB HF.out, HBX.out⟩
           | true =>
            have HUND := Lib.hid hun
            have U0 := runder_any (q : Int) (x : Int) wr
            rw [hun] at U0
            have HU0 := Lib.hid U0
            clear U0 hun
            go_wp2_with fail
            refine (HU0.out).mono ?_
            rintro e' w2 ⟨rfl, hb2⟩
            have HB4 := Lib.hid (HB3.out.trans (hb2.mono HB3.out.size))
            clear hb2 cm1 ckq'
            go_wp2_with fail
            obtain ⟨g2, rfl⟩ : ∃ g2, g2 = gk := ⟨_, rfl⟩
            obtain ⟨w3, rfl⟩ : ∃ w3, w3 = wr := ⟨_, rfl⟩
            go_loopg [10] r (fun q2 iv wr => ∃ y : Nat, y + q2 = r ∧ iv = .int .i64 (y : Nat) ∧ (∀ i, i < y → (nd t i).kind = 2 → undZ (q : Int) (i : Int) = true → undZ (i : Int) (x : Int) = true → (m : Int) ∈ (nd t i).par.late) ∧ Below w1.heap.size w1 wr)
            case atStart => exact ⟨0, by omega, rfl, fun i hi => by omega, HB4.out⟩
            case round =>
             obtain ⟨y, hy, rfl, hall, hb⟩ := hrel
             have HY := Lib.hid hy
             have HA4 := Lib.hid hall
             have HB5 := Lib.hid hb
             clear hy hall hb
             by_cases hyn : y < r
             ·have hyn' : decide (y < r) = true := decide_eq_true hyn
              have HBY := Lib.hid (HB2.out.trans (HB5.out.mono HB2.out.size))
              obtain ⟨b', off', ly, ey, eb, hbly, cky, cly, hrly⟩ := HGA.out wr HBY.out y hyn
              simp only [Option.some.injEq, Addr.mk.injEq, and_true] at eb
              obtain ⟨rfl, rfl⟩ := eb
              have HTS := fun (W : World) (hw : Below wr.heap.size wr W) => thas_any _ _ (m : Int) W (hrly.below hw (Nat.le_refl _))
              obtain ⟨lyn, hlyn⟩ : ∃ k, k = (nd t y).par.late.length := ⟨_, rfl⟩
              rw [← hlyn] at cly HTS
              obtain ⟨ky, hky⟩ : ∃ k, k = (nd t y).kind := ⟨_, rfl⟩
              rw [← hky] at cky
              have CM := Lib.hid ((HB5.out.cell (p := ⟨bl, ol + s, none⟩) HHBLL.out).trans HCM.out)
              have HBLY := Lib.hid hbly
              have HBLL := Lib.hid (Nat.lt_of_lt_of_le HHBLL.out HB5.out.size)
              have CKY := Lib.hid cky
              have CLY := Lib.hid cly
              have HKY := Lib.hid hky
              have hry := HBY.out.size
              clear cky cly hky hlyn hrly hbly
              have NX := Lib.hid (fun (hh : (nd t y).kind = 2 → undZ (q : Int) (y : Int) = true → undZ (y : Int) (x : Int) = true → (m : Int) ∈ (nd t y).par.late) => (show ∀ i, i < y + 1 → (nd t i).kind = 2 → undZ (q : Int) (i : Int) = true → undZ (i : Int) (x : Int) = true → (m : Int) ∈ (nd t i).par.late from fun i hi => by
               by_cases e : i = y
               ·rw [e]; exact hh
               ·exact HA4.out i (by omega)))
              by_cases c3 : ky = 2
              ·have HK2 := Lib.hid (show (nd t y).kind = 2 by rw [← HKY.out]; exact c3)
               have gky : ((ky : Int) == 2) = true := by rw [beq_iff_eq]; omega
               clear c3
               cases hu1 : undZ (q : Int) (y : Int) with
               | false =>
                have U1' := fun W => runder_any (q : Int) (y : Int) W
                simp only [hu1] at U1'
                have U1 := Lib.hid U1'
                have HN := Lib.hid (NX.out (fun _ h _ => by rw [hu1] at h; cases h))
                clear U1' hu1 HTS
                go_wp2_with fail
                refine wp_region_live [fun v _ => v = .slice (some ⟨b, off, none⟩) r c, fun v _ => v = .int .i64 (y : Nat), fun v _ => v = .pointer (some ⟨b, off + y * 10, none⟩), fun v _ => v = .pointer (some ⟨b, off + y * 10, none⟩), fun v _ => v = .int .u8 (ky : Nat), fun v _ => v = .bool true, fun v _ => v = .bool true, fun v _ => v = .slice (some ⟨bl, ol, none⟩) k0 e, fun v _ => v = .int .i64 (s : Nat), fun v _ => v = .pointer (some ⟨bl, ol + s, none⟩), fun v _ => v = .int .i64 (m : Nat), fun v _ => v = .int .i64 (q : Nat), fun v _ => v = .int .i64 (y : Nat), fun v _ => v = .bool false, fun v _ => v = .bool false, fun v _ => v = .bool false, fun v _ => v = undef, fun v _ => v = undef, fun v _ => v = undef, fun v _ => v = .bool false, fun v _ => v = .bool false, fun v _ => v = undef, fun v _ => v = undef, fun v _ => v = undef, fun v _ => v = undef, fun v _ => v = undef, fun v _ => v = undef, fun v _ => v = undef, fun v _ => v = undef, fun v _ => v = undef, fun v _ => v = undef, fun v _ => v = undef, fun v _ => v = undef, fun v _ => v = .bool false]
                 [false, false, false, false, false, false, false, false, false, false, false, false, false, false, false, false, false, false, false, false, false, false, false, false, false, false, false, false, false, false, false, false, false, true] [] [true, true, true, true, true, true, true, true, true, true, true, true, true, true, true, true, true, true, true, true, true, true, true, true, true, true, true, true, true, true, true, true, true, true]
                 (by kernel_rfl) ?_ (by kernel_rfl) (by kernel_rfl) ?_ (by kernel_rfl) ?_ ?_
                ·exact keeps_cons (fun _ _ _ h _ => h) (keeps_cons (fun _ _ _ h _ => h) (keeps_cons (fun _ _ _ h _ => h) (keeps_cons (fun _ _ _ h _ => h) (keeps_cons (fun _ _ _ h _ => h) (keeps_cons (fun _ _ _ h _ => h) (keeps_cons (fun _ _ _ h _ => h) (keeps_cons (fun _ _ _ h _ => h) (keeps_cons (fun _ _ _ h _ => h) (keeps_cons (fun _ _ _ h _ => h) (keeps_cons (fun _ _ _ h _ => h) (keeps_cons (fun _ _ _ h _ => h) (keeps_cons (fun _ _ _ h _ => h) (keeps_cons (fun _ _ _ h _ => h) (keeps_cons (fun _ _ _ h _ => h) (keeps_cons (fun _ _ _ h _ => h) (keeps_cons (fun _ _ _ h _ => h) (keeps_cons (fun _ _ _ h _ => h) (keeps_cons (fun _ _ _ h _ => h) (keeps_cons (fun _ _ _ h _ => h) (keeps_cons (fun _ _ _ h _ => h) (keeps_cons (fun _ _ _ h _ => h) (keeps_cons (fun _ _ _ h _ => h) (keeps_cons (fun _ _ _ h _ => h) (keeps_cons (fun _ _ _ h _ => h) (keeps_cons (fun _ _ _ h _ => h) (keeps_cons (fun _ _ _ h _ => h) (keeps_cons (fun _ _ _ h _ => h) (keeps_cons (fun _ _ _ h _ => h) (keeps_cons (fun _ _ _ h _ => h) (keeps_cons (fun _ _ _ h _ => h) (keeps_cons (fun _ _ _ h _ => h) (keeps_cons (fun _ _ _ h _ => h) (keeps_cons (fun _ _ _ h _ => h) (keeps_nil))))))))))))))))))))))))))))))))))
                ·exact pures_t (fun _ _ _ h => h) (pures_t (fun _ _ _ h => h) (pures_t (fun _ _ _ h => h) (pures_t (fun _ _ _ h => h) (pures_t (fun _ _ _ h => h) (pures_t (fun _ _ _ h => h) (pures_t (fun _ _ _ h => h) (pures_t (fun _ _ _ h => h) (pures_t (fun _ _ _ h => h) (pures_t (fun _ _ _ h => h) (pures_t (fun _ _ _ h => h) (pures_t (fun _ _ _ h => h) (pures_t (fun _ _ _ h => h) (pures_t (fun _ _ _ h => h) (pures_t (fun _ _ _ h => h) (pures_t (fun _ _ _ h => h) (pures_t (fun _ _ _ h => h) (pures_t (fun _ _ _ h => h) (pures_t (fun _ _ _ h => h) (pures_t (fun _ _ _ h => h) (pures_t (fun _ _ _ h => h) (pures_t (fun _ _ _ h => h) (pures_t (fun _ _ _ h => h) (pures_t (fun _ _ _ h => h) (pures_t (fun _ _ _ h => h) (pures_t (fun _ _ _ h => h) (pures_t (fun _ _ _ h => h) (pures_t (fun _ _ _ h => h) (pures_t (fun _ _ _ h => h) (pures_t (fun _ _ _ h => h) (pures_t (fun _ _ _ h => h) (pures_t (fun _ _ _ h => h) (pures_t (fun _ _ _ h => h) (pures_t (fun _ _ _ h => h) (pures_nil))))))))))))))))))))))))))))))))))
                ·refine .cons (owed2_go ?_) (.cons (owed2_go ?_) (.cons (owed2_go ?_) (.cons (owed2_go ?_) (.cons (owed2_go ?_) (.cons (owed2_go ?_) (.cons (owed2_go ?_) (.cons (owed2_go ?_) (.cons (owed2_go ?_) (.cons (owed2_go ?_) (.cons (owed2_go ?_) (.cons (owed2_go ?_) (.cons (owed2_go ?_) (.cons (owed2_go ?_) (.cons (owed2_go ?_) (.cons (owed2_go ?_) (.cons (owed2_off rfl ?_) (.cons (owed2_off rfl ?_) (.cons (owed2_off rfl ?_) (.cons (owed2_go ?_) (.cons (owed2_go ?_) (.cons (owed2_off rfl ?_) (.cons (owed2_off rfl ?_) (.cons (owed2_off rfl ?_) (.cons (owed2_off rfl ?_) (.cons (owed2_off rfl ?_) (.cons (owed2_off rfl ?_) (.cons (owed2_off rfl ?_) (.cons (owed2_off rfl ?_) (.cons (owed2_off rfl ?_) (.cons (owed2_off rfl ?_) (.cons (owed2_off rfl ?_) (.cons (owed2_off rfl ?_) (.cons (owed2_go ?_) (.nil))))))))))))))))))))))))))))))))))
                 ·intro a wx hbx ho hf
                  refine ⟨rfl, ?_⟩
                  intro K hK
                  have e0 : a.tmps[0]?.getD undef = .slice (some ⟨b, off, none⟩) r c := ho 0 (by kernel_rfl)
                  go_simp
                  exact hK _ _ rfl (Below.refl _ _)
                 ·intro a wx hbx ho hf
                  refine ⟨rfl, ?_⟩
                  intro K hK
                  have e0 : a.tmps[10]?.getD undef = .int .i64 (y : Nat) := ho 10 (by kernel_rfl)
                  go_simp
                  exact hK _ _ rfl (Below.refl _ _)
                 ·intro a wx hbx ho hf
                  refine ⟨rfl, ?_⟩
                  intro K hK
                  have e0 : a.tmps[118]?.getD undef = .slice (some ⟨b, off, none⟩) r c := hf.1
                  have e1 : a.tmps[119]?.getD undef = .int .i64 (y : Nat) := hf.2.1
                  go_simp
                  exact hK _ _ rfl (Below.refl _ _)
                 ·intro a wx hbx ho hf
                  refine ⟨rfl, ?_⟩
                  intro K hK
                  have e0 : a.tmps[120]?.getD undef = .pointer (some ⟨b, off + y * 10, none⟩) := hf.1
                  go_simp
                  exact hK _ _ rfl (Below.refl _ _)
                 ·intro a wx hbx ho hf
                  refine ⟨rfl, ?_⟩
                  intro K hK
                  have e0 : a.tmps[121]?.getD undef = .pointer (some ⟨b, off + y * 10, none⟩) := hf.1
                  have d1 := (hbx.cell (p := ⟨b, off + y * 10, none⟩) HBLY.out).trans CKY.out
                  go_simp
                  exact hK _ _ rfl (Below.refl _ _)
                 ·intro a wx hbx ho hf
                  refine ⟨rfl, ?_⟩
                  intro K hK
                  have e0 : a.tmps[122]?.getD undef = .int .u8 (ky : Nat) := hf.1
                  go_simp
                  exact hK _ _ rfl (Below.refl _ _)
                 ·intro a wx hbx ho hf
                  refine ⟨rfl, ?_⟩
                  intro K hK
                  have e0 : a.tmps[123]?.getD undef = .bool true := hf.1
                  go_simp
                  exact hK _ _ rfl (Below.refl _ _)
                 ·intro a wx hbx ho hf
                  refine ⟨wanted_slot (j := 6) (b := true) (s := 124) rfl rfl rfl (hf.1), ?_⟩
                  intro K hK
                  have e0 : a.tmps[8]?.getD undef = .slice (some ⟨bl, ol, none⟩) k0 e := ho 8 (by kernel_rfl)
                  go_simp
                  exact hK _ _ rfl (Below.refl _ _)
                 ·intro a wx hbx ho hf
                  refine ⟨wanted_slot (j := 6) (b := true) (s := 124) rfl rfl rfl (hf.1), ?_⟩
                  intro K hK
                  have e0 : a.tmps[9]?.getD undef = .int .i64 (s : Nat) := ho 9 (by kernel_rfl)
                  go_simp
                  exact hK _ _ rfl (Below.refl _ _)
                 ·intro a wx hbx ho hf
                  refine ⟨wanted_slot (j := 6) (b := true) (s := 124) rfl rfl rfl (hf.2.2.1), ?_⟩
                  intro K hK
                  have e0 : a.tmps[125]?.getD undef = .slice (some ⟨bl, ol, none⟩) k0 e := hf.1
                  have e1 : a.tmps[126]?.getD undef = .int .i64 (s : Nat) := hf.2.1
                  go_simp
                  exact hK _ _ rfl (Below.refl _ _)
                 ·intro a wx hbx ho hf
                  refine ⟨wanted_slot (j := 6) (b := true) (s := 124) rfl rfl rfl (hf.2.1), ?_⟩
                  intro K hK
                  have e0 : a.tmps[127]?.getD undef = .pointer (some ⟨bl, ol + s, none⟩) := hf.1
                  have d1 := (hbx.cell (p := ⟨bl, ol + s, none⟩) HBLL.out).trans CM.out
                  go_simp
                  exact hK _ _ rfl (Below.refl _ _)
                 ·intro a wx hbx ho hf
                  refine ⟨wanted_slot (j := 6) (b := true) (s := 124) rfl rfl rfl (hf.2.1), ?_⟩
                  intro K hK
                  have e0 : a.tmps[128]?.getD undef = .int .i64 (m : Nat) := hf.1
                  go_simp
                  exact hK _ _ rfl (Below.refl _ _)
                 ·intro a wx hbx ho hf
                  refine ⟨wanted_slot (j := 6) (b := true) (s := 124) rfl rfl rfl (hf.1), ?_⟩
                  intro K hK
                  have e0 : a.tmps[10]?.getD undef = .int .i64 (y : Nat) := ho 10 (by kernel_rfl)
                  go_simp
                  exact hK _ _ rfl (Below.refl _ _)
                 ·intro a wx hbx ho hf
                  refine ⟨wanted_slot (j := 6) (b := true) (s := 124) rfl rfl rfl (hf.2.2.1), ?_⟩
                  intro K hK
                  have e0 : a.tmps[129]?.getD undef = .int .i64 (q : Nat) := hf.1
                  have e1 : a.tmps[130]?.getD undef = .int .i64 (y : Nat) := hf.2.1
                  go_simp
                  refine (U1.out wx).mono ?_
                  rintro e w2 ⟨rfl, hb2⟩
                  exact hK _ _ rfl hb2
                 ·intro a wx hbx ho hf
                  refine ⟨rfl, ?_⟩
                  intro K hK
                  have e0 : a.tmps[124]?.getD undef = .bool true := hf.1
                  have e1 : a.tmps[131]?.getD undef = .bool false := hf.2.1
                  go_simp
                  exact hK _ _ rfl (Below.refl _ _)
                 ·intro a wx hbx ho hf
                  refine ⟨rfl, ?_⟩
                  intro K hK
                  have e0 : a.tmps[132]?.getD undef = .bool false := hf.1
                  go_simp
                  exact hK _ _ rfl (Below.refl _ _)
                 ·intro a wx hbx ho hf
                  exact wanted_off (j := 15) (b := true) (s := 133) rfl rfl rfl (hf.1) (by first | (simp; done) | (simp [undef]; done) | (intro h; cases h))
                 ·intro a wx hbx ho hf
                  exact wanted_off (j := 15) (b := true) (s := 133) rfl rfl rfl (hf.1) (by first | (simp; done) | (simp [undef]; done) | (intro h; cases h))
                 ·intro a wx hbx ho hf
                  exact wanted_off (j := 15) (b := true) (s := 133) rfl rfl rfl (hf.2.2.1) (by first | (simp; done) | (simp [undef]; done) | (intro h; cases h))
                 ·intro a wx hbx ho hf
                  refine ⟨rfl, ?_⟩
                  intro K hK
                  have e0 : a.tmps[133]?.getD undef = .bool false := hf.1
                  go_simp
                  exact hK _ _ rfl (Below.refl _ _)
                 ·intro a wx hbx ho hf
                  refine ⟨rfl, ?_⟩
                  intro K hK
                  have e0 : a.tmps[137]?.getD undef = .bool false := hf.1
                  go_simp
                  exact hK _ _ rfl (Below.refl _ _)
                 ·intro a wx hbx ho hf
                  exact wanted_off (j := 20) (b := true) (s := 138) rfl rfl rfl (hf.1) (by first | (simp; done) | (simp [undef]; done) | (intro h; cases h))
                 ·intro a wx hbx ho hf
                  exact wanted_off (j := 20) (b := true) (s := 138) rfl rfl rfl (hf.1) (by first | (simp; done) | (simp [undef]; done) | (intro h; cases h))
                 ·intro a wx hbx ho hf
                  exact wanted_off (j := 20) (b := true) (s := 138) rfl rfl rfl (hf.2.2.1) (by first | (simp; done) | (simp [undef]; done) | (intro h; cases h))
                 ·intro a wx hbx ho hf
                  exact wanted_off (j := 20) (b := true) (s := 138) rfl rfl rfl (hf.2.1) (by first | (simp; done) | (simp [undef]; done) | (intro h; cases h))
                 ·intro a wx hbx ho hf
                  exact wanted_off (j := 20) (b := true) (s := 138) rfl rfl rfl (hf.2.1) (by first | (simp; done) | (simp [undef]; done) | (intro h; cases h))
                 ·intro a wx hbx ho hf
                  exact wanted_off (j := 20) (b := true) (s := 138) rfl rfl rfl (hf.2.1) (by first | (simp; done) | (simp [undef]; done) | (intro h; cases h))
                 ·intro a wx hbx ho hf
                  exact wanted_off (j := 20) (b := true) (s := 138) rfl rfl rfl (hf.1) (by first | (simp; done) | (simp [undef]; done) | (intro h; cases h))
                 ·intro a wx hbx ho hf
                  exact wanted_off (j := 20) (b := true) (s := 138) rfl rfl rfl (hf.1) (by first | (simp; done) | (simp [undef]; done) | (intro h; cases h))
                 ·intro a wx hbx ho hf
                  exact wanted_off (j := 20) (b := true) (s := 138) rfl rfl rfl (hf.2.2.1) (by first | (simp; done) | (simp [undef]; done) | (intro h; cases h))
                 ·intro a wx hbx ho hf
                  exact wanted_off (j := 20) (b := true) (s := 138) rfl rfl rfl (hf.2.1) (by first | (simp; done) | (simp [undef]; done) | (intro h; cases h))
                 ·intro a wx hbx ho hf
                  exact wanted_off (j := 20) (b := true) (s := 138) rfl rfl rfl (hf.2.2.1) (by first | (simp; done) | (simp [undef]; done) | (intro h; cases h))
                 ·intro a wx hbx ho hf
                  exact wanted_off (j := 20) (b := true) (s := 138) rfl rfl rfl (hf.2.1) (by first | (simp; done) | (simp [undef]; done) | (intro h; cases h))
                 ·intro a wx hbx ho hf
                  refine ⟨rfl, ?_⟩
                  intro K hK
                  have e0 : a.tmps[138]?.getD undef = .bool false := hf.1
                  go_simp
                  exact hK _ _ rfl (Below.refl _ _)
                ·rintro f w9 hb9 hfin
                 have hfe : f 151 = .bool false := hfin.2.2.2.2.2.2.2.2.2.2.2.2.2.2.2.2.2.2.2.2.2.2.2.2.2.2.2.2.2.2.2.2.2.1
                 clear hfin
                 simp only [frameOf, dstsOf, zipF, List.filterMap_cons, List.filterMap_nil, List.contains_cons, List.contains_nil, Nat.reduceBEq, Nat.reduceAdd, Bool.or_false, Bool.or_true, cond_true, cond_false]
                 rw [hfe]
                 have HB9 := Lib.hid (HB5.out.trans (hb9.mono HB5.out.size))
                 clear hb9 hfe
                 go_wp2_with fail
                 go_roundg (gk - 1)
                 case measure => have := HY.out; omega
                 case rel => exact ⟨y + 1, by have := HY.out; omega, by go_num, HN.out, HB9.out⟩
               | true =>
                have U1' := fun W => runder_any (q : Int) (y : Int) W
                simp only [hu1] at U1'
                have U1 := Lib.hid U1'
                have HU1 := Lib.hid hu1
                clear U1' hu1
                cases hu2 : undZ (y : Int) (x : Int) with
                | false =>
                 have U2' := fun W => runder_any (y : Int) (x : Int) W
                 simp only [hu2] at U2'
                 have U2 := Lib.hid U2'
                 have HN := Lib.hid (NX.out (fun _ _ h => by rw [hu2] at h; cases h))
                 clear U2' hu2 HTS
                 go_wp2_with fail
                 refine wp_region_live [fun v _ => v = .slice (some ⟨b, off, none⟩) r c, fun v _ => v = .int .i64 (y : Nat), fun v _ => v = .pointer (some ⟨b, off + y * 10, none⟩), fun v _ => v = .pointer (some ⟨b, off + y * 10, none⟩), fun v _ => v = .int .u8 (ky : Nat), fun v _ => v = .bool true, fun v _ => v = .bool true, fun v _ => v = .slice (some ⟨bl, ol, none⟩) k0 e, fun v _ => v = .int .i64 (s : Nat), fun v _ => v = .pointer (some ⟨bl, ol + s, none⟩), fun v _ => v = .int .i64 (m : Nat), fun v _ => v = .int .i64 (q : Nat), fun v _ => v = .int .i64 (y : Nat), fun v _ => v = .bool true, fun v _ => v = .bool true, fun v _ => v = .bool true, fun v _ => v = .int .i64 (y : Nat), fun v _ => v = .int .i64 (x : Nat), fun v _ => v = .bool false, fun v _ => v = .bool false, fun v _ => v = .bool false, fun v _ => v = undef, fun v _ => v = undef, fun v _ => v = undef, fun v _ => v = undef, fun v _ => v = undef, fun v _ => v = undef, fun v _ => v = undef, fun v _ => v = undef, fun v _ => v = undef, fun v _ => v = undef, fun v _ => v = undef, fun v _ => v = undef, fun v _ => v = .bool false]
                  [false, false, false, false, false, false, false, false, false, false, false, false, false, false, false, false, false, false, false, false, false, false, false, false, false, false, false, false, false, false, false, false, false, true] [] [true, true, true, true, true, true, true, true, true, true, true, true, true, true, true, true, true, true, true, true, true, true, true, true, true, true, true, true, true, true, true, true, true, true]
                  (by kernel_rfl) ?_ (by kernel_rfl) (by kernel_rfl) ?_ (by kernel_rfl) ?_ ?_
                 ·exact keeps_cons (fun _ _ _ h _ => h) (keeps_cons (fun _ _ _ h _ => h) (keeps_cons (fun _ _ _ h _ => h) (keeps_cons (fun _ _ _ h _ => h) (keeps_cons (fun _ _ _ h _ => h) (keeps_cons (fun _ _ _ h _ => h) (keeps_cons (fun _ _ _ h _ => h) (keeps_cons (fun _ _ _ h _ => h) (keeps_cons (fun _ _ _ h _ => h) (keeps_cons (fun _ _ _ h _ => h) (keeps_cons (fun _ _ _ h _ => h) (keeps_cons (fun _ _ _ h _ => h) (keeps_cons (fun _ _ _ h _ => h) (keeps_cons (fun _ _ _ h _ => h) (keeps_cons (fun _ _ _ h _ => h) (keeps_cons (fun _ _ _ h _ => h) (keeps_cons (fun _ _ _ h _ => h) (keeps_cons (fun _ _ _ h _ => h) (keeps_cons (fun _ _ _ h _ => h) (keeps_cons (fun _ _ _ h _ => h) (keeps_cons (fun _ _ _ h _ => h) (keeps_cons (fun _ _ _ h _ => h) (keeps_cons (fun _ _ _ h _ => h) (keeps_cons (fun _ _ _ h _ => h) (keeps_cons (fun _ _ _ h _ => h) (keeps_cons (fun _ _ _ h _ => h) (keeps_cons (fun _ _ _ h _ => h) (keeps_cons (fun _ _ _ h _ => h) (keeps_cons (fun _ _ _ h _ => h) (keeps_cons (fun _ _ _ h _ => h) (keeps_cons (fun _ _ _ h _ => h) (keeps_cons (fun _ _ _ h _ => h) (keeps_cons (fun _ _ _ h _ => h) (keeps_cons (fun _ _ _ h _ => h) (keeps_nil))))))))))))))))))))))))))))))))))
                 ·exact pures_t (fun _ _ _ h => h) (pures_t (fun _ _ _ h => h) (pures_t (fun _ _ _ h => h) (pures_t (fun _ _ _ h => h) (pures_t (fun _ _ _ h => h) (pures_t (fun _ _ _ h => h) (pures_t (fun _ _ _ h => h) (pures_t (fun _ _ _ h => h) (pures_t (fun _ _ _ h => h) (pures_t (fun _ _ _ h => h) (pures_t (fun _ _ _ h => h) (pures_t (fun _ _ _ h => h) (pures_t (fun _ _ _ h => h) (pures_t (fun _ _ _ h => h) (pures_t (fun _ _ _ h => h) (pures_t (fun _ _ _ h => h) (pures_t (fun _ _ _ h => h) (pures_t (fun _ _ _ h => h) (pures_t (fun _ _ _ h => h) (pures_t (fun _ _ _ h => h) (pures_t (fun _ _ _ h => h) (pures_t (fun _ _ _ h => h) (pures_t (fun _ _ _ h => h) (pures_t (fun _ _ _ h => h) (pures_t (fun _ _ _ h => h) (pures_t (fun _ _ _ h => h) (pures_t (fun _ _ _ h => h) (pures_t (fun _ _ _ h => h) (pures_t (fun _ _ _ h => h) (pures_t (fun _ _ _ h => h) (pures_t (fun _ _ _ h => h) (pures_t (fun _ _ _ h => h) (pures_t (fun _ _ _ h => h) (pures_t (fun _ _ _ h => h) (pures_nil))))))))))))))))))))))))))))))))))
                 ·refine .cons (owed2_go ?_) (.cons (owed2_go ?_) (.cons (owed2_go ?_) (.cons (owed2_go ?_) (.cons (owed2_go ?_) (.cons (owed2_go ?_) (.cons (owed2_go ?_) (.cons (owed2_go ?_) (.cons (owed2_go ?_) (.cons (owed2_go ?_) (.cons (owed2_go ?_) (.cons (owed2_go ?_) (.cons (owed2_go ?_) (.cons (owed2_go ?_) (.cons (owed2_go ?_) (.cons (owed2_go ?_) (.cons (owed2_go ?_) (.cons (owed2_go ?_) (.cons (owed2_go ?_) (.cons (owed2_go ?_) (.cons (owed2_go ?_) (.cons (owed2_off rfl ?_) (.cons (owed2_off rfl ?_) (.cons (owed2_off rfl ?_) (.cons (owed2_off rfl ?_) (.cons (owed2_off rfl ?_) (.cons (owed2_off rfl ?_) (.cons (owed2_off rfl ?_) (.cons (owed2_off rfl ?_) (.cons (owed2_off rfl ?_) (.cons (owed2_off rfl ?_) (.cons (owed2_off rfl ?_) (.cons (owed2_off rfl ?_) (.cons (owed2_go ?_) (.nil))))))))))))))))))))))))))))))))))
                  ·intro a wx hbx ho hf
                   refine ⟨rfl, ?_⟩
                   intro K hK
                   have e0 : a.tmps[0]?.getD undef = .slice (some ⟨b, off, none⟩) r c := ho 0 (by kernel_rfl)
                   go_simp
                   exact hK _ _ rfl (Below.refl _ _)
                  ·intro a wx hbx ho hf
                   refine ⟨rfl, ?_⟩
                   intro K hK
                   have e0 : a.tmps[10]?.getD undef = .int .i64 (y : Nat) := ho 10 (by kernel_rfl)
                   go_simp
                   exact hK _ _ rfl (Below.refl _ _)
                  ·intro a wx hbx ho hf
                   refine ⟨rfl, ?_⟩
                   intro K hK
                   have e0 : a.tmps[118]?.getD undef = .slice (some ⟨b, off, none⟩) r c := hf.1
                   have e1 : a.tmps[119]?.getD undef = .int .i64 (y : Nat) := hf.2.1
                   go_simp
                   exact hK _ _ rfl (Below.refl _ _)
                  ·intro a wx hbx ho hf
                   refine ⟨rfl, ?_⟩
                   intro K hK
                   have e0 : a.tmps[120]?.getD undef = .pointer (some ⟨b, off + y * 10, none⟩) := hf.1
                   go_simp
                   exact hK _ _ rfl (Below.refl _ _)
                  ·intro a wx hbx ho hf
                   refine ⟨rfl, ?_⟩
                   intro K hK
                   have e0 : a.tmps[121]?.getD undef = .pointer (some ⟨b, off + y * 10, none⟩) := hf.1
                   have d1 := (hbx.cell (p := ⟨b, off + y * 10, none⟩) HBLY.out).trans CKY.out
                   go_simp
                   exact hK _ _ rfl (Below.refl _ _)
                  ·intro a wx hbx ho hf
                   refine ⟨rfl, ?_⟩
                   intro K hK
                   have e0 : a.tmps[122]?.getD undef = .int .u8 (ky : Nat) := hf.1
                   go_simp
                   exact hK _ _ rfl (Below.refl _ _)
                  ·intro a wx hbx ho hf
                   refine ⟨rfl, ?_⟩
                   intro K hK
                   have e0 : a.tmps[123]?.getD undef = .bool true := hf.1
                   go_simp
                   exact hK _ _ rfl (Below.refl _ _)
                  ·intro a wx hbx ho hf
                   refine ⟨wanted_slot (j := 6) (b := true) (s := 124) rfl rfl rfl (hf.1), ?_⟩
                   intro K hK
                   have e0 : a.tmps[8]?.getD undef = .slice (some ⟨bl, ol, none⟩) k0 e := ho 8 (by kernel_rfl)
                   go_simp
                   exact hK _ _ rfl (Below.refl _ _)
                  ·intro a wx hbx ho hf
                   refine ⟨wanted_slot (j := 6) (b := true) (s := 124) rfl rfl rfl (hf.1), ?_⟩
                   intro K hK
                   have e0 : a.tmps[9]?.getD undef = .int .i64 (s : Nat) := ho 9 (by kernel_rfl)
                   go_simp
                   exact hK _ _ rfl (Below.refl _ _)
                  ·intro a wx hbx ho hf
                   refine ⟨wanted_slot (j := 6) (b := true) (s := 124) rfl rfl rfl (hf.2.2.1), ?_⟩
                   intro K hK
                   have e0 : a.tmps[125]?.getD undef = .slice (some ⟨bl, ol, none⟩) k0 e := hf.1
                   have e1 : a.tmps[126]?.getD undef = .int .i64 (s : Nat) := hf.2.1
                   go_simp
                   exact hK _ _ rfl (Below.refl _ _)
                  ·intro a wx hbx ho hf
                   refine ⟨wanted_slot (j := 6) (b := true) (s := 124) rfl rfl rfl (hf.2.1), ?_⟩
                   intro K hK
                   have e0 : a.tmps[127]?.getD undef = .pointer (some ⟨bl, ol + s, none⟩) := hf.1
                   have d1 := (hbx.cell (p := ⟨bl, ol + s, none⟩) HBLL.out).trans CM.out
                   go_simp
                   exact hK _ _ rfl (Below.refl _ _)
                  ·intro a wx hbx ho hf
                   refine ⟨wanted_slot (j := 6) (b := true) (s := 124) rfl rfl rfl (hf.2.1), ?_⟩
                   intro K hK
                   have e0 : a.tmps[128]?.getD undef = .int .i64 (m : Nat) := hf.1
                   go_simp
                   exact hK _ _ rfl (Below.refl _ _)
                  ·intro a wx hbx ho hf
                   refine ⟨wanted_slot (j := 6) (b := true) (s := 124) rfl rfl rfl (hf.1), ?_⟩
                   intro K hK
                   have e0 : a.tmps[10]?.getD undef = .int .i64 (y : Nat) := ho 10 (by kernel_rfl)
                   go_simp
                   exact hK _ _ rfl (Below.refl _ _)
                  ·intro a wx hbx ho hf
                   refine ⟨wanted_slot (j := 6) (b := true) (s := 124) rfl rfl rfl (hf.2.2.1), ?_⟩
                   intro K hK
                   have e0 : a.tmps[129]?.getD undef = .int .i64 (q : Nat) := hf.1
                   have e1 : a.tmps[130]?.getD undef = .int .i64 (y : Nat) := hf.2.1
                   go_simp
                   refine (U1.out wx).mono ?_
                   rintro e w2 ⟨rfl, hb2⟩
                   exact hK _ _ rfl hb2
                  ·intro a wx hbx ho hf
                   refine ⟨rfl, ?_⟩
                   intro K hK
                   have e0 : a.tmps[124]?.getD undef = .bool true := hf.1
                   have e1 : a.tmps[131]?.getD undef = .bool true := hf.2.1
                   go_simp
                   exact hK _ _ rfl (Below.refl _ _)
                  ·intro a wx hbx ho hf
                   refine ⟨rfl, ?_⟩
                   intro K hK
                   have e0 : a.tmps[132]?.getD undef = .bool true := hf.1
                   go_simp
                   exact hK _ _ rfl (Below.refl _ _)
                  ·intro a wx hbx ho hf
                   refine ⟨wanted_slot (j := 15) (b := true) (s := 133) rfl rfl rfl (hf.1), ?_⟩
                   intro K hK
                   have e0 : a.tmps[10]?.getD undef = .int .i64 (y : Nat) := ho 10 (by kernel_rfl)
                   go_simp
                   exact hK _ _ rfl (Below.refl _ _)
                  ·intro a wx hbx ho hf
                   refine ⟨wanted_slot (j := 15) (b := true) (s := 133) rfl rfl rfl (hf.1), ?_⟩
                   intro K hK
                   have e0 : a.tmps[7]?.getD undef = .int .i64 (x : Nat) := ho 7 (by kernel_rfl)
                   go_simp
                   exact hK _ _ rfl (Below.refl _ _)
                  ·intro a wx hbx ho hf
                   refine ⟨wanted_slot (j := 15) (b := true) (s := 133) rfl rfl rfl (hf.2.2.1), ?_⟩
                   intro K hK
                   have e0 : a.tmps[134]?.getD undef = .int .i64 (y : Nat) := hf.1
                   have e1 : a.tmps[135]?.getD undef = .int .i64 (x : Nat) := hf.2.1
                   go_simp
                   refine (U2.out wx).mono ?_
                   rintro e w2 ⟨rfl, hb2⟩
                   exact hK _ _ rfl hb2
                  ·intro a wx hbx ho hf
                   refine ⟨rfl, ?_⟩
                   intro K hK
                   have e0 : a.tmps[133]?.getD undef = .bool true := hf.1
                   have e1 : a.tmps[136]?.getD undef = .bool false := hf.2.1
                   go_simp
                   exact hK _ _ rfl (Below.refl _ _)
                  ·intro a wx hbx ho hf
                   refine ⟨rfl, ?_⟩
                   intro K hK
                   have e0 : a.tmps[137]?.getD undef = .bool false := hf.1
                   go_simp
                   exact hK _ _ rfl (Below.refl _ _)
                  ·intro a wx hbx ho hf
                   exact wanted_off (j := 20) (b := true) (s := 138) rfl rfl rfl (hf.1) (by first | (simp; done) | (simp [undef]; done) | (intro h; cases h))
                  ·intro a wx hbx ho hf
                   exact wanted_off (j := 20) (b := true) (s := 138) rfl rfl rfl (hf.1) (by first | (simp; done) | (simp [undef]; done) | (intro h; cases h))
                  ·intro a wx hbx ho hf
                   exact wanted_off (j := 20) (b := true) (s := 138) rfl rfl rfl (hf.2.2.1) (by first | (simp; done) | (simp [undef]; done) | (intro h; cases h))
                  ·intro a wx hbx ho hf
                   exact wanted_off (j := 20) (b := true) (s := 138) rfl rfl rfl (hf.2.1) (by first | (simp; done) | (simp [undef]; done) | (intro h; cases h))
                  ·intro a wx hbx ho hf
                   exact wanted_off (j := 20) (b := true) (s := 138) rfl rfl rfl (hf.2.1) (by first | (simp; done) | (simp [undef]; done) | (intro h; cases h))
                  ·intro a wx hbx ho hf
                   exact wanted_off (j := 20) (b := true) (s := 138) rfl rfl rfl (hf.2.1) (by first | (simp; done) | (simp [undef]; done) | (intro h; cases h))
                  ·intro a wx hbx ho hf
                   exact wanted_off (j := 20) (b := true) (s := 138) rfl rfl rfl (hf.1) (by first | (simp; done) | (simp [undef]; done) | (intro h; cases h))
                  ·intro a wx hbx ho hf
                   exact wanted_off (j := 20) (b := true) (s := 138) rfl rfl rfl (hf.1) (by first | (simp; done) | (simp [undef]; done) | (intro h; cases h))
                  ·intro a wx hbx ho hf
                   exact wanted_off (j := 20) (b := true) (s := 138) rfl rfl rfl (hf.2.2.1) (by first | (simp; done) | (simp [undef]; done) | (intro h; cases h))
                  ·intro a wx hbx ho hf
                   exact wanted_off (j := 20) (b := true) (s := 138) rfl rfl rfl (hf.2.1) (by first | (simp; done) | (simp [undef]; done) | (intro h; cases h))
                  ·intro a wx hbx ho hf
                   exact wanted_off (j := 20) (b := true) (s := 138) rfl rfl rfl (hf.2.2.1) (by first | (simp; done) | (simp [undef]; done) | (intro h; cases h))
                  ·intro a wx hbx ho hf
                   exact wanted_off (j := 20) (b := true) (s := 138) rfl rfl rfl (hf.2.1) (by first | (simp; done) | (simp [undef]; done) | (intro h; cases h))
                  ·intro a wx hbx ho hf
                   refine ⟨rfl, ?_⟩
                   intro K hK
                   have e0 : a.tmps[138]?.getD undef = .bool false := hf.1
                   go_simp
                   exact hK _ _ rfl (Below.refl _ _)
                 ·rintro f w9 hb9 hfin
                  have hfe : f 151 = .bool false := hfin.2.2.2.2.2.2.2.2.2.2.2.2.2.2.2.2.2.2.2.2.2.2.2.2.2.2.2.2.2.2.2.2.2.1
                  clear hfin
                  simp only [frameOf, dstsOf, zipF, List.filterMap_cons, List.filterMap_nil, List.contains_cons, List.contains_nil, Nat.reduceBEq, Nat.reduceAdd, Bool.or_false, Bool.or_true, cond_true, cond_false]
                  rw [hfe]
                  have HB9 := Lib.hid (HB5.out.trans (hb9.mono HB5.out.size))
                  clear hb9 hfe
                  go_wp2_with fail
                  go_roundg (gk - 1)
                  case measure => have := HY.out; omega
                  case rel => exact ⟨y + 1, by have := HY.out; omega, by go_num, HN.out, HB9.out⟩
                | true =>
                 have U2' := fun W => runder_any (y : Int) (x : Int) W
                 simp only [hu2] at U2'
                 have U2 := Lib.hid U2'
                 have HU2 := Lib.hid hu2
                 clear U2' hu2
                 by_cases hin : (m : Int) ∈ (nd t y).par.late
                 ·simp only [decide_eq_true hin] at HTS
                  have HHS := Lib.hid HTS
                  have HN := Lib.hid (NX.out (fun _ _ _ => hin))
                  clear HTS hin
                  go_wp2_with fail
                  refine wp_region_live [fun v _ => v = .slice (some ⟨b, off, none⟩) r c, fun v _ => v = .int .i64 (y : Nat), fun v _ => v = .pointer (some ⟨b, off + y * 10, none⟩), fun v _ => v = .pointer (some ⟨b, off + y * 10, none⟩), fun v _ => v = .int .u8 (ky : Nat), fun v _ => v = .bool true, fun v _ => v = .bool true, fun v _ => v = .slice (some ⟨bl, ol, none⟩) k0 e, fun v _ => v = .int .i64 (s : Nat), fun v _ => v = .pointer (some ⟨bl, ol + s, none⟩), fun v _ => v = .int .i64 (m : Nat), fun v _ => v = .int .i64 (q : Nat), fun v _ => v = .int .i64 (y : Nat), fun v _ => v = .bool true, fun v _ => v = .bool true, fun v _ => v = .bool true, fun v _ => v = .int .i64 (y : Nat), fun v _ => v = .int .i64 (x : Nat), fun v _ => v = .bool true, fun v _ => v = .bool true, fun v _ => v = .bool true, fun v _ => v = .slice (some ⟨b, off, none⟩) r c, fun v _ => v = .int .i64 (y : Nat), fun v _ => v = .pointer (some ⟨b, off + y * 10, none⟩), fun v _ => v = .pointer (some ⟨b, off + y * 10 + 7, none⟩), fun v _ => v = .pointer (some ⟨b, off + y * 10 + 7 + 2, none⟩), fun v _ => v = .slice ly lyn ey, fun v _ => v = .slice (some ⟨bl, ol, none⟩) k0 e, fun v _ => v = .int .i64 (s : Nat), fun v _ => v = .pointer (some ⟨bl, ol + s, none⟩), fun v _ => v = .int .i64 (m : Nat), fun v _ => v = .bool true, fun v _ => v = .bool false, fun v _ => v = .bool false]
                   [false, false, false, false, false, false, false, false, false, false, false, false, false, false, false, false, false, false, false, false, false, false, false, false, false, false, false, false, false, false, false, false, false, true] [] [true, true, true, true, true, true, true, true, true, true, true, true, true, true, true, true, true, true, true, true, true, true, true, true, true, true, true, true, true, true, true, true, true, true]
                   (by kernel_rfl) ?_ (by kernel_rfl) (by kernel_rfl) ?_ (by kernel_rfl) ?_ ?_
                  ·exact keeps_cons (fun _ _ _ h _ => h) (keeps_cons (fun _ _ _ h _ => h) (keeps_cons (fun _ _ _ h _ => h) (keeps_cons (fun _ _ _ h _ => h) (keeps_cons (fun _ _ _ h _ => h) (keeps_cons (fun _ _ _ h _ => h) (keeps_cons (fun _ _ _ h _ => h) (keeps_cons (fun _ _ _ h _ => h) (keeps_cons (fun _ _ _ h _ => h) (keeps_cons (fun _ _ _ h _ => h) (keeps_cons (fun _ _ _ h _ => h) (keeps_cons (fun _ _ _ h _ => h) (keeps_cons (fun _ _ _ h _ => h) (keeps_cons (fun _ _ _ h _ => h) (keeps_cons (fun _ _ _ h _ => h) (keeps_cons (fun _ _ _ h _ => h) (keeps_cons (fun _ _ _ h _ => h) (keeps_cons (fun _ _ _ h _ => h) (keeps_cons (fun _ _ _ h _ => h) (keeps_cons (fun _ _ _ h _ => h) (keeps_cons (fun _ _ _ h _ => h) (keeps_cons (fun _ _ _ h _ => h) (keeps_cons (fun _ _ _ h _ => h) (keeps_cons (fun _ _ _ h _ => h) (keeps_cons (fun _ _ _ h _ => h) (keeps_cons (fun _ _ _ h _ => h) (keeps_cons (fun _ _ _ h _ => h) (keeps_cons (fun _ _ _ h _ => h) (keeps_cons (fun _ _ _ h _ => h) (keeps_cons (fun _ _ _ h _ => h) (keeps_cons (fun _ _ _ h _ => h) (keeps_cons (fun _ _ _ h _ => h) (keeps_cons (fun _ _ _ h _ => h) (keeps_cons (fun _ _ _ h _ => h) (keeps_nil))))))))))))))))))))))))))))))))))
                  ·exact pures_t (fun _ _ _ h => h) (pures_t (fun _ _ _ h => h) (pures_t (fun _ _ _ h => h) (pures_t (fun _ _ _ h => h) (pures_t (fun _ _ _ h => h) (pures_t (fun _ _ _ h => h) (pures_t (fun _ _ _ h => h) (pures_t (fun _ _ _ h => h) (pures_t (fun _ _ _ h => h) (pures_t (fun _ _ _ h => h) (pures_t (fun _ _ _ h => h) (pures_t (fun _ _ _ h => h) (pures_t (fun _ _ _ h => h) (pures_t (fun _ _ _ h => h) (pures_t (fun _ _ _ h => h) (pures_t (fun _ _ _ h => h) (pures_t (fun _ _ _ h => h) (pures_t (fun _ _ _ h => h) (pures_t (fun _ _ _ h => h) (pures_t (fun _ _ _ h => h) (pures_t (fun _ _ _ h => h) (pures_t (fun _ _ _ h => h) (pures_t (fun _ _ _ h => h) (pures_t (fun _ _ _ h => h) (pures_t (fun _ _ _ h => h) (pures_t (fun _ _ _ h => h) (pures_t (fun _ _ _ h => h) (pures_t (fun _ _ _ h => h) (pures_t (fun _ _ _ h => h) (pures_t (fun _ _ _ h => h) (pures_t (fun _ _ _ h => h) (pures_t (fun _ _ _ h => h) (pures_t (fun _ _ _ h => h) (pures_t (fun _ _ _ h => h) (pures_nil))))))))))))))))))))))))))))))))))
                  ·refine .cons (owed2_go ?_) (.cons (owed2_go ?_) (.cons (owed2_go ?_) (.cons (owed2_go ?_) (.cons (owed2_go ?_) (.cons (owed2_go ?_) (.cons (owed2_go ?_) (.cons (owed2_go ?_) (.cons (owed2_go ?_) (.cons (owed2_go ?_) (.cons (owed2_go ?_) (.cons (owed2_go ?_) (.cons (owed2_go ?_) (.cons (owed2_go ?_) (.cons (owed2_go ?_) (.cons (owed2_go ?_) (.cons (owed2_go ?_) (.cons (owed2_go ?_) (.cons (owed2_go ?_) (.cons (owed2_go ?_) (.cons (owed2_go ?_) (.cons (owed2_go ?_) (.cons (owed2_go ?_) (.cons (owed2_go ?_) (.cons (owed2_go ?_) (.cons (owed2_go ?_) (.cons (owed2_go ?_) (.cons (owed2_go ?_) (.cons (owed2_go ?_) (.cons (owed2_go ?_) (.cons (owed2_go ?_) (.cons (owed2_go ?_) (.cons (owed2_go ?_) (.cons (owed2_go ?_) (.nil))))))))))))))))))))))))))))))))))
                   ·intro a wx hbx ho hf
                    refine ⟨rfl, ?_⟩
                    intro K hK
                    have e0 : a.tmps[0]?.getD undef = .slice (some ⟨b, off, none⟩) r c := ho 0 (by kernel_rfl)
                    go_simp
                    exact hK _ _ rfl (Below.refl _ _)
                   ·intro a wx hbx ho hf
                    refine ⟨rfl, ?_⟩
                    intro K hK
                    have e0 : a.tmps[10]?.getD undef = .int .i64 (y : Nat) := ho 10 (by kernel_rfl)
                    go_simp
                    exact hK _ _ rfl (Below.refl _ _)
                   ·intro a wx hbx ho hf
                    refine ⟨rfl, ?_⟩
                    intro K hK
                    have e0 : a.tmps[118]?.getD undef = .slice (some ⟨b, off, none⟩) r c := hf.1
                    have e1 : a.tmps[119]?.getD undef = .int .i64 (y : Nat) := hf.2.1
                    go_simp
                    exact hK _ _ rfl (Below.refl _ _)
                   ·intro a wx hbx ho hf
                    refine ⟨rfl, ?_⟩
                    intro K hK
                    have e0 : a.tmps[120]?.getD undef = .pointer (some ⟨b, off + y * 10, none⟩) := hf.1
                    go_simp
                    exact hK _ _ rfl (Below.refl _ _)
                   ·intro a wx hbx ho hf
                    refine ⟨rfl, ?_⟩
                    intro K hK
                    have e0 : a.tmps[121]?.getD undef = .pointer (some ⟨b, off + y * 10, none⟩) := hf.1
                    have d1 := (hbx.cell (p := ⟨b, off + y * 10, none⟩) HBLY.out).trans CKY.out
                    go_simp
                    exact hK _ _ rfl (Below.refl _ _)
                   ·intro a wx hbx ho hf
                    refine ⟨rfl, ?_⟩
                    intro K hK
                    have e0 : a.tmps[122]?.getD undef = .int .u8 (ky : Nat) := hf.1
                    go_simp
                    exact hK _ _ rfl (Below.refl _ _)
                   ·intro a wx hbx ho hf
                    refine ⟨rfl, ?_⟩
                    intro K hK
                    have e0 : a.tmps[123]?.getD undef = .bool true := hf.1
                    go_simp
                    exact hK _ _ rfl (Below.refl _ _)
                   ·intro a wx hbx ho hf
                    refine ⟨wanted_slot (j := 6) (b := true) (s := 124) rfl rfl rfl (hf.1), ?_⟩
                    intro K hK
                    have e0 : a.tmps[8]?.getD undef = .slice (some ⟨bl, ol, none⟩) k0 e := ho 8 (by kernel_rfl)
                    go_simp
                    exact hK _ _ rfl (Below.refl _ _)
                   ·intro a wx hbx ho hf
                    refine ⟨wanted_slot (j := 6) (b := true) (s := 124) rfl rfl rfl (hf.1), ?_⟩
                    intro K hK
                    have e0 : a.tmps[9]?.getD undef = .int .i64 (s : Nat) := ho 9 (by kernel_rfl)
                    go_simp
                    exact hK _ _ rfl (Below.refl _ _)
                   ·intro a wx hbx ho hf
                    refine ⟨wanted_slot (j := 6) (b := true) (s := 124) rfl rfl rfl (hf.2.2.1), ?_⟩
                    intro K hK
                    have e0 : a.tmps[125]?.getD undef = .slice (some ⟨bl, ol, none⟩) k0 e := hf.1
                    have e1 : a.tmps[126]?.getD undef = .int .i64 (s : Nat) := hf.2.1
                    go_simp
                    exact hK _ _ rfl (Below.refl _ _)
                   ·intro a wx hbx ho hf
                    refine ⟨wanted_slot (j := 6) (b := true) (s := 124) rfl rfl rfl (hf.2.1), ?_⟩
                    intro K hK
                    have e0 : a.tmps[127]?.getD undef = .pointer (some ⟨bl, ol + s, none⟩) := hf.1
                    have d1 := (hbx.cell (p := ⟨bl, ol + s, none⟩) HBLL.out).trans CM.out
                    go_simp
                    exact hK _ _ rfl (Below.refl _ _)
                   ·intro a wx hbx ho hf
                    refine ⟨wanted_slot (j := 6) (b := true) (s := 124) rfl rfl rfl (hf.2.1), ?_⟩
                    intro K hK
                    have e0 : a.tmps[128]?.getD undef = .int .i64 (m : Nat) := hf.1
                    go_simp
                    exact hK _ _ rfl (Below.refl _ _)
                   ·intro a wx hbx ho hf
                    refine ⟨wanted_slot (j := 6) (b := true) (s := 124) rfl rfl rfl (hf.1), ?_⟩
                    intro K hK
                    have e0 : a.tmps[10]?.getD undef = .int .i64 (y : Nat) := ho 10 (by kernel_rfl)
                    go_simp
                    exact hK _ _ rfl (Below.refl _ _)
                   ·intro a wx hbx ho hf
                    refine ⟨wanted_slot (j := 6) (b := true) (s := 124) rfl rfl rfl (hf.2.2.1), ?_⟩
                    intro K hK
                    have e0 : a.tmps[129]?.getD undef = .int .i64 (q : Nat) := hf.1
                    have e1 : a.tmps[130]?.getD undef = .int .i64 (y : Nat) := hf.2.1
                    go_simp
                    refine (U1.out wx).mono ?_
                    rintro e w2 ⟨rfl, hb2⟩
                    exact hK _ _ rfl hb2
                   ·intro a wx hbx ho hf
                    refine ⟨rfl, ?_⟩
                    intro K hK
                    have e0 : a.tmps[124]?.getD undef = .bool true := hf.1
                    have e1 : a.tmps[131]?.getD undef = .bool true := hf.2.1
                    go_simp
                    exact hK _ _ rfl (Below.refl _ _)
                   ·intro a wx hbx ho hf
                    refine ⟨rfl, ?_⟩
                    intro K hK
                    have e0 : a.tmps[132]?.getD undef = .bool true := hf.1
                    go_simp
                    exact hK _ _ rfl (Below.refl _ _)
                   ·intro a wx hbx ho hf
                    refine ⟨wanted_slot (j := 15) (b := true) (s := 133) rfl rfl rfl (hf.1), ?_⟩
                    intro K hK
                    have e0 : a.tmps[10]?.getD undef = .int .i64 (y : Nat) := ho 10 (by kernel_rfl)
                    go_simp
                    exact hK _ _ rfl (Below.refl _ _)
                   ·intro a wx hbx ho hf
                    refine ⟨wanted_slot (j := 15) (b := true) (s := 133) rfl rfl rfl (hf.1), ?_⟩
                    intro K hK
                    have e0 : a.tmps[7]?.getD undef = .int .i64 (x : Nat) := ho 7 (by kernel_rfl)
                    go_simp
                    exact hK _ _ rfl (Below.refl _ _)
                   ·intro a wx hbx ho hf
                    refine ⟨wanted_slot (j := 15) (b := true) (s := 133) rfl rfl rfl (hf.2.2.1), ?_⟩
                    intro K hK
                    have e0 : a.tmps[134]?.getD undef = .int .i64 (y : Nat) := hf.1
                    have e1 : a.tmps[135]?.getD undef = .int .i64 (x : Nat) := hf.2.1
                    go_simp
                    refine (U2.out wx).mono ?_
                    rintro e w2 ⟨rfl, hb2⟩
                    exact hK _ _ rfl hb2
                   ·intro a wx hbx ho hf
                    refine ⟨rfl, ?_⟩
                    intro K hK
                    have e0 : a.tmps[133]?.getD undef = .bool true := hf.1
                    have e1 : a.tmps[136]?.getD undef = .bool true := hf.2.1
                    go_simp
                    exact hK _ _ rfl (Below.refl _ _)
                   ·intro a wx hbx ho hf
                    refine ⟨rfl, ?_⟩
                    intro K hK
                    have e0 : a.tmps[137]?.getD undef = .bool true := hf.1
                    go_simp
                    exact hK _ _ rfl (Below.refl _ _)
                   ·intro a wx hbx ho hf
                    refine ⟨wanted_slot (j := 20) (b := true) (s := 138) rfl rfl rfl (hf.1), ?_⟩
                    intro K hK
                    have e0 : a.tmps[0]?.getD undef = .slice (some ⟨b, off, none⟩) r c := ho 0 (by kernel_rfl)
                    go_simp
                    exact hK _ _ rfl (Below.refl _ _)
                   ·intro a wx hbx ho hf
                    refine ⟨wanted_slot (j := 20) (b := true) (s := 138) rfl rfl rfl (hf.1), ?_⟩
                    intro K hK
                    have e0 : a.tmps[10]?.getD undef = .int .i64 (y : Nat) := ho 10 (by kernel_rfl)
                    go_simp
                    exact hK _ _ rfl (Below.refl _ _)
                   ·intro a wx hbx ho hf
                    refine ⟨wanted_slot (j := 20) (b := true) (s := 138) rfl rfl rfl (hf.2.2.1), ?_⟩
                    intro K hK
                    have e0 : a.tmps[139]?.getD undef = .slice (some ⟨b, off, none⟩) r c := hf.1
                    have e1 : a.tmps[140]?.getD undef = .int .i64 (y : Nat) := hf.2.1
                    go_simp
                    exact hK _ _ rfl (Below.refl _ _)
                   ·intro a wx hbx ho hf
                    refine ⟨wanted_slot (j := 20) (b := true) (s := 138) rfl rfl rfl (hf.2.1), ?_⟩
                    intro K hK
                    have e0 : a.tmps[141]?.getD undef = .pointer (some ⟨b, off + y * 10, none⟩) := hf.1
                    go_simp
                    exact hK _ _ rfl (Below.refl _ _)
                   ·intro a wx hbx ho hf
                    refine ⟨wanted_slot (j := 20) (b := true) (s := 138) rfl rfl rfl (hf.2.1), ?_⟩
                    intro K hK
                    have e0 : a.tmps[142]?.getD undef = .pointer (some ⟨b, off + y * 10 + 7, none⟩) := hf.1
                    go_simp
                    exact hK _ _ rfl (Below.refl _ _)
                   ·intro a wx hbx ho hf
                    refine ⟨wanted_slot (j := 20) (b := true) (s := 138) rfl rfl rfl (hf.2.1), ?_⟩
                    intro K hK
                    have e0 : a.tmps[143]?.getD undef = .pointer (some ⟨b, off + y * 10 + 7 + 2, none⟩) := hf.1
                    have d1 := (hbx.cell (p := ⟨b, off + y * 10 + 7 + 2, none⟩) HBLY.out).trans CLY.out
                    go_simp
                    exact hK _ _ rfl (Below.refl _ _)
                   ·intro a wx hbx ho hf
                    refine ⟨wanted_slot (j := 20) (b := true) (s := 138) rfl rfl rfl (hf.1), ?_⟩
                    intro K hK
                    have e0 : a.tmps[8]?.getD undef = .slice (some ⟨bl, ol, none⟩) k0 e := ho 8 (by kernel_rfl)
                    go_simp
                    exact hK _ _ rfl (Below.refl _ _)
                   ·intro a wx hbx ho hf
                    refine ⟨wanted_slot (j := 20) (b := true) (s := 138) rfl rfl rfl (hf.1), ?_⟩
                    intro K hK
                    have e0 : a.tmps[9]?.getD undef = .int .i64 (s : Nat) := ho 9 (by kernel_rfl)
                    go_simp
                    exact hK _ _ rfl (Below.refl _ _)
                   ·intro a wx hbx ho hf
                    refine ⟨wanted_slot (j := 20) (b := true) (s := 138) rfl rfl rfl (hf.2.2.1), ?_⟩
                    intro K hK
                    have e0 : a.tmps[145]?.getD undef = .slice (some ⟨bl, ol, none⟩) k0 e := hf.1
                    have e1 : a.tmps[146]?.getD undef = .int .i64 (s : Nat) := hf.2.1
                    go_simp
                    exact hK _ _ rfl (Below.refl _ _)
                   ·intro a wx hbx ho hf
                    refine ⟨wanted_slot (j := 20) (b := true) (s := 138) rfl rfl rfl (hf.2.1), ?_⟩
                    intro K hK
                    have e0 : a.tmps[147]?.getD undef = .pointer (some ⟨bl, ol + s, none⟩) := hf.1
                    have d1 := (hbx.cell (p := ⟨bl, ol + s, none⟩) HBLL.out).trans CM.out
                    go_simp
                    exact hK _ _ rfl (Below.refl _ _)
                   ·intro a wx hbx ho hf
                    refine ⟨wanted_slot (j := 20) (b := true) (s := 138) rfl rfl rfl (hf.2.2.1), ?_⟩
                    intro K hK
                    have e0 : a.tmps[144]?.getD undef = .slice ly lyn ey := hf.1
                    have e1 : a.tmps[148]?.getD undef = .int .i64 (m : Nat) := hf.2.1
                    go_simp
                    refine (HHS.out wx hbx).mono ?_
                    rintro e w2 ⟨rfl, rfl⟩
                    exact hK _ _ rfl (Below.refl _ _)
                   ·intro a wx hbx ho hf
                    refine ⟨wanted_slot (j := 20) (b := true) (s := 138) rfl rfl rfl (hf.2.1), ?_⟩
                    intro K hK
                    have e0 : a.tmps[149]?.getD undef = .bool true := hf.1
                    go_simp
                    exact hK _ _ rfl (Below.refl _ _)
                   ·intro a wx hbx ho hf
                    refine ⟨rfl, ?_⟩
                    intro K hK
                    have e0 : a.tmps[138]?.getD undef = .bool true := hf.1
                    have e1 : a.tmps[150]?.getD undef = .bool false := hf.2.1
                    go_simp
                    exact hK _ _ rfl (Below.refl _ _)
                  ·rintro f w9 hb9 hfin
                   have hfe : f 151 = .bool false := hfin.2.2.2.2.2.2.2.2.2.2.2.2.2.2.2.2.2.2.2.2.2.2.2.2.2.2.2.2.2.2.2.2.2.1
                   clear hfin
                   simp only [frameOf, dstsOf, zipF, List.filterMap_cons, List.filterMap_nil, List.contains_cons, List.contains_nil, Nat.reduceBEq, Nat.reduceAdd, Bool.or_false, Bool.or_true, cond_true, cond_false]
                   rw [hfe]
                   have HB9 := Lib.hid (HB5.out.trans (hb9.mono HB5.out.size))
                   clear hb9 hfe
                   go_wp2_with fail
                   go_roundg (gk - 1)
                   case measure => have := HY.out; omega
                   case rel => exact ⟨y + 1, by have := HY.out; omega, by go_num, HN.out, HB9.out⟩
                 ·simp only [decide_eq_false hin] at HTS
                  have HHS := Lib.hid HTS
                  have HF := Lib.hid (NOM.out (fun hh => by
                   have h4 := ((HLP.out m x).1 hh).2.2.2 y hyn HK2.out
                   rw [← HQ.out] at h4
                   exact hin (h4 HU1.out HU2.out)))
                  clear HTS hin
                  go_wp2_with fail
                  refine wp_region_live [fun v _ => v = .slice (some ⟨b, off, none⟩) r c, fun v _ => v = .int .i64 (y : Nat), fun v _ => v = .pointer (some ⟨b, off + y * 10, none⟩), fun v _ => v = .pointer (some ⟨b, off + y * 10, none⟩), fun v _ => v = .int .u8 (ky : Nat), fun v _ => v = .bool true, fun v _ => v = .bool true, fun v _ => v = .slice (some ⟨bl, ol, none⟩) k0 e, fun v _ => v = .int .i64 (s : Nat), fun v _ => v = .pointer (some ⟨bl, ol + s, none⟩), fun v _ => v = .int .i64 (m : Nat), fun v _ => v = .int .i64 (q : Nat), fun v _ => v = .int .i64 (y : Nat), fun v _ => v = .bool true, fun v _ => v = .bool true, fun v _ => v = .bool true, fun v _ => v = .int .i64 (y : Nat), fun v _ => v = .int .i64 (x : Nat), fun v _ => v = .bool true, fun v _ => v = .bool true, fun v _ => v = .bool true, fun v _ => v = .slice (some ⟨b, off, none⟩) r c, fun v _ => v = .int .i64 (y : Nat), fun v _ => v = .pointer (some ⟨b, off + y * 10, none⟩), fun v _ => v = .pointer (some ⟨b, off + y * 10 + 7, none⟩), fun v _ => v = .pointer (some ⟨b, off + y * 10 + 7 + 2, none⟩), fun v _ => v = .slice ly lyn ey, fun v _ => v = .slice (some ⟨bl, ol, none⟩) k0 e, fun v _ => v = .int .i64 (s : Nat), fun v _ => v = .pointer (some ⟨bl, ol + s, none⟩), fun v _ => v = .int .i64 (m : Nat), fun v _ => v = .bool false, fun v _ => v = .bool true, fun v _ => v = .bool true]
                   [false, false, false, false, false, false, false, false, false, false, false, false, false, false, false, false, false, false, false, false, false, false, false, false, false, false, false, false, false, false, false, false, false, true] [] [true, true, true, true, true, true, true, true, true, true, true, true, true, true, true, true, true, true, true, true, true, true, true, true, true, true, true, true, true, true, true, true, true, true]
                   (by kernel_rfl) ?_ (by kernel_rfl) (by kernel_rfl) ?_ (by kernel_rfl) ?_ ?_
                  ·exact keeps_cons (fun _ _ _ h _ => h) (keeps_cons (fun _ _ _ h _ => h) (keeps_cons (fun _ _ _ h _ => h) (keeps_cons (fun _ _ _ h _ => h) (keeps_cons (fun _ _ _ h _ => h) (keeps_cons (fun _ _ _ h _ => h) (keeps_cons (fun _ _ _ h _ => h) (keeps_cons (fun _ _ _ h _ => h) (keeps_cons (fun _ _ _ h _ => h) (keeps_cons (fun _ _ _ h _ => h) (keeps_cons (fun _ _ _ h _ => h) (keeps_cons (fun _ _ _ h _ => h) (keeps_cons (fun _ _ _ h _ => h) (keeps_cons (fun _ _ _ h _ => h) (keeps_cons (fun _ _ _ h _ => h) (keeps_cons (fun _ _ _ h _ => h) (keeps_cons (fun _ _ _ h _ => h) (keeps_cons (fun _ _ _ h _ => h) (keeps_cons (fun _ _ _ h _ => h) (keeps_cons (fun _ _ _ h _ => h) (keeps_cons (fun _ _ _ h _ => h) (keeps_cons (fun _ _ _ h _ => h) (keeps_cons (fun _ _ _ h _ => h) (keeps_cons (fun _ _ _ h _ => h) (keeps_cons (fun _ _ _ h _ => h) (keeps_cons (fun _ _ _ h _ => h) (keeps_cons (fun _ _ _ h _ => h) (keeps_cons (fun _ _ _ h _ => h) (keeps_cons (fun _ _ _ h _ => h) (keeps_cons (fun _ _ _ h _ => h) (keeps_cons (fun _ _ _ h _ => h) (keeps_cons (fun _ _ _ h _ => h) (keeps_cons (fun _ _ _ h _ => h) (keeps_cons (fun _ _ _ h _ => h) (keeps_nil))))))))))))))))))))))))))))))))))
                  ·exact pures_t (fun _ _ _ h => h) (pures_t (fun _ _ _ h => h) (pures_t (fun _ _ _ h => h) (pures_t (fun _ _ _ h => h) (pures_t (fun _ _ _ h => h) (pures_t (fun _ _ _ h => h) (pures_t (fun _ _ _ h => h) (pures_t (fun _ _ _ h => h) (pures_t (fun _ _ _ h => h) (pures_t (fun _ _ _ h => h) (pures_t (fun _ _ _ h => h) (pures_t (fun _ _ _ h => h) (pures_t (fun _ _ _ h => h) (pures_t (fun _ _ _ h => h) (pures_t (fun _ _ _ h => h) (pures_t (fun _ _ _ h => h) (pures_t (fun _ _ _ h => h) (pures_t (fun _ _ _ h => h) (pures_t (fun _ _ _ h => h) (pures_t (fun _ _ _ h => h) (pures_t (fun _ _ _ h => h) (pures_t (fun _ _ _ h => h) (pures_t (fun _ _ _ h => h) (pures_t (fun _ _ _ h => h) (pures_t (fun _ _ _ h => h) (pures_t (fun _ _ _ h => h) (pures_t (fun _ _ _ h => h) (pures_t (fun _ _ _ h => h) (pures_t (fun _ _ _ h => h) (pures_t (fun _ _ _ h => h) (pures_t (fun _ _ _ h => h) (pures_t (fun _ _ _ h => h) (pures_t (fun _ _ _ h => h) (pures_t (fun _ _ _ h => h) (pures_nil))))))))))))))))))))))))))))))))))
                  ·refine .cons (owed2_go ?_) (.cons (owed2_go ?_) (.cons (owed2_go ?_) (.cons (owed2_go ?_) (.cons (owed2_go ?_) (.cons (owed2_go ?_) (.cons (owed2_go ?_) (.cons (owed2_go ?_) (.cons (owed2_go ?_) (.cons (owed2_go ?_) (.cons (owed2_go ?_) (.cons (owed2_go ?_) (.cons (owed2_go ?_) (.cons (owed2_go ?_) (.cons (owed2_go ?_) (.cons (owed2_go ?_) (.cons (owed2_go ?_) (.cons (owed2_go ?_) (.cons (owed2_go ?_) (.cons (owed2_go ?_) (.cons (owed2_go ?_) (.cons (owed2_go ?_) (.cons (owed2_go ?_) (.cons (owed2_go ?_) (.cons (owed2_go ?_) (.cons (owed2_go ?_) (.cons (owed2_go ?_) (.cons (owed2_go ?_) (.cons (owed2_go ?_) (.cons (owed2_go ?_) (.cons (owed2_go ?_) (.cons (owed2_go ?_) (.cons (owed2_go ?_) (.cons (owed2_go ?_) (.nil))))))))))))))))))))))))))))))))))
                   ·intro a wx hbx ho hf
                    refine ⟨rfl, ?_⟩
                    intro K hK
                    have e0 : a.tmps[0]?.getD undef = .slice (some ⟨b, off, none⟩) r c := ho 0 (by kernel_rfl)
                    go_simp
                    exact hK _ _ rfl (Below.refl _ _)
                   ·intro a wx hbx ho hf
                    refine ⟨rfl, ?_⟩
                    intro K hK
                    have e0 : a.tmps[10]?.getD undef = .int .i64 (y : Nat) := ho 10 (by kernel_rfl)
                    go_simp
                    exact hK _ _ rfl (Below.refl _ _)
                   ·intro a wx hbx ho hf
                    refine ⟨rfl, ?_⟩
                    intro K hK
                    have e0 : a.tmps[118]?.getD undef = .slice (some ⟨b, off, none⟩) r c := hf.1
                    have e1 : a.tmps[119]?.getD undef = .int .i64 (y : Nat) := hf.2.1
                    go_simp
                    exact hK _ _ rfl (Below.refl _ _)
                   ·intro a wx hbx ho hf
                    refine ⟨rfl, ?_⟩
                    intro K hK
                    have e0 : a.tmps[120]?.getD undef = .pointer (some ⟨b, off + y * 10, none⟩) := hf.1
                    go_simp
                    exact hK _ _ rfl (Below.refl _ _)
                   ·intro a wx hbx ho hf
                    refine ⟨rfl, ?_⟩
                    intro K hK
                    have e0 : a.tmps[121]?.getD undef = .pointer (some ⟨b, off + y * 10, none⟩) := hf.1
                    have d1 := (hbx.cell (p := ⟨b, off + y * 10, none⟩) HBLY.out).trans CKY.out
                    go_simp
                    exact hK _ _ rfl (Below.refl _ _)
                   ·intro a wx hbx ho hf
                    refine ⟨rfl, ?_⟩
                    intro K hK
                    have e0 : a.tmps[122]?.getD undef = .int .u8 (ky : Nat) := hf.1
                    go_simp
                    exact hK _ _ rfl (Below.refl _ _)
                   ·intro a wx hbx ho hf
                    refine ⟨rfl, ?_⟩
                    intro K hK
                    have e0 : a.tmps[123]?.getD undef = .bool true := hf.1
                    go_simp
                    exact hK _ _ rfl (Below.refl _ _)
                   ·intro a wx hbx ho hf
                    refine ⟨wanted_slot (j := 6) (b := true) (s := 124) rfl rfl rfl (hf.1), ?_⟩
                    intro K hK
                    have e0 : a.tmps[8]?.getD undef = .slice (some ⟨bl, ol, none⟩) k0 e := ho 8 (by kernel_rfl)
                    go_simp
                    exact hK _ _ rfl (Below.refl _ _)
                   ·intro a wx hbx ho hf
                    refine ⟨wanted_slot (j := 6) (b := true) (s := 124) rfl rfl rfl (hf.1), ?_⟩
                    intro K hK
                    have e0 : a.tmps[9]?.getD undef = .int .i64 (s : Nat) := ho 9 (by kernel_rfl)
                    go_simp
                    exact hK _ _ rfl (Below.refl _ _)
                   ·intro a wx hbx ho hf
                    refine ⟨wanted_slot (j := 6) (b := true) (s := 124) rfl rfl rfl (hf.2.2.1), ?_⟩
                    intro K hK
                    have e0 : a.tmps[125]?.getD undef = .slice (some ⟨bl, ol, none⟩) k0 e := hf.1
                    have e1 : a.tmps[126]?.getD undef = .int .i64 (s : Nat) := hf.2.1
                    go_simp
                    exact hK _ _ rfl (Below.refl _ _)
                   ·intro a wx hbx ho hf
                    refine ⟨wanted_slot (j := 6) (b := true) (s := 124) rfl rfl rfl (hf.2.1), ?_⟩
                    intro K hK
                    have e0 : a.tmps[127]?.getD undef = .pointer (some ⟨bl, ol + s, none⟩) := hf.1
                    have d1 := (hbx.cell (p := ⟨bl, ol + s, none⟩) HBLL.out).trans CM.out
                    go_simp
                    exact hK _ _ rfl (Below.refl _ _)
                   ·intro a wx hbx ho hf
                    refine ⟨wanted_slot (j := 6) (b := true) (s := 124) rfl rfl rfl (hf.2.1), ?_⟩
                    intro K hK
                    have e0 : a.tmps[128]?.getD undef = .int .i64 (m : Nat) := hf.1
                    go_simp
                    exact hK _ _ rfl (Below.refl _ _)
                   ·intro a wx hbx ho hf
                    refine ⟨wanted_slot (j := 6) (b := true) (s := 124) rfl rfl rfl (hf.1), ?_⟩
                    intro K hK
                    have e0 : a.tmps[10]?.getD undef = .int .i64 (y : Nat) := ho 10 (by kernel_rfl)
                    go_simp
                    exact hK _ _ rfl (Below.refl _ _)
                   ·intro a wx hbx ho hf
                    refine ⟨wanted_slot (j := 6) (b := true) (s := 124) rfl rfl rfl (hf.2.2.1), ?_⟩
                    intro K hK
                    have e0 : a.tmps[129]?.getD undef = .int .i64 (q : Nat) := hf.1
                    have e1 : a.tmps[130]?.getD undef = .int .i64 (y : Nat) := hf.2.1
                    go_simp
                    refine (U1.out wx).mono ?_
                    rintro e w2 ⟨rfl, hb2⟩
                    exact hK _ _ rfl hb2
                   ·intro a wx hbx ho hf
                    refine ⟨rfl, ?_⟩
                    intro K hK
                    have e0 : a.tmps[124]?.getD undef = .bool true := hf.1
                    have e1 : a.tmps[131]?.getD undef = .bool true := hf.2.1
                    go_simp
                    exact hK _ _ rfl (Below.refl _ _)
                   ·intro a wx hbx ho hf
                    refine ⟨rfl, ?_⟩
                    intro K hK
                    have e0 : a.tmps[132]?.getD undef = .bool true := hf.1
                    go_simp
                    exact hK _ _ rfl (Below.refl _ _)
                   ·intro a wx hbx ho hf
                    refine ⟨wanted_slot (j := 15) (b := true) (s := 133) rfl rfl rfl (hf.1), ?_⟩
                    intro K hK
                    have e0 : a.tmps[10]?.getD undef = .int .i64 (y : Nat) := ho 10 (by kernel_rfl)
                    go_simp
                    exact hK _ _ rfl (Below.refl _ _)
                   ·intro a wx hbx ho hf
                    refine ⟨wanted_slot (j := 15) (b := true) (s := 133) rfl rfl rfl (hf.1), ?_⟩
                    intro K hK
                    have e0 : a.tmps[7]?.getD undef = .int .i64 (x : Nat) := ho 7 (by kernel_rfl)
                    go_simp
                    exact hK _ _ rfl (Below.refl _ _)
                   ·intro a wx hbx ho hf
                    refine ⟨wanted_slot (j := 15) (b := true) (s := 133) rfl rfl rfl (hf.2.2.1), ?_⟩
                    intro K hK
                    have e0 : a.tmps[134]?.getD undef = .int .i64 (y : Nat) := hf.1
                    have e1 : a.tmps[135]?.getD undef = .int .i64 (x : Nat) := hf.2.1
                    go_simp
                    refine (U2.out wx).mono ?_
                    rintro e w2 ⟨rfl, hb2⟩
                    exact hK _ _ rfl hb2
                   ·intro a wx hbx ho hf
                    refine ⟨rfl, ?_⟩
                    intro K hK
                    have e0 : a.tmps[133]?.getD undef = .bool true := hf.1
                    have e1 : a.tmps[136]?.getD undef = .bool true := hf.2.1
                    go_simp
                    exact hK _ _ rfl (Below.refl _ _)
                   ·intro a wx hbx ho hf
                    refine ⟨rfl, ?_⟩
                    intro K hK
                    have e0 : a.tmps[137]?.getD undef = .bool true := hf.1
                    go_simp
                    exact hK _ _ rfl (Below.refl _ _)
                   ·intro a wx hbx ho hf
                    refine ⟨wanted_slot (j := 20) (b := true) (s := 138) rfl rfl rfl (hf.1), ?_⟩
                    intro K hK
                    have e0 : a.tmps[0]?.getD undef = .slice (some ⟨b, off, none⟩) r c := ho 0 (by kernel_rfl)
                    go_simp
                    exact hK _ _ rfl (Below.refl _ _)
                   ·intro a wx hbx ho hf
                    refine ⟨wanted_slot (j := 20) (b := true) (s := 138) rfl rfl rfl (hf.1), ?_⟩
                    intro K hK
                    have e0 : a.tmps[10]?.getD undef = .int .i64 (y : Nat) := ho 10 (by kernel_rfl)
                    go_simp
                    exact hK _ _ rfl (Below.refl _ _)
                   ·intro a wx hbx ho hf
                    refine ⟨wanted_slot (j := 20) (b := true) (s := 138) rfl rfl rfl (hf.2.2.1), ?_⟩
                    intro K hK
                    have e0 : a.tmps[139]?.getD undef = .slice (some ⟨b, off, none⟩) r c := hf.1
                    have e1 : a.tmps[140]?.getD undef = .int .i64 (y : Nat) := hf.2.1
                    go_simp
                    exact hK _ _ rfl (Below.refl _ _)
                   ·intro a wx hbx ho hf
                    refine ⟨wanted_slot (j := 20) (b := true) (s := 138) rfl rfl rfl (hf.2.1), ?_⟩
                    intro K hK
                    have e0 : a.tmps[141]?.getD undef = .pointer (some ⟨b, off + y * 10, none⟩) := hf.1
                    go_simp
                    exact hK _ _ rfl (Below.refl _ _)
                   ·intro a wx hbx ho hf
                    refine ⟨wanted_slot (j := 20) (b := true) (s := 138) rfl rfl rfl (hf.2.1), ?_⟩
                    intro K hK
                    have e0 : a.tmps[142]?.getD undef = .pointer (some ⟨b, off + y * 10 + 7, none⟩) := hf.1
                    go_simp
                    exact hK _ _ rfl (Below.refl _ _)
                   ·intro a wx hbx ho hf
                    refine ⟨wanted_slot (j := 20) (b := true) (s := 138) rfl rfl rfl (hf.2.1), ?_⟩
                    intro K hK
                    have e0 : a.tmps[143]?.getD undef = .pointer (some ⟨b, off + y * 10 + 7 + 2, none⟩) := hf.1
                    have d1 := (hbx.cell (p := ⟨b, off + y * 10 + 7 + 2, none⟩) HBLY.out).trans CLY.out
                    go_simp
                    exact hK _ _ rfl (Below.refl _ _)
                   ·intro a wx hbx ho hf
                    refine ⟨wanted_slot (j := 20) (b := true) (s := 138) rfl rfl rfl (hf.1), ?_⟩
                    intro K hK
                    have e0 : a.tmps[8]?.getD undef = .slice (some ⟨bl, ol, none⟩) k0 e := ho 8 (by kernel_rfl)
                    go_simp
                    exact hK _ _ rfl (Below.refl _ _)
                   ·intro a wx hbx ho hf
                    refine ⟨wanted_slot (j := 20) (b := true) (s := 138) rfl rfl rfl (hf.1), ?_⟩
                    intro K hK
                    have e0 : a.tmps[9]?.getD undef = .int .i64 (s : Nat) := ho 9 (by kernel_rfl)
                    go_simp
                    exact hK _ _ rfl (Below.refl _ _)
                   ·intro a wx hbx ho hf
                    refine ⟨wanted_slot (j := 20) (b := true) (s := 138) rfl rfl rfl (hf.2.2.1), ?_⟩
                    intro K hK
                    have e0 : a.tmps[145]?.getD undef = .slice (some ⟨bl, ol, none⟩) k0 e := hf.1
                    have e1 : a.tmps[146]?.getD undef = .int .i64 (s : Nat) := hf.2.1
                    go_simp
                    exact hK _ _ rfl (Below.refl _ _)
                   ·intro a wx hbx ho hf
                    refine ⟨wanted_slot (j := 20) (b := true) (s := 138) rfl rfl rfl (hf.2.1), ?_⟩
                    intro K hK
                    have e0 : a.tmps[147]?.getD undef = .pointer (some ⟨bl, ol + s, none⟩) := hf.1
                    have d1 := (hbx.cell (p := ⟨bl, ol + s, none⟩) HBLL.out).trans CM.out
                    go_simp
                    exact hK _ _ rfl (Below.refl _ _)
                   ·intro a wx hbx ho hf
                    refine ⟨wanted_slot (j := 20) (b := true) (s := 138) rfl rfl rfl (hf.2.2.1), ?_⟩
                    intro K hK
                    have e0 : a.tmps[144]?.getD undef = .slice ly lyn ey := hf.1
                    have e1 : a.tmps[148]?.getD undef = .int .i64 (m : Nat) := hf.2.1
                    go_simp
                    refine (HHS.out wx hbx).mono ?_
                    rintro e w2 ⟨rfl, rfl⟩
                    exact hK _ _ rfl (Below.refl _ _)
                   ·intro a wx hbx ho hf
                    refine ⟨wanted_slot (j := 20) (b := true) (s := 138) rfl rfl rfl (hf.2.1), ?_⟩
                    intro K hK
                    have e0 : a.tmps[149]?.getD undef = .bool false := hf.1
                    go_simp
                    exact hK _ _ rfl (Below.refl _ _)
                   ·intro a wx hbx ho hf
                    refine ⟨rfl, ?_⟩
                    intro K hK
                    have e0 : a.tmps[138]?.getD undef = .bool true := hf.1
                    have e1 : a.tmps[150]?.getD undef = .bool true := hf.2.1
                    go_simp
                    exact hK _ _ rfl (Below.refl _ _)
                  ·rintro f w9 hb9 hfin
                   have hfe : f 151 = .bool true := hfin.2.2.2.2.2.2.2.2.2.2.2.2.2.2.2.2.2.2.2.2.2.2.2.2.2.2.2.2.2.2.2.2.2.1
                   clear hfin
                   simp only [frameOf, dstsOf, zipF, List.filterMap_cons, List.filterMap_nil, List.contains_cons, List.contains_nil, Nat.reduceBEq, Nat.reduceAdd, Bool.or_false, Bool.or_true, cond_true, cond_false]
                   rw [hfe]
                   have HB9 := Lib.hid (HB5.out.trans (hb9.mono HB5.out.size))
                   clear hb9 hfe
                   go_wp2_with fail
                   go_ret
                   exact ⟨retB HF.out, HB2.out.trans (HB9.out.mono HB2.out.size)⟩
              ·have gky : ((ky : Int) == 2) = false := by rw [beq_eq_false_iff_ne]; omega
               have HN := Lib.hid (NX.out (fun h _ _ => absurd (HKY.out.trans h) c3))
               clear c3 HTS
               go_wp2_with fail
               refine wp_region_live [fun v _ => v = .slice (some ⟨b, off, none⟩) r c, fun v _ => v = .int .i64 (y : Nat), fun v _ => v = .pointer (some ⟨b, off + y * 10, none⟩), fun v _ => v = .pointer (some ⟨b, off + y * 10, none⟩), fun v _ => v = .int .u8 (ky : Nat), fun v _ => v = .bool false, fun v _ => v = .bool false, fun v _ => v = undef, fun v _ => v = undef, fun v _ => v = undef, fun v _ => v = undef, fun v _ => v = undef, fun v _ => v = undef, fun v _ => v = undef, fun v _ => v = .bool false, fun v _ => v = .bool false, fun v _ => v = undef, fun v _ => v = undef, fun v _ => v = undef, fun v _ => v = .bool false, fun v _ => v = .bool false, fun v _ => v = undef, fun v _ => v = undef, fun v _ => v = undef, fun v _ => v = undef, fun v _ => v = undef, fun v _ => v = undef, fun v _ => v = undef, fun v _ => v = undef, fun v _ => v = undef, fun v _ => v = undef, fun v _ => v = undef, fun v _ => v = undef, fun v _ => v = .bool false]
                [false, false, false, false, false, false, false, false, false, false, false, false, false, false, false, false, false, false, false, false, false, false, false, false, false, false, false, false, false, false, false, false, false, true] [] [true, true, true, true, true, true, true, true, true, true, true, true, true, true, true, true, true, true, true, true, true, true, true, true, true, true, true, true, true, true, true, true, true, true]
                (by kernel_rfl) ?_ (by kernel_rfl) (by kernel_rfl) ?_ (by kernel_rfl) ?_ ?_
               ·exact keeps_cons (fun _ _ _ h _ => h) (keeps_cons (fun _ _ _ h _ => h) (keeps_cons (fun _ _ _ h _ => h) (keeps_cons (fun _ _ _ h _ => h) (keeps_cons (fun _ _ _ h _ => h) (keeps_cons (fun _ _ _ h _ => h) (keeps_cons (fun _ _ _ h _ => h) (keeps_cons (fun _ _ _ h _ => h) (keeps_cons (fun _ _ _ h _ => h) (keeps_cons (fun _ _ _ h _ => h) (keeps_cons (fun _ _ _ h _ => h) (keeps_cons (fun _ _ _ h _ => h) (keeps_cons (fun _ _ _ h _ => h) (keeps_cons (fun _ _ _ h _ => h) (keeps_cons (fun _ _ _ h _ => h) (keeps_cons (fun _ _ _ h _ => h) (keeps_cons (fun _ _ _ h _ => h) (keeps_cons (fun _ _ _ h _ => h) (keeps_cons (fun _ _ _ h _ => h) (keeps_cons (fun _ _ _ h _ => h) (keeps_cons (fun _ _ _ h _ => h) (keeps_cons (fun _ _ _ h _ => h) (keeps_cons (fun _ _ _ h _ => h) (keeps_cons (fun _ _ _ h _ => h) (keeps_cons (fun _ _ _ h _ => h) (keeps_cons (fun _ _ _ h _ => h) (keeps_cons (fun _ _ _ h _ => h) (keeps_cons (fun _ _ _ h _ => h) (keeps_cons (fun _ _ _ h _ => h) (keeps_cons (fun _ _ _ h _ => h) (keeps_cons (fun _ _ _ h _ => h) (keeps_cons (fun _ _ _ h _ => h) (keeps_cons (fun _ _ _ h _ => h) (keeps_cons (fun _ _ _ h _ => h) (keeps_nil))))))))))))))))))))))))))))))))))
               ·exact pures_t (fun _ _ _ h => h) (pures_t (fun _ _ _ h => h) (pures_t (fun _ _ _ h => h) (pures_t (fun _ _ _ h => h) (pures_t (fun _ _ _ h => h) (pures_t (fun _ _ _ h => h) (pures_t (fun _ _ _ h => h) (pures_t (fun _ _ _ h => h) (pures_t (fun _ _ _ h => h) (pures_t (fun _ _ _ h => h) (pures_t (fun _ _ _ h => h) (pures_t (fun _ _ _ h => h) (pures_t (fun _ _ _ h => h) (pures_t (fun _ _ _ h => h) (pures_t (fun _ _ _ h => h) (pures_t (fun _ _ _ h => h) (pures_t (fun _ _ _ h => h) (pures_t (fun _ _ _ h => h) (pures_t (fun _ _ _ h => h) (pures_t (fun _ _ _ h => h) (pures_t (fun _ _ _ h => h) (pures_t (fun _ _ _ h => h) (pures_t (fun _ _ _ h => h) (pures_t (fun _ _ _ h => h) (pures_t (fun _ _ _ h => h) (pures_t (fun _ _ _ h => h) (pures_t (fun _ _ _ h => h) (pures_t (fun _ _ _ h => h) (pures_t (fun _ _ _ h => h) (pures_t (fun _ _ _ h => h) (pures_t (fun _ _ _ h => h) (pures_t (fun _ _ _ h => h) (pures_t (fun _ _ _ h => h) (pures_t (fun _ _ _ h => h) (pures_nil))))))))))))))))))))))))))))))))))
               ·refine .cons (owed2_go ?_) (.cons (owed2_go ?_) (.cons (owed2_go ?_) (.cons (owed2_go ?_) (.cons (owed2_go ?_) (.cons (owed2_go ?_) (.cons (owed2_go ?_) (.cons (owed2_off rfl ?_) (.cons (owed2_off rfl ?_) (.cons (owed2_off rfl ?_) (.cons (owed2_off rfl ?_) (.cons (owed2_off rfl ?_) (.cons (owed2_off rfl ?_) (.cons (owed2_off rfl ?_) (.cons (owed2_go ?_) (.cons (owed2_go ?_) (.cons (owed2_off rfl ?_) (.cons (owed2_off rfl ?_) (.cons (owed2_off rfl ?_) (.cons (owed2_go ?_) (.cons (owed2_go ?_) (.cons (owed2_off rfl ?_) (.cons (owed2_off rfl ?_) (.cons (owed2_off rfl ?_) (.cons (owed2_off rfl ?_) (.cons (owed2_off rfl ?_) (.cons (owed2_off rfl ?_) (.cons (owed2_off rfl ?_) (.cons (owed2_off rfl ?_) (.cons (owed2_off rfl ?_) (.cons (owed2_off rfl ?_) (.cons (owed2_off rfl ?_) (.cons (owed2_off rfl ?_) (.cons (owed2_go ?_) (.nil))))))))))))))))))))))))))))))))))
                ·intro a wx hbx ho hf
                 refine ⟨rfl, ?_⟩
                 intro K hK
                 have e0 : a.tmps[0]?.getD undef = .slice (some ⟨b, off, none⟩) r c := ho 0 (by kernel_rfl)
                 go_simp
                 exact hK _ _ rfl (Below.refl _ _)
                ·intro a wx hbx ho hf
                 refine ⟨rfl, ?_⟩
                 intro K hK
                 have e0 : a.tmps[10]?.getD undef = .int .i64 (y : Nat) := ho 10 (by kernel_rfl)
                 go_simp
                 exact hK _ _ rfl (Below.refl _ _)
                ·intro a wx hbx ho hf
                 refine ⟨rfl, ?_⟩
                 intro K hK
                 have e0 : a.tmps[118]?.getD undef = .slice (some ⟨b, off, none⟩) r c := hf.1
                 have e1 : a.tmps[119]?.getD undef = .int .i64 (y : Nat) := hf.2.1
                 go_simp
                 exact hK _ _ rfl (Below.refl _ _)
                ·intro a wx hbx ho hf
                 refine ⟨rfl, ?_⟩
                 intro K hK
                 have e0 : a.tmps[120]?.getD undef = .pointer (some ⟨b, off + y * 10, none⟩) := hf.1
                 go_simp
                 exact hK _ _ rfl (Below.refl _ _)
                ·intro a wx hbx ho hf
                 refine ⟨rfl, ?_⟩
                 intro K hK
                 have e0 : a.tmps[121]?.getD undef = .pointer (some ⟨b, off + y * 10, none⟩) := hf.1
                 have d1 := (hbx.cell (p := ⟨b, off + y * 10, none⟩) HBLY.out).trans CKY.out
                 go_simp
                 exact hK _ _ rfl (Below.refl _ _)
                ·intro a wx hbx ho hf
                 refine ⟨rfl, ?_⟩
                 intro K hK
                 have e0 : a.tmps[122]?.getD undef = .int .u8 (ky : Nat) := hf.1
                 go_simp
                 exact hK _ _ rfl (Below.refl _ _)
                ·intro a wx hbx ho hf
                 refine ⟨rfl, ?_⟩
                 intro K hK
                 have e0 : a.tmps[123]?.getD undef = .bool false := hf.1
                 go_simp
                 exact hK _ _ rfl (Below.refl _ _)
                ·intro a wx hbx ho hf
                 exact wanted_off (j := 6) (b := true) (s := 124) rfl rfl rfl (hf.1) (by first | (simp; done) | (simp [undef]; done) | (intro h; cases h))
                ·intro a wx hbx ho hf
                 exact wanted_off (j := 6) (b := true) (s := 124) rfl rfl rfl (hf.1) (by first | (simp; done) | (simp [undef]; done) | (intro h; cases h))
                ·intro a wx hbx ho hf
                 exact wanted_off (j := 6) (b := true) (s := 124) rfl rfl rfl (hf.2.2.1) (by first | (simp; done) | (simp [undef]; done) | (intro h; cases h))
                ·intro a wx hbx ho hf
                 exact wanted_off (j := 6) (b := true) (s := 124) rfl rfl rfl (hf.2.1) (by first | (simp; done) | (simp [undef]; done) | (intro h; cases h))
                ·intro a wx hbx ho hf
                 exact wanted_off (j := 6) (b := true) (s := 124) rfl rfl rfl (hf.2.1) (by first | (simp; done) | (simp [undef]; done) | (intro h; cases h))
                ·intro a wx hbx ho hf
                 exact wanted_off (j := 6) (b := true) (s := 124) rfl rfl rfl (hf.1) (by first | (simp; done) | (simp [undef]; done) | (intro h; cases h))
                ·intro a wx hbx ho hf
                 exact wanted_off (j := 6) (b := true) (s := 124) rfl rfl rfl (hf.2.2.1) (by first | (simp; done) | (simp [undef]; done) | (intro h; cases h))
                ·intro a wx hbx ho hf
                 refine ⟨rfl, ?_⟩
                 intro K hK
                 have e0 : a.tmps[124]?.getD undef = .bool false := hf.1
                 go_simp
                 exact hK _ _ rfl (Below.refl _ _)
                ·intro a wx hbx ho hf
                 refine ⟨rfl, ?_⟩
                 intro K hK
                 have e0 : a.tmps[132]?.getD undef = .bool false := hf.1
                 go_simp
                 exact hK _ _ rfl (Below.refl _ _)
                ·intro a wx hbx ho hf
                 exact wanted_off (j := 15) (b := true) (s := 133) rfl rfl rfl (hf.1) (by first | (simp; done) | (simp [undef]; done) | (intro h; cases h))
                ·intro a wx hbx ho hf
                 exact wanted_off (j := 15) (b := true) (s := 133) rfl rfl rfl (hf.1) (by first | (simp; done) | (simp [undef]; done) | (intro h; cases h))
                ·intro a wx hbx ho hf
                 exact wanted_off (j := 15) (b := true) (s := 133) rfl rfl rfl (hf.2.2.1) (by first | (simp; done) | (simp [undef]; done) | (intro h; cases h))
                ·intro a wx hbx ho hf
                 refine ⟨rfl, ?_⟩
                 intro K hK
                 have e0 : a.tmps[133]?.getD undef = .bool false := hf.1
                 go_simp
                 exact hK _ _ rfl (Below.refl _ _)
                ·intro a wx hbx ho hf
                 refine ⟨rfl, ?_⟩
                 intro K hK
                 have e0 : a.tmps[137]?.getD undef = .bool false := hf.1
                 go_simp
                 exact hK _ _ rfl (Below.refl _ _)
                ·intro a wx hbx ho hf
                 exact wanted_off (j := 20) (b := true) (s := 138) rfl rfl rfl (hf.1) (by first | (simp; done) | (simp [undef]; done) | (intro h; cases h))
                ·intro a wx hbx ho hf
                 exact wanted_off (j := 20) (b := true) (s := 138) rfl rfl rfl (hf.1) (by first | (simp; done) | (simp [undef]; done) | (intro h; cases h))
                ·intro a wx hbx ho hf
                 exact wanted_off (j := 20) (b := true) (s := 138) rfl rfl rfl (hf.2.2.1) (by first | (simp; done) | (simp [undef]; done) | (intro h; cases h))
                ·intro a wx hbx ho hf
                 exact wanted_off (j := 20) (b := true) (s := 138) rfl rfl rfl (hf.2.1) (by first | (simp; done) | (simp [undef]; done) | (intro h; cases h))
                ·intro a wx hbx ho hf
                 exact wanted_off (j := 20) (b := true) (s := 138) rfl rfl rfl (hf.2.1) (by first | (simp; done) | (simp [undef]; done) | (intro h; cases h))
                ·intro a wx hbx ho hf
                 exact wanted_off (j := 20) (b := true) (s := 138) rfl rfl rfl (hf.2.1) (by first | (simp; done) | (simp [undef]; done) | (intro h; cases h))
                ·intro a wx hbx ho hf
                 exact wanted_off (j := 20) (b := true) (s := 138) rfl rfl rfl (hf.1) (by first | (simp; done) | (simp [undef]; done) | (intro h; cases h))
                ·intro a wx hbx ho hf
                 exact wanted_off (j := 20) (b := true) (s := 138) rfl rfl rfl (hf.1) (by first | (simp; done) | (simp [undef]; done) | (intro h; cases h))
                ·intro a wx hbx ho hf
                 exact wanted_off (j := 20) (b := true) (s := 138) rfl rfl rfl (hf.2.2.1) (by first | (simp; done) | (simp [undef]; done) | (intro h; cases h))
                ·intro a wx hbx ho hf
                 exact wanted_off (j := 20) (b := true) (s := 138) rfl rfl rfl (hf.2.1) (by first | (simp; done) | (simp [undef]; done) | (intro h; cases h))
                ·intro a wx hbx ho hf
                 exact wanted_off (j := 20) (b := true) (s := 138) rfl rfl rfl (hf.2.2.1) (by first | (simp; done) | (simp [undef]; done) | (intro h; cases h))
                ·intro a wx hbx ho hf
                 exact wanted_off (j := 20) (b := true) (s := 138) rfl rfl rfl (hf.2.1) (by first | (simp; done) | (simp [undef]; done) | (intro h; cases h))
                ·intro a wx hbx ho hf
                 refine ⟨rfl, ?_⟩
                 intro K hK
                 have e0 : a.tmps[138]?.getD undef = .bool false := hf.1
                 go_simp
                 exact hK _ _ rfl (Below.refl _ _)
               ·rintro f w9 hb9 hfin
                have hfe : f 151 = .bool false := hfin.2.2.2.2.2.2.2.2.2.2.2.2.2.2.2.2.2.2.2.2.2.2.2.2.2.2.2.2.2.2.2.2.2.1
                clear hfin
                simp only [frameOf, dstsOf, zipF, List.filterMap_cons, List.filterMap_nil, List.contains_cons, List.contains_nil, Nat.reduceBEq, Nat.reduceAdd, Bool.or_false, Bool.or_true, cond_true, cond_false]
                rw [hfe]
                have HB9 := Lib.hid (HB5.out.trans (hb9.mono HB5.out.size))
                clear hb9 hfe
                go_wp2_with fail
                go_roundg (gk - 1)
                case measure => have := HY.out; omega
                case rel => exact ⟨y + 1, by have := HY.out; omega, by go_num, HN.out, HB9.out⟩
             ·obtain rfl : y = r := by have := HY.out; omega
              have hyn' : decide (y < y) = false := decide_eq_false hyn
              have HFIN := Lib.hid (show LateP t x (m : Int) from (HLP.out m x).2 ⟨by omega, by rw [← HQ.out]; exact HUND.out, by rw [← HQ.out, HKQ.out]; omega, by rw [← HQ.out]; exact HA4.out⟩)
              go_wp2_with fail
              go_roundg (g2 - 1)
              case measure => have := HS.out; omega
              case rel =>
               refine ⟨s + 1, by have := HS.out; omega, by go_num, fun i hi => ?_, HB5.out⟩
               by_cases e : i = s
               ·rw [e, HM.out]; exact HFIN.out
               ·exact HA3.out i (by omega)
          ·have gkq : ((kq : Int) == 1) = false := by rw [beq_eq_false_iff_ne]; omega
           have gkq2 : ((kq : Int) != 1) = true := by rw [bne, gkq]; rfl
           have HF := Lib.hid (NOM.out (fun hh => by
            have h1 := ((HLP.out m x).1 hh).2.2.1
            rw [← HQ.out, ← hkq] at h1
            have h2 := HPLA.out HPB.out q hqn
            rw [otherK_even (by have := HQ.out; omega), ← hkq] at h2
            have h3 := right_kind h2.2
            rw [← hkq] at h3
            rcases h3 with h | h | h
            ·exact h1 h
            ·exact c2 h
            ·exact h2.1 h))
           clear hkq c2
           go_wp2_with fail
           go_ret
           exact ⟨retB HF.out, HBW.out⟩
        ·obtain rfl : s = k0 := by have := HS.out; omega
         have hsk' : decide (s < s) = false := decide_eq_false hsk
         have HFX := Lib.hid (HLY.out x (fun i hi => HA3.out i (by have := HK0.out; omega)))
         go_wp2_with fail
         go_roundg (g1 - 1)
         case measure => have := HX.out; omega
         case rel =>
          refine ⟨x + 1, by have := HX.out; omega, by go_num, fun i hi => ?_, HB2.out.trans (HB3.out.mono HB2.out.size)⟩
          by_cases e : i = x
          ·rw [e]; exact HFX.out
          ·exact HA2.out i (by omega)
      ·obtain rfl : x = r := by have := HX.out; omega
       have hxn' : decide (x < x) = false := decide_eq_false hxn
       have HF := Lib.hid (show R = true by rw [HRE.out, HPB.out, HSB.out, HL1.out HA2.out]; rfl)
       go_wp2_with fail
       go_ret
       exact ⟨retB HF.out, HB2.out⟩
end Go.Proofs.YtngealmhgkoaiaaGreat
