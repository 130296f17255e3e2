/- Walks: the reference's Right of trees. -/
import Derived.Test.YtngealmhgkoaiaaGreatZSliceCutsB
import Derived.Test.YtngealmhgkoaiaaGreatZSliceCuts32
import Derived.Test.YtngealmhgkoaiaaGreatZSliceCuts08
open List renaming getD_eq_getElem?_getD → aH, getElem?_eq_getElem → aI, filterMap_cons → cT, filterMap_nil → cU, contains_cons → cV, contains_nil → cW
open Array renaming length_toList → dF
open Bool renaming or_false → cX, or_true → cY
set_option linter.unusedVariables false
set_option maxRecDepth 100000
set_option maxHeartbeats 40000000
namespace Go.Proofs.YtngealmhgkoaiaaGreat
open Go.RowKit WalkM
theorem Md (v : Value) (t : List NodeD) (w : World) (h : TreeR w v t) (hs : Az t = true) (hok : TreeOk t) :
  Calls Tryz.prog 18 #[v] w fun e w' => e = .returned (.bool (Bi t)) ∧ Below w.heap.size w w' := by
 obtain ⟨a, c, rfl, hc, hc2⟩ := h.sl; have hlen := Bh hs; have LV := fun (W : World) => Sq a t.length c W (by omega); have RR := fun (i : Nat) (cs : Array Value) (W : World) (hw : NodeC W (nd t i) cs) => Wh (nd t i) cs W hw (hok.nd i); have GN := fun (W : World) (hw : Below w.heap.size w W) (i : Nat) (hi : i < t.length) => (h.below hw lR).node hi; have GA := fun (W : World) (hw : Below w.heap.size w W) (i : Nat) (hi : i < t.length) => (h.below hw lR).at hi; have KB := fun (i : Nat) => (hok.nd i).kind; have S60 := fun (i : Nat) => (show (nd t i).par.late.length ≤ 60 by have := of_decide_eq_true (Bm hs i); omega); have P1 := fun (hh : ∀ i, i < t.length → (nd t i).kind ≠ Dn i ∧ Aq (nd t i) = true) => (Ga t).2 hh; have P2 := fun (i : Nat) (hi : i < t.length) (hh : (nd t i).kind = Dn i ∨ Aq (nd t i) = false) => Mz hi hh; have L1 := fun (hh : ∀ x, x < t.length → Di t x = true) => Ne hh; have L2 := fun (x : Nat) (hx : x < t.length) (hh : Di t x = false) => Qp hx hh; have LY := fun (x : Nat) (hh : ∀ r, r < (nd t x).par.late.length → Gx t x ((nd t x).par.late.getD r 0)) => Nc (t := t) (x := x) (fun u hu => by
  obtain ⟨r, hr, rfl⟩ := List.getElem_of_mem hu; have := hh r hr
  rwa [aH, aI hr] at this)
 have MEM := fun (x r : Nat) (hr : r < (nd t x).par.late.length) => (show (nd t x).par.late.getD r 0 ∈ (nd t x).par.late by rw [aH, aI hr]; exact List.getElem_mem hr); have NO := fun (x r : Nat) (hr : r < (nd t x).par.late.length) (hh : ¬ Gx t x ((nd t x).par.late.getD r 0)) => Qn (MEM x r hr) hh; have PLA := fun (hp : Bc t = true) (x : Nat) (hx : x < t.length) => Cq hp hx; have NAT := fun (hp : Bc t = true) (x r : Nat) (hx : x < t.length) (hr : r < (nd t x).par.late.length) => (Gb hp hx (MEM x r hr)).2; have SU := fun (N : Nat) (hN : Al t.length = N) (hl : N ≤ t.length) => Zaj hN hl; obtain ⟨R, hR⟩ := eX (Bi t); have hRe : R = (decide (Al t.length ≠ 0) && (Bc t && (Mm t && Ir t))) := (by rw [hR, Bi]); rw [← hR]
 by_cases h0 : Al t.length = 0
 ·rw [h0] at LV; have HF := Hd (show R = false by rw [hRe, h0]; rfl); obtain ⟨n, hn⟩ := eX t.length; rw [← hn] at LV ⊢; have HLV := Hd LV; clear LV RR GN GA KB S60 P1 P2 L1 L2 LY MEM NO PLA NAT SU hRe hR h0 h hs hok hn hc hlen; go_enter Tryz.func18, Tryz.ntmps18; go_wp2_with fail; refine (HLV.out w).mono ?_; rintro e w' ⟨rfl, rfl⟩; go_wp2_with fail; go_ret; exact ⟨Da HF.out, bR⟩
 ·obtain ⟨d, hd, hN, hl⟩ := Cu h0; rw [decide_eq_true h0, Bool.true_and] at hRe; have LP := fun (m x : Nat) => Qo (t := t) (m := m) (x := x) hd hl; rw [← hN] at LP; have hNl : 2 * Al t.length = t.length + 1 := (by rw [hN]; omega); have hSU := SU _ rfl (by omega); obtain ⟨N, hNN⟩ := eX (Al t.length); rw [← hNN] at LV h0 hNl LP hSU; obtain ⟨n, hn⟩ := eX t.length; rw [← hn] at LV GN GA P1 P2 L1 L2 PLA NAT LP hNl hSU hc hlen ⊢; obtain ⟨pb, hpb⟩ := eX (Bc t); rw [← hpb] at hRe P1 P2 PLA NAT; obtain ⟨sb, hsb⟩ := eX (Mm t); rw [← hsb] at hRe hSU; obtain ⟨lb, hlb⟩ := eX (Ir t); rw [← hlb] at hRe L1 L2; have hq0 : ((N : Int) == 0) = false := (by rw [beq_eq_false_iff_ne]; omega); have HLV := Hd LV; have HRR := Hd RR; have HGN := Hd GN; have HGA := Hd GA; have HKB := Hd KB; have H60 := Hd S60; have HP1 := Hd P1; have HP2 := Hd P2; have HL1 := Hd L1; have HL2 := Hd L2; have HLY := Hd LY; have HMEM := Hd MEM; have HNO := Hd NO; have HPLA := Hd PLA; have HNAT := Hd NAT; have HLP := Hd LP; have HSU := Hd hSU; have HRE := Hd hRe; clear LV RR GN GA KB S60 P1 P2 L1 L2 LY MEM NO PLA NAT SU LP hSU hRe hR h hs hok hn hl hN hNN hd hpb hsb hlb; go_enter Tryz.func18, Tryz.ntmps18; go_wp2_with fail; refine (HLV.out w).mono ?_; rintro e w' ⟨rfl, rfl⟩; go_wp2_with fail
  go_loopg [4, 5] n (fun q sv iv wr => ∃ r : Nat, r + q = n ∧ iv = .int .i64 (r : Nat) ∧ sv = .bool (Mn t N r) ∧ (∀ i, i < r → (nd t i).kind ≠ Dn i ∧ Aq (nd t i) = true) ∧ Below w'.heap.size w' wr)
  case atStart => exact ⟨0, by omega, rfl, rfl, fun i hi => by omega, bR⟩
  case round =>
   obtain ⟨r, hr, rfl, rfl, hall, hb⟩ := hrel; have HR := Hd hr; have HALL := Hd hall; have HB := Hd hb; clear hr hall hb
   by_cases hlt : r < n
   ·have hlt' : decide (r < n) = true := decide_eq_true hlt; obtain ⟨b, off, cs, rfl, hbl, hnc, hra⟩ := HGN.out wr HB.out r hlt; have HRA := Hd hra; have HSZ := Hd hnc.size; have RC := HRR.out r cs wr hnc; have ck := hra 0 _ hnc.kind; have ck' : wr.cell? ⟨b, off + r * 10, none⟩ = some (.int .u8 ((nd t r).kind : Nat)) := ck; obtain ⟨kd, hkd⟩ := eX ((nd t r).kind); have hk256 := HKB.out r; rw [← hkd] at ck' hk256; have HKD := Hd hkd; have HSC := Hd (Wx t N r); obtain ⟨s0, hs0⟩ := eX (Mn t N r); obtain ⟨s1, hs1⟩ := eX (Mn t N (r + 1)); have HS1 := Hd (show s1 = (s0 || (kd == 1 && (N == 1 || decide (N ≤ r)))) by rw [hs1, HSC.out, hs0, hkd]); have HSE := Hd hs1; rw [← hs0]; obtain ⟨m, hm⟩ := eX (r % 2); have em1 : (r : Int) % 2 = (m : Int) := (by omega); have em2 : Int.tmod (r : Int) 2 = (m : Int) := (by rw [Int.tmod_eq_emod_of_nonneg (by omega)]; omega); have hm2 : m = 0 ∨ m = 1 := (by omega); have HMM := Hd hm; cases hrb : Aq (nd t r) with
    | false =>
     rw [hrb] at RC; have HRC := Hd RC; have HF := Hd (show R = false by rw [HRE.out, HP2.out r hlt (.inr hrb)]; rfl); clear RC hrb ck hra hnc hkd hs0 hs1 hm hm2; go_wp2_with (refine wpList_load_mid rfl 54 (.tmp 28) rfl b (off + r * 10) rfl cs.toList _ HRA.out Tryz.underlying54 rfl (by rw [dF, HSZ.out]; exact Af) ?_); refine (HRC.out).mono ?_; rintro e w2 ⟨rfl, hb2⟩; have HB2 := Hd (HB.out.trans (hb2.mono HB.out.size)); clear hb2; go_wp2_with fail; go_ret; exact ⟨Da HF.out, HB2.out⟩
    | true =>
     rw [hrb] at RC; have HRC := Hd RC; have HRB := Hd hrb; clear RC hrb ck hra hnc hkd hs0 hs1 hm HSC; rcases hm2 with rfl | rfl
     ·have HOK := Hd (Dt HMM.out.symm)
      by_cases hk : kd = 2
      ·have hq : ((kd : Int) == 2) = true := (by rw [beq_iff_eq]; omega); have HF := Hd (show R = false by rw [HRE.out, HP2.out r hlt (.inl (by rw [← HKD.out, HOK.out, hk]))]; rfl); clear hk; go_wp2_with (refine wpList_load_mid rfl 54 (.tmp 28) rfl b (off + r * 10) rfl cs.toList _ HRA.out Tryz.underlying54 rfl (by rw [dF, HSZ.out]; exact Af) ?_); refine (HRC.out).mono ?_; rintro e w2 ⟨rfl, hb2⟩; have HB2 := Hd (HB.out.trans (hb2.mono HB.out.size)); clear hb2; go_wp2_with fail; go_ret; exact ⟨Da HF.out, HB2.out⟩
      ·have hq : ((kd : Int) == 2) = false := (by rw [beq_eq_false_iff_ne]; omega); have HKN := Hd (show (nd t r).kind ≠ Dn r by rw [← HKD.out, HOK.out]; exact hk)
       by_cases hk1 : kd = 1
       ·have hq1 : ((kd : Int) == 1) = true := (by rw [beq_iff_eq]; omega); cases s0 with
        | true =>
         have HV := Hd (show s1 = true by rw [HS1.out]; rfl); try clear hk1
         try clear hN1
         try clear hk
         go_wp2_with (refine wpList_load_mid rfl 54 (.tmp 28) rfl b (off + r * 10) rfl cs.toList _ HRA.out Tryz.underlying54 rfl (by rw [dF, HSZ.out]; exact Af) ?_); refine (HRC.out).mono ?_; rintro e w2 ⟨rfl, hb2⟩; have HB2 := Hd (HB.out.trans (hb2.mono HB.out.size)); clear hb2; go_wp2_with fail; go_roundg (gk - 1); case measure => have := HR.out; omega
         case rel =>
          refine ⟨r + 1, by have := HR.out; omega, by go_num, by rw [← HSE.out, HV.out], fun i hi => ?_, HB2.out⟩
          by_cases e : i = r
          ·rw [e]; exact ⟨HKN.out, HRB.out⟩
          ·exact HALL.out i (by omega)
        | false =>
         by_cases hN1 : N = 1
         ·have hNq : ((N : Int) == 1) = true := (by rw [beq_iff_eq]; omega); have HV := Hd (show s1 = true by rw [HS1.out, hk1, hN1]; rfl); try clear hk1
          try clear hN1
          try clear hk
          go_wp2_with (refine wpList_load_mid rfl 54 (.tmp 28) rfl b (off + r * 10) rfl cs.toList _ HRA.out Tryz.underlying54 rfl (by rw [dF, HSZ.out]; exact Af) ?_); refine (HRC.out).mono ?_; rintro e w2 ⟨rfl, hb2⟩; have HB2 := Hd (HB.out.trans (hb2.mono HB.out.size)); clear hb2; go_wp2_with fail; go_roundg (gk - 1); case measure => have := HR.out; omega
          case rel =>
           refine ⟨r + 1, by have := HR.out; omega, by go_num, by rw [← HSE.out, HV.out], fun i hi => ?_, HB2.out⟩
           by_cases e : i = r
           ·rw [e]; exact ⟨HKN.out, HRB.out⟩
           ·exact HALL.out i (by omega)
         ·have hNq : ((N : Int) == 1) = false := (by rw [beq_eq_false_iff_ne]; omega); have hNb : (N == 1) = false := beq_eq_false_iff_ne.2 hN1
          by_cases hge : N ≤ r
          ·have hg' : decide (N ≤ r) = true := decide_eq_true hge; have HV := Hd (show s1 = true by rw [HS1.out, hk1, hNb, hg']; rfl); try clear hk1
           try clear hN1
           try clear hk
           go_wp2_with (refine wpList_load_mid rfl 54 (.tmp 28) rfl b (off + r * 10) rfl cs.toList _ HRA.out Tryz.underlying54 rfl (by rw [dF, HSZ.out]; exact Af) ?_); refine (HRC.out).mono ?_; rintro e w2 ⟨rfl, hb2⟩; have HB2 := Hd (HB.out.trans (hb2.mono HB.out.size)); clear hb2; go_wp2_with fail; go_roundg (gk - 1); case measure => have := HR.out; omega
           case rel =>
            refine ⟨r + 1, by have := HR.out; omega, by go_num, by rw [← HSE.out, HV.out], fun i hi => ?_, HB2.out⟩
            by_cases e : i = r
            ·rw [e]; exact ⟨HKN.out, HRB.out⟩
            ·exact HALL.out i (by omega)
          ·have hg' : decide (N ≤ r) = false := decide_eq_false hge; have HV := Hd (show s1 = false by rw [HS1.out, hk1, hNb, hg']; rfl); try clear hk1
           try clear hN1
           try clear hk
           go_wp2_with (refine wpList_load_mid rfl 54 (.tmp 28) rfl b (off + r * 10) rfl cs.toList _ HRA.out Tryz.underlying54 rfl (by rw [dF, HSZ.out]; exact Af) ?_); refine (HRC.out).mono ?_; rintro e w2 ⟨rfl, hb2⟩; have HB2 := Hd (HB.out.trans (hb2.mono HB.out.size)); clear hb2; go_wp2_with fail; go_roundg (gk - 1); case measure => have := HR.out; omega
           case rel =>
            refine ⟨r + 1, by have := HR.out; omega, by go_num, by rw [← HSE.out, HV.out], fun i hi => ?_, HB2.out⟩
            by_cases e : i = r
            ·rw [e]; exact ⟨HKN.out, HRB.out⟩
            ·exact HALL.out i (by omega)
       ·have hq1 : ((kd : Int) == 1) = false := (by rw [beq_eq_false_iff_ne]; omega); have hqb : (kd == 1) = false := beq_eq_false_iff_ne.2 hk1; cases s0 with
        | true =>
         have HV := Hd (show s1 = true by rw [HS1.out]; rfl); try clear hk1
         try clear hN1
         try clear hk
         go_wp2_with (refine wpList_load_mid rfl 54 (.tmp 28) rfl b (off + r * 10) rfl cs.toList _ HRA.out Tryz.underlying54 rfl (by rw [dF, HSZ.out]; exact Af) ?_); refine (HRC.out).mono ?_; rintro e w2 ⟨rfl, hb2⟩; have HB2 := Hd (HB.out.trans (hb2.mono HB.out.size)); clear hb2; go_wp2_with fail; go_roundg (gk - 1); case measure => have := HR.out; omega
         case rel =>
          refine ⟨r + 1, by have := HR.out; omega, by go_num, by rw [← HSE.out, HV.out], fun i hi => ?_, HB2.out⟩
          by_cases e : i = r
          ·rw [e]; exact ⟨HKN.out, HRB.out⟩
          ·exact HALL.out i (by omega)
        | false =>
         have HV := Hd (show s1 = false by rw [HS1.out, hqb]; rfl); try clear hk1
         try clear hN1
         try clear hk
         go_wp2_with (refine wpList_load_mid rfl 54 (.tmp 28) rfl b (off + r * 10) rfl cs.toList _ HRA.out Tryz.underlying54 rfl (by rw [dF, HSZ.out]; exact Af) ?_); refine (HRC.out).mono ?_; rintro e w2 ⟨rfl, hb2⟩; have HB2 := Hd (HB.out.trans (hb2.mono HB.out.size)); clear hb2; go_wp2_with fail; go_roundg (gk - 1); case measure => have := HR.out; omega
         case rel =>
          refine ⟨r + 1, by have := HR.out; omega, by go_num, by rw [← HSE.out, HV.out], fun i hi => ?_, HB2.out⟩
          by_cases e : i = r
          ·rw [e]; exact ⟨HKN.out, HRB.out⟩
          ·exact HALL.out i (by omega)
     ·have HOK := Hd (Fn HMM.out.symm)
      by_cases hk : kd = 1
      ·have hq : ((kd : Int) == 1) = true := (by rw [beq_iff_eq]; omega); have HF := Hd (show R = false by rw [HRE.out, HP2.out r hlt (.inl (by rw [← HKD.out, HOK.out, hk]))]; rfl); clear hk; go_wp2_with (refine wpList_load_mid rfl 54 (.tmp 28) rfl b (off + r * 10) rfl cs.toList _ HRA.out Tryz.underlying54 rfl (by rw [dF, HSZ.out]; exact Af) ?_); refine (HRC.out).mono ?_; rintro e w2 ⟨rfl, hb2⟩; have HB2 := Hd (HB.out.trans (hb2.mono HB.out.size)); clear hb2; go_wp2_with fail; go_ret; exact ⟨Da HF.out, HB2.out⟩
      ·have hq : ((kd : Int) == 1) = false := (by rw [beq_eq_false_iff_ne]; omega); have HKN := Hd (show (nd t r).kind ≠ Dn r by rw [← HKD.out, HOK.out]; exact hk); have hqb : (kd == 1) = false := beq_eq_false_iff_ne.2 hk; cases s0 with
       | true =>
        have HV := Hd (show s1 = true by rw [HS1.out]; rfl); try clear hk1
        try clear hN1
        try clear hk
        go_wp2_with (refine wpList_load_mid rfl 54 (.tmp 28) rfl b (off + r * 10) rfl cs.toList _ HRA.out Tryz.underlying54 rfl (by rw [dF, HSZ.out]; exact Af) ?_); refine (HRC.out).mono ?_; rintro e w2 ⟨rfl, hb2⟩; have HB2 := Hd (HB.out.trans (hb2.mono HB.out.size)); clear hb2; go_wp2_with fail; go_roundg (gk - 1); case measure => have := HR.out; omega
        case rel =>
         refine ⟨r + 1, by have := HR.out; omega, by go_num, by rw [← HSE.out, HV.out], fun i hi => ?_, HB2.out⟩
         by_cases e : i = r
         ·rw [e]; exact ⟨HKN.out, HRB.out⟩
         ·exact HALL.out i (by omega)
       | false =>
        have HV := Hd (show s1 = false by rw [HS1.out, hqb]; rfl); try clear hk1
        try clear hN1
        try clear hk
        go_wp2_with (refine wpList_load_mid rfl 54 (.tmp 28) rfl b (off + r * 10) rfl cs.toList _ HRA.out Tryz.underlying54 rfl (by rw [dF, HSZ.out]; exact Af) ?_); refine (HRC.out).mono ?_; rintro e w2 ⟨rfl, hb2⟩; have HB2 := Hd (HB.out.trans (hb2.mono HB.out.size)); clear hb2; go_wp2_with fail; go_roundg (gk - 1); case measure => have := HR.out; omega
        case rel =>
         refine ⟨r + 1, by have := HR.out; omega, by go_num, by rw [← HSE.out, HV.out], fun i hi => ?_, HB2.out⟩
         by_cases e : i = r
         ·rw [e]; exact ⟨HKN.out, HRB.out⟩
         ·exact HALL.out i (by omega)
   ·obtain rfl : r = n := (by have := HR.out; omega); have hlt' : decide (r < r) = false := decide_eq_false hlt; have HPB := Hd (HP1.out HALL.out); have HSUE := HSU.out; rw [HSUE]; cases hsb : sb with
    | false =>
     have HF := Hd (show R = false by rw [HRE.out, HPB.out, hsb]; rfl); clear hsb HSUE; go_wp2_with fail; go_ret; exact ⟨Da HF.out, HB.out⟩
    | true =>
     have HSB := Hd hsb; clear hsb HSUE; go_wp2_with fail
     go_loopg [7] r (fun q2 iv wr => ∃ x : Nat, x + q2 = r ∧ iv = .int .i64 (x : Nat) ∧ (∀ i, i < x → Di t i = true) ∧ Below w'.heap.size w' wr)
     case atStart => exact ⟨0, by omega, rfl, fun i hi => by omega, HB.out⟩
     case round =>
      obtain ⟨x, hx, rfl, hall, hb⟩ := hrel; have HX := Hd hx; have HA2 := Hd hall; have HB2 := Hd hb; clear hx hall hb
      by_cases hxn : x < r
      ·have hxn' : decide (x < r) = true := decide_eq_true hxn; obtain ⟨b, off, l, e, eab, hbl, ck, cl, hrl⟩ := HGA.out wr HB2.out x hxn; subst eab; obtain ⟨k0, hk0⟩ := eX ((nd t x).par.late.length); have hk60 := H60.out x; rw [← hk0] at cl hrl hk60; have HRL := Hd hrl; have HK0 := Hd hk0; have HBL := Hd hbl; clear ck hrl hk0 hbl; go_wp2_with fail; obtain ⟨g1, rfl⟩ := eX gk; obtain ⟨w1, rfl⟩ := eX wr
       go_loopg [9] k0 (fun q2 iv wr => ∃ s : Nat, s + q2 = k0 ∧ iv = .int .i64 (s : Nat) ∧ (∀ i, i < s → Gx t x ((nd t x).par.late.getD i 0)) ∧ Below w1.heap.size w1 wr)
       case atStart => exact ⟨0, by omega, rfl, fun i hi => by omega, bR⟩
       case round =>
        obtain ⟨s, hs, rfl, hall, hb⟩ := hrel; have HS := Hd hs; have HA3 := Hd hall; have HB3 := Hd hb; clear hs hall hb
        by_cases hsk : s < k0
        ·have hsk' : decide (s < k0) = true := decide_eq_true hsk; have hsl : s < (nd t x).par.late.length := (by have := HK0.out; omega); obtain ⟨bl, ol, el', hbll, cm⟩ := HRL.out.at3 (u := .int .i64 ((nd t x).par.late.getD s 0)) (r := s) (by simp [ivs, aH, hsl]); subst el'; obtain ⟨m, hm, hm16⟩ := HNAT.out HPB.out x s hxn hsl; rw [hm] at cm; have HCM := Hd cm; have cm1 := (HB3.out.cell (p := ⟨bl, ol + s, none⟩) hbll).trans cm; have HM := Hd hm; have NOM := Hd (fun (hh : ¬ Gx t x (m : Int)) => (show R = false by
          have h1 := HNO.out x s hsl (by rw [HM.out]; exact hh); rw [HRE.out, HL2.out x hxn h1]; simp))
         obtain ⟨q, hq⟩ := eX (2 * m); have hqI : 2 * (m : Int) = (q : Int) := (by omega); have HQ := Hd hq; have HHBLL := Hd hbll; clear hq hm cm hsl hbll; have HBW := Hd (HB2.out.trans (HB3.out.mono HB2.out.size))
         by_cases c1 : N ≤ m
         ·have g1' : decide (N ≤ m) = true := decide_eq_true c1; have HF := Hd (NOM.out (fun hh => by have := ((HLP.out m x).1 hh).1; omega)); go_wp2_with fail; go_ret; exact ⟨Da HF.out, HBW.out⟩
         ·have g1' : decide (N ≤ m) = false := decide_eq_false c1; have hqn : q < r := (by have := HQ.out; omega); have hqw : IntKind.i64.wrap (q : Int) = (q : Int) := (by rw [IntKind.wrap_i64]; omega); obtain ⟨b', off', l2, e2, eb, hblq, ckq, _, _⟩ := HGA.out wr HBW.out q hqn; simp only [Option.some.injEq, Addr.mk.injEq, and_true] at eb; obtain ⟨rfl, rfl⟩ := eb; obtain ⟨kq, hkq⟩ := eX ((nd t q).kind); rw [← hkq] at ckq
          by_cases c2 : kq = 1
          ·have HKQ := Hd (show (nd t q).kind = 1 by rw [← hkq]; exact c2); rw [c2] at ckq; have ckq' : wr.cell? ⟨b, off + q * 10, none⟩ = some (.int .u8 1) := ckq; clear hkq c2 ckq; cases hun : Bl (q : Int) (x : Int) with
           | false =>
            have HF := Hd (NOM.out (fun hh => by
             have := ((HLP.out m x).1 hh).2.1; rw [← HQ.out, hun] at this; cases this))
            have U0 := Db (q : Int) (x : Int) wr; rw [hun] at U0; have HU0 := Hd U0; clear U0 hun; go_wp2_with fail; refine (HU0.out).mono ?_; rintro e' w2 ⟨rfl, hb2⟩; have HBX := Hd (HBW.out.trans (hb2.mono HBW.out.size)); clear hb2; go_wp2_with fail; go_ret; exact ⟨Da HF.out, HBX.out⟩
           | true =>
            have HUND := Hd hun; have U0 := Db (q : Int) (x : Int) wr; rw [hun] at U0; have HU0 := Hd U0; clear U0 hun; go_wp2_with fail; refine (HU0.out).mono ?_; rintro e' w2 ⟨rfl, hb2⟩; have HB4 := Hd (HB3.out.trans (hb2.mono HB3.out.size)); clear hb2 cm1 ckq'; go_wp2_with fail; obtain ⟨g2, rfl⟩ := eX gk; obtain ⟨w3, rfl⟩ := eX wr
            go_loopg [10] r (fun q2 iv wr => ∃ y : Nat, y + q2 = r ∧ iv = .int .i64 (y : Nat) ∧ (∀ i, i < y → (nd t i).kind = 2 → Bl (q : Int) (i : Int) = true → Bl (i : Int) (x : Int) = true → (m : Int) ∈ (nd t i).par.late) ∧ Below w1.heap.size w1 wr)
            case atStart => exact ⟨0, by omega, rfl, fun i hi => by omega, HB4.out⟩
            case round =>
             obtain ⟨y, hy, rfl, hall, hb⟩ := hrel; have HY := Hd hy; have HA4 := Hd hall; have HB5 := Hd hb; clear hy hall hb
             by_cases hyn : y < r
             ·have hyn' : decide (y < r) = true := decide_eq_true hyn; have HBY := Hd (HB2.out.trans (HB5.out.mono HB2.out.size)); obtain ⟨b', off', ly, ey, eb, hbly, cky, cly, hrly⟩ := HGA.out wr HBY.out y hyn; simp only [Option.some.injEq, Addr.mk.injEq, and_true] at eb; obtain ⟨rfl, rfl⟩ := eb; have HTS := fun (W : World) (hw : Below wr.heap.size wr W) => Up _ _ (m : Int) W (hrly.below hw lR); obtain ⟨lyn, hlyn⟩ := eX ((nd t y).par.late.length); rw [← hlyn] at cly HTS; obtain ⟨ky, hky⟩ := eX ((nd t y).kind); rw [← hky] at cky; have CM := Hd ((HB5.out.cell (p := ⟨bl, ol + s, none⟩) HHBLL.out).trans HCM.out); have HBLY := Hd hbly; have HBLL := Hd (Nat.lt_of_lt_of_le HHBLL.out HB5.out.size); have CKY := Hd cky; have CLY := Hd cly; have HKY := Hd hky; have hry := HBY.out.size; clear cky cly hky hlyn hrly hbly; have NX := Hd (fun (hh : (nd t y).kind = 2 → Bl (q : Int) (y : Int) = true → Bl (y : Int) (x : Int) = true → (m : Int) ∈ (nd t y).par.late) => (show ∀ i, i < y + 1 → (nd t i).kind = 2 → Bl (q : Int) (i : Int) = true → Bl (i : Int) (x : Int) = true → (m : Int) ∈ (nd t i).par.late from fun i hi => by
               by_cases e : i = y
               ·rw [e]; exact hh
               ·exact HA4.out i (by omega)))
              by_cases c3 : ky = 2
              ·have HK2 := Hd (show (nd t y).kind = 2 by rw [← HKY.out]; exact c3); have gky : ((ky : Int) == 2) = true := (by rw [beq_iff_eq]; omega); clear c3; cases hu1 : Bl (q : Int) (y : Int) with
               | false =>
                have U1' := fun W => Db (q : Int) (y : Int) W; simp only [hu1] at U1'; have U1 := Hd U1'; have HN := Hd (NX.out (fun _ h _ => by rw [hu1] at h; cases h)); clear U1' hu1 HTS; go_wp2_with fail; refine Co [eF (.slice (some ⟨b, off, none⟩) r c), eF (.int .i64 (y : Nat)), eF (.pointer (some ⟨b, off + y * 10, none⟩)), eF (.pointer (some ⟨b, off + y * 10, none⟩)), eF (.int .u8 (ky : Nat)), eF (.bool true), eF (.bool true), eF (.slice (some ⟨bl, ol, none⟩) k0 e), eF (.int .i64 (s : Nat)), eF (.pointer (some ⟨bl, ol + s, none⟩)), eF (.int .i64 (m : Nat)), eF (.int .i64 (q : Nat)), eF (.int .i64 (y : Nat)), eF (.bool false), eF (.bool false), eF (.bool false), eF undef, eF undef, eF undef, eF (.bool false), eF (.bool false), eF undef, eF undef, eF undef, eF undef, eF undef, eF undef, eF undef, eF undef, eF undef, eF undef, eF undef, eF undef, eF (.bool false)] (by kernel_rfl) (by kernel_rfl) (by kernel_rfl) (kE (kE (kE (kE (kE (kE (kE (kE (kE (kE (kE (kE (kE (kE (kE (kE (kE (kE (kE (kE (kE (kE (kE (kE (kE (kE (kE (kE (kE (kE (kE (kE (kE (kE Ae)))))))))))))))))))))))))))))))))) ?_ ?_
                ·refine gQ ?_ (gQ ?_ (gQ ?_ (gQ ?_ (gQ ?_ (gQ ?_ (gQ ?_ (gQ ?_ (gQ ?_ (gQ ?_ (gQ ?_ (gQ ?_ (gQ ?_ (gB ?_ (gQ ?_ (gQ ?_ (fO rfl rfl rfl rfl rfl rfl (fun _ _ hf => hf.1) rfl (fO rfl rfl rfl rfl rfl rfl (fun _ _ hf => hf.1) rfl (fO rfl rfl rfl rfl rfl rfl (fun _ _ hf => hf.2.2.1) rfl (gQ ?_ (gQ ?_ (fO rfl rfl rfl rfl rfl rfl (fun _ _ hf => hf.1) rfl (fO rfl rfl rfl rfl rfl rfl (fun _ _ hf => hf.1) rfl (fO rfl rfl rfl rfl rfl rfl (fun _ _ hf => hf.2.2.1) rfl (fO rfl rfl rfl rfl rfl rfl (fun _ _ hf => hf.2.1) rfl (fO rfl rfl rfl rfl rfl rfl (fun _ _ hf => hf.2.1) rfl (fO rfl rfl rfl rfl rfl rfl (fun _ _ hf => hf.2.1) rfl (fO rfl rfl rfl rfl rfl rfl (fun _ _ hf => hf.1) rfl (fO rfl rfl rfl rfl rfl rfl (fun _ _ hf => hf.1) rfl (fO rfl rfl rfl rfl rfl rfl (fun _ _ hf => hf.2.2.1) rfl (fO rfl rfl rfl rfl rfl rfl (fun _ _ hf => hf.2.1) rfl (fO rfl rfl rfl rfl rfl rfl (fun _ _ hf => hf.2.2.1) rfl (fO rfl rfl rfl rfl rfl rfl (fun _ _ hf => hf.2.1) rfl (gQ ?_ .nil))))))))))))))))))))))))))))))))); all_goals
                  intro a wx hbx ho hf; refine ⟨by first | rfl | exact Ah rfl rfl rfl hf.1 | exact Ah rfl rfl rfl hf.2.1 | exact Ah rfl rfl rfl hf.2.2.1, ?_⟩; intro K hK; try have P0 : a.tmps[0]?.getD undef = .slice (some ⟨b, off, none⟩) r c := ho 0 (by kernel_rfl)
                  try have P8 : a.tmps[8]?.getD undef = .slice (some ⟨bl, ol, none⟩) k0 e := ho 8 (by kernel_rfl)
                  try have P9 : a.tmps[9]?.getD undef = .int .i64 (s : Nat) := ho 9 (by kernel_rfl)
                  try have P10 : a.tmps[10]?.getD undef = .int .i64 (y : Nat) := ho 10 (by kernel_rfl)
                  try have E0 := eqn hf.1
                  try have E1 := eqn hf.2.1
                  try have D0 := (hbx.cell (p := ⟨b, off + y * 10, none⟩) HBLY.out).trans CKY.out
                  try have D1 := (hbx.cell (p := ⟨bl, ol + s, none⟩) HBLL.out).trans CM.out
                  try (refine Hd ?_; go_simp; exact hK _ rfl)
                 ·go_simp; refine (U1.out wx).mono ?_; rintro e w2 ⟨rfl, hb2⟩; exact hK _ _ rfl hb2
                ·rintro f w9 hb9 hfin; have hfe : f 151 = .bool false := hfin.2.2.2.2.2.2.2.2.2.2.2.2.2.2.2.2.2.2.2.2.2.2.2.2.2.2.2.2.2.2.2.2.2.1; clear hfin; simp only [Ao, Av, Ey, cT, cU, cV, cW, Nat.reduceBEq, Nat.reduceAdd, cX, cY, cond_true, cond_false]; rw [hfe]; have HB9 := Hd (HB5.out.trans (hb9.mono HB5.out.size)); clear hb9 hfe; go_wp2_with fail; go_roundg (gk - 1); case measure => have := HY.out; omega
                 case rel => exact ⟨y + 1, by have := HY.out; omega, by go_num, HN.out, HB9.out⟩
               | true =>
                have U1' := fun W => Db (q : Int) (y : Int) W; simp only [hu1] at U1'; have U1 := Hd U1'; have HU1 := Hd hu1; clear U1' hu1; cases hu2 : Bl (y : Int) (x : Int) with
                | false =>
                 have U2' := fun W => Db (y : Int) (x : Int) W; simp only [hu2] at U2'; have U2 := Hd U2'; have HN := Hd (NX.out (fun _ _ h => by rw [hu2] at h; cases h)); clear U2' hu2 HTS; go_wp2_with fail; refine Co [eF (.slice (some ⟨b, off, none⟩) r c), eF (.int .i64 (y : Nat)), eF (.pointer (some ⟨b, off + y * 10, none⟩)), eF (.pointer (some ⟨b, off + y * 10, none⟩)), eF (.int .u8 (ky : Nat)), eF (.bool true), eF (.bool true), eF (.slice (some ⟨bl, ol, none⟩) k0 e), eF (.int .i64 (s : Nat)), eF (.pointer (some ⟨bl, ol + s, none⟩)), eF (.int .i64 (m : Nat)), eF (.int .i64 (q : Nat)), eF (.int .i64 (y : Nat)), eF (.bool true), eF (.bool true), eF (.bool true), eF (.int .i64 (y : Nat)), eF (.int .i64 (x : Nat)), eF (.bool false), eF (.bool false), eF (.bool false), eF undef, eF undef, eF undef, eF undef, eF undef, eF undef, eF undef, eF undef, eF undef, eF undef, eF undef, eF undef, eF (.bool false)] (by kernel_rfl) (by kernel_rfl) (by kernel_rfl) (kE (kE (kE (kE (kE (kE (kE (kE (kE (kE (kE (kE (kE (kE (kE (kE (kE (kE (kE (kE (kE (kE (kE (kE (kE (kE (kE (kE (kE (kE (kE (kE (kE (kE Ae)))))))))))))))))))))))))))))))))) ?_ ?_
                 ·refine gQ ?_ (gQ ?_ (gQ ?_ (gQ ?_ (gQ ?_ (gQ ?_ (gQ ?_ (gQ ?_ (gQ ?_ (gQ ?_ (gQ ?_ (gQ ?_ (gQ ?_ (gB ?_ (gQ ?_ (gQ ?_ (gQ ?_ (gQ ?_ (gB ?_ (gQ ?_ (gQ ?_ (fO rfl rfl rfl rfl rfl rfl (fun _ _ hf => hf.1) rfl (fO rfl rfl rfl rfl rfl rfl (fun _ _ hf => hf.1) rfl (fO rfl rfl rfl rfl rfl rfl (fun _ _ hf => hf.2.2.1) rfl (fO rfl rfl rfl rfl rfl rfl (fun _ _ hf => hf.2.1) rfl (fO rfl rfl rfl rfl rfl rfl (fun _ _ hf => hf.2.1) rfl (fO rfl rfl rfl rfl rfl rfl (fun _ _ hf => hf.2.1) rfl (fO rfl rfl rfl rfl rfl rfl (fun _ _ hf => hf.1) rfl (fO rfl rfl rfl rfl rfl rfl (fun _ _ hf => hf.1) rfl (fO rfl rfl rfl rfl rfl rfl (fun _ _ hf => hf.2.2.1) rfl (fO rfl rfl rfl rfl rfl rfl (fun _ _ hf => hf.2.1) rfl (fO rfl rfl rfl rfl rfl rfl (fun _ _ hf => hf.2.2.1) rfl (fO rfl rfl rfl rfl rfl rfl (fun _ _ hf => hf.2.1) rfl (gQ ?_ .nil))))))))))))))))))))))))))))))))); all_goals
                   intro a wx hbx ho hf; refine ⟨by first | rfl | exact Ah rfl rfl rfl hf.1 | exact Ah rfl rfl rfl hf.2.1 | exact Ah rfl rfl rfl hf.2.2.1, ?_⟩; intro K hK; try have P0 : a.tmps[0]?.getD undef = .slice (some ⟨b, off, none⟩) r c := ho 0 (by kernel_rfl)
                   try have P7 : a.tmps[7]?.getD undef = .int .i64 (x : Nat) := ho 7 (by kernel_rfl)
                   try have P8 : a.tmps[8]?.getD undef = .slice (some ⟨bl, ol, none⟩) k0 e := ho 8 (by kernel_rfl)
                   try have P9 : a.tmps[9]?.getD undef = .int .i64 (s : Nat) := ho 9 (by kernel_rfl)
                   try have P10 : a.tmps[10]?.getD undef = .int .i64 (y : Nat) := ho 10 (by kernel_rfl)
                   try have E0 := eqn hf.1
                   try have E1 := eqn hf.2.1
                   try have D0 := (hbx.cell (p := ⟨b, off + y * 10, none⟩) HBLY.out).trans CKY.out
                   try have D1 := (hbx.cell (p := ⟨bl, ol + s, none⟩) HBLL.out).trans CM.out
                   try (refine Hd ?_; go_simp; exact hK _ rfl)
                  ·go_simp; refine (U1.out wx).mono ?_; rintro e w2 ⟨rfl, hb2⟩; exact hK _ _ rfl hb2
                  ·go_simp; refine (U2.out wx).mono ?_; rintro e w2 ⟨rfl, hb2⟩; exact hK _ _ rfl hb2
                 ·rintro f w9 hb9 hfin; have hfe : f 151 = .bool false := hfin.2.2.2.2.2.2.2.2.2.2.2.2.2.2.2.2.2.2.2.2.2.2.2.2.2.2.2.2.2.2.2.2.2.1; clear hfin; simp only [Ao, Av, Ey, cT, cU, cV, cW, Nat.reduceBEq, Nat.reduceAdd, cX, cY, cond_true, cond_false]; rw [hfe]; have HB9 := Hd (HB5.out.trans (hb9.mono HB5.out.size)); clear hb9 hfe; go_wp2_with fail; go_roundg (gk - 1); case measure => have := HY.out; omega
                  case rel => exact ⟨y + 1, by have := HY.out; omega, by go_num, HN.out, HB9.out⟩
                | true =>
                 have U2' := fun W => Db (y : Int) (x : Int) W; simp only [hu2] at U2'; have U2 := Hd U2'; have HU2 := Hd hu2; clear U2' hu2
                 by_cases hin : (m : Int) ∈ (nd t y).par.late
                 ·simp only [decide_eq_true hin] at HTS; have HHS := Hd HTS; have HN := Hd (NX.out (fun _ _ _ => hin)); clear HTS hin; go_wp2_with fail; refine Co [eF (.slice (some ⟨b, off, none⟩) r c), eF (.int .i64 (y : Nat)), eF (.pointer (some ⟨b, off + y * 10, none⟩)), eF (.pointer (some ⟨b, off + y * 10, none⟩)), eF (.int .u8 (ky : Nat)), eF (.bool true), eF (.bool true), eF (.slice (some ⟨bl, ol, none⟩) k0 e), eF (.int .i64 (s : Nat)), eF (.pointer (some ⟨bl, ol + s, none⟩)), eF (.int .i64 (m : Nat)), eF (.int .i64 (q : Nat)), eF (.int .i64 (y : Nat)), eF (.bool true), eF (.bool true), eF (.bool true), eF (.int .i64 (y : Nat)), eF (.int .i64 (x : Nat)), eF (.bool true), eF (.bool true), eF (.bool true), eF (.slice (some ⟨b, off, none⟩) r c), eF (.int .i64 (y : Nat)), eF (.pointer (some ⟨b, off + y * 10, none⟩)), eF (.pointer (some ⟨b, off + y * 10 + 7, none⟩)), eF (.pointer (some ⟨b, off + y * 10 + 7 + 2, none⟩)), eF (.slice ly lyn ey), eF (.slice (some ⟨bl, ol, none⟩) k0 e), eF (.int .i64 (s : Nat)), eF (.pointer (some ⟨bl, ol + s, none⟩)), eF (.int .i64 (m : Nat)), eF (.bool true), eF (.bool false), eF (.bool false)] (by kernel_rfl) (by kernel_rfl) (by kernel_rfl) (kE (kE (kE (kE (kE (kE (kE (kE (kE (kE (kE (kE (kE (kE (kE (kE (kE (kE (kE (kE (kE (kE (kE (kE (kE (kE (kE (kE (kE (kE (kE (kE (kE (kE Ae)))))))))))))))))))))))))))))))))) ?_ ?_
                  ·refine gQ ?_ (gQ ?_ (gQ ?_ (gQ ?_ (gQ ?_ (gQ ?_ (gQ ?_ (gQ ?_ (gQ ?_ (gQ ?_ (gQ ?_ (gQ ?_ (gQ ?_ (gB ?_ (gQ ?_ (gQ ?_ (gQ ?_ (gQ ?_ (gB ?_ (gQ ?_ (gQ ?_ (gQ ?_ (gQ ?_ (gQ ?_ (gQ ?_ (gQ ?_ (gQ ?_ (gQ ?_ (gQ ?_ (gQ ?_ (gQ ?_ (gB ?_ (gQ ?_ (gQ ?_ .nil))))))))))))))))))))))))))))))))); all_goals
                    intro a wx hbx ho hf; refine ⟨by first | rfl | exact Ah rfl rfl rfl hf.1 | exact Ah rfl rfl rfl hf.2.1 | exact Ah rfl rfl rfl hf.2.2.1, ?_⟩; intro K hK; try have P0 : a.tmps[0]?.getD undef = .slice (some ⟨b, off, none⟩) r c := ho 0 (by kernel_rfl)
                    try have P7 : a.tmps[7]?.getD undef = .int .i64 (x : Nat) := ho 7 (by kernel_rfl)
                    try have P8 : a.tmps[8]?.getD undef = .slice (some ⟨bl, ol, none⟩) k0 e := ho 8 (by kernel_rfl)
                    try have P9 : a.tmps[9]?.getD undef = .int .i64 (s : Nat) := ho 9 (by kernel_rfl)
                    try have P10 : a.tmps[10]?.getD undef = .int .i64 (y : Nat) := ho 10 (by kernel_rfl)
                    try have E0 := eqn hf.1
                    try have E1 := eqn hf.2.1
                    try have D0 := (hbx.cell (p := ⟨b, off + y * 10, none⟩) HBLY.out).trans CKY.out
                    try have D1 := (hbx.cell (p := ⟨bl, ol + s, none⟩) HBLL.out).trans CM.out
                    try have D2 := (hbx.cell (p := ⟨b, off + y * 10 + 7 + 2, none⟩) HBLY.out).trans CLY.out
                    try (refine Hd ?_; go_simp; exact hK _ rfl)
                   ·go_simp; refine (U1.out wx).mono ?_; rintro e w2 ⟨rfl, hb2⟩; exact hK _ _ rfl hb2
                   ·go_simp; refine (U2.out wx).mono ?_; rintro e w2 ⟨rfl, hb2⟩; exact hK _ _ rfl hb2
                   ·go_simp; refine (HHS.out wx hbx).mono ?_; rintro e w2 ⟨rfl, rfl⟩; exact hK _ _ rfl bR
                  ·rintro f w9 hb9 hfin; have hfe : f 151 = .bool false := hfin.2.2.2.2.2.2.2.2.2.2.2.2.2.2.2.2.2.2.2.2.2.2.2.2.2.2.2.2.2.2.2.2.2.1; clear hfin; simp only [Ao, Av, Ey, cT, cU, cV, cW, Nat.reduceBEq, Nat.reduceAdd, cX, cY, cond_true, cond_false]; rw [hfe]; have HB9 := Hd (HB5.out.trans (hb9.mono HB5.out.size)); clear hb9 hfe; go_wp2_with fail; go_roundg (gk - 1); case measure => have := HY.out; omega
                   case rel => exact ⟨y + 1, by have := HY.out; omega, by go_num, HN.out, HB9.out⟩
                 ·simp only [decide_eq_false hin] at HTS; have HHS := Hd HTS; have HF := Hd (NOM.out (fun hh => by
                   have h4 := ((HLP.out m x).1 hh).2.2.2 y hyn HK2.out; rw [← HQ.out] at h4; exact hin (h4 HU1.out HU2.out)))
                  clear HTS hin; go_wp2_with fail; refine Co [eF (.slice (some ⟨b, off, none⟩) r c), eF (.int .i64 (y : Nat)), eF (.pointer (some ⟨b, off + y * 10, none⟩)), eF (.pointer (some ⟨b, off + y * 10, none⟩)), eF (.int .u8 (ky : Nat)), eF (.bool true), eF (.bool true), eF (.slice (some ⟨bl, ol, none⟩) k0 e), eF (.int .i64 (s : Nat)), eF (.pointer (some ⟨bl, ol + s, none⟩)), eF (.int .i64 (m : Nat)), eF (.int .i64 (q : Nat)), eF (.int .i64 (y : Nat)), eF (.bool true), eF (.bool true), eF (.bool true), eF (.int .i64 (y : Nat)), eF (.int .i64 (x : Nat)), eF (.bool true), eF (.bool true), eF (.bool true), eF (.slice (some ⟨b, off, none⟩) r c), eF (.int .i64 (y : Nat)), eF (.pointer (some ⟨b, off + y * 10, none⟩)), eF (.pointer (some ⟨b, off + y * 10 + 7, none⟩)), eF (.pointer (some ⟨b, off + y * 10 + 7 + 2, none⟩)), eF (.slice ly lyn ey), eF (.slice (some ⟨bl, ol, none⟩) k0 e), eF (.int .i64 (s : Nat)), eF (.pointer (some ⟨bl, ol + s, none⟩)), eF (.int .i64 (m : Nat)), eF (.bool false), eF (.bool true), eF (.bool true)] (by kernel_rfl) (by kernel_rfl) (by kernel_rfl) (kE (kE (kE (kE (kE (kE (kE (kE (kE (kE (kE (kE (kE (kE (kE (kE (kE (kE (kE (kE (kE (kE (kE (kE (kE (kE (kE (kE (kE (kE (kE (kE (kE (kE Ae)))))))))))))))))))))))))))))))))) ?_ ?_
                  ·refine gQ ?_ (gQ ?_ (gQ ?_ (gQ ?_ (gQ ?_ (gQ ?_ (gQ ?_ (gQ ?_ (gQ ?_ (gQ ?_ (gQ ?_ (gQ ?_ (gQ ?_ (gB ?_ (gQ ?_ (gQ ?_ (gQ ?_ (gQ ?_ (gB ?_ (gQ ?_ (gQ ?_ (gQ ?_ (gQ ?_ (gQ ?_ (gQ ?_ (gQ ?_ (gQ ?_ (gQ ?_ (gQ ?_ (gQ ?_ (gQ ?_ (gB ?_ (gQ ?_ (gQ ?_ .nil))))))))))))))))))))))))))))))))); all_goals
                    intro a wx hbx ho hf; refine ⟨by first | rfl | exact Ah rfl rfl rfl hf.1 | exact Ah rfl rfl rfl hf.2.1 | exact Ah rfl rfl rfl hf.2.2.1, ?_⟩; intro K hK; try have P0 : a.tmps[0]?.getD undef = .slice (some ⟨b, off, none⟩) r c := ho 0 (by kernel_rfl)
                    try have P7 : a.tmps[7]?.getD undef = .int .i64 (x : Nat) := ho 7 (by kernel_rfl)
                    try have P8 : a.tmps[8]?.getD undef = .slice (some ⟨bl, ol, none⟩) k0 e := ho 8 (by kernel_rfl)
                    try have P9 : a.tmps[9]?.getD undef = .int .i64 (s : Nat) := ho 9 (by kernel_rfl)
                    try have P10 : a.tmps[10]?.getD undef = .int .i64 (y : Nat) := ho 10 (by kernel_rfl)
                    try have E0 := eqn hf.1
                    try have E1 := eqn hf.2.1
                    try have D0 := (hbx.cell (p := ⟨b, off + y * 10, none⟩) HBLY.out).trans CKY.out
                    try have D1 := (hbx.cell (p := ⟨bl, ol + s, none⟩) HBLL.out).trans CM.out
                    try have D2 := (hbx.cell (p := ⟨b, off + y * 10 + 7 + 2, none⟩) HBLY.out).trans CLY.out
                    try (refine Hd ?_; go_simp; exact hK _ rfl)
                   ·go_simp; refine (U1.out wx).mono ?_; rintro e w2 ⟨rfl, hb2⟩; exact hK _ _ rfl hb2
                   ·go_simp; refine (U2.out wx).mono ?_; rintro e w2 ⟨rfl, hb2⟩; exact hK _ _ rfl hb2
                   ·go_simp; refine (HHS.out wx hbx).mono ?_; rintro e w2 ⟨rfl, rfl⟩; exact hK _ _ rfl bR
                  ·rintro f w9 hb9 hfin; have hfe : f 151 = .bool true := hfin.2.2.2.2.2.2.2.2.2.2.2.2.2.2.2.2.2.2.2.2.2.2.2.2.2.2.2.2.2.2.2.2.2.1; clear hfin; simp only [Ao, Av, Ey, cT, cU, cV, cW, Nat.reduceBEq, Nat.reduceAdd, cX, cY, cond_true, cond_false]; rw [hfe]; have HB9 := Hd (HB5.out.trans (hb9.mono HB5.out.size)); clear hb9 hfe; go_wp2_with fail; go_ret; exact ⟨Da HF.out, HB2.out.trans (HB9.out.mono HB2.out.size)⟩
              ·have gky : ((ky : Int) == 2) = false := (by rw [beq_eq_false_iff_ne]; omega); have HN := Hd (NX.out (fun h _ _ => absurd (HKY.out.trans h) c3)); clear c3 HTS; go_wp2_with fail; refine Co [eF (.slice (some ⟨b, off, none⟩) r c), eF (.int .i64 (y : Nat)), eF (.pointer (some ⟨b, off + y * 10, none⟩)), eF (.pointer (some ⟨b, off + y * 10, none⟩)), eF (.int .u8 (ky : Nat)), eF (.bool false), eF (.bool false), eF undef, eF undef, eF undef, eF undef, eF undef, eF undef, eF undef, eF (.bool false), eF (.bool false), eF undef, eF undef, eF undef, eF (.bool false), eF (.bool false), eF undef, eF undef, eF undef, eF undef, eF undef, eF undef, eF undef, eF undef, eF undef, eF undef, eF undef, eF undef, eF (.bool false)] (by kernel_rfl) (by kernel_rfl) (by kernel_rfl) (kE (kE (kE (kE (kE (kE (kE (kE (kE (kE (kE (kE (kE (kE (kE (kE (kE (kE (kE (kE (kE (kE (kE (kE (kE (kE (kE (kE (kE (kE (kE (kE (kE (kE Ae)))))))))))))))))))))))))))))))))) ?_ ?_
               ·refine gQ ?_ (gQ ?_ (gQ ?_ (gQ ?_ (gQ ?_ (gQ ?_ (gQ ?_ (fO rfl rfl rfl rfl rfl rfl (fun _ _ hf => hf.1) rfl (fO rfl rfl rfl rfl rfl rfl (fun _ _ hf => hf.1) rfl (fO rfl rfl rfl rfl rfl rfl (fun _ _ hf => hf.2.2.1) rfl (fO rfl rfl rfl rfl rfl rfl (fun _ _ hf => hf.2.1) rfl (fO rfl rfl rfl rfl rfl rfl (fun _ _ hf => hf.2.1) rfl (fO rfl rfl rfl rfl rfl rfl (fun _ _ hf => hf.1) rfl (fO rfl rfl rfl rfl rfl rfl (fun _ _ hf => hf.2.2.1) rfl (gQ ?_ (gQ ?_ (fO rfl rfl rfl rfl rfl rfl (fun _ _ hf => hf.1) rfl (fO rfl rfl rfl rfl rfl rfl (fun _ _ hf => hf.1) rfl (fO rfl rfl rfl rfl rfl rfl (fun _ _ hf => hf.2.2.1) rfl (gQ ?_ (gQ ?_ (fO rfl rfl rfl rfl rfl rfl (fun _ _ hf => hf.1) rfl (fO rfl rfl rfl rfl rfl rfl (fun _ _ hf => hf.1) rfl (fO rfl rfl rfl rfl rfl rfl (fun _ _ hf => hf.2.2.1) rfl (fO rfl rfl rfl rfl rfl rfl (fun _ _ hf => hf.2.1) rfl (fO rfl rfl rfl rfl rfl rfl (fun _ _ hf => hf.2.1) rfl (fO rfl rfl rfl rfl rfl rfl (fun _ _ hf => hf.2.1) rfl (fO rfl rfl rfl rfl rfl rfl (fun _ _ hf => hf.1) rfl (fO rfl rfl rfl rfl rfl rfl (fun _ _ hf => hf.1) rfl (fO rfl rfl rfl rfl rfl rfl (fun _ _ hf => hf.2.2.1) rfl (fO rfl rfl rfl rfl rfl rfl (fun _ _ hf => hf.2.1) rfl (fO rfl rfl rfl rfl rfl rfl (fun _ _ hf => hf.2.2.1) rfl (fO rfl rfl rfl rfl rfl rfl (fun _ _ hf => hf.2.1) rfl (gQ ?_ .nil))))))))))))))))))))))))))))))))); all_goals
                 intro a wx hbx ho hf; refine ⟨rfl, ?_⟩; intro K hK; try have P0 : a.tmps[0]?.getD undef = .slice (some ⟨b, off, none⟩) r c := ho 0 (by kernel_rfl)
                 try have P10 : a.tmps[10]?.getD undef = .int .i64 (y : Nat) := ho 10 (by kernel_rfl)
                 try have E0 := eqn hf.1
                 try have E1 := eqn hf.2.1
                 try have D0 := (hbx.cell (p := ⟨b, off + y * 10, none⟩) HBLY.out).trans CKY.out
                 try (refine Hd ?_; go_simp; exact hK _ rfl)
               ·rintro f w9 hb9 hfin; have hfe : f 151 = .bool false := hfin.2.2.2.2.2.2.2.2.2.2.2.2.2.2.2.2.2.2.2.2.2.2.2.2.2.2.2.2.2.2.2.2.2.1; clear hfin; simp only [Ao, Av, Ey, cT, cU, cV, cW, Nat.reduceBEq, Nat.reduceAdd, cX, cY, cond_true, cond_false]; rw [hfe]; have HB9 := Hd (HB5.out.trans (hb9.mono HB5.out.size)); clear hb9 hfe; go_wp2_with fail; go_roundg (gk - 1); case measure => have := HY.out; omega
                case rel => exact ⟨y + 1, by have := HY.out; omega, by go_num, HN.out, HB9.out⟩
             ·obtain rfl : y = r := (by have := HY.out; omega); have hyn' : decide (y < y) = false := decide_eq_false hyn; have HFIN := Hd (show Gx t x (m : Int) from (HLP.out m x).2 ⟨by omega, by rw [← HQ.out]; exact HUND.out, by rw [← HQ.out, HKQ.out]; omega, by rw [← HQ.out]; exact HA4.out⟩); go_wp2_with fail; go_roundg (g2 - 1); case measure => have := HS.out; omega
              case rel =>
               refine ⟨s + 1, by have := HS.out; omega, by go_num, fun i hi => ?_, HB5.out⟩
               by_cases e : i = s
               ·rw [e, HM.out]; exact HFIN.out
               ·exact HA3.out i (by omega)
          ·have gkq : ((kq : Int) == 1) = false := (by rw [beq_eq_false_iff_ne]; omega); have gkq2 : ((kq : Int) != 1) = true := (by rw [bne, gkq]; rfl); have HF := Hd (NOM.out (fun hh => by
            have h1 := ((HLP.out m x).1 hh).2.2.1; rw [← HQ.out, ← hkq] at h1; have h2 := HPLA.out HPB.out q hqn; rw [Dt (by have := HQ.out; omega), ← hkq] at h2; have h3 := Fp h2.2; rw [← hkq] at h3; rcases h3 with h | h | h
            ·exact h1 h
            ·exact c2 h
            ·exact h2.1 h))
           clear hkq c2; go_wp2_with fail; go_ret; exact ⟨Da HF.out, HBW.out⟩
        ·obtain rfl : s = k0 := (by have := HS.out; omega); have hsk' : decide (s < s) = false := decide_eq_false hsk; have HFX := Hd (HLY.out x (fun i hi => HA3.out i (by have := HK0.out; omega))); go_wp2_with fail; go_roundg (g1 - 1); case measure => have := HX.out; omega
         case rel =>
          refine ⟨x + 1, by have := HX.out; omega, by go_num, fun i hi => ?_, HB2.out.trans (HB3.out.mono HB2.out.size)⟩
          by_cases e : i = x
          ·rw [e]; exact HFX.out
          ·exact HA2.out i (by omega)
      ·obtain rfl : x = r := (by have := HX.out; omega); have hxn' : decide (x < x) = false := decide_eq_false hxn; have HF := Hd (show R = true by rw [HRE.out, HPB.out, HSB.out, HL1.out HA2.out]; rfl); go_wp2_with fail; go_ret; exact ⟨Da HF.out, HB2.out⟩
end Go.Proofs.YtngealmhgkoaiaaGreat
