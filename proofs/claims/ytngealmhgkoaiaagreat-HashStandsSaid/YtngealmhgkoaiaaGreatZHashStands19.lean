/- Walks: tree.late. -/
import Derived.Test.YtngealmhgkoaiaaGreatZHashStands18
import Derived.Test.YtngealmhgkoaiaaGreatZHashStands14
import Derived.Test.YtngealmhgkoaiaaGreatZHashStands15
namespace Go.Proofs.YtngealmhgkoaiaaGreat
open Go.RowKit WalkM
set_option linter.unusedVariables false
theorem ups_at (x : Nat) : ∀ k j i, i < k → (ups x j k)[i]? = some (anc x (j + i + 1)) := by
 intro k
 induction k with
 | zero => intro j i h; omega
 | succ k ih =>
  intro j i h
  rw [ups]
  cases i with
  | zero => simp
  | succ i => rw [List.getElem?_cons_succ, ih (j + 1) i (by omega)]; congr 2; omega
theorem TreeR.at {w : World} {a : Option Addr} {n c : Nat} {t : List NodeD} (h : TreeR w (.slice a n c) t) {i : Nat} (hi : i < n) : ∃ b off l e, a = some ⟨b, off, none⟩ ∧ b < w.heap.size ∧ w.cell? ⟨b, off + i * 10, none⟩ = some (.int .u8 ((nd t i).kind : Nat)) ∧ w.cell? ⟨b, off + i * 10 + 9, none⟩ = some (.slice l (nd t i).par.late.length e) ∧ Rd w (.slice l (nd t i).par.late.length e) (ivs .i64 (nd t i).par.late) := by
 obtain ⟨b, off, cs, e1, e2, hn, hr⟩ := h.node hi
 obtain ⟨l, e, e3, e4⟩ := hn.late
 exact ⟨b, off, l, e, e1, e2, hr 0 _ hn.kind, hr 9 _ e3, e4⟩
set_option maxRecDepth 100000 in
set_option maxHeartbeats 4000000 in
theorem late_med (v : Value) (t : List NodeD) (x d : Nat) (w : World) (h : TreeR w v t) (hs : medT t = true) (hp : placedB t = true) (hd : d ≤ 16) (hl : t.length + 1 = 2 * 2 ^ d) (hx : x < t.length) :
  Calls Tryz.prog 132 #[v, .int .i64 (x : Nat)] w fun e w' => e = .returned (.bool (lateTB t x)) ∧ Below w.heap.size w w' := by
 obtain ⟨a, c, rfl, hc, hc2⟩ := h.sl
 have hlen := medT_len hs
 have h17 := two_pow_le (show d + 1 ≤ 17 by omega)
 have e2d : 2 ^ (d + 1) = 2 * 2 ^ d := by rw [Nat.pow_succ]; omega
 obtain ⟨L, hL⟩ : ∃ L, L = (nd t x).par.late := ⟨_, rfl⟩
 have LV := fun (W : World) => tleaves_any a t.length c W (by omega)
 rw [leavesN_pow hd hl] at LV
 have GA := fun (W : World) (hw : Below w.heap.size w W) (i : Nat) (hi : i < t.length) => (h.below hw (Nat.le_refl _)).at hi
 have UN := fun (q : Nat) (W : World) => under_any (q : Int) (x : Int) W
 have PA := fun (q : Nat) (hq : q + 1 < 2 ^ (d + 1)) (he : q % 2 = 0) (W : World) => (show Calls Tryz.prog 124 #[.int .i64 (q : Nat), .int .i64 ((2 ^ d : Nat) : Int)] W fun e w' => ∃ v, e = .returned v ∧ Own w' W.heap.size 3 v (nvs (ups q 0 d)) ∧ Below W.heap.size W w' from by
  have := path_any q d hd hq W
  rw [lev_even he (by omega)] at this
  exact this)
 have BS := fun (i : Nat) (hi : i < t.length) (u : Int) (lv : Value) (W : World) (hr : Rd W lv (ivs .i64 (nd t i).par.late)) => bsearch_any lv (nd t i).par.late u W hr (lateB_sort (right_late (placed_at hp hi).2)) (by
  have := of_decide_eq_true (medT_nd hs i)
  omega)
 have YES := fun (hh : ∀ r, r < L.length → LateP t x (L.getD r 0)) => lateTB_yes (t := t) (x := x) (fun u hu => by
  rw [← hL] at hu
  obtain ⟨r, hr, rfl⟩ := List.getElem_of_mem hu
  have := hh r hr
  rwa [List.getD_eq_getElem?_getD, List.getElem?_eq_getElem hr] at this)
 have MEM := fun (r : Nat) (hr : r < L.length) => (show L.getD r 0 ∈ (nd t x).par.late by rw [List.getD_eq_getElem?_getD, List.getElem?_eq_getElem hr, ← hL]; exact List.getElem_mem hr)
 have NO := fun (r : Nat) (hr : r < L.length) (hh : ¬ LateP t x (L.getD r 0)) => lateTB_no (MEM r hr) hh
 have NAT := fun (r : Nat) (hr : r < L.length) => placed_late hp hx (MEM r hr)
 have LP := fun (m : Nat) => lateP_nat (m := m) (x := x) hd hl
 have WAY := fun (m : Nat) (hm : 2 * m < t.length) (hu : (m : Int) ∈ (nd t x).par.late) (hund : undZ ((2 * m : Nat) : Int) (x : Int) = true) => way_iff hd hl hp hx hm hu hund
 have UL := fun (q : Nat) (hq : q + 1 < 2 ^ (d + 1)) (he : q % 2 = 0) => und_leaf hd hq (show x + 1 < 2 ^ (d + 1) by omega) he
 have LX := (lev_root (show x + 1 < 2 ^ (d + 1) by omega) (lev_is (x := x) (by omega))).1
 have LXP := fun (hk : (nd t x).kind = 2) => lev_pos (placed_two hp hx hk) (by omega)
 have ANC := fun (q j : Nat) (hq : q < 2 ^ (d + 1)) (hj : j ≤ d) => anc_le hq hj
 obtain ⟨N, hN⟩ : ∃ N, N = 2 ^ d := ⟨_, rfl⟩
 rw [← hN] at LV PA LP hl e2d
 obtain ⟨n, hn⟩ : ∃ n, n = t.length := ⟨_, rfl⟩
 rw [← hn] at LV GA BS WAY hl hx hc hlen ⊢
 rw [← hn] at LP
 rw [e2d] at PA UL ANC
 have hk60 : L.length ≤ 60 := by have := of_decide_eq_true (medT_nd hs x); rw [hL]; omega
 obtain ⟨k0, hk0⟩ : ∃ k, k = L.length := ⟨_, rfl⟩
 rw [← hk0] at hk60
 rw [← hk0] at YES MEM NO NAT
 have GX := fun (W : World) (hw : Below w.heap.size w W) => GA W hw x hx
 rw [← hL, ← hk0] at GX
 obtain ⟨R, hR⟩ : ∃ R, R = lateTB t x := ⟨_, rfl⟩
 rw [← hR] at YES NO ⊢
 have HLV := Lib.hid LV
 have HGA := Lib.hid GA
 have HGX := Lib.hid GX
 have HUN := Lib.hid UN
 have HPA := Lib.hid PA
 have HBS := Lib.hid BS
 have HYES := Lib.hid YES
 have HMEM := Lib.hid MEM
 have HNO := Lib.hid NO
 have HNAT := Lib.hid NAT
 have HLP := Lib.hid LP
 have HWAY := Lib.hid WAY
 have HUL := Lib.hid UL
 have HLX := Lib.hid LX
 have HLXP := Lib.hid LXP
 have HANC := Lib.hid ANC
 have HD := Lib.hid hd
 have HLL := Lib.hid hL
 have HLN := Lib.hid hl
 have HK0 := Lib.hid hk0
 have hNn : 2 * N = n + 1 := by omega
 clear LV GA GX UN PA BS YES MEM NO NAT LP WAY UL LX LXP ANC hL hl hn hR h hs hp hd h17 e2d hN hk0
 obtain ⟨b, off, l, e, rfl, hbl, ck, cl, hrl⟩ := HGX.out w (Below.refl _ _)
 have AT := fun (r : Nat) (hr : r < k0) => hrl.at3 (u := .int .i64 (L.getD r 0)) (r := r) (by have := HK0.out; simp [ivs, List.getD_eq_getElem?_getD, show r < L.length by omega])
 have HAT := Lib.hid AT
 clear AT hrl
 go_enter Tryz.func132, Tryz.ntmps132
 go_wp2_with fail
 refine (HLV.out w).mono ?_
 rintro e' w' ⟨rfl, rfl⟩
 go_wp2_with fail
 go_loopg [21] k0 (fun q iv wr => ∃ r : Nat, r + q = k0 ∧ iv = .int .i64 (r : Nat) ∧ (∀ i, i < r → LateP t x (L.getD i 0)) ∧ Below w'.heap.size w' wr)
 case atStart => exact ⟨0, by omega, rfl, fun i hi => by omega, Below.refl _ _⟩
 case round =>
  obtain ⟨r, hr, rfl, hall, hb⟩ := hrel
  have HR := Lib.hid hr
  have HALL := Lib.hid hall
  have HB := Lib.hid hb
  clear hr hall hb
  by_cases hlt : r < k0
  ·have hlt' : decide (r < k0) = true := decide_eq_true hlt
   obtain ⟨bl, ol, e1, hbl2, cu⟩ := HAT.out r hlt
   subst e1
   obtain ⟨hk2, m, hm, hm16⟩ := HNAT.out r hlt
   rw [hm] at cu
   have cu1 := (HB.out.cell (p := ⟨bl, ol + r, none⟩) hbl2).trans cu
   have HM := Lib.hid hm
   have HK2 := Lib.hid hk2
   clear cu hm hk2
   have NOM := Lib.hid (fun (hh : ¬ LateP t x (m : Int)) => HNO.out r hlt (by rw [HM.out]; exact hh))
   obtain ⟨q, hq⟩ : ∃ q, q = 2 * m := ⟨_, rfl⟩
   have hqI : 2 * (m : Int) = (q : Int) := by omega
   have HQ := Lib.hid hq
   clear hq
   by_cases c1 : N ≤ m
   ·have g1 : decide (N ≤ m) = true := decide_eq_true c1
    have HF := Lib.hid (NOM.out (fun hh => by have := ((HLP.out m).1 hh).1; omega))
    go_wp2_with fail
    go_ret
    exact ⟨retB HF.out, HB.out⟩
   ·have g1 : decide (N ≤ m) = false := decide_eq_false c1
    have hqn : q < n := by have := HQ.out; omega
    cases hun : undZ (q : Int) (x : Int) with
    | false =>
     have HF := Lib.hid (NOM.out (fun hh => by
      have := ((HLP.out m).1 hh).2.1
      rw [← HQ.out, hun] at this
      cases this))
     have U1 := HUN.out q wr
     rw [hun] at U1
     have HU1 := Lib.hid U1
     clear U1 hun
     go_wp2_with fail
     refine (HU1.out).mono ?_
     rintro e' w2 ⟨rfl, rfl⟩
     go_wp2_with fail
     go_ret
     exact ⟨retB HF.out, HB.out⟩
    | true =>
     have U1 := HUN.out q wr
     rw [hun] at U1
     have HU1 := Lib.hid U1
     have HUND := Lib.hid hun
     clear U1 hun
     obtain ⟨b', off', l2, e2, eb, _, ckq, _, _⟩ := HGA.out wr HB.out q hqn
     simp only [Option.some.injEq, Addr.mk.injEq, and_true] at eb
     obtain ⟨rfl, rfl⟩ := eb
     by_cases c3 : (nd t q).kind = 0
     ·have HF := Lib.hid (NOM.out (fun hh => by
       have := ((HLP.out m).1 hh).2.2.1
       rw [← HQ.out] at this
       exact this c3))
      rw [c3] at ckq
      have ckq' : wr.cell? ⟨b, off + q * 10, none⟩ = some (.int .u8 0) := ckq
      clear c3 ckq
      go_wp2_with fail
      refine (HU1.out).mono ?_
      rintro e' w2 ⟨rfl, rfl⟩
      go_wp2_with fail
      go_ret
      exact ⟨retB HF.out, HB.out⟩
     ·obtain ⟨kq, hkq⟩ : ∃ k, k = (nd t q).kind := ⟨_, rfl⟩
      rw [← hkq] at ckq c3
      have g3 : ((kq : Int) == 0) = false := by rw [beq_eq_false_iff_ne]; omega
      have HKQ := Lib.hid hkq
      have hq1 : q + 1 < 2 * N := by omega
      have PA1 := Lib.hid (HPA.out q hq1 (by have := HQ.out; omega) wr)
      clear hkq
      go_wp2_with fail
      refine (HU1.out).mono ?_
      rintro e' w2 ⟨rfl, rfl⟩
      go_wp2_with fail
      refine (PA1.out).mono ?_
      rintro e' w2 ⟨pv, rfl, hown, hb2⟩
      have HB2 := Lib.hid (HB.out.trans (hb2.mono HB.out.size))
      have hpd : (nvs (ups q 0 d)).length = d := by rw [nvs_len, ups_len]
      obtain ⟨pa, pc, epv⟩ : ∃ a c, pv = .slice a d c := by obtain ⟨a, c, e, _⟩ := hown.rd; exact ⟨a, c, by rw [e, hpd]⟩
      subst epv
      have PT := fun (k : Nat) (hk : k < d) => hown.rd.at3 (u := .int .i64 (anc q (k + 1) : Nat)) (r := k) (by simp [nvs, ivs, ups_at q d 0 k hk])
      have HPT := Lib.hid PT
      have HXE := Lib.hid (show x = anc q (lev x) by
       have := HUL.out q hq1 (by have := HQ.out; omega)
       rw [HUND.out] at this
       exact of_decide_eq_true this.symm)
      have HLV1 := Lib.hid (HLXP.out HK2.out)
      have HMEM1 := Lib.hid (show (m : Int) ∈ (nd t x).par.late by rw [← HM.out]; exact HMEM.out r hlt)
      have hdn := HD.out
      clear hown hb2 PT hpd
      go_wp2_with fail
      obtain ⟨g1, rfl⟩ : ∃ g1, g1 = gk := ⟨_, rfl⟩
      obtain ⟨w1, rfl⟩ : ∃ w1, w1 = wr := ⟨_, rfl⟩
      go_loopg [49] d (fun q2 iv wv => ∃ k : Nat, k + q2 = d ∧ iv = .int .i64 (k : Nat) ∧ (∀ i, 1 ≤ i → i ≤ k → anc q i ≠ x ∧ ((nd t (anc q i)).kind ≠ 0 → (m : Int) ∈ (nd t (anc q i)).par.late)) ∧ wv = w2)
      case atStart => exact ⟨0, by omega, rfl, fun i h1 h2 => by omega, rfl⟩
      case round =>
       obtain ⟨k, hk, rfl, hway, rfl⟩ := hrel
       have HK := Lib.hid hk
       have HWY := Lib.hid hway
       clear hk hway
       by_cases hkd : k < d
       ·have hkd' : decide (k < d) = true := decide_eq_true hkd
        obtain ⟨bp, op, e1, hbp, cp⟩ := HPT.out k hkd
        subst e1
        obtain ⟨p, hp⟩ : ∃ p, p = anc q (k + 1) := ⟨_, rfl⟩
        rw [← hp] at cp
        have HP := Lib.hid hp
        clear hp
        by_cases hpx : p = x
        ·have g4 : ((p : Int) == (x : Int)) = true := by rw [beq_iff_eq]; omega
         have HPX := Lib.hid hpx
         have HFIN := Lib.hid (show LateP t x (m : Int) from (HLP.out m).2 ⟨by omega, by rw [← HQ.out]; exact HUND.out, by rw [← HQ.out, ← HKQ.out]; exact c3, by
          have hw := HWAY.out m (by have := HQ.out; omega) HMEM1.out (by rw [← HQ.out]; exact HUND.out)
          rw [← HQ.out] at hw
          have hlx : lev x = k + 1 := by
           have h1 := HXE.out
           have h2 := HP.out
           rw [HPX.out] at h2
           have a1 := anc_lev q (k + 1)
           rw [← h2] at a1
           have a2 := anc_lev q (lev x)
           rw [← h1] at a2
           exact lev_unique a2 a1
          rw [← HQ.out]
          refine hw.1 fun i h1 h2 => ?_
          exact (HWY.out i h1 (by omega)).2⟩)
         clear hpx
         go_wp2_with fail
         go_roundg (g1 - 1)
         case measure => have := HR.out; omega
         case rel =>
          refine ⟨r + 1, by have := HR.out; omega, by go_num, fun i hi => ?_, HB2.out⟩
          by_cases e : i = r
          ·rw [e, HM.out]; exact HFIN.out
          ·exact HALL.out i (by omega)
        ·have g4 : ((p : Int) == (x : Int)) = false := by rw [beq_eq_false_iff_ne]; omega
         have HPX := Lib.hid hpx
         have hpn : p < n := by
          have := HANC.out q (k + 1) (by omega) (by omega)
          rw [← HP.out] at this
          omega
         obtain ⟨b', off', l3, e3, eb, _, ckp, clp, hrp⟩ := HGA.out wr (HB2.out) p hpn
         simp only [Option.some.injEq, Addr.mk.injEq, and_true] at eb
         obtain ⟨rfl, rfl⟩ := eb
         have B1 := HBS.out p hpn (m : Int) _ wr hrp
         obtain ⟨kp, hkp⟩ : ∃ k, k = (nd t p).kind := ⟨_, rfl⟩
         rw [← hkp] at ckp
         have HKP := Lib.hid hkp
         obtain ⟨lp, hlp⟩ : ∃ k, k = (nd t p).par.late.length := ⟨_, rfl⟩
         rw [← hlp] at clp hrp B1
         obtain ⟨is, his⟩ : ∃ b, b = decide ((m : Int) ∈ (nd t p).par.late) := ⟨_, rfl⟩
         rw [← his] at B1
         have HIS := Lib.hid his
         have HB1 := Lib.hid B1
         clear hkp hlp his B1 hrp hpx
         by_cases k0' : kp = 0
         ·have HKK := Lib.hid k0'
          have ckp' : wr.cell? ⟨b, off + p * 10, none⟩ = some (.int .u8 0) := by rw [ckp, k0']; rfl
          clear k0' ckp
          go_wp2_with fail
          refine (HB1.out).mono ?_
          rintro e' w3 ⟨pos, rfl, _, _, _, rfl⟩
          go_wp2_with fail
          go_roundg (gk - 1)
          case measure => have := HK.out; omega
          case rel =>
           refine ⟨k + 1, by have := HK.out; omega, by go_num, fun i h1 h2 => ?_, rfl⟩
           by_cases e : i = k + 1
           ·rw [e, ← HP.out]
            exact ⟨HPX.out, fun hne => absurd (HKP.out.symm.trans HKK.out) hne⟩
           ·exact HWY.out i h1 (by omega)
         ·have HKK := Lib.hid k0'
          have g5 : ((kp : Int) != 0) = true := by
           have : ((kp : Int) == 0) = false := by rw [beq_eq_false_iff_ne]; omega
           rw [bne, this]; rfl
          have g6 : ((kp : Int) == 0) = false := by rw [beq_eq_false_iff_ne]; omega
          cases is with
          | true =>
           clear k0'
           go_wp2_with fail
           refine (HB1.out).mono ?_
           rintro e' w3 ⟨pos, rfl, _, _, _, rfl⟩
           go_wp2_with fail
           go_roundg (gk - 1)
           case measure => have := HK.out; omega
           case rel =>
            refine ⟨k + 1, by have := HK.out; omega, by go_num, fun i h1 h2 => ?_, rfl⟩
            by_cases e : i = k + 1
            ·rw [e, ← HP.out]
             exact ⟨HPX.out, fun _ => of_decide_eq_true HIS.out.symm⟩
            ·exact HWY.out i h1 (by omega)
          | false =>
           have HF := Lib.hid (NOM.out (fun hh => by
            have hw := HWAY.out m (by have := HQ.out; omega) HMEM1.out (by rw [← HQ.out]; exact HUND.out)
            rw [← HQ.out] at hw
            have hh2 := ((HLP.out m).1 hh).2.2.2
            rw [← HQ.out] at hh2
            have hlt2 : k + 1 < lev x := by
             have h1 := HXE.out
             have h3 := HLV1.out
             rcases Nat.lt_or_ge (k + 1) (lev x) with h | h
             ·exact h
             ·exfalso
              by_cases e : lev x = k + 1
              ·rw [e, ← HP.out] at h1
               exact HPX.out h1.symm
              ·exact (HWY.out (lev x) h3 (by omega)).1 h1.symm
            have hin := hw.2 hh2 (k + 1) (by omega) hlt2 (by rw [← HP.out, ← HKP.out]; exact HKK.out)
            rw [← HP.out] at hin
            exact absurd hin (of_decide_eq_false HIS.out.symm)))
           clear k0'
           go_wp2_with fail
           refine (HB1.out).mono ?_
           rintro e' w3 ⟨pos, rfl, _, _, _, rfl⟩
           go_wp2_with fail
           go_ret
           exact ⟨retB HF.out, HB2.out⟩
       ·exfalso
        have h1 := HXE.out
        have h2 := HLX.out
        have h3 := HLV1.out
        exact (HWY.out (lev x) h3 (by have := HK.out; omega)).1 h1.symm
  ·obtain rfl : r = k0 := by have := HR.out; omega
   have hlt' : decide (r < r) = false := decide_eq_false hlt
   go_wp2_with fail
   go_ret
   exact ⟨retB (HYES.out HALL.out), HB.out⟩
end Go.Proofs.YtngealmhgkoaiaaGreat
/- Walks: tree.Right. -/
namespace Go.Proofs.YtngealmhgkoaiaaGreat
open Go.RowKit WalkM
set_option linter.unusedVariables false
/-- has the right half a leaf? -/
def someB (t : List NodeD) : Bool := if leavesN t.length = 1 then someK t else someK (t.drop (leavesN t.length))
def latesB (t : List NodeD) : Bool := (List.range t.length).all (lateTB t)
/-- which trees may be -/
def rightT (t : List NodeD) : Bool := decide (leavesN t.length ≠ 0) && (placedB t && (someB t && latesB t))
theorem latesB_yes {t : List NodeD} (h : ∀ x, x < t.length → lateTB t x = true) : latesB t = true := List.all_eq_true.2 fun x hx => h x (List.mem_range.1 hx)
theorem latesB_out {t : List NodeD} (h : latesB t = true) : ∀ x, x < t.length → lateTB t x = true := fun x hx => List.all_eq_true.1 h x (List.mem_range.2 hx)
theorem latesB_no {t : List NodeD} {x : Nat} (hx : x < t.length) (h : lateTB t x = false) : latesB t = false := by
 cases hb : latesB t with
 | false => rfl
 | true => rw [latesB_out hb x hx] at h; cases h
theorem nd_drop (t : List NodeD) (k i : Nat) : nd (t.drop k) i = nd t (k + i) := by
 unfold nd; rw [List.getD_eq_getElem?_getD, List.getElem?_drop, List.getD_eq_getElem?_getD]
theorem TreeR.drop {w : World} {b off n c : Nat} {t : List NodeD} (h : TreeR w (.slice (some ⟨b, off, none⟩) n c) t) (k : Nat) (hk : k ≤ n) {o' n' c' : Nat} (ho : o' = off + k * 10) (hn : n' = n - k) (hc : c' = c - k) : TreeR w (.slice (some ⟨b, o', none⟩) n' c') (t.drop k) := by
 obtain ⟨a', cap, e, h1, h2, h3⟩ := h
 simp only [Value.slice.injEq] at e
 obtain ⟨rfl, rfl, rfl⟩ := e
 subst ho hn hc
 refine ⟨_, _, by rw [List.length_drop], by rw [List.length_drop]; omega, by omega, fun i hi => ?_⟩
 rw [List.length_drop] at hi
 obtain ⟨b', off', cs, e, hl, hn, hr⟩ := h3 (k + i) (by omega)
 simp only [Option.some.injEq, Addr.mk.injEq, and_true] at e
 obtain ⟨rfl, rfl⟩ := e
 refine ⟨b, off + k * 10, cs, rfl, hl, by rw [nd_drop]; exact hn, ?_⟩
 rw [show off + k * 10 + i * 10 = off + (k + i) * 10 by omega]
 exact hr
set_option maxRecDepth 100000 in
set_option maxHeartbeats 4000000 in
theorem tright_med (v : Value) (t : List NodeD) (w : World) (h : TreeR w v t) (hs : medT t = true) (hok : TreeOk t) :
  Calls Tryz.prog 67 #[v] w fun e w' => e = .returned (.bool (rightT t)) ∧ Below w.heap.size w w' := by
 obtain ⟨a, c, rfl, hc, hc2⟩ := h.sl
 have hlen := medT_len hs
 have LV := fun (W : World) => tleaves_any a t.length c W (by omega)
 have PL := fun (W : World) (hw : Below w.heap.size w W) => placed_med (.slice a t.length c) t W (h.below hw (Nat.le_refl _)) hs hok
 have SM := fun (W : World) (hw : Below w.heap.size w W) => tsome_any (.slice a t.length c) t W (h.below hw (Nat.le_refl _)) hok
 obtain ⟨R, hR⟩ : ∃ R, R = rightT t := ⟨_, rfl⟩
 have hRe : R = (decide (leavesN t.length ≠ 0) && (placedB t && (someB t && latesB t))) := by rw [hR, rightT]
 rw [← hR]
 by_cases h0 : leavesN t.length = 0
 ·rw [h0] at LV
  have HF := Lib.hid (show R = false by rw [hRe, h0]; rfl)
  obtain ⟨n, hn⟩ : ∃ n, n = t.length := ⟨_, rfl⟩
  rw [← hn] at LV ⊢
  have HLV := Lib.hid LV
  clear LV PL SM hRe hR h0 h hs hok hn hc hlen
  go_enter Tryz.func67, Tryz.ntmps67
  go_wp2_with fail
  refine (HLV.out w).mono ?_
  rintro e w' ⟨rfl, rfl⟩
  go_wp2_with fail
  go_ret
  exact ⟨retB HF.out, Below.refl _ _⟩
 ·obtain ⟨d, hd, hN, hl⟩ := leavesN_pos h0
  rw [decide_eq_true h0, Bool.true_and] at hRe
  cases hp : placedB t with
  | false =>
   rw [hp] at PL hRe
   have HF := Lib.hid (show R = false by rw [hRe, Bool.false_and])
   obtain ⟨N, hNN⟩ : ∃ N, N = leavesN t.length := ⟨_, rfl⟩
   rw [← hNN] at LV h0
   obtain ⟨n, hn⟩ : ∃ n, n = t.length := ⟨_, rfl⟩
   rw [← hn] at LV PL ⊢
   have hq : ((N : Int) == 0) = false := by rw [beq_eq_false_iff_ne]; omega
   have HLV := Lib.hid LV
   have HPL := Lib.hid (PL w (Below.refl _ _))
   clear LV PL SM hRe hR h0 h hs hok hn hc hlen hl hN hNN
   go_enter Tryz.func67, Tryz.ntmps67
   go_wp2_with fail
   refine (HLV.out w).mono ?_
   rintro e w' ⟨rfl, rfl⟩
   go_wp2_with fail
   refine (HPL.out).mono ?_
   rintro e w2 ⟨rfl, hb⟩
   have HB := Lib.hid hb
   clear hb
   go_wp2_with fail
   go_ret
   exact ⟨retB HF.out, HB.out⟩
  | true =>
   rw [hp] at PL hRe
   rw [Bool.true_and] at hRe
   have LT := fun (x : Nat) (hx : x < t.length) (W : World) (hw : Below w.heap.size w W) => late_med (.slice a t.length c) t x d W (h.below hw (Nat.le_refl _)) hs hp hd hl hx
   have L1 := fun (hh : ∀ x, x < t.length → lateTB t x = true) => latesB_yes hh
   have L2 := fun (x : Nat) (hx : x < t.length) (hh : lateTB t x = false) => latesB_no hx hh
   have hn1 : t.length ≠ 0 := by have := pow_pos' d; omega
   obtain ⟨b, off, cs0, rfl, _, _, _⟩ := h.node (i := 0) (by omega)
   have hN2 : leavesN t.length ≤ t.length := by rw [hN]; have := pow_pos' d; omega
   have SD := fun (W : World) (hw : Below w.heap.size w W) => tsome_any (.slice (some ⟨b, off + leavesN t.length * 10, none⟩) (t.length - leavesN t.length) (c - leavesN t.length)) (t.drop (leavesN t.length)) W ((h.below hw (Nat.le_refl _)).drop _ hN2 rfl rfl rfl) (fun d hd => hok d (List.mem_of_mem_drop hd))
   have hsb : someB t = if leavesN t.length = 1 then someK t else someK (t.drop (leavesN t.length)) := rfl
   have hNl : 2 * leavesN t.length = t.length + 1 := by rw [hN]; omega
   obtain ⟨N, hNN⟩ : ∃ N, N = leavesN t.length := ⟨_, rfl⟩
   rw [← hNN] at LV h0 SD hsb hNl
   obtain ⟨n, hn⟩ : ∃ n, n = t.length := ⟨_, rfl⟩
   rw [← hn] at LV PL SM LT L1 L2 SD hNl hc hlen ⊢
   obtain ⟨sb, hsb'⟩ : ∃ b, b = someB t := ⟨_, rfl⟩
   rw [← hsb'] at hRe hsb
   obtain ⟨lb, hlb⟩ : ∃ b, b = latesB t := ⟨_, rfl⟩
   rw [← hlb] at hRe L1 L2
   have hq : ((N : Int) == 0) = false := by rw [beq_eq_false_iff_ne]; omega
   have HLV := Lib.hid LV
   have HPL := Lib.hid (PL w (Below.refl _ _))
   have HSM := Lib.hid SM
   have HSD := Lib.hid SD
   have HLT := Lib.hid LT
   have HL1 := Lib.hid L1
   have HL2 := Lib.hid L2
   have HRE := Lib.hid hRe
   have HSB := Lib.hid hsb
   have hnc : n ≤ c := hc
   clear LV PL SM SD LT L1 L2 hRe hsb hR h hs hok hn hl hN hNN hsb' hlb hp hd hN2 hc
   by_cases hN1 : N = 1
   ·have HSE := Lib.hid (show sb = someK t by rw [HSB.out, if_pos hN1])
    subst hN1
    cases hsm : someK t with
    | false =>
     have HSF := Lib.hid hsm
     have HF := Lib.hid (show R = false by rw [HRE.out, HSE.out, hsm, Bool.false_and])
     clear hsm
     go_enter Tryz.func67, Tryz.ntmps67
     go_wp2_with fail
     refine (HLV.out w).mono ?_
     rintro e w' ⟨rfl, rfl⟩
     go_wp2_with fail
     refine (HPL.out).mono ?_
     rintro e w2 ⟨rfl, hb⟩
     have HB := Lib.hid hb
     have C1 := HSM.out w2 hb
     rw [HSF.out] at C1
     have HC1 := Lib.hid C1
     clear hb C1
     go_wp2_with fail
     refine (HC1.out).mono ?_
     rintro e w4 ⟨rfl, hb⟩
     have HB4 := Lib.hid (HB.out.trans (hb.mono HB.out.size))
     clear hb
     go_wp2_with fail
     go_ret
     exact ⟨retB HF.out, HB4.out⟩
    | true =>
     have HSF := Lib.hid hsm
     have HST := Lib.hid (show sb = true by rw [HSE.out, hsm])
     clear hsm
     go_enter Tryz.func67, Tryz.ntmps67
     go_wp2_with fail
     refine (HLV.out w).mono ?_
     rintro e w' ⟨rfl, rfl⟩
     go_wp2_with fail
     refine (HPL.out).mono ?_
     rintro e w2 ⟨rfl, hb⟩
     have HB := Lib.hid hb
     have C1 := HSM.out w2 hb
     rw [HSF.out] at C1
     have HC1 := Lib.hid C1
     clear hb C1
     go_wp2_with fail
     refine (HC1.out).mono ?_
     rintro e w4 ⟨rfl, hb⟩
     have HB4 := Lib.hid (HB.out.trans (hb.mono HB.out.size))
     clear hb
     go_wp2_with fail
     go_loopg [36] n (fun q iv wr => ∃ r : Nat, r + q = n ∧ iv = .int .i64 (r : Nat) ∧ (∀ i, i < r → lateTB t i = true) ∧ Below w'.heap.size w' wr)
     case atStart => exact ⟨0, by omega, rfl, fun i hi => by omega, HB4.out⟩
     case round =>
      obtain ⟨r, hr, rfl, hall, hb⟩ := hrel
      have HR := Lib.hid hr
      have HALL := Lib.hid hall
      have HB := Lib.hid hb
      clear hr hall hb
      by_cases hlt : r < n
      ·have hlt' : decide (r < n) = true := decide_eq_true hlt
       have CC := HLT.out r hlt wr HB.out
       cases hk : lateTB t r with
       | true =>
        rw [hk] at CC
        have HCC := Lib.hid CC
        have HF := Lib.hid hk
        clear CC hk
        go_wp2_with fail
        refine (HCC.out).mono ?_
        rintro e w2 ⟨rfl, hb2⟩
        have HB2 := Lib.hid (HB.out.trans (hb2.mono HB.out.size))
        clear hb2
        go_wp2_with fail
        go_roundg (gk - 1)
        case measure => have := HR.out; omega
        case rel =>
         refine ⟨r + 1, by have := HR.out; omega, by go_num, fun i hi => ?_, HB2.out⟩
         by_cases e : i = r
         ·rw [e]; exact HF.out
         ·exact HALL.out i (by omega)
       | false =>
        rw [hk] at CC
        have HCC := Lib.hid CC
        have HF := Lib.hid (show R = false by rw [HRE.out, HL2.out r hlt hk, Bool.and_false])
        clear CC hk
        go_wp2_with fail
        refine (HCC.out).mono ?_
        rintro e w2 ⟨rfl, hb2⟩
        have HB2 := Lib.hid (HB.out.trans (hb2.mono HB.out.size))
        clear hb2
        go_wp2_with fail
        go_ret
        exact ⟨retB HF.out, HB2.out⟩
      ·obtain rfl : r = n := by have := HR.out; omega
       have hlt' : decide (r < r) = false := decide_eq_false hlt
       have HF := Lib.hid (show R = true by rw [HRE.out, HL1.out HALL.out, HST.out]; rfl)
       go_wp2_with fail
       go_ret
       exact ⟨retB HF.out, HB.out⟩
   ·have HSE := Lib.hid (show sb = someK (t.drop N) by rw [HSB.out, if_neg hN1])
    have hq1 : ((N : Int) == 1) = false := by rw [beq_eq_false_iff_ne]; omega
    have hg1 : decide ((N : Int) > 1) = true := by rw [decide_eq_true_iff]; omega
    have hg2 : decide ((1 : Int) < (N : Int)) = true := by rw [decide_eq_true_iff]; omega
    have hNlt : N ≤ n := by omega
    have hcN : c ≠ N := by omega
    cases hsm : someK (t.drop N) with
    | false =>
     have HSF := Lib.hid hsm
     have HF := Lib.hid (show R = false by rw [HRE.out, HSE.out, hsm, Bool.false_and])
     clear hsm
     go_enter Tryz.func67, Tryz.ntmps67
     go_wp2_with fail
     refine (HLV.out w).mono ?_
     rintro e w' ⟨rfl, rfl⟩
     go_wp2_with fail
     refine (HPL.out).mono ?_
     rintro e w2 ⟨rfl, hb⟩
     have HB := Lib.hid hb
     have C1 := HSD.out w2 hb
     rw [HSF.out] at C1
     have HC1 := Lib.hid C1
     clear hb C1
     go_wp2_with fail
     refine (HC1.out).mono ?_
     rintro e w4 ⟨rfl, hb⟩
     have HB4 := Lib.hid (HB.out.trans (hb.mono HB.out.size))
     clear hb
     go_wp2_with fail
     go_ret
     exact ⟨retB HF.out, HB4.out⟩
    | true =>
     have HSF := Lib.hid hsm
     have HST := Lib.hid (show sb = true by rw [HSE.out, hsm])
     clear hsm
     go_enter Tryz.func67, Tryz.ntmps67
     go_wp2_with fail
     refine (HLV.out w).mono ?_
     rintro e w' ⟨rfl, rfl⟩
     go_wp2_with fail
     refine (HPL.out).mono ?_
     rintro e w2 ⟨rfl, hb⟩
     have HB := Lib.hid hb
     have C1 := HSD.out w2 hb
     rw [HSF.out] at C1
     have HC1 := Lib.hid C1
     clear hb C1
     go_wp2_with fail
     refine (HC1.out).mono ?_
     rintro e w4 ⟨rfl, hb⟩
     have HB4 := Lib.hid (HB.out.trans (hb.mono HB.out.size))
     clear hb
     go_wp2_with fail
     go_loopg [36] n (fun q iv wr => ∃ r : Nat, r + q = n ∧ iv = .int .i64 (r : Nat) ∧ (∀ i, i < r → lateTB t i = true) ∧ Below w'.heap.size w' wr)
     case atStart => exact ⟨0, by omega, rfl, fun i hi => by omega, HB4.out⟩
     case round =>
      obtain ⟨r, hr, rfl, hall, hb⟩ := hrel
      have HR := Lib.hid hr
      have HALL := Lib.hid hall
      have HB := Lib.hid hb
      clear hr hall hb
      by_cases hlt : r < n
      ·have hlt' : decide (r < n) = true := decide_eq_true hlt
       have CC := HLT.out r hlt wr HB.out
       cases hk : lateTB t r with
       | true =>
        rw [hk] at CC
        have HCC := Lib.hid CC
        have HF := Lib.hid hk
        clear CC hk
        go_wp2_with fail
        refine (HCC.out).mono ?_
        rintro e w2 ⟨rfl, hb2⟩
        have HB2 := Lib.hid (HB.out.trans (hb2.mono HB.out.size))
        clear hb2
        go_wp2_with fail
        go_roundg (gk - 1)
        case measure => have := HR.out; omega
        case rel =>
         refine ⟨r + 1, by have := HR.out; omega, by go_num, fun i hi => ?_, HB2.out⟩
         by_cases e : i = r
         ·rw [e]; exact HF.out
         ·exact HALL.out i (by omega)
       | false =>
        rw [hk] at CC
        have HCC := Lib.hid CC
        have HF := Lib.hid (show R = false by rw [HRE.out, HL2.out r hlt hk, Bool.and_false])
        clear CC hk
        go_wp2_with fail
        refine (HCC.out).mono ?_
        rintro e w2 ⟨rfl, hb2⟩
        have HB2 := Lib.hid (HB.out.trans (hb2.mono HB.out.size))
        clear hb2
        go_wp2_with fail
        go_ret
        exact ⟨retB HF.out, HB2.out⟩
      ·obtain rfl : r = n := by have := HR.out; omega
       have hlt' : decide (r < r) = false := decide_eq_false hlt
       have HF := Lib.hid (show R = true by rw [HRE.out, HL1.out HALL.out, HST.out]; rfl)
       go_wp2_with fail
       go_ret
       exact ⟨retB HF.out, HB.out⟩
theorem tright_any (v : Value) (t : List NodeD) (w : World) (h : TreeR w v t) (hs : smallT t = true) (hok : TreeOk t) :
  Calls Tryz.prog 67 #[v] w fun e w' => e = .returned (.bool (rightT t)) ∧ Below w.heap.size w w' :=
 tright_med v t w h (smallT_med hs) hok
end Go.Proofs.YtngealmhgkoaiaaGreat
