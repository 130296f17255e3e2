/- Walks: the law TreeCovers. -/
import Derived.Test.YtohldijomcljkaaZTreeCovers00
import Derived.Test.YtohldijomcljkaaZTreeResolves38
import Derived.Test.YtohldijomcljkaaZTreeRight01
namespace Go.Proofs.Ytohldijomcljkaa
open Go.RowKit WalkM WireM
set_option linter.unusedVariables false
set_option maxRecDepth 100000 in
set_option maxHeartbeats 8000000 in
theorem cov_off {w : World} (v : Value) (t : List NodeD) (x : Int) (h : TreeR w v t) (hok : TreeOk t) (hno : smallT t = false ∨ rightT t = false ∨ x < 0 ∨ (t.length : Int) ≤ x) :
    Calls Try.prog 9 #[v, .int .i64 x] w fun e w' => e = .returned (.bool true) ∧ Below w.heap.size w w' := by
  have HAL := Lib.hid (alive17 w)
  have SM := fun (W : World) (hw : Below w.heap.size w W) => tsmall_any v t W (h.below hw (Nat.le_refl _))
  have TB := fun (W : World) (hw : Below w.heap.size w W) => h.below hw (Nat.le_refl _)
  cases hs : smallT t with
  | false =>
    rw [hs] at SM
    have HSM := Lib.hid SM
    obtain ⟨a, n, c, rfl⟩ : ∃ a n c, v = .slice a n c := by obtain ⟨a, c, e, _⟩ := h.sl; exact ⟨_, _, _, e⟩
    clear SM TB h hok hs hno
    go_enter Try.func9, Try.ntmps9
    go_wp2_with fail
    refine (HAL.out).mono ?_
    rintro e w1 ⟨rfl, hb⟩
    have Hw1 := Lib.hid hb
    clear hb
    go_wp2_with fail
    refine (HSM.out w1 Hw1.out).mono ?_
    rintro e w2 ⟨rfl, hb⟩
    have Hw2 := Lib.hid (Hw1.out.trans (hb.mono Hw1.out.size))
    clear hb
    go_wp2_with fail
    go_ret
    exact ⟨rfl, Hw2.out⟩
  | true =>
    rw [hs] at SM
    have HSM := Lib.hid SM
    have TR := fun (W : World) (hw : Below w.heap.size w W) => tright_any _ t W (TB W hw) hs hok
    cases hr : rightT t with
    | false =>
      rw [hr] at TR
      have HTR := Lib.hid TR
      obtain ⟨a, n, c, rfl⟩ : ∃ a n c, v = .slice a n c := by obtain ⟨a, c, e, _⟩ := h.sl; exact ⟨_, _, _, e⟩
      clear SM TB TR h hok hs hr hno
      go_enter Try.func9, Try.ntmps9
      go_wp2_with fail
      refine (HAL.out).mono ?_
      rintro e w1 ⟨rfl, hb⟩
      have Hw1 := Lib.hid hb
      clear hb
      go_wp2_with fail
      refine (HSM.out w1 Hw1.out).mono ?_
      rintro e w2 ⟨rfl, hb⟩
      have Hw2 := Lib.hid (Hw1.out.trans (hb.mono Hw1.out.size))
      clear hb
      go_wp2_with fail
      refine (HTR.out w2 Hw2.out).mono ?_
      rintro e w3 ⟨rfl, hb⟩
      have Hw3 := Lib.hid (Hw2.out.trans (hb.mono Hw2.out.size))
      clear hb
      go_wp2_with fail
      go_ret
      exact ⟨rfl, Hw3.out⟩
    | true =>
      rw [hr] at TR
      have HTR := Lib.hid TR
      obtain ⟨a, c, rfl, hc, hc2⟩ := h.sl
      have hno : x < 0 ∨ (t.length : Int) ≤ x := by
        rcases hno with h | h | h
        · rw [hs] at h; cases h
        · rw [hr] at h; cases h
        · exact h
      obtain ⟨n, hn⟩ : ∃ n, n = t.length := ⟨_, rfl⟩
      rw [← hn] at HSM HTR hc hno ⊢
      clear SM TB TR h hok hs hr hn
      by_cases h0 : x < 0
      · have h0' : decide (x < 0) = true := decide_eq_true h0
        clear hno
        go_enter Try.func9, Try.ntmps9
        go_wp2_with fail
        refine (HAL.out).mono ?_
        rintro e w1 ⟨rfl, hb⟩
        have Hw1 := Lib.hid hb
        clear hb
        go_wp2_with fail
        refine (HSM.out w1 Hw1.out).mono ?_
        rintro e w2 ⟨rfl, hb⟩
        have Hw2 := Lib.hid (Hw1.out.trans (hb.mono Hw1.out.size))
        clear hb
        go_wp2_with fail
        refine (HTR.out w2 Hw2.out).mono ?_
        rintro e w3 ⟨rfl, hb⟩
        have Hw3 := Lib.hid (Hw2.out.trans (hb.mono Hw2.out.size))
        clear hb
        go_wp2_with fail
        go_ret
        exact ⟨rfl, Hw3.out⟩
      · have h0' : decide (x < 0) = false := decide_eq_false h0
        have h1' : decide (x ≥ (n : Int)) = true := decide_eq_true (by omega)
        have h2' : decide ((n : Int) ≤ x) = true := decide_eq_true (by omega)
        clear hno
        go_enter Try.func9, Try.ntmps9
        go_wp2_with fail
        refine (HAL.out).mono ?_
        rintro e w1 ⟨rfl, hb⟩
        have Hw1 := Lib.hid hb
        clear hb
        go_wp2_with fail
        refine (HSM.out w1 Hw1.out).mono ?_
        rintro e w2 ⟨rfl, hb⟩
        have Hw2 := Lib.hid (Hw1.out.trans (hb.mono Hw1.out.size))
        clear hb
        go_wp2_with fail
        refine (HTR.out w2 Hw2.out).mono ?_
        rintro e w3 ⟨rfl, hb⟩
        have Hw3 := Lib.hid (Hw2.out.trans (hb.mono Hw2.out.size))
        clear hb
        go_wp2_with fail
        go_ret
        exact ⟨rfl, Hw3.out⟩
set_option maxRecDepth 100000 in
set_option maxHeartbeats 8000000 in
theorem cov_in {w : World} (v : Value) (t : List NodeD) (x hh : Nat) (h : TreeR w v t) (hok : TreeOk t) (hs : smallT t = true) (hr : rightT t = true) (hlen : t.length = 2 * hh + 1) (hx : x < t.length) :
    Calls Try.prog 9 #[v, .int .i64 (x : Nat)] w fun e w' => e = .returned (.bool true) ∧ Below w.heap.size w w' := by
  have HAL := Lib.hid (alive17 w)
  have SM := fun (W : World) (hw : Below w.heap.size w W) => tsmall_any v t W (h.below hw (Nat.le_refl _))
  have TB := fun (W : World) (hw : Below w.heap.size w W) => h.below hw (Nat.le_refl _)
  rw [hs] at SM
  have HSM := Lib.hid SM
  have TR := fun (W : World) (hw : Below w.heap.size w W) => tright_any _ t W (TB W hw) hs hok
  rw [hr] at TR
  have HTR := Lib.hid TR
  have hl40 := smallT_len hs
  have hlv := lev_inT (by omega) hr hx
  have CV := cov_lev (t := t) (by omega) hr (lev x)
  have RX := fun (W : World) (hw : Below w.heap.size w W) => tresolve_any v t x W (TB W hw) hs hok hr hx
  have ME := fun (W : World) (hw : Below w.heap.size w W) => tmembers_yes v t W (TB W hw) hs hok hr
  have hMM : memL t t.length = rmemL t (hh + 1) := by rw [hlen]; exact mem_eq (right_placedT hr) hh (by omega)
  rw [hMM] at ME
  have hRl : (resX t x).length ≤ 3000 := by
    have h1 := resN_len (t := nd t) (smallT_nd hs) (lev x) x
    have h2 := hlv.2
    unfold resX
    omega
  obtain ⟨R, hR⟩ : ∃ R, R = resX t x := ⟨_, rfl⟩
  have hRe : resN (nd t) (lev x) x = R := by rw [hR]; rfl
  rw [← hR] at RX hRl
  obtain ⟨M, hM⟩ : ∃ M, M = rmemL t (hh + 1) := ⟨_, rfl⟩
  rw [← hM] at ME
  have hMl : M.length ≤ 100 := by rw [hM]; have := rmemL_len t (hh + 1); omega
  have RB := fun (b : Nat) (hb : b < R.length) => (show ∃ y : Nat, R.getD b 0 = (y : Int) ∧ y < t.length ∧ (nd t y).kind ≠ 0 ∧ undZ (y : Int) (x : Int) = true from by
    obtain ⟨y, e, h1, h2, h3⟩ := CV.all x hlv.1 hlv.2 (R.getD b 0) (by rw [hRe, List.getD_eq_getElem?_getD, List.getElem?_eq_getElem hb]; exact List.getElem_mem hb)
    exact ⟨y, e, h1, h2, (und_inR (by omega) (by omega) hlv.1).2 h3⟩)
  have MB := fun (a : Nat) (ha : a < M.length) => (show ∃ m : Nat, M.getD a 0 = (m : Int) ∧ 2 * m < t.length ∧ covS t m R = (if undZ (2 * (m : Int)) (x : Int) = true then 1 else 0) from by
    have hin : M.getD a 0 ∈ rmemL t (hh + 1) := by rw [← hM, List.getD_eq_getElem?_getD, List.getElem?_eq_getElem ha]; exact List.getElem_mem ha
    obtain ⟨m, e⟩ : ∃ m : Nat, M.getD a 0 = (m : Int) := by
      by_cases h0 : M.getD a 0 < 0
      · exact absurd hin (mem_neg t (hh + 1) h0)
      · exact ⟨(M.getD a 0).toNat, by omega⟩
    rw [e] at hin
    obtain ⟨h1, h2⟩ := (mem_iff t (hh + 1) m).1 hin
    refine ⟨m, e, by omega, ?_⟩
    have := CV.sum x m hlv.1 hlv.2 (by omega) h2
    rw [hRe] at this
    rw [this, und2]
    by_cases hi : inR (lev x) x (2 * m)
    · rw [if_pos hi, if_pos ((und_inR (by omega) (by omega) hlv.1).2 hi)]
    · rw [if_neg hi, if_neg (fun h2 => hi ((und_inR (by omega) (by omega) hlv.1).1 h2))])
  obtain ⟨ta, n0, rfl, hc, hc2⟩ := h.sl
  have GA := fun (W : World) (hw : Below w.heap.size w W) (y : Nat) (hy : y < t.length) => TreeR.at (TB W hw) hy
  have SS := fun (m b : Nat) (hb : b < R.length) => covS_take (t := t) (m := m) hb
  have SB := fun (m b : Nat) => (show -180000 ≤ covS t m (R.take b) ∧ covS t m (R.take b) ≤ 3000 from by
    have := covS_bd hs m (R.take b)
    have hl : (R.take b).length ≤ R.length := by rw [List.length_take]; omega
    omega)
  have SN := fun (m : Nat) => (show covS t m (R.take R.length) = covS t m R by rw [List.take_length])
  have LB := fun (y : Nat) => (show (nd t y).par.late.length ≤ 60 by have := of_decide_eq_true (smallT_nd hs y); omega)
  have KB := fun (y : Nat) => (hok.nd y).kind
  have C1 := fun (y m : Nat) (e : y = 2 * m) => (show contr t m (y : Int) = 1 by unfold contr; rw [if_pos (by omega)])
  have C2 := fun (y m : Nat) (e : y ≠ 2 * m) (hu : undZ (2 * (m : Int)) (y : Int) = true) => (show contr t m (y : Int) = 1 - (((nd t y).par.late.take (nd t y).par.late.length).count (m : Int) : Int) by unfold contr; rw [if_neg (by omega), if_pos hu, Int.toNat_natCast, List.take_length])
  have C3 := fun (y m : Nat) (e : y ≠ 2 * m) (hu : undZ (2 * (m : Int)) (y : Int) = false) => (show contr t m (y : Int) = 0 by unfold contr; rw [if_neg (by omega), if_neg (by rw [hu]; simp)])
  have CN := fun (y m j : Nat) (hj : j < (nd t y).par.late.length) => count_take (m := (m : Int)) hj
  have CB := fun (y m j : Nat) => (show ((nd t y).par.late.take j).count (m : Int) ≤ 60 from by
    have h1 := List.count_le_length (a := (m : Int)) (l := (nd t y).par.late.take j)
    have h2 := LB y
    rw [List.length_take] at h1
    omega)
  obtain ⟨Sf, hSf⟩ : ∃ Sf : Nat → Nat → Int, Sf = fun m b => covS t m (R.take b) := ⟨_, rfl⟩
  have hSf' : ∀ m b, covS t m (R.take b) = Sf m b := fun m b => by rw [hSf]
  have S0 : ∀ m, Sf m 0 = 0 := fun m => by rw [hSf]; rfl
  obtain ⟨Kf, hKf⟩ : ∃ Kf : Nat → Nat → Nat → Nat, Kf = fun (y m j : Nat) => ((nd t y).par.late.take j).count ((m : Nat) : Int) := ⟨_, rfl⟩
  have hKf' : ∀ y m j : Nat, ((nd t y).par.late.take j).count (m : Int) = Kf y m j := fun y m j => by rw [hKf]
  have K0 : ∀ y m : Nat, Kf y m 0 = 0 := fun y m => by rw [hKf]; rfl
  simp only [hSf'] at SS SB SN
  simp only [hKf'] at CN CB C2
  obtain ⟨U, hU⟩ : ∃ U : Nat → Int, U = fun r => R.getD r 0 := ⟨_, rfl⟩
  have hU' : ∀ r, R.getD r 0 = U r := fun r => by rw [hU]
  obtain ⟨V, hV⟩ : ∃ V : Nat → Int, V = fun r => M.getD r 0 := ⟨_, rfl⟩
  have hV' : ∀ r, M.getD r 0 = V r := fun r => by rw [hV]
  have RA := fun (W : World) (u : Value) (hu : Rd W u (ivs .i64 R)) => (show ∃ a c, u = .slice a R.length c ∧ ∀ b, b < R.length → (ivs .i64 R)[b]? = some (.int .i64 (U b)) from by
    obtain ⟨a, c, e, _⟩ := hu
    rw [ivs_len'] at e
    exact ⟨a, c, e, fun b hb => by rw [← hU']; simp [ivs, List.getD_eq_getElem?_getD, hb]⟩)
  have MA := fun (W : World) (u : Value) (hu : Rd W u (ivs .i64 M)) => (show ∃ a c, u = .slice a M.length c ∧ ∀ b, b < M.length → (ivs .i64 M)[b]? = some (.int .i64 (V b)) from by
    obtain ⟨a, c, e, _⟩ := hu
    rw [ivs_len'] at e
    exact ⟨a, c, e, fun b hb => by rw [← hV']; simp [ivs, List.getD_eq_getElem?_getD, hb]⟩)
  simp only [hU'] at RB SS
  simp only [hV'] at MB
  obtain ⟨n, hn⟩ : ∃ n, n = t.length := ⟨_, rfl⟩
  obtain ⟨lr, hlr⟩ : ∃ l, l = R.length := ⟨_, rfl⟩
  obtain ⟨lm, hlm⟩ : ∃ l, l = M.length := ⟨_, rfl⟩
  rw [← hn] at HSM HTR RX ME RB MB GA hc hx hl40 ⊢
  rw [← hlr] at RB SS SN RA hRl
  rw [← hlm] at MB MA hMl
  have HRX := Lib.hid RX
  have HME := Lib.hid ME
  have HRB := Lib.hid RB
  have HMB := Lib.hid MB
  have HGA := Lib.hid GA
  have HSS := Lib.hid SS
  have HSB := Lib.hid SB
  have HSN := Lib.hid SN
  have HS0 := Lib.hid S0
  have HLB := Lib.hid LB
  have HKB := Lib.hid KB
  have HC1 := Lib.hid C1
  have HC2 := Lib.hid C2
  have HC3 := Lib.hid C3
  have HCN := Lib.hid CN
  have HCB := Lib.hid CB
  have HK0 := Lib.hid K0
  have HRA := Lib.hid RA
  have HMA := Lib.hid MA
  have HUN := Lib.hid (fun (y : Int) (W : World) => runder_any y (x : Int) W)
  have HAB := Lib.hid (fun (y m : Nat) (hm : m ≤ 100000) (W : World) => rabove_any y m W hm)
  have h0' : decide ((x : Int) < 0) = false := decide_eq_false (by omega)
  have h1' : decide ((x : Int) ≥ (n : Int)) = false := decide_eq_false (by omega)
  have h2' : decide ((n : Int) ≤ (x : Int)) = false := decide_eq_false (by omega)
  have h3' : decide (n ≤ x) = false := decide_eq_false (by omega)
  clear SM TB TR CV RX ME RB MB GA SS SB SN S0 LB KB C1 C2 C3 CN CB K0 RA MA hlv hMM hR hRe hM hSf hSf' hKf hKf' hU hU' hV hV' hn hlr hlm hlen h hok hs hr hx hc
  go_enter Try.func9, Try.ntmps9
  go_wp2_with fail
  refine (HAL.out).mono ?_
  rintro e w1 ⟨rfl, hb⟩
  have Hw1 := Lib.hid hb
  clear hb
  go_wp2_with fail
  refine (HSM.out w1 Hw1.out).mono ?_
  rintro e w2 ⟨rfl, hb⟩
  have Hw2 := Lib.hid (Hw1.out.trans (hb.mono Hw1.out.size))
  clear hb
  go_wp2_with fail
  refine (HTR.out w2 Hw2.out).mono ?_
  rintro e w3 ⟨rfl, hb⟩
  have Hw3 := Lib.hid (Hw2.out.trans (hb.mono Hw2.out.size))
  clear hb
  go_wp2_with fail
  refine (HRX.out w3 Hw3.out).mono ?_
  rintro e w4 ⟨vr, rfl, hown, hb⟩
  have Hw4 := Lib.hid (Hw3.out.trans (hb.mono Hw3.out.size))
  have HRW := Lib.hid hown.rd
  obtain ⟨ar, cr, rfl, hra⟩ := HRA.out w4 vr hown.rd
  have HRAT := Lib.hid hra
  clear hown hra
  clear hb
  go_wp2_with fail
  refine (HME.out w4 Hw4.out).mono ?_
  rintro e w5 ⟨vm, rfl, hown, hb⟩
  have Hw5 := Lib.hid (Hw4.out.trans (hb.mono Hw4.out.size))
  have HMW := Lib.hid hown.rd
  obtain ⟨am, cm, rfl, hma⟩ := HMA.out w5 vm hown.rd
  have HMAT := Lib.hid hma
  have HRW5 := Lib.hid (HRW.out.below hb (Nat.le_refl _))
  clear hown hma HRW
  clear hb
  go_wp2_with fail
  go_loopg [7] lm (fun q iv wr => ∃ ia : Nat, ia + q = lm ∧ iv = .int .i64 (ia : Nat) ∧ Below w5.heap.size w5 wr)
  case atStart => exact ⟨0, by omega, rfl, Below.refl _ _⟩
  case round =>
    obtain ⟨ia, ha, rfl, hb⟩ := hrel
    have HA := Lib.hid ha
    have HBO := Lib.hid hb
    obtain ⟨wo, rfl⟩ : ∃ wo : World, wo = wr := ⟨_, rfl⟩
    obtain ⟨g2, rfl⟩ : ∃ g2, g2 = gk := ⟨_, rfl⟩
    by_cases hlt : ia < lm
    · have hlt' : decide (ia < lm) = true := decide_eq_true hlt
      have hltI : (ia : Int) < (lm : Int) := by omega
      obtain ⟨m, hm, hmn, hcov⟩ := HMB.out ia hlt
      have HVM := Lib.hid hm
      have HCOV := Lib.hid hcov
      clear ha hb hm hcov
      go_wp2_with fail
      go_loopg [8, 9] lr (fun q nv kv wr => ∃ b : Nat, b + q = lr ∧ kv = .int .i64 (b : Nat) ∧ nv = .int .i64 (Sf m b) ∧ Below wo.heap.size wo wr)
      case atStart => exact ⟨0, by omega, rfl, by rw [HS0.out], Below.refl _ _⟩
      case round =>
        obtain ⟨b, hbb, rfl, rfl, hb⟩ := hrel
        have HBB := Lib.hid hbb
        have HBW := Lib.hid hb
        have HB5 := Lib.hid (HBO.out.trans (hb.mono HBO.out.size))
        have HBw := Lib.hid (Hw5.out.trans (HB5.out.mono Hw5.out.size))
        have hbd := HSB.out m b
        by_cases hltb : b < lr
        · have hltb' : decide (b < lr) = true := decide_eq_true hltb
          have hltbI : (b : Int) < (lr : Int) := by omega
          obtain ⟨y, hy, hyn, hyk, hyu⟩ := HRB.out b hltb
          have HSSb := Lib.hid (HSS.out m b hltb)
          obtain ⟨br, or', rfl, hbr, cR⟩ := (HRW5.out.below HB5.out (Nat.le_refl _)).at3 (HRAT.out b hltb)
          obtain ⟨bm, om, rfl, hbm, cM⟩ := (HMW.out.below HB5.out (Nat.le_refl _)).at3 (HMAT.out ia hlt)
          rw [HVM.out] at cM
          rw [hy] at cR
          rw [hy] at HSSb
          obtain ⟨bn, on', lb, eb, rfl, hbn, ck, cl, hlrd⟩ := HGA.out wr HBw.out y hyn
          have hkb := HKB.out y
          obtain ⟨kd, hkd⟩ : ∃ k, k = (nd t y).kind := ⟨_, rfl⟩
          rw [← hkd] at ck hkb hyk
          have hk0 : ((kd : Int) == 0) = false := by rw [beq_eq_false_iff_ne]; omega
          have hk1 : (kd : Int) ≠ 0 := by omega
          have UN := HUN.out (y : Int) wr
          rw [hyu] at UN
          have HUNy := Lib.hid UN
          have HLR := Lib.hid hlrd
          have HCL := Lib.hid cl
          have hyI : (y : Int) < (n : Int) := by omega
          have hyn' : decide ((y : Int) ≥ (n : Int)) = false := decide_eq_false (by omega)
          have hyn2 : decide (n ≤ y) = false := decide_eq_false (by omega)
          have hy0 : decide ((y : Int) < 0) = false := decide_eq_false (by omega)
          obtain ⟨s, hsf⟩ : ∃ s, s = Sf m b := ⟨_, rfl⟩
          rw [← hsf] at HSSb hbd ⊢
          clear hbb hb hy hyk hyu hkd UN hlrd cl hsf
          go_wp2_with fail
          refine (HUNy.out).mono ?_
          rintro e w6 ⟨rfl, hb6⟩
          have cR6 := (hb6.cell (p := ⟨br, or' + b, none⟩) hbr).trans cR
          have cM6 := (hb6.cell (p := ⟨bm, om + ia, none⟩) hbm).trans cM
          have HB6 := Lib.hid (HBW.out.trans (hb6.mono HBW.out.size))
          have hw2 : wrap64 (2 * (m : Int)) = 2 * (m : Int) := wrap_inA (by omega)
          have hbr6 := Nat.lt_of_lt_of_le hbr hb6.size
          have hbm6 := Nat.lt_of_lt_of_le hbm hb6.size
          have hbn6 := Nat.lt_of_lt_of_le hbn hb6.size
          have cL6 := (hb6.cell (p := ⟨bn, on' + y * 10 + 9, none⟩) hbn).trans HCL.out
          have HLR6 := Lib.hid (HLR.out.below hb6 (Nat.le_refl _))
          clear cR cM ck hb6 hbr hbm hbn HLR HCL HUNy
          by_cases e : y = 2 * m
          · have he : ((y : Int) == 2 * (m : Int)) = true := by rw [beq_iff_eq]; omega
            have HC := Lib.hid (show Sf m (b + 1) = s + 1 by rw [HSSb.out, HC1.out y m e])
            have hw3 : wrap64 (s + 1) = s + 1 := wrap_inA (by omega)
            clear e
            go_wp2_with fail
            refine wp_region_rel [fun v _ => v = .slice (some ⟨br, or', none⟩) lr cr, fun v _ => v = .int .i64 (b : Nat), fun v _ => v = .pointer (some ⟨br, or' + b, none⟩), fun v _ => v = .int .i64 (y : Nat), fun v _ => v = .slice (some ⟨bm, om, none⟩) lm cm, fun v _ => v = .int .i64 (ia : Nat), fun v _ => v = .pointer (some ⟨bm, om + ia, none⟩), fun v _ => v = .int .i64 (m : Nat), fun v _ => v = .int .i64 (2 * (m : Int)), fun v _ => v = .bool true]
              [true, true, true, true, true, true, true, true, true, true] (fun x => Below w6.heap.size w6 x) (fun x y => Below x.heap.size x y) none (by kernel_rfl) ?_ (⟨rfl, rfl, rfl, Nat.le_refl _, fun _ _ => rfl⟩) (fun x y _ h => h) (fun x y hx hs => hx.trans (hs.mono hx.size)) (by kernel_rfl) (by kernel_rfl) ?_ ?_
            · exact keepsR_n (fun _ _ _ h _ _ => h) (keepsR_n (fun _ _ _ h _ _ => h) (keepsR_n (fun _ _ _ h _ _ => h) (keepsR_n (fun _ _ _ h _ _ => h) (keepsR_n (fun _ _ _ h _ _ => h) (keepsR_n (fun _ _ _ h _ _ => h) (keepsR_n (fun _ _ _ h _ _ => h) (keepsR_n (fun _ _ _ h _ _ => h) (keepsR_n (fun _ _ _ h _ _ => h) (keepsR_n (fun _ _ _ h _ _ => h) (keepsR_nil))))))))))
            · refine .cons (owed7_go ?_) (.cons (owed7_go ?_) (.cons (owed7_go ?_) (.cons (owed7_go ?_) (.cons (owed7_go ?_) (.cons (owed7_go ?_) (.cons (owed7_go ?_) (.cons (owed7_go ?_) (.cons (owed7_go ?_) (.cons (owed7_go ?_) (.nil))))))))))
              · intro a wx hbx hq ho hf
                have hbx : Below w6.heap.size w6 wx := hbx
                have hbq : Below w6.heap.size w6 wx := hq (by kernel_rfl)
                clear hq
                refine ⟨rfl, ?_⟩
                intro K hK
                have e0 : a.tmps[5]?.getD undef = .slice (some ⟨br, or', none⟩) lr cr := ho 5 (by kernel_rfl)
                go_simp
                exact hK _ _ rfl (stepR_no rfl (Below.refl _ _))
              · intro a wx hbx hq ho hf
                have hbx : Below w6.heap.size w6 wx := hbx
                have hbq : Below w6.heap.size w6 wx := hq (by kernel_rfl)
                clear hq
                refine ⟨rfl, ?_⟩
                intro K hK
                have e0 : a.tmps[9]?.getD undef = .int .i64 (b : Nat) := ho 9 (by kernel_rfl)
                go_simp
                exact hK _ _ rfl (stepR_no rfl (Below.refl _ _))
              · intro a wx hbx hq ho hf
                have hbx : Below w6.heap.size w6 wx := hbx
                have hbq : Below w6.heap.size w6 wx := hq (by kernel_rfl)
                clear hq
                refine ⟨rfl, ?_⟩
                intro K hK
                have e0 : a.tmps[84]?.getD undef = .slice (some ⟨br, or', none⟩) lr cr := hf.1
                have e1 : a.tmps[85]?.getD undef = .int .i64 (b : Nat) := hf.2.1
                go_simp
                exact hK _ _ rfl (stepR_no rfl (Below.refl _ _))
              · intro a wx hbx hq ho hf
                have hbx : Below w6.heap.size w6 wx := hbx
                have hbq : Below w6.heap.size w6 wx := hq (by kernel_rfl)
                clear hq
                refine ⟨rfl, ?_⟩
                intro K hK
                have e0 : a.tmps[86]?.getD undef = .pointer (some ⟨br, or' + b, none⟩) := hf.1
                have d1 := (hbx.cell (p := ⟨br, or' + b, none⟩) hbr6).trans cR6
                go_simp
                exact hK _ _ rfl (stepR_no rfl (Below.refl _ _))
              · intro a wx hbx hq ho hf
                have hbx : Below w6.heap.size w6 wx := hbx
                have hbq : Below w6.heap.size w6 wx := hq (by kernel_rfl)
                clear hq
                refine ⟨rfl, ?_⟩
                intro K hK
                have e0 : a.tmps[6]?.getD undef = .slice (some ⟨bm, om, none⟩) lm cm := ho 6 (by kernel_rfl)
                go_simp
                exact hK _ _ rfl (stepR_no rfl (Below.refl _ _))
              · intro a wx hbx hq ho hf
                have hbx : Below w6.heap.size w6 wx := hbx
                have hbq : Below w6.heap.size w6 wx := hq (by kernel_rfl)
                clear hq
                refine ⟨rfl, ?_⟩
                intro K hK
                have e0 : a.tmps[7]?.getD undef = .int .i64 (ia : Nat) := ho 7 (by kernel_rfl)
                go_simp
                exact hK _ _ rfl (stepR_no rfl (Below.refl _ _))
              · intro a wx hbx hq ho hf
                have hbx : Below w6.heap.size w6 wx := hbx
                have hbq : Below w6.heap.size w6 wx := hq (by kernel_rfl)
                clear hq
                refine ⟨rfl, ?_⟩
                intro K hK
                have e0 : a.tmps[88]?.getD undef = .slice (some ⟨bm, om, none⟩) lm cm := hf.1
                have e1 : a.tmps[89]?.getD undef = .int .i64 (ia : Nat) := hf.2.1
                go_simp
                exact hK _ _ rfl (stepR_no rfl (Below.refl _ _))
              · intro a wx hbx hq ho hf
                have hbx : Below w6.heap.size w6 wx := hbx
                have hbq : Below w6.heap.size w6 wx := hq (by kernel_rfl)
                clear hq
                refine ⟨rfl, ?_⟩
                intro K hK
                have e0 : a.tmps[90]?.getD undef = .pointer (some ⟨bm, om + ia, none⟩) := hf.1
                have d1 := (hbx.cell (p := ⟨bm, om + ia, none⟩) hbm6).trans cM6
                go_simp
                exact hK _ _ rfl (stepR_no rfl (Below.refl _ _))
              · intro a wx hbx hq ho hf
                have hbx : Below w6.heap.size w6 wx := hbx
                have hbq : Below w6.heap.size w6 wx := hq (by kernel_rfl)
                clear hq
                refine ⟨rfl, ?_⟩
                intro K hK
                have e0 : a.tmps[91]?.getD undef = .int .i64 (m : Nat) := hf.1
                have gw1 : IntKind.i64.wrap ((2 * (m : Int))) = (2 * (m : Int)) := by rw [IntKind.wrap_i64]; omega
                have gw2 : 2 * (m : Int) = (2 * (m : Int)) := by omega
                have gw3 : IntKind.i64.wrap (2 * (m : Int)) = (2 * (m : Int)) := by rw [gw2]; exact gw1
                go_simp
                exact hK _ _ rfl (stepR_no rfl (Below.refl _ _))
              · intro a wx hbx hq ho hf
                have hbx : Below w6.heap.size w6 wx := hbx
                have hbq : Below w6.heap.size w6 wx := hq (by kernel_rfl)
                clear hq
                refine ⟨rfl, ?_⟩
                intro K hK
                have e0 : a.tmps[87]?.getD undef = .int .i64 (y : Nat) := hf.1
                have e1 : a.tmps[92]?.getD undef = .int .i64 (2 * (m : Int)) := hf.2.1
                go_simp
                exact hK _ _ rfl (stepR_no rfl (Below.refl _ _))
            · rintro f w9 hb9 hfin
              have hb9 : Below w6.heap.size w6 w9 := hb9
              have S93 : f 93 = .bool true := hfin.2.2.2.2.2.2.2.2.2.1
              clear hfin
              simp only [frameOf, dstsOf, zipF, List.filterMap_cons, List.filterMap_nil, List.contains_cons, List.contains_nil, Nat.reduceBEq, Nat.reduceAdd, Bool.or_false, Bool.or_true, cond_true, cond_false]
              rw [S93]
              clear S93
              have HB9 := Lib.hid (HB6.out.trans (hb9.mono HB6.out.size))
              clear hb9
              go_wp2_with fail
              go_roundg (gk - 1)
              case measure => have := HBB.out; omega
              case rel => exact ⟨b + 1, by have := HBB.out; omega, by go_num, by rw [HC.out], HB9.out⟩
          · have he : ((y : Int) == 2 * (m : Int)) = false := by rw [beq_eq_false_iff_ne]; omega
            have AB := fun (W : World) => HAB.out y m (by omega) W
            simp only [decide_eq_true e, Bool.true_and] at AB
            cases hu : undZ (2 * (m : Int)) (y : Int) with
            | false =>
              simp only [hu] at AB
              have HABy := Lib.hid AB
              have HC := Lib.hid (show Sf m (b + 1) = s by rw [HSSb.out, HC3.out y m e hu, Int.add_zero])
              clear AB hu e
              go_wp2_with fail
              refine wp_region_rel [fun v _ => v = .slice (some ⟨br, or', none⟩) lr cr, fun v _ => v = .int .i64 (b : Nat), fun v _ => v = .pointer (some ⟨br, or' + b, none⟩), fun v _ => v = .int .i64 (y : Nat), fun v _ => v = .slice (some ⟨bm, om, none⟩) lm cm, fun v _ => v = .int .i64 (ia : Nat), fun v _ => v = .pointer (some ⟨bm, om + ia, none⟩), fun v _ => v = .int .i64 (m : Nat), fun v _ => v = .int .i64 (2 * (m : Int)), fun v _ => v = .bool false]
                [true, true, true, true, true, true, true, true, true, true] (fun x => Below w6.heap.size w6 x) (fun x y => Below x.heap.size x y) none (by kernel_rfl) ?_ (⟨rfl, rfl, rfl, Nat.le_refl _, fun _ _ => rfl⟩) (fun x y _ h => h) (fun x y hx hs => hx.trans (hs.mono hx.size)) (by kernel_rfl) (by kernel_rfl) ?_ ?_
              · exact keepsR_n (fun _ _ _ h _ _ => h) (keepsR_n (fun _ _ _ h _ _ => h) (keepsR_n (fun _ _ _ h _ _ => h) (keepsR_n (fun _ _ _ h _ _ => h) (keepsR_n (fun _ _ _ h _ _ => h) (keepsR_n (fun _ _ _ h _ _ => h) (keepsR_n (fun _ _ _ h _ _ => h) (keepsR_n (fun _ _ _ h _ _ => h) (keepsR_n (fun _ _ _ h _ _ => h) (keepsR_n (fun _ _ _ h _ _ => h) (keepsR_nil))))))))))
              · refine .cons (owed7_go ?_) (.cons (owed7_go ?_) (.cons (owed7_go ?_) (.cons (owed7_go ?_) (.cons (owed7_go ?_) (.cons (owed7_go ?_) (.cons (owed7_go ?_) (.cons (owed7_go ?_) (.cons (owed7_go ?_) (.cons (owed7_go ?_) (.nil))))))))))
                · intro a wx hbx hq ho hf
                  have hbx : Below w6.heap.size w6 wx := hbx
                  have hbq : Below w6.heap.size w6 wx := hq (by kernel_rfl)
                  clear hq
                  refine ⟨rfl, ?_⟩
                  intro K hK
                  have e0 : a.tmps[5]?.getD undef = .slice (some ⟨br, or', none⟩) lr cr := ho 5 (by kernel_rfl)
                  go_simp
                  exact hK _ _ rfl (stepR_no rfl (Below.refl _ _))
                · intro a wx hbx hq ho hf
                  have hbx : Below w6.heap.size w6 wx := hbx
                  have hbq : Below w6.heap.size w6 wx := hq (by kernel_rfl)
                  clear hq
                  refine ⟨rfl, ?_⟩
                  intro K hK
                  have e0 : a.tmps[9]?.getD undef = .int .i64 (b : Nat) := ho 9 (by kernel_rfl)
                  go_simp
                  exact hK _ _ rfl (stepR_no rfl (Below.refl _ _))
                · intro a wx hbx hq ho hf
                  have hbx : Below w6.heap.size w6 wx := hbx
                  have hbq : Below w6.heap.size w6 wx := hq (by kernel_rfl)
                  clear hq
                  refine ⟨rfl, ?_⟩
                  intro K hK
                  have e0 : a.tmps[84]?.getD undef = .slice (some ⟨br, or', none⟩) lr cr := hf.1
                  have e1 : a.tmps[85]?.getD undef = .int .i64 (b : Nat) := hf.2.1
                  go_simp
                  exact hK _ _ rfl (stepR_no rfl (Below.refl _ _))
                · intro a wx hbx hq ho hf
                  have hbx : Below w6.heap.size w6 wx := hbx
                  have hbq : Below w6.heap.size w6 wx := hq (by kernel_rfl)
                  clear hq
                  refine ⟨rfl, ?_⟩
                  intro K hK
                  have e0 : a.tmps[86]?.getD undef = .pointer (some ⟨br, or' + b, none⟩) := hf.1
                  have d1 := (hbx.cell (p := ⟨br, or' + b, none⟩) hbr6).trans cR6
                  go_simp
                  exact hK _ _ rfl (stepR_no rfl (Below.refl _ _))
                · intro a wx hbx hq ho hf
                  have hbx : Below w6.heap.size w6 wx := hbx
                  have hbq : Below w6.heap.size w6 wx := hq (by kernel_rfl)
                  clear hq
                  refine ⟨rfl, ?_⟩
                  intro K hK
                  have e0 : a.tmps[6]?.getD undef = .slice (some ⟨bm, om, none⟩) lm cm := ho 6 (by kernel_rfl)
                  go_simp
                  exact hK _ _ rfl (stepR_no rfl (Below.refl _ _))
                · intro a wx hbx hq ho hf
                  have hbx : Below w6.heap.size w6 wx := hbx
                  have hbq : Below w6.heap.size w6 wx := hq (by kernel_rfl)
                  clear hq
                  refine ⟨rfl, ?_⟩
                  intro K hK
                  have e0 : a.tmps[7]?.getD undef = .int .i64 (ia : Nat) := ho 7 (by kernel_rfl)
                  go_simp
                  exact hK _ _ rfl (stepR_no rfl (Below.refl _ _))
                · intro a wx hbx hq ho hf
                  have hbx : Below w6.heap.size w6 wx := hbx
                  have hbq : Below w6.heap.size w6 wx := hq (by kernel_rfl)
                  clear hq
                  refine ⟨rfl, ?_⟩
                  intro K hK
                  have e0 : a.tmps[88]?.getD undef = .slice (some ⟨bm, om, none⟩) lm cm := hf.1
                  have e1 : a.tmps[89]?.getD undef = .int .i64 (ia : Nat) := hf.2.1
                  go_simp
                  exact hK _ _ rfl (stepR_no rfl (Below.refl _ _))
                · intro a wx hbx hq ho hf
                  have hbx : Below w6.heap.size w6 wx := hbx
                  have hbq : Below w6.heap.size w6 wx := hq (by kernel_rfl)
                  clear hq
                  refine ⟨rfl, ?_⟩
                  intro K hK
                  have e0 : a.tmps[90]?.getD undef = .pointer (some ⟨bm, om + ia, none⟩) := hf.1
                  have d1 := (hbx.cell (p := ⟨bm, om + ia, none⟩) hbm6).trans cM6
                  go_simp
                  exact hK _ _ rfl (stepR_no rfl (Below.refl _ _))
                · intro a wx hbx hq ho hf
                  have hbx : Below w6.heap.size w6 wx := hbx
                  have hbq : Below w6.heap.size w6 wx := hq (by kernel_rfl)
                  clear hq
                  refine ⟨rfl, ?_⟩
                  intro K hK
                  have e0 : a.tmps[91]?.getD undef = .int .i64 (m : Nat) := hf.1
                  have gw1 : IntKind.i64.wrap ((2 * (m : Int))) = (2 * (m : Int)) := by rw [IntKind.wrap_i64]; omega
                  have gw2 : 2 * (m : Int) = (2 * (m : Int)) := by omega
                  have gw3 : IntKind.i64.wrap (2 * (m : Int)) = (2 * (m : Int)) := by rw [gw2]; exact gw1
                  go_simp
                  exact hK _ _ rfl (stepR_no rfl (Below.refl _ _))
                · intro a wx hbx hq ho hf
                  have hbx : Below w6.heap.size w6 wx := hbx
                  have hbq : Below w6.heap.size w6 wx := hq (by kernel_rfl)
                  clear hq
                  refine ⟨rfl, ?_⟩
                  intro K hK
                  have e0 : a.tmps[87]?.getD undef = .int .i64 (y : Nat) := hf.1
                  have e1 : a.tmps[92]?.getD undef = .int .i64 (2 * (m : Int)) := hf.2.1
                  go_simp
                  exact hK _ _ rfl (stepR_no rfl (Below.refl _ _))
              · rintro f w7 hb7 hfin
                have hb7 : Below w6.heap.size w6 w7 := hb7
                have S93 : f 93 = .bool false := hfin.2.2.2.2.2.2.2.2.2.1
                clear hfin
                simp only [frameOf, dstsOf, zipF, List.filterMap_cons, List.filterMap_nil, List.contains_cons, List.contains_nil, Nat.reduceBEq, Nat.reduceAdd, Bool.or_false, Bool.or_true, cond_true, cond_false]
                rw [S93]
                clear S93
                have HB7 := Lib.hid (HB6.out.trans (hb7.mono HB6.out.size))
                have cR7 := (hb7.cell (p := ⟨br, or' + b, none⟩) hbr6).trans cR6
                have cM7 := (hb7.cell (p := ⟨bm, om + ia, none⟩) hbm6).trans cM6
                have cL7 := (hb7.cell (p := ⟨bn, on' + y * 10 + 9, none⟩) hbn6).trans cL6
                have HLR7 := Lib.hid (HLR6.out.below hb7 (Nat.le_refl _))
                have hbr7 := Nat.lt_of_lt_of_le hbr6 hb7.size
                have hbm7 := Nat.lt_of_lt_of_le hbm6 hb7.size
                have hbn7 := Nat.lt_of_lt_of_le hbn6 hb7.size
                clear hb7 cR6 cM6 cL6 HLR6 hbr6 hbm6 hbn6 HB6
                go_wp2_with fail
                refine wp_region_rel [fun v _ => v = .slice (some ⟨br, or', none⟩) lr cr, fun v _ => v = .int .i64 (b : Nat), fun v _ => v = .pointer (some ⟨br, or' + b, none⟩), fun v _ => v = .int .i64 (y : Nat), fun v _ => v = .slice (some ⟨bm, om, none⟩) lm cm, fun v _ => v = .int .i64 (ia : Nat), fun v _ => v = .pointer (some ⟨bm, om + ia, none⟩), fun v _ => v = .int .i64 (m : Nat), fun v _ => v = .bool false]
                  [true, true, true, true, true, true, true, true, true] (fun x => Below w7.heap.size w7 x) (fun x y => Below x.heap.size x y) none (by kernel_rfl) ?_ (⟨rfl, rfl, rfl, Nat.le_refl _, fun _ _ => rfl⟩) (fun x y _ h => h) (fun x y hx hs => hx.trans (hs.mono hx.size)) (by kernel_rfl) (by kernel_rfl) ?_ ?_
                · exact keepsR_n (fun _ _ _ h _ _ => h) (keepsR_n (fun _ _ _ h _ _ => h) (keepsR_n (fun _ _ _ h _ _ => h) (keepsR_n (fun _ _ _ h _ _ => h) (keepsR_n (fun _ _ _ h _ _ => h) (keepsR_n (fun _ _ _ h _ _ => h) (keepsR_n (fun _ _ _ h _ _ => h) (keepsR_n (fun _ _ _ h _ _ => h) (keepsR_n (fun _ _ _ h _ _ => h) (keepsR_nil)))))))))
                · refine .cons (owed7_go ?_) (.cons (owed7_go ?_) (.cons (owed7_go ?_) (.cons (owed7_go ?_) (.cons (owed7_go ?_) (.cons (owed7_go ?_) (.cons (owed7_go ?_) (.cons (owed7_go ?_) (.cons (owed7_go ?_) (.nil)))))))))
                  · intro a wx hbx hq ho hf
                    have hbx : Below w7.heap.size w7 wx := hbx
                    have hbq : Below w7.heap.size w7 wx := hq (by kernel_rfl)
                    clear hq
                    refine ⟨rfl, ?_⟩
                    intro K hK
                    have e0 : a.tmps[5]?.getD undef = .slice (some ⟨br, or', none⟩) lr cr := ho 5 (by kernel_rfl)
                    go_simp
                    exact hK _ _ rfl (stepR_no rfl (Below.refl _ _))
                  · intro a wx hbx hq ho hf
                    have hbx : Below w7.heap.size w7 wx := hbx
                    have hbq : Below w7.heap.size w7 wx := hq (by kernel_rfl)
                    clear hq
                    refine ⟨rfl, ?_⟩
                    intro K hK
                    have e0 : a.tmps[9]?.getD undef = .int .i64 (b : Nat) := ho 9 (by kernel_rfl)
                    go_simp
                    exact hK _ _ rfl (stepR_no rfl (Below.refl _ _))
                  · intro a wx hbx hq ho hf
                    have hbx : Below w7.heap.size w7 wx := hbx
                    have hbq : Below w7.heap.size w7 wx := hq (by kernel_rfl)
                    clear hq
                    refine ⟨rfl, ?_⟩
                    intro K hK
                    have e0 : a.tmps[96]?.getD undef = .slice (some ⟨br, or', none⟩) lr cr := hf.1
                    have e1 : a.tmps[97]?.getD undef = .int .i64 (b : Nat) := hf.2.1
                    go_simp
                    exact hK _ _ rfl (stepR_no rfl (Below.refl _ _))
                  · intro a wx hbx hq ho hf
                    have hbx : Below w7.heap.size w7 wx := hbx
                    have hbq : Below w7.heap.size w7 wx := hq (by kernel_rfl)
                    clear hq
                    refine ⟨rfl, ?_⟩
                    intro K hK
                    have e0 : a.tmps[98]?.getD undef = .pointer (some ⟨br, or' + b, none⟩) := hf.1
                    have d1 := (hbx.cell (p := ⟨br, or' + b, none⟩) hbr7).trans cR7
                    go_simp
                    exact hK _ _ rfl (stepR_no rfl (Below.refl _ _))
                  · intro a wx hbx hq ho hf
                    have hbx : Below w7.heap.size w7 wx := hbx
                    have hbq : Below w7.heap.size w7 wx := hq (by kernel_rfl)
                    clear hq
                    refine ⟨rfl, ?_⟩
                    intro K hK
                    have e0 : a.tmps[6]?.getD undef = .slice (some ⟨bm, om, none⟩) lm cm := ho 6 (by kernel_rfl)
                    go_simp
                    exact hK _ _ rfl (stepR_no rfl (Below.refl _ _))
                  · intro a wx hbx hq ho hf
                    have hbx : Below w7.heap.size w7 wx := hbx
                    have hbq : Below w7.heap.size w7 wx := hq (by kernel_rfl)
                    clear hq
                    refine ⟨rfl, ?_⟩
                    intro K hK
                    have e0 : a.tmps[7]?.getD undef = .int .i64 (ia : Nat) := ho 7 (by kernel_rfl)
                    go_simp
                    exact hK _ _ rfl (stepR_no rfl (Below.refl _ _))
                  · intro a wx hbx hq ho hf
                    have hbx : Below w7.heap.size w7 wx := hbx
                    have hbq : Below w7.heap.size w7 wx := hq (by kernel_rfl)
                    clear hq
                    refine ⟨rfl, ?_⟩
                    intro K hK
                    have e0 : a.tmps[100]?.getD undef = .slice (some ⟨bm, om, none⟩) lm cm := hf.1
                    have e1 : a.tmps[101]?.getD undef = .int .i64 (ia : Nat) := hf.2.1
                    go_simp
                    exact hK _ _ rfl (stepR_no rfl (Below.refl _ _))
                  · intro a wx hbx hq ho hf
                    have hbx : Below w7.heap.size w7 wx := hbx
                    have hbq : Below w7.heap.size w7 wx := hq (by kernel_rfl)
                    clear hq
                    refine ⟨rfl, ?_⟩
                    intro K hK
                    have e0 : a.tmps[102]?.getD undef = .pointer (some ⟨bm, om + ia, none⟩) := hf.1
                    have d1 := (hbx.cell (p := ⟨bm, om + ia, none⟩) hbm7).trans cM7
                    go_simp
                    exact hK _ _ rfl (stepR_no rfl (Below.refl _ _))
                  · intro a wx hbx hq ho hf
                    have hbx : Below w7.heap.size w7 wx := hbx
                    have hbq : Below w7.heap.size w7 wx := hq (by kernel_rfl)
                    clear hq
                    refine ⟨rfl, ?_⟩
                    intro K hK
                    have e0 : a.tmps[99]?.getD undef = .int .i64 (y : Nat) := hf.1
                    have e1 : a.tmps[103]?.getD undef = .int .i64 (m : Nat) := hf.2.1
                    go_simp
                    refine (HABy.out wx).mono ?_
                    rintro e w2 ⟨rfl, hb2⟩
                    exact hK _ _ rfl (stepR_no rfl hb2)
                · rintro f w9 hb9 hfin
                  have hb9 : Below w7.heap.size w7 w9 := hb9
                  have S104 : f 104 = .bool false := hfin.2.2.2.2.2.2.2.2.1
                  clear hfin
                  simp only [frameOf, dstsOf, zipF, List.filterMap_cons, List.filterMap_nil, List.contains_cons, List.contains_nil, Nat.reduceBEq, Nat.reduceAdd, Bool.or_false, Bool.or_true, cond_true, cond_false]
                  rw [S104]
                  clear S104
                  have HB9 := Lib.hid (HB7.out.trans (hb9.mono HB7.out.size))
                  clear hb9
                  go_wp2_with fail
                  go_roundg (gk - 1)
                  case measure => have := HBB.out; omega
                  case rel => exact ⟨b + 1, by have := HBB.out; omega, by go_num, by rw [HC.out], HB9.out⟩
            | true =>
              simp only [hu] at AB
              have HABy := Lib.hid AB
              have HC := Lib.hid (show Sf m (b + 1) = s + (1 - ((Kf y m (nd t y).par.late.length : Nat) : Int)) by rw [HSSb.out, HC2.out y m e hu])
              obtain ⟨ll, hll⟩ : ∃ l, l = (nd t y).par.late.length := ⟨_, rfl⟩
              have hl60 := HLB.out y
              have CNy := HCN.out y m
              rw [← hll] at HC hl60 CNy cL6
              have HCNy := Lib.hid CNy
              have hlrd := HLR6.out
              have HLL := Lib.hid hll
              clear AB hu e hll CNy
              go_wp2_with fail
              refine wp_region_rel [fun v _ => v = .slice (some ⟨br, or', none⟩) lr cr, fun v _ => v = .int .i64 (b : Nat), fun v _ => v = .pointer (some ⟨br, or' + b, none⟩), fun v _ => v = .int .i64 (y : Nat), fun v _ => v = .slice (some ⟨bm, om, none⟩) lm cm, fun v _ => v = .int .i64 (ia : Nat), fun v _ => v = .pointer (some ⟨bm, om + ia, none⟩), fun v _ => v = .int .i64 (m : Nat), fun v _ => v = .int .i64 (2 * (m : Int)), fun v _ => v = .bool false]
                [true, true, true, true, true, true, true, true, true, true] (fun x => Below w6.heap.size w6 x) (fun x y => Below x.heap.size x y) none (by kernel_rfl) ?_ (⟨rfl, rfl, rfl, Nat.le_refl _, fun _ _ => rfl⟩) (fun x y _ h => h) (fun x y hx hs => hx.trans (hs.mono hx.size)) (by kernel_rfl) (by kernel_rfl) ?_ ?_
              · exact keepsR_n (fun _ _ _ h _ _ => h) (keepsR_n (fun _ _ _ h _ _ => h) (keepsR_n (fun _ _ _ h _ _ => h) (keepsR_n (fun _ _ _ h _ _ => h) (keepsR_n (fun _ _ _ h _ _ => h) (keepsR_n (fun _ _ _ h _ _ => h) (keepsR_n (fun _ _ _ h _ _ => h) (keepsR_n (fun _ _ _ h _ _ => h) (keepsR_n (fun _ _ _ h _ _ => h) (keepsR_n (fun _ _ _ h _ _ => h) (keepsR_nil))))))))))
              · refine .cons (owed7_go ?_) (.cons (owed7_go ?_) (.cons (owed7_go ?_) (.cons (owed7_go ?_) (.cons (owed7_go ?_) (.cons (owed7_go ?_) (.cons (owed7_go ?_) (.cons (owed7_go ?_) (.cons (owed7_go ?_) (.cons (owed7_go ?_) (.nil))))))))))
                · intro a wx hbx hq ho hf
                  have hbx : Below w6.heap.size w6 wx := hbx
                  have hbq : Below w6.heap.size w6 wx := hq (by kernel_rfl)
                  clear hq
                  refine ⟨rfl, ?_⟩
                  intro K hK
                  have e0 : a.tmps[5]?.getD undef = .slice (some ⟨br, or', none⟩) lr cr := ho 5 (by kernel_rfl)
                  go_simp
                  exact hK _ _ rfl (stepR_no rfl (Below.refl _ _))
                · intro a wx hbx hq ho hf
                  have hbx : Below w6.heap.size w6 wx := hbx
                  have hbq : Below w6.heap.size w6 wx := hq (by kernel_rfl)
                  clear hq
                  refine ⟨rfl, ?_⟩
                  intro K hK
                  have e0 : a.tmps[9]?.getD undef = .int .i64 (b : Nat) := ho 9 (by kernel_rfl)
                  go_simp
                  exact hK _ _ rfl (stepR_no rfl (Below.refl _ _))
                · intro a wx hbx hq ho hf
                  have hbx : Below w6.heap.size w6 wx := hbx
                  have hbq : Below w6.heap.size w6 wx := hq (by kernel_rfl)
                  clear hq
                  refine ⟨rfl, ?_⟩
                  intro K hK
                  have e0 : a.tmps[84]?.getD undef = .slice (some ⟨br, or', none⟩) lr cr := hf.1
                  have e1 : a.tmps[85]?.getD undef = .int .i64 (b : Nat) := hf.2.1
                  go_simp
                  exact hK _ _ rfl (stepR_no rfl (Below.refl _ _))
                · intro a wx hbx hq ho hf
                  have hbx : Below w6.heap.size w6 wx := hbx
                  have hbq : Below w6.heap.size w6 wx := hq (by kernel_rfl)
                  clear hq
                  refine ⟨rfl, ?_⟩
                  intro K hK
                  have e0 : a.tmps[86]?.getD undef = .pointer (some ⟨br, or' + b, none⟩) := hf.1
                  have d1 := (hbx.cell (p := ⟨br, or' + b, none⟩) hbr6).trans cR6
                  go_simp
                  exact hK _ _ rfl (stepR_no rfl (Below.refl _ _))
                · intro a wx hbx hq ho hf
                  have hbx : Below w6.heap.size w6 wx := hbx
                  have hbq : Below w6.heap.size w6 wx := hq (by kernel_rfl)
                  clear hq
                  refine ⟨rfl, ?_⟩
                  intro K hK
                  have e0 : a.tmps[6]?.getD undef = .slice (some ⟨bm, om, none⟩) lm cm := ho 6 (by kernel_rfl)
                  go_simp
                  exact hK _ _ rfl (stepR_no rfl (Below.refl _ _))
                · intro a wx hbx hq ho hf
                  have hbx : Below w6.heap.size w6 wx := hbx
                  have hbq : Below w6.heap.size w6 wx := hq (by kernel_rfl)
                  clear hq
                  refine ⟨rfl, ?_⟩
                  intro K hK
                  have e0 : a.tmps[7]?.getD undef = .int .i64 (ia : Nat) := ho 7 (by kernel_rfl)
                  go_simp
                  exact hK _ _ rfl (stepR_no rfl (Below.refl _ _))
                · intro a wx hbx hq ho hf
                  have hbx : Below w6.heap.size w6 wx := hbx
                  have hbq : Below w6.heap.size w6 wx := hq (by kernel_rfl)
                  clear hq
                  refine ⟨rfl, ?_⟩
                  intro K hK
                  have e0 : a.tmps[88]?.getD undef = .slice (some ⟨bm, om, none⟩) lm cm := hf.1
                  have e1 : a.tmps[89]?.getD undef = .int .i64 (ia : Nat) := hf.2.1
                  go_simp
                  exact hK _ _ rfl (stepR_no rfl (Below.refl _ _))
                · intro a wx hbx hq ho hf
                  have hbx : Below w6.heap.size w6 wx := hbx
                  have hbq : Below w6.heap.size w6 wx := hq (by kernel_rfl)
                  clear hq
                  refine ⟨rfl, ?_⟩
                  intro K hK
                  have e0 : a.tmps[90]?.getD undef = .pointer (some ⟨bm, om + ia, none⟩) := hf.1
                  have d1 := (hbx.cell (p := ⟨bm, om + ia, none⟩) hbm6).trans cM6
                  go_simp
                  exact hK _ _ rfl (stepR_no rfl (Below.refl _ _))
                · intro a wx hbx hq ho hf
                  have hbx : Below w6.heap.size w6 wx := hbx
                  have hbq : Below w6.heap.size w6 wx := hq (by kernel_rfl)
                  clear hq
                  refine ⟨rfl, ?_⟩
                  intro K hK
                  have e0 : a.tmps[91]?.getD undef = .int .i64 (m : Nat) := hf.1
                  have gw1 : IntKind.i64.wrap ((2 * (m : Int))) = (2 * (m : Int)) := by rw [IntKind.wrap_i64]; omega
                  have gw2 : 2 * (m : Int) = (2 * (m : Int)) := by omega
                  have gw3 : IntKind.i64.wrap (2 * (m : Int)) = (2 * (m : Int)) := by rw [gw2]; exact gw1
                  go_simp
                  exact hK _ _ rfl (stepR_no rfl (Below.refl _ _))
                · intro a wx hbx hq ho hf
                  have hbx : Below w6.heap.size w6 wx := hbx
                  have hbq : Below w6.heap.size w6 wx := hq (by kernel_rfl)
                  clear hq
                  refine ⟨rfl, ?_⟩
                  intro K hK
                  have e0 : a.tmps[87]?.getD undef = .int .i64 (y : Nat) := hf.1
                  have e1 : a.tmps[92]?.getD undef = .int .i64 (2 * (m : Int)) := hf.2.1
                  go_simp
                  exact hK _ _ rfl (stepR_no rfl (Below.refl _ _))
              · rintro f w7 hb7 hfin
                have hb7 : Below w6.heap.size w6 w7 := hb7
                have S93 : f 93 = .bool false := hfin.2.2.2.2.2.2.2.2.2.1
                clear hfin
                simp only [frameOf, dstsOf, zipF, List.filterMap_cons, List.filterMap_nil, List.contains_cons, List.contains_nil, Nat.reduceBEq, Nat.reduceAdd, Bool.or_false, Bool.or_true, cond_true, cond_false]
                rw [S93]
                clear S93
                have HB7 := Lib.hid (HB6.out.trans (hb7.mono HB6.out.size))
                have cR7 := (hb7.cell (p := ⟨br, or' + b, none⟩) hbr6).trans cR6
                have cM7 := (hb7.cell (p := ⟨bm, om + ia, none⟩) hbm6).trans cM6
                have cL7 := (hb7.cell (p := ⟨bn, on' + y * 10 + 9, none⟩) hbn6).trans cL6
                have HLR7 := Lib.hid (HLR6.out.below hb7 (Nat.le_refl _))
                have hbr7 := Nat.lt_of_lt_of_le hbr6 hb7.size
                have hbm7 := Nat.lt_of_lt_of_le hbm6 hb7.size
                have hbn7 := Nat.lt_of_lt_of_le hbn6 hb7.size
                clear hb7 cR6 cM6 cL6 HLR6 hbr6 hbm6 hbn6 HB6
                go_wp2_with fail
                refine wp_region_rel [fun v _ => v = .slice (some ⟨br, or', none⟩) lr cr, fun v _ => v = .int .i64 (b : Nat), fun v _ => v = .pointer (some ⟨br, or' + b, none⟩), fun v _ => v = .int .i64 (y : Nat), fun v _ => v = .slice (some ⟨bm, om, none⟩) lm cm, fun v _ => v = .int .i64 (ia : Nat), fun v _ => v = .pointer (some ⟨bm, om + ia, none⟩), fun v _ => v = .int .i64 (m : Nat), fun v _ => v = .bool true]
                  [true, true, true, true, true, true, true, true, true] (fun x => Below w7.heap.size w7 x) (fun x y => Below x.heap.size x y) none (by kernel_rfl) ?_ (⟨rfl, rfl, rfl, Nat.le_refl _, fun _ _ => rfl⟩) (fun x y _ h => h) (fun x y hx hs => hx.trans (hs.mono hx.size)) (by kernel_rfl) (by kernel_rfl) ?_ ?_
                · exact keepsR_n (fun _ _ _ h _ _ => h) (keepsR_n (fun _ _ _ h _ _ => h) (keepsR_n (fun _ _ _ h _ _ => h) (keepsR_n (fun _ _ _ h _ _ => h) (keepsR_n (fun _ _ _ h _ _ => h) (keepsR_n (fun _ _ _ h _ _ => h) (keepsR_n (fun _ _ _ h _ _ => h) (keepsR_n (fun _ _ _ h _ _ => h) (keepsR_n (fun _ _ _ h _ _ => h) (keepsR_nil)))))))))
                · refine .cons (owed7_go ?_) (.cons (owed7_go ?_) (.cons (owed7_go ?_) (.cons (owed7_go ?_) (.cons (owed7_go ?_) (.cons (owed7_go ?_) (.cons (owed7_go ?_) (.cons (owed7_go ?_) (.cons (owed7_go ?_) (.nil)))))))))
                  · intro a wx hbx hq ho hf
                    have hbx : Below w7.heap.size w7 wx := hbx
                    have hbq : Below w7.heap.size w7 wx := hq (by kernel_rfl)
                    clear hq
                    refine ⟨rfl, ?_⟩
                    intro K hK
                    have e0 : a.tmps[5]?.getD undef = .slice (some ⟨br, or', none⟩) lr cr := ho 5 (by kernel_rfl)
                    go_simp
                    exact hK _ _ rfl (stepR_no rfl (Below.refl _ _))
                  · intro a wx hbx hq ho hf
                    have hbx : Below w7.heap.size w7 wx := hbx
                    have hbq : Below w7.heap.size w7 wx := hq (by kernel_rfl)
                    clear hq
                    refine ⟨rfl, ?_⟩
                    intro K hK
                    have e0 : a.tmps[9]?.getD undef = .int .i64 (b : Nat) := ho 9 (by kernel_rfl)
                    go_simp
                    exact hK _ _ rfl (stepR_no rfl (Below.refl _ _))
                  · intro a wx hbx hq ho hf
                    have hbx : Below w7.heap.size w7 wx := hbx
                    have hbq : Below w7.heap.size w7 wx := hq (by kernel_rfl)
                    clear hq
                    refine ⟨rfl, ?_⟩
                    intro K hK
                    have e0 : a.tmps[96]?.getD undef = .slice (some ⟨br, or', none⟩) lr cr := hf.1
                    have e1 : a.tmps[97]?.getD undef = .int .i64 (b : Nat) := hf.2.1
                    go_simp
                    exact hK _ _ rfl (stepR_no rfl (Below.refl _ _))
                  · intro a wx hbx hq ho hf
                    have hbx : Below w7.heap.size w7 wx := hbx
                    have hbq : Below w7.heap.size w7 wx := hq (by kernel_rfl)
                    clear hq
                    refine ⟨rfl, ?_⟩
                    intro K hK
                    have e0 : a.tmps[98]?.getD undef = .pointer (some ⟨br, or' + b, none⟩) := hf.1
                    have d1 := (hbx.cell (p := ⟨br, or' + b, none⟩) hbr7).trans cR7
                    go_simp
                    exact hK _ _ rfl (stepR_no rfl (Below.refl _ _))
                  · intro a wx hbx hq ho hf
                    have hbx : Below w7.heap.size w7 wx := hbx
                    have hbq : Below w7.heap.size w7 wx := hq (by kernel_rfl)
                    clear hq
                    refine ⟨rfl, ?_⟩
                    intro K hK
                    have e0 : a.tmps[6]?.getD undef = .slice (some ⟨bm, om, none⟩) lm cm := ho 6 (by kernel_rfl)
                    go_simp
                    exact hK _ _ rfl (stepR_no rfl (Below.refl _ _))
                  · intro a wx hbx hq ho hf
                    have hbx : Below w7.heap.size w7 wx := hbx
                    have hbq : Below w7.heap.size w7 wx := hq (by kernel_rfl)
                    clear hq
                    refine ⟨rfl, ?_⟩
                    intro K hK
                    have e0 : a.tmps[7]?.getD undef = .int .i64 (ia : Nat) := ho 7 (by kernel_rfl)
                    go_simp
                    exact hK _ _ rfl (stepR_no rfl (Below.refl _ _))
                  · intro a wx hbx hq ho hf
                    have hbx : Below w7.heap.size w7 wx := hbx
                    have hbq : Below w7.heap.size w7 wx := hq (by kernel_rfl)
                    clear hq
                    refine ⟨rfl, ?_⟩
                    intro K hK
                    have e0 : a.tmps[100]?.getD undef = .slice (some ⟨bm, om, none⟩) lm cm := hf.1
                    have e1 : a.tmps[101]?.getD undef = .int .i64 (ia : Nat) := hf.2.1
                    go_simp
                    exact hK _ _ rfl (stepR_no rfl (Below.refl _ _))
                  · intro a wx hbx hq ho hf
                    have hbx : Below w7.heap.size w7 wx := hbx
                    have hbq : Below w7.heap.size w7 wx := hq (by kernel_rfl)
                    clear hq
                    refine ⟨rfl, ?_⟩
                    intro K hK
                    have e0 : a.tmps[102]?.getD undef = .pointer (some ⟨bm, om + ia, none⟩) := hf.1
                    have d1 := (hbx.cell (p := ⟨bm, om + ia, none⟩) hbm7).trans cM7
                    go_simp
                    exact hK _ _ rfl (stepR_no rfl (Below.refl _ _))
                  · intro a wx hbx hq ho hf
                    have hbx : Below w7.heap.size w7 wx := hbx
                    have hbq : Below w7.heap.size w7 wx := hq (by kernel_rfl)
                    clear hq
                    refine ⟨rfl, ?_⟩
                    intro K hK
                    have e0 : a.tmps[99]?.getD undef = .int .i64 (y : Nat) := hf.1
                    have e1 : a.tmps[103]?.getD undef = .int .i64 (m : Nat) := hf.2.1
                    go_simp
                    refine (HABy.out wx).mono ?_
                    rintro e w2 ⟨rfl, hb2⟩
                    exact hK _ _ rfl (stepR_no rfl hb2)
                · rintro f w8 hb8 hfin
                  have hb8 : Below w7.heap.size w7 w8 := hb8
                  have S104 : f 104 = .bool true := hfin.2.2.2.2.2.2.2.2.1
                  clear hfin
                  simp only [frameOf, dstsOf, zipF, List.filterMap_cons, List.filterMap_nil, List.contains_cons, List.contains_nil, Nat.reduceBEq, Nat.reduceAdd, Bool.or_false, Bool.or_true, cond_true, cond_false]
                  rw [S104]
                  clear S104
                  have HB8 := Lib.hid (HB7.out.trans (hb8.mono HB7.out.size))
                  have cR8 := (hb8.cell (p := ⟨br, or' + b, none⟩) hbr7).trans cR7
                  have cM8 := (hb8.cell (p := ⟨bm, om + ia, none⟩) hbm7).trans cM7
                  have cL8 := (hb8.cell (p := ⟨bn, on' + y * 10 + 9, none⟩) hbn7).trans cL7
                  have HLR8 := Lib.hid (HLR7.out.below hb8 (Nat.le_refl _))
                  have hbr8 := Nat.lt_of_lt_of_le hbr7 hb8.size
                  have hbm8 := Nat.lt_of_lt_of_le hbm7 hb8.size
                  have hbn8 := Nat.lt_of_lt_of_le hbn7 hb8.size
                  obtain ⟨g3, rfl⟩ : ∃ g3, g3 = gk := ⟨_, rfl⟩
                  have HB88 := Lib.hid hb8
                  clear hb8 cR7 cM7 cL7 HLR7 hbr7 hbm7 hbn7 HB7
                  go_wp2_with fail
                  go_loopg [10, 11] ll (fun q lv jv wr => ∃ j : Nat, j + q = ll ∧ jv = .int .i64 (j : Nat) ∧ lv = .int .i64 (Kf y m j : Nat) ∧ Below w8.heap.size w8 wr)
                  case atStart => exact ⟨0, by omega, rfl, by rw [HK0.out]; rfl, Below.refl _ _⟩
                  case round =>
                    obtain ⟨j, hj, rfl, rfl, hb⟩ := hrel
                    have HJ := Lib.hid hj
                    have HBI := Lib.hid hb
                    have HBJ := Lib.hid (HB8.out.trans (hb.mono HB8.out.size))
                    have cRr := (hb.cell (p := ⟨br, or' + b, none⟩) hbr8).trans cR8
                    have cMr := (hb.cell (p := ⟨bm, om + ia, none⟩) hbm8).trans cM8
                    have cLr := (hb.cell (p := ⟨bn, on' + y * 10 + 9, none⟩) hbn8).trans cL8
                    have hbrr := Nat.lt_of_lt_of_le hbr8 hb.size
                    have hbmr := Nat.lt_of_lt_of_le hbm8 hb.size
                    have hbnr := Nat.lt_of_lt_of_le hbn8 hb.size
                    have hkj := HCB.out y m j
                    have hlrj := HLR8.out.below hb (Nat.le_refl _)
                    by_cases hltj : j < ll
                    · have hltj' : decide (j < ll) = true := decide_eq_true hltj
                      have hltjI : (j : Int) < (ll : Int) := by omega
                      have hCj := HCNy.out j hltj
                      have hat : (ivs .i64 (nd t y).par.late)[j]? = some (.int .i64 ((nd t y).par.late.getD j 0)) := by
                        have := HLL.out
                        simp [ivs, List.getD_eq_getElem?_getD, show j < (nd t y).par.late.length by omega]
                      obtain ⟨u, hu⟩ : ∃ u, u = (nd t y).par.late.getD j 0 := ⟨_, rfl⟩
                      rw [← hu] at hCj hat
                      obtain ⟨bl, ol, rfl, hblr, cJr⟩ := hlrj.at3 hat
                      obtain ⟨kj, hkj2⟩ : ∃ k, k = Kf y m j := ⟨_, rfl⟩
                      rw [← hkj2] at hCj hkj ⊢
                      clear hj hb hlrj hat hu hkj2
                      by_cases hum : u = (m : Int)
                      · have he2 : (u == (m : Int)) = true := by rw [beq_iff_eq]; exact hum
                        rw [if_pos hum] at hCj
                        have HCJ := Lib.hid hCj
                        clear hum hCj
                        go_wp2_with fail
                        refine wp_region_rel [fun v _ => v = .slice (some ⟨bn, on', none⟩) n n0, fun v _ => v = .slice (some ⟨br, or', none⟩) lr cr, fun v _ => v = .int .i64 (b : Nat), fun v _ => v = .pointer (some ⟨br, or' + b, none⟩), fun v _ => v = .int .i64 (y : Nat), fun v _ => v = .pointer (some ⟨bn, on' + y * 10, none⟩), fun v _ => v = .pointer (some ⟨bn, on' + y * 10 + 7, none⟩), fun v _ => v = .pointer (some ⟨bn, on' + y * 10 + 9, none⟩), fun v _ => v = .slice (some ⟨bl, ol, none⟩) ll eb, fun v _ => v = .int .i64 (j : Nat), fun v _ => v = .pointer (some ⟨bl, ol + j, none⟩), fun v _ => v = .int .i64 u, fun v _ => v = .slice (some ⟨bm, om, none⟩) lm cm, fun v _ => v = .int .i64 (ia : Nat), fun v _ => v = .pointer (some ⟨bm, om + ia, none⟩), fun v _ => v = .int .i64 (m : Nat), fun v _ => v = .bool true]
                          [true, true, true, true, true, true, true, true, true, true, true, true, true, true, true, true, true] (fun x => Below wr.heap.size wr x) (fun x y => Below x.heap.size x y) none (by kernel_rfl) ?_ (⟨rfl, rfl, rfl, Nat.le_refl _, fun _ _ => rfl⟩) (fun x y _ h => h) (fun x y hx hs => hx.trans (hs.mono hx.size)) (by kernel_rfl) (by kernel_rfl) ?_ ?_
                        · exact keepsR_n (fun _ _ _ h _ _ => h) (keepsR_n (fun _ _ _ h _ _ => h) (keepsR_n (fun _ _ _ h _ _ => h) (keepsR_n (fun _ _ _ h _ _ => h) (keepsR_n (fun _ _ _ h _ _ => h) (keepsR_n (fun _ _ _ h _ _ => h) (keepsR_n (fun _ _ _ h _ _ => h) (keepsR_n (fun _ _ _ h _ _ => h) (keepsR_n (fun _ _ _ h _ _ => h) (keepsR_n (fun _ _ _ h _ _ => h) (keepsR_n (fun _ _ _ h _ _ => h) (keepsR_n (fun _ _ _ h _ _ => h) (keepsR_n (fun _ _ _ h _ _ => h) (keepsR_n (fun _ _ _ h _ _ => h) (keepsR_n (fun _ _ _ h _ _ => h) (keepsR_n (fun _ _ _ h _ _ => h) (keepsR_n (fun _ _ _ h _ _ => h) (keepsR_nil)))))))))))))))))
                        · refine .cons (owed7_go ?_) (.cons (owed7_go ?_) (.cons (owed7_go ?_) (.cons (owed7_go ?_) (.cons (owed7_go ?_) (.cons (owed7_go ?_) (.cons (owed7_go ?_) (.cons (owed7_go ?_) (.cons (owed7_go ?_) (.cons (owed7_go ?_) (.cons (owed7_go ?_) (.cons (owed7_go ?_) (.cons (owed7_go ?_) (.cons (owed7_go ?_) (.cons (owed7_go ?_) (.cons (owed7_go ?_) (.cons (owed7_go ?_) (.nil)))))))))))))))))
                          · intro a wx hbx hq ho hf
                            have hbx : Below wr.heap.size wr wx := hbx
                            have hbq : Below wr.heap.size wr wx := hq (by kernel_rfl)
                            clear hq
                            refine ⟨rfl, ?_⟩
                            intro K hK
                            have e0 : a.tmps[0]?.getD undef = .slice (some ⟨bn, on', none⟩) n n0 := ho 0 (by kernel_rfl)
                            go_simp
                            exact hK _ _ rfl (stepR_no rfl (Below.refl _ _))
                          · intro a wx hbx hq ho hf
                            have hbx : Below wr.heap.size wr wx := hbx
                            have hbq : Below wr.heap.size wr wx := hq (by kernel_rfl)
                            clear hq
                            refine ⟨rfl, ?_⟩
                            intro K hK
                            have e0 : a.tmps[5]?.getD undef = .slice (some ⟨br, or', none⟩) lr cr := ho 5 (by kernel_rfl)
                            go_simp
                            exact hK _ _ rfl (stepR_no rfl (Below.refl _ _))
                          · intro a wx hbx hq ho hf
                            have hbx : Below wr.heap.size wr wx := hbx
                            have hbq : Below wr.heap.size wr wx := hq (by kernel_rfl)
                            clear hq
                            refine ⟨rfl, ?_⟩
                            intro K hK
                            have e0 : a.tmps[9]?.getD undef = .int .i64 (b : Nat) := ho 9 (by kernel_rfl)
                            go_simp
                            exact hK _ _ rfl (stepR_no rfl (Below.refl _ _))
                          · intro a wx hbx hq ho hf
                            have hbx : Below wr.heap.size wr wx := hbx
                            have hbq : Below wr.heap.size wr wx := hq (by kernel_rfl)
                            clear hq
                            refine ⟨rfl, ?_⟩
                            intro K hK
                            have e0 : a.tmps[120]?.getD undef = .slice (some ⟨br, or', none⟩) lr cr := hf.1
                            have e1 : a.tmps[121]?.getD undef = .int .i64 (b : Nat) := hf.2.1
                            go_simp
                            exact hK _ _ rfl (stepR_no rfl (Below.refl _ _))
                          · intro a wx hbx hq ho hf
                            have hbx : Below wr.heap.size wr wx := hbx
                            have hbq : Below wr.heap.size wr wx := hq (by kernel_rfl)
                            clear hq
                            refine ⟨rfl, ?_⟩
                            intro K hK
                            have e0 : a.tmps[122]?.getD undef = .pointer (some ⟨br, or' + b, none⟩) := hf.1
                            have d1 := (hbx.cell (p := ⟨br, or' + b, none⟩) hbrr).trans cRr
                            go_simp
                            exact hK _ _ rfl (stepR_no rfl (Below.refl _ _))
                          · intro a wx hbx hq ho hf
                            have hbx : Below wr.heap.size wr wx := hbx
                            have hbq : Below wr.heap.size wr wx := hq (by kernel_rfl)
                            clear hq
                            refine ⟨rfl, ?_⟩
                            intro K hK
                            have e0 : a.tmps[119]?.getD undef = .slice (some ⟨bn, on', none⟩) n n0 := hf.1
                            have e1 : a.tmps[123]?.getD undef = .int .i64 (y : Nat) := hf.2.1
                            go_simp
                            exact hK _ _ rfl (stepR_no rfl (Below.refl _ _))
                          · intro a wx hbx hq ho hf
                            have hbx : Below wr.heap.size wr wx := hbx
                            have hbq : Below wr.heap.size wr wx := hq (by kernel_rfl)
                            clear hq
                            refine ⟨rfl, ?_⟩
                            intro K hK
                            have e0 : a.tmps[124]?.getD undef = .pointer (some ⟨bn, on' + y * 10, none⟩) := hf.1
                            go_simp
                            exact hK _ _ rfl (stepR_no rfl (Below.refl _ _))
                          · intro a wx hbx hq ho hf
                            have hbx : Below wr.heap.size wr wx := hbx
                            have hbq : Below wr.heap.size wr wx := hq (by kernel_rfl)
                            clear hq
                            refine ⟨rfl, ?_⟩
                            intro K hK
                            have e0 : a.tmps[125]?.getD undef = .pointer (some ⟨bn, on' + y * 10 + 7, none⟩) := hf.1
                            go_simp
                            exact hK _ _ rfl (stepR_no rfl (Below.refl _ _))
                          · intro a wx hbx hq ho hf
                            have hbx : Below wr.heap.size wr wx := hbx
                            have hbq : Below wr.heap.size wr wx := hq (by kernel_rfl)
                            clear hq
                            refine ⟨rfl, ?_⟩
                            intro K hK
                            have e0 : a.tmps[126]?.getD undef = .pointer (some ⟨bn, on' + y * 10 + 9, none⟩) := hf.1
                            have d1 := (hbx.cell (p := ⟨bn, on' + y * 10 + 9, none⟩) hbnr).trans cLr
                            go_simp
                            exact hK _ _ rfl (stepR_no rfl (Below.refl _ _))
                          · intro a wx hbx hq ho hf
                            have hbx : Below wr.heap.size wr wx := hbx
                            have hbq : Below wr.heap.size wr wx := hq (by kernel_rfl)
                            clear hq
                            refine ⟨rfl, ?_⟩
                            intro K hK
                            have e0 : a.tmps[11]?.getD undef = .int .i64 (j : Nat) := ho 11 (by kernel_rfl)
                            go_simp
                            exact hK _ _ rfl (stepR_no rfl (Below.refl _ _))
                          · intro a wx hbx hq ho hf
                            have hbx : Below wr.heap.size wr wx := hbx
                            have hbq : Below wr.heap.size wr wx := hq (by kernel_rfl)
                            clear hq
                            refine ⟨rfl, ?_⟩
                            intro K hK
                            have e0 : a.tmps[127]?.getD undef = .slice (some ⟨bl, ol, none⟩) ll eb := hf.1
                            have e1 : a.tmps[128]?.getD undef = .int .i64 (j : Nat) := hf.2.1
                            go_simp
                            exact hK _ _ rfl (stepR_no rfl (Below.refl _ _))
                          · intro a wx hbx hq ho hf
                            have hbx : Below wr.heap.size wr wx := hbx
                            have hbq : Below wr.heap.size wr wx := hq (by kernel_rfl)
                            clear hq
                            refine ⟨rfl, ?_⟩
                            intro K hK
                            have e0 : a.tmps[129]?.getD undef = .pointer (some ⟨bl, ol + j, none⟩) := hf.1
                            have d1 := (hbx.cell (p := ⟨bl, ol + j, none⟩) hblr).trans cJr
                            go_simp
                            exact hK _ _ rfl (stepR_no rfl (Below.refl _ _))
                          · intro a wx hbx hq ho hf
                            have hbx : Below wr.heap.size wr wx := hbx
                            have hbq : Below wr.heap.size wr wx := hq (by kernel_rfl)
                            clear hq
                            refine ⟨rfl, ?_⟩
                            intro K hK
                            have e0 : a.tmps[6]?.getD undef = .slice (some ⟨bm, om, none⟩) lm cm := ho 6 (by kernel_rfl)
                            go_simp
                            exact hK _ _ rfl (stepR_no rfl (Below.refl _ _))
                          · intro a wx hbx hq ho hf
                            have hbx : Below wr.heap.size wr wx := hbx
                            have hbq : Below wr.heap.size wr wx := hq (by kernel_rfl)
                            clear hq
                            refine ⟨rfl, ?_⟩
                            intro K hK
                            have e0 : a.tmps[7]?.getD undef = .int .i64 (ia : Nat) := ho 7 (by kernel_rfl)
                            go_simp
                            exact hK _ _ rfl (stepR_no rfl (Below.refl _ _))
                          · intro a wx hbx hq ho hf
                            have hbx : Below wr.heap.size wr wx := hbx
                            have hbq : Below wr.heap.size wr wx := hq (by kernel_rfl)
                            clear hq
                            refine ⟨rfl, ?_⟩
                            intro K hK
                            have e0 : a.tmps[131]?.getD undef = .slice (some ⟨bm, om, none⟩) lm cm := hf.1
                            have e1 : a.tmps[132]?.getD undef = .int .i64 (ia : Nat) := hf.2.1
                            go_simp
                            exact hK _ _ rfl (stepR_no rfl (Below.refl _ _))
                          · intro a wx hbx hq ho hf
                            have hbx : Below wr.heap.size wr wx := hbx
                            have hbq : Below wr.heap.size wr wx := hq (by kernel_rfl)
                            clear hq
                            refine ⟨rfl, ?_⟩
                            intro K hK
                            have e0 : a.tmps[133]?.getD undef = .pointer (some ⟨bm, om + ia, none⟩) := hf.1
                            have d1 := (hbx.cell (p := ⟨bm, om + ia, none⟩) hbmr).trans cMr
                            go_simp
                            exact hK _ _ rfl (stepR_no rfl (Below.refl _ _))
                          · intro a wx hbx hq ho hf
                            have hbx : Below wr.heap.size wr wx := hbx
                            have hbq : Below wr.heap.size wr wx := hq (by kernel_rfl)
                            clear hq
                            refine ⟨rfl, ?_⟩
                            intro K hK
                            have e0 : a.tmps[130]?.getD undef = .int .i64 u := hf.1
                            have e1 : a.tmps[134]?.getD undef = .int .i64 (m : Nat) := hf.2.1
                            go_simp
                            exact hK _ _ rfl (stepR_no rfl (Below.refl _ _))
                        · rintro f w9 hb9 hfin
                          have hb9 : Below wr.heap.size wr w9 := hb9
                          have S135 : f 135 = .bool true := hfin.2.2.2.2.2.2.2.2.2.2.2.2.2.2.2.2.1
                          clear hfin
                          simp only [frameOf, dstsOf, zipF, List.filterMap_cons, List.filterMap_nil, List.contains_cons, List.contains_nil, Nat.reduceBEq, Nat.reduceAdd, Bool.or_false, Bool.or_true, cond_true, cond_false]
                          rw [S135]
                          clear S135
                          have HB9 := Lib.hid (HBI.out.trans (hb9.mono HBI.out.size))
                          clear hb9
                          go_wp2_with fail
                          go_roundg (gk - 1)
                          case measure => have := HJ.out; omega
                          case rel => exact ⟨j + 1, by have := HJ.out; omega, by go_num, by rw [HCJ.out]; go_num, HB9.out⟩
                      · have he2 : (u == (m : Int)) = false := by rw [beq_eq_false_iff_ne]; exact hum
                        rw [if_neg hum, Nat.add_zero] at hCj
                        have HCJ := Lib.hid hCj
                        clear hum hCj
                        go_wp2_with fail
                        refine wp_region_rel [fun v _ => v = .slice (some ⟨bn, on', none⟩) n n0, fun v _ => v = .slice (some ⟨br, or', none⟩) lr cr, fun v _ => v = .int .i64 (b : Nat), fun v _ => v = .pointer (some ⟨br, or' + b, none⟩), fun v _ => v = .int .i64 (y : Nat), fun v _ => v = .pointer (some ⟨bn, on' + y * 10, none⟩), fun v _ => v = .pointer (some ⟨bn, on' + y * 10 + 7, none⟩), fun v _ => v = .pointer (some ⟨bn, on' + y * 10 + 9, none⟩), fun v _ => v = .slice (some ⟨bl, ol, none⟩) ll eb, fun v _ => v = .int .i64 (j : Nat), fun v _ => v = .pointer (some ⟨bl, ol + j, none⟩), fun v _ => v = .int .i64 u, fun v _ => v = .slice (some ⟨bm, om, none⟩) lm cm, fun v _ => v = .int .i64 (ia : Nat), fun v _ => v = .pointer (some ⟨bm, om + ia, none⟩), fun v _ => v = .int .i64 (m : Nat), fun v _ => v = .bool false]
                          [true, true, true, true, true, true, true, true, true, true, true, true, true, true, true, true, true] (fun x => Below wr.heap.size wr x) (fun x y => Below x.heap.size x y) none (by kernel_rfl) ?_ (⟨rfl, rfl, rfl, Nat.le_refl _, fun _ _ => rfl⟩) (fun x y _ h => h) (fun x y hx hs => hx.trans (hs.mono hx.size)) (by kernel_rfl) (by kernel_rfl) ?_ ?_
                        · exact keepsR_n (fun _ _ _ h _ _ => h) (keepsR_n (fun _ _ _ h _ _ => h) (keepsR_n (fun _ _ _ h _ _ => h) (keepsR_n (fun _ _ _ h _ _ => h) (keepsR_n (fun _ _ _ h _ _ => h) (keepsR_n (fun _ _ _ h _ _ => h) (keepsR_n (fun _ _ _ h _ _ => h) (keepsR_n (fun _ _ _ h _ _ => h) (keepsR_n (fun _ _ _ h _ _ => h) (keepsR_n (fun _ _ _ h _ _ => h) (keepsR_n (fun _ _ _ h _ _ => h) (keepsR_n (fun _ _ _ h _ _ => h) (keepsR_n (fun _ _ _ h _ _ => h) (keepsR_n (fun _ _ _ h _ _ => h) (keepsR_n (fun _ _ _ h _ _ => h) (keepsR_n (fun _ _ _ h _ _ => h) (keepsR_n (fun _ _ _ h _ _ => h) (keepsR_nil)))))))))))))))))
                        · refine .cons (owed7_go ?_) (.cons (owed7_go ?_) (.cons (owed7_go ?_) (.cons (owed7_go ?_) (.cons (owed7_go ?_) (.cons (owed7_go ?_) (.cons (owed7_go ?_) (.cons (owed7_go ?_) (.cons (owed7_go ?_) (.cons (owed7_go ?_) (.cons (owed7_go ?_) (.cons (owed7_go ?_) (.cons (owed7_go ?_) (.cons (owed7_go ?_) (.cons (owed7_go ?_) (.cons (owed7_go ?_) (.cons (owed7_go ?_) (.nil)))))))))))))))))
                          · intro a wx hbx hq ho hf
                            have hbx : Below wr.heap.size wr wx := hbx
                            have hbq : Below wr.heap.size wr wx := hq (by kernel_rfl)
                            clear hq
                            refine ⟨rfl, ?_⟩
                            intro K hK
                            have e0 : a.tmps[0]?.getD undef = .slice (some ⟨bn, on', none⟩) n n0 := ho 0 (by kernel_rfl)
                            go_simp
                            exact hK _ _ rfl (stepR_no rfl (Below.refl _ _))
                          · intro a wx hbx hq ho hf
                            have hbx : Below wr.heap.size wr wx := hbx
                            have hbq : Below wr.heap.size wr wx := hq (by kernel_rfl)
                            clear hq
                            refine ⟨rfl, ?_⟩
                            intro K hK
                            have e0 : a.tmps[5]?.getD undef = .slice (some ⟨br, or', none⟩) lr cr := ho 5 (by kernel_rfl)
                            go_simp
                            exact hK _ _ rfl (stepR_no rfl (Below.refl _ _))
                          · intro a wx hbx hq ho hf
                            have hbx : Below wr.heap.size wr wx := hbx
                            have hbq : Below wr.heap.size wr wx := hq (by kernel_rfl)
                            clear hq
                            refine ⟨rfl, ?_⟩
                            intro K hK
                            have e0 : a.tmps[9]?.getD undef = .int .i64 (b : Nat) := ho 9 (by kernel_rfl)
                            go_simp
                            exact hK _ _ rfl (stepR_no rfl (Below.refl _ _))
                          · intro a wx hbx hq ho hf
                            have hbx : Below wr.heap.size wr wx := hbx
                            have hbq : Below wr.heap.size wr wx := hq (by kernel_rfl)
                            clear hq
                            refine ⟨rfl, ?_⟩
                            intro K hK
                            have e0 : a.tmps[120]?.getD undef = .slice (some ⟨br, or', none⟩) lr cr := hf.1
                            have e1 : a.tmps[121]?.getD undef = .int .i64 (b : Nat) := hf.2.1
                            go_simp
                            exact hK _ _ rfl (stepR_no rfl (Below.refl _ _))
                          · intro a wx hbx hq ho hf
                            have hbx : Below wr.heap.size wr wx := hbx
                            have hbq : Below wr.heap.size wr wx := hq (by kernel_rfl)
                            clear hq
                            refine ⟨rfl, ?_⟩
                            intro K hK
                            have e0 : a.tmps[122]?.getD undef = .pointer (some ⟨br, or' + b, none⟩) := hf.1
                            have d1 := (hbx.cell (p := ⟨br, or' + b, none⟩) hbrr).trans cRr
                            go_simp
                            exact hK _ _ rfl (stepR_no rfl (Below.refl _ _))
                          · intro a wx hbx hq ho hf
                            have hbx : Below wr.heap.size wr wx := hbx
                            have hbq : Below wr.heap.size wr wx := hq (by kernel_rfl)
                            clear hq
                            refine ⟨rfl, ?_⟩
                            intro K hK
                            have e0 : a.tmps[119]?.getD undef = .slice (some ⟨bn, on', none⟩) n n0 := hf.1
                            have e1 : a.tmps[123]?.getD undef = .int .i64 (y : Nat) := hf.2.1
                            go_simp
                            exact hK _ _ rfl (stepR_no rfl (Below.refl _ _))
                          · intro a wx hbx hq ho hf
                            have hbx : Below wr.heap.size wr wx := hbx
                            have hbq : Below wr.heap.size wr wx := hq (by kernel_rfl)
                            clear hq
                            refine ⟨rfl, ?_⟩
                            intro K hK
                            have e0 : a.tmps[124]?.getD undef = .pointer (some ⟨bn, on' + y * 10, none⟩) := hf.1
                            go_simp
                            exact hK _ _ rfl (stepR_no rfl (Below.refl _ _))
                          · intro a wx hbx hq ho hf
                            have hbx : Below wr.heap.size wr wx := hbx
                            have hbq : Below wr.heap.size wr wx := hq (by kernel_rfl)
                            clear hq
                            refine ⟨rfl, ?_⟩
                            intro K hK
                            have e0 : a.tmps[125]?.getD undef = .pointer (some ⟨bn, on' + y * 10 + 7, none⟩) := hf.1
                            go_simp
                            exact hK _ _ rfl (stepR_no rfl (Below.refl _ _))
                          · intro a wx hbx hq ho hf
                            have hbx : Below wr.heap.size wr wx := hbx
                            have hbq : Below wr.heap.size wr wx := hq (by kernel_rfl)
                            clear hq
                            refine ⟨rfl, ?_⟩
                            intro K hK
                            have e0 : a.tmps[126]?.getD undef = .pointer (some ⟨bn, on' + y * 10 + 9, none⟩) := hf.1
                            have d1 := (hbx.cell (p := ⟨bn, on' + y * 10 + 9, none⟩) hbnr).trans cLr
                            go_simp
                            exact hK _ _ rfl (stepR_no rfl (Below.refl _ _))
                          · intro a wx hbx hq ho hf
                            have hbx : Below wr.heap.size wr wx := hbx
                            have hbq : Below wr.heap.size wr wx := hq (by kernel_rfl)
                            clear hq
                            refine ⟨rfl, ?_⟩
                            intro K hK
                            have e0 : a.tmps[11]?.getD undef = .int .i64 (j : Nat) := ho 11 (by kernel_rfl)
                            go_simp
                            exact hK _ _ rfl (stepR_no rfl (Below.refl _ _))
                          · intro a wx hbx hq ho hf
                            have hbx : Below wr.heap.size wr wx := hbx
                            have hbq : Below wr.heap.size wr wx := hq (by kernel_rfl)
                            clear hq
                            refine ⟨rfl, ?_⟩
                            intro K hK
                            have e0 : a.tmps[127]?.getD undef = .slice (some ⟨bl, ol, none⟩) ll eb := hf.1
                            have e1 : a.tmps[128]?.getD undef = .int .i64 (j : Nat) := hf.2.1
                            go_simp
                            exact hK _ _ rfl (stepR_no rfl (Below.refl _ _))
                          · intro a wx hbx hq ho hf
                            have hbx : Below wr.heap.size wr wx := hbx
                            have hbq : Below wr.heap.size wr wx := hq (by kernel_rfl)
                            clear hq
                            refine ⟨rfl, ?_⟩
                            intro K hK
                            have e0 : a.tmps[129]?.getD undef = .pointer (some ⟨bl, ol + j, none⟩) := hf.1
                            have d1 := (hbx.cell (p := ⟨bl, ol + j, none⟩) hblr).trans cJr
                            go_simp
                            exact hK _ _ rfl (stepR_no rfl (Below.refl _ _))
                          · intro a wx hbx hq ho hf
                            have hbx : Below wr.heap.size wr wx := hbx
                            have hbq : Below wr.heap.size wr wx := hq (by kernel_rfl)
                            clear hq
                            refine ⟨rfl, ?_⟩
                            intro K hK
                            have e0 : a.tmps[6]?.getD undef = .slice (some ⟨bm, om, none⟩) lm cm := ho 6 (by kernel_rfl)
                            go_simp
                            exact hK _ _ rfl (stepR_no rfl (Below.refl _ _))
                          · intro a wx hbx hq ho hf
                            have hbx : Below wr.heap.size wr wx := hbx
                            have hbq : Below wr.heap.size wr wx := hq (by kernel_rfl)
                            clear hq
                            refine ⟨rfl, ?_⟩
                            intro K hK
                            have e0 : a.tmps[7]?.getD undef = .int .i64 (ia : Nat) := ho 7 (by kernel_rfl)
                            go_simp
                            exact hK _ _ rfl (stepR_no rfl (Below.refl _ _))
                          · intro a wx hbx hq ho hf
                            have hbx : Below wr.heap.size wr wx := hbx
                            have hbq : Below wr.heap.size wr wx := hq (by kernel_rfl)
                            clear hq
                            refine ⟨rfl, ?_⟩
                            intro K hK
                            have e0 : a.tmps[131]?.getD undef = .slice (some ⟨bm, om, none⟩) lm cm := hf.1
                            have e1 : a.tmps[132]?.getD undef = .int .i64 (ia : Nat) := hf.2.1
                            go_simp
                            exact hK _ _ rfl (stepR_no rfl (Below.refl _ _))
                          · intro a wx hbx hq ho hf
                            have hbx : Below wr.heap.size wr wx := hbx
                            have hbq : Below wr.heap.size wr wx := hq (by kernel_rfl)
                            clear hq
                            refine ⟨rfl, ?_⟩
                            intro K hK
                            have e0 : a.tmps[133]?.getD undef = .pointer (some ⟨bm, om + ia, none⟩) := hf.1
                            have d1 := (hbx.cell (p := ⟨bm, om + ia, none⟩) hbmr).trans cMr
                            go_simp
                            exact hK _ _ rfl (stepR_no rfl (Below.refl _ _))
                          · intro a wx hbx hq ho hf
                            have hbx : Below wr.heap.size wr wx := hbx
                            have hbq : Below wr.heap.size wr wx := hq (by kernel_rfl)
                            clear hq
                            refine ⟨rfl, ?_⟩
                            intro K hK
                            have e0 : a.tmps[130]?.getD undef = .int .i64 u := hf.1
                            have e1 : a.tmps[134]?.getD undef = .int .i64 (m : Nat) := hf.2.1
                            go_simp
                            exact hK _ _ rfl (stepR_no rfl (Below.refl _ _))
                        · rintro f w9 hb9 hfin
                          have hb9 : Below wr.heap.size wr w9 := hb9
                          have S135 : f 135 = .bool false := hfin.2.2.2.2.2.2.2.2.2.2.2.2.2.2.2.2.1
                          clear hfin
                          simp only [frameOf, dstsOf, zipF, List.filterMap_cons, List.filterMap_nil, List.contains_cons, List.contains_nil, Nat.reduceBEq, Nat.reduceAdd, Bool.or_false, Bool.or_true, cond_true, cond_false]
                          rw [S135]
                          clear S135
                          have HB9 := Lib.hid (HBI.out.trans (hb9.mono HBI.out.size))
                          clear hb9
                          go_wp2_with fail
                          go_roundg (gk - 1)
                          case measure => have := HJ.out; omega
                          case rel => exact ⟨j + 1, by have := HJ.out; omega, by go_num, by rw [HCJ.out]; rfl, HB9.out⟩
                    · obtain rfl : j = ll := by omega
                      have hltj' : decide (j < j) = false := decide_eq_false hltj
                      obtain ⟨kj, hkj2⟩ : ∃ k, k = Kf y m j := ⟨_, rfl⟩
                      have hC9 := HC.out
                      rw [← hkj2] at hC9 hkj ⊢
                      have HC9 := Lib.hid hC9
                      have hw3 : wrap64 (s + 1) = s + 1 := wrap_inA (by omega)
                      have hw4 : wrap64 (s + 1 - (kj : Int)) = s + 1 - (kj : Int) := wrap_inA (by omega)
                      clear hj hb hlrj hkj2 hC9 hltj
                      go_wp2_with fail
                      go_roundg (g3 - 1)
                      case measure => have := HBB.out; omega
                      case rel => exact ⟨b + 1, by have := HBB.out; omega, by go_num, by rw [HC9.out]; congr 1; omega, HBJ.out⟩
        · obtain rfl : b = lr := by omega
          have hltb' : decide (b < b) = false := decide_eq_false hltb
          obtain ⟨bm, om, rfl, hbm, cM⟩ := (HMW.out.below HB5.out (Nat.le_refl _)).at3 (HMAT.out ia hlt)
          rw [HVM.out] at cM
          have hw2 : wrap64 (2 * (m : Int)) = 2 * (m : Int) := wrap_inA (by omega)
          have HF0 := HSN.out m
          rw [HCOV.out] at HF0
          have UN := HUN.out (2 * (m : Int)) wr
          cases hu : undZ (2 * (m : Int)) (x : Int) with
          | false =>
            rw [hu] at UN HF0
            rw [if_neg (by simp)] at HF0
            rw [HF0]
            have HUNy := Lib.hid UN
            clear hbb hb UN hu HF0 hltb hbd
            go_wp2_with fail
            refine (HUNy.out).mono ?_
            rintro e w6 ⟨rfl, hb6⟩
            have HB6 := Lib.hid (HB5.out.trans (hb6.mono HB5.out.size))
            clear hb6
            go_wp2_with fail
            go_roundg (g2 - 1)
            case measure => have := HA.out; omega
            case rel => exact ⟨ia + 1, by have := HA.out; omega, by go_num, HB6.out⟩
          | true =>
            rw [hu] at UN HF0
            rw [if_pos rfl] at HF0
            rw [HF0]
            have HUNy := Lib.hid UN
            clear hbb hb UN hu HF0 hltb hbd
            go_wp2_with fail
            refine (HUNy.out).mono ?_
            rintro e w6 ⟨rfl, hb6⟩
            have HB6 := Lib.hid (HB5.out.trans (hb6.mono HB5.out.size))
            clear hb6
            go_wp2_with fail
            go_roundg (g2 - 1)
            case measure => have := HA.out; omega
            case rel => exact ⟨ia + 1, by have := HA.out; omega, by go_num, HB6.out⟩
    · obtain rfl : ia = lm := by omega
      have hlt' : decide (ia < ia) = false := decide_eq_false hlt
      clear ha hb hlt
      go_wp2_with fail
      go_ret
      exact ⟨rfl, Hw5.out.trans (HBO.out.mono Hw5.out.size)⟩
theorem treeCovers_walk {w : World} (v : Value) (t : List NodeD) (x : Int) (hop : TreeR w v t ∧ TreeOk t) (hxb : -9223372036854775808 ≤ x ∧ x ≤ 9223372036854775807) :
    Calls Try.prog 9 #[v, .int .i64 x] w fun e w' => e = .returned (.bool true) ∧ Below w.heap.size w w' := by
  obtain ⟨h, hok⟩ := hop
  cases hs : smallT t with
  | false => exact cov_off v t x h hok (.inl hs)
  | true =>
    cases hr : rightT t with
    | false => exact cov_off v t x h hok (.inr (.inl hr))
    | true =>
      by_cases hx : x < 0 ∨ (t.length : Int) ≤ x
      · exact cov_off v t x h hok (.inr (.inr hx))
      · obtain ⟨y, rfl⟩ : ∃ y : Nat, x = (y : Int) := ⟨x.toNat, by omega⟩
        obtain ⟨hh, hlen, _⟩ := right_half hr
        exact cov_in v t y hh h hok hs hr hlen (by omega)
end Go.Proofs.Ytohldijomcljkaa
