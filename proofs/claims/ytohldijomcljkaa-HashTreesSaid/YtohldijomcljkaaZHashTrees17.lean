/- Walks: tree.some, by the library's ContainsFunc. -/
import Derived.Test.YtohldijomcljkaaZHashTrees13
import Derived.Test.YtohldijomcljkaaZHashTrees16
namespace Go.Proofs.Ytohldijomcljkaa
open Go.RowKit WalkM
set_option linter.unusedVariables false
def someK (t : List NodeD) : Bool := t.any fun d => d.kind == 1
theorem someK_yes {t : List NodeD} {i : Nat} (hi : i < t.length) (h : (nd t i).kind = 1) : someK t = true := by
  unfold someK
  rw [List.any_eq_true]
  refine ⟨t[i], List.getElem_mem hi, ?_⟩
  rw [nd, List.getD_eq_getElem?_getD, List.getElem?_eq_getElem hi] at h
  rw [beq_iff_eq]; exact h
theorem someK_no {t : List NodeD} (h : ∀ i, i < t.length → (nd t i).kind ≠ 1) : someK t = false := by
  cases hs : someK t with
  | false => rfl
  | true =>
    unfold someK at hs
    rw [List.any_eq_true] at hs
    obtain ⟨d, hd, hk⟩ := hs
    obtain ⟨i, hi, rfl⟩ := List.getElem_of_mem hd
    have := h i hi
    rw [nd, List.getD_eq_getElem?_getD, List.getElem?_eq_getElem hi] at this
    exact absurd (beq_iff_eq.1 hk) this
set_option maxRecDepth 100000 in
set_option maxHeartbeats 2000000 in
theorem some1_any (d : NodeD) (c : Array Value) (w : World) (h : NodeC w d c) (hk : d.kind < 256) :
    Calls Try.prog 118 #[.agg c] w fun e w' => e = .returned (.bool (d.kind == 1)) ∧ Below w.heap.size w w' := by
  obtain ⟨a1, c1, a2, c2, a3, c3, a4, c4, a5, c5, b1, e1, b2, e2, b3, e3, rfl, _⟩ := h
  obtain ⟨k, hk'⟩ : ∃ k, k = d.kind := ⟨_, rfl⟩
  rw [← hk'] at hk ⊢
  have e : ((k : Int) == 1) = (k == 1) := by
    by_cases h : k = 1
    · subst h; rfl
    · rw [beq_eq_false_iff_ne.2 h, beq_eq_false_iff_ne]; omega
  obtain ⟨b, hb⟩ : ∃ b, b = (k == 1) := ⟨_, rfl⟩
  rw [← hb] at e ⊢
  clear hb hk'
  go_enter Try.func118, Try.ntmps118
  go_wp2_with fail
  go_ret
  exact ⟨rfl, (Below.refl _ _).alloc (Nat.le_refl _) _⟩
set_option maxRecDepth 100000 in
set_option maxHeartbeats 2000000 in
theorem idxSome_any (v : Value) (t : List NodeD) (w : World) (h : TreeR w v t) (hok : TreeOk t) :
    Calls Try.prog 145 #[v, .func (.func 118) #[] #[]] w fun e w' => ∃ r : Int, e = .returned (.int .i64 r) ∧ decide (r ≥ 0) = someK t ∧ Below w.heap.size w w' := by
  obtain ⟨a, c, rfl, hc, hc2⟩ := h.sl
  have SM := fun (i : Nat) (cs : Array Value) (W : World) (hw : NodeC W (nd t i) cs) => some1_any (nd t i) cs W hw (hok.nd i).kind
  have GN := fun (W : World) (hw : Below w.heap.size w W) (i : Nat) (hi : i < t.length) => (h.below hw (Nat.le_refl _)).node hi
  have S1 := fun (i : Nat) (hi : i < t.length) (h : (nd t i).kind = 1) => someK_yes hi h
  have S2 := fun (h : ∀ i, i < t.length → (nd t i).kind ≠ 1) => someK_no h
  obtain ⟨n, hn⟩ : ∃ n, n = t.length := ⟨_, rfl⟩
  obtain ⟨R, hR⟩ : ∃ R, R = someK t := ⟨_, rfl⟩
  rw [← hn] at GN S1 S2 hc ⊢
  rw [← hR] at S1 S2 ⊢
  have HSM := Lib.hid SM
  have HGN := Lib.hid GN
  have HS1 := Lib.hid S1
  have HS2 := Lib.hid S2
  clear SM GN S1 S2 h hn hR hok
  go_enter Try.func145, Try.ntmps145
  go_wp2_with fail
  go_loopg [8] n (fun q iv wr => ∃ r : Nat, r + q = n ∧ iv = .int .i64 (r : Nat) ∧ (∀ i, i < r → (nd t i).kind ≠ 1) ∧ Below w.heap.size w wr)
  case atStart => exact ⟨0, by omega, rfl, fun i hi => by omega, Below.refl _ _⟩
  case round =>
    obtain ⟨r, hr, rfl, hsm, hb⟩ := hrel
    have HR := Lib.hid hr
    have HM := Lib.hid hsm
    have HB := Lib.hid hb
    clear hr hsm hb
    by_cases hlt : r < n
    · have hlt' : decide (r < n) = true := decide_eq_true hlt
      obtain ⟨b, off, cs, rfl, hbl, hnc, hra⟩ := HGN.out wr HB.out r hlt
      have HRA := Lib.hid hra
      have HSZ := Lib.hid hnc.size
      have CC := HSM.out r cs wr hnc
      cases hk : ((nd t r).kind == 1) with
      | true =>
        rw [hk] at CC
        have HCC := Lib.hid CC
        have HF := Lib.hid (HS1.out r hlt (beq_iff_eq.1 hk))
        clear CC hk hra hnc
        go_wp2_with (refine wpList_load_mid rfl 46 (.tmp 14) rfl b (off + r * 10) rfl cs.toList _ HRA.out Try.underlying46 rfl (by rw [Array.length_toList, HSZ.out]; exact node_info) ?_)
        refine (HCC.out).mono ?_
        rintro e w2 ⟨rfl, hb2⟩
        have HB2 := Lib.hid (HB.out.trans (hb2.mono HB.out.size))
        clear hb2
        go_wp2_with fail
        go_ret
        exact ⟨(r : Nat), rfl, by rw [HF.out, decide_eq_true_iff]; omega, HB2.out⟩
      | false =>
        rw [hk] at CC
        have HCC := Lib.hid CC
        have HF := Lib.hid (beq_eq_false_iff_ne.1 hk)
        clear CC hk hra hnc
        go_wp2_with (refine wpList_load_mid rfl 46 (.tmp 14) rfl b (off + r * 10) rfl cs.toList _ HRA.out Try.underlying46 rfl (by rw [Array.length_toList, HSZ.out]; exact node_info) ?_)
        refine (HCC.out).mono ?_
        rintro e w2 ⟨rfl, hb2⟩
        have HB2 := Lib.hid (HB.out.trans (hb2.mono HB.out.size))
        clear hb2
        go_wp2_with fail
        go_roundg (gk - 1)
        case measure => have := HR.out; omega
        case rel =>
          refine ⟨r + 1, by have := HR.out; omega, by go_num, fun i hi => ?_, HB2.out⟩
          by_cases e : i = r
          · rw [e]; exact HF.out
          · exact HM.out i (by omega)
    · obtain rfl : r = n := by have := HR.out; omega
      have hlt' : decide (r < r) = false := decide_eq_false hlt
      go_wp2_with fail
      go_ret
      exact ⟨-1, rfl, by rw [HS2.out HM.out]; rfl, HB.out⟩
set_option maxRecDepth 100000 in
set_option maxHeartbeats 2000000 in
theorem tsome_any (v : Value) (t : List NodeD) (w : World) (h : TreeR w v t) (hok : TreeOk t) :
    Calls Try.prog 80 #[v] w fun e w' => e = .returned (.bool (someK t)) ∧ Below w.heap.size w w' := by
  have IX := idxSome_any v t w h hok
  have CF : Calls Try.prog 117 #[v, .func (.func 118) #[] #[]] w fun e w' => e = .returned (.bool (someK t)) ∧ Below w.heap.size w w' := by
    obtain ⟨a, c, rfl, hc, hc2⟩ := h.sl
    have HIX := Lib.hid IX
    obtain ⟨R, hR⟩ : ∃ R, R = someK t := ⟨_, rfl⟩
    rw [← hR] at HIX ⊢
    obtain ⟨n, hn⟩ : ∃ n, n = t.length := ⟨_, rfl⟩
    rw [← hn] at HIX ⊢
    clear IX h hR hn hc hc2 hok
    go_enter Try.func117, Try.ntmps117
    go_wp2_with fail
    refine (HIX.out).mono ?_
    rintro e w2 ⟨r, rfl, hr, hb⟩
    have HB := Lib.hid hb
    have HR := Lib.hid hr
    clear hb hr
    go_wp2_with fail
    go_ret
    exact ⟨retB HR.out.symm, HB.out⟩
  obtain ⟨a, c, rfl, hc, hc2⟩ := h.sl
  have HCF := Lib.hid CF
  obtain ⟨R, hR⟩ : ∃ R, R = someK t := ⟨_, rfl⟩
  rw [← hR] at HCF ⊢
  obtain ⟨n, hn⟩ : ∃ n, n = t.length := ⟨_, rfl⟩
  rw [← hn] at HCF ⊢
  clear IX CF h hR hn hc hc2 hok
  go_enter Try.func80, Try.ntmps80
  go_wp2_with fail
  refine (HCF.out).mono ?_
  rintro e w2 ⟨rfl, hb⟩
  have HB := Lib.hid hb
  clear hb
  go_wp2_with fail
  go_ret
  exact ⟨rfl, HB.out⟩
end Go.Proofs.Ytohldijomcljkaa
/- Walks: tree.Right. -/
namespace Go.Proofs.Ytohldijomcljkaa
open Go.RowKit WalkM
set_option linter.unusedVariables false
/-- has the right half a leaf? -/
def someB (t : List NodeD) : Bool := if leavesN t.length = 1 then someK t else someK (t.drop (leavesN t.length))
def latesB (t : List NodeD) : Bool := (List.range t.length).all (lateTB t)
/-- which trees may be -/
def rightT (t : List NodeD) : Bool := decide (leavesN t.length ≠ 0) && (placedB t && (someB t && latesB t))
theorem latesB_yes {t : List NodeD} (h : ∀ x, x < t.length → lateTB t x = true) : latesB t = true := List.all_eq_true.2 fun x hx => h x (List.mem_range.1 hx)
theorem latesB_out {t : List NodeD} (h : latesB t = true) : ∀ x, x < t.length → lateTB t x = true := fun x hx => List.all_eq_true.1 h x (List.mem_range.2 hx)
theorem latesB_no {t : List NodeD} {x : Nat} (hx : x < t.length) (h : lateTB t x = false) : latesB t = false := by
  cases hb : latesB t with
  | false => rfl
  | true => rw [latesB_out hb x hx] at h; cases h
theorem nd_drop (t : List NodeD) (k i : Nat) : nd (t.drop k) i = nd t (k + i) := by
  unfold nd; rw [List.getD_eq_getElem?_getD, List.getElem?_drop, List.getD_eq_getElem?_getD]
theorem TreeR.drop {w : World} {b off n c : Nat} {t : List NodeD} (h : TreeR w (.slice (some ⟨b, off, none⟩) n c) t) (k : Nat) (hk : k ≤ n) {o' n' c' : Nat} (ho : o' = off + k * 10) (hn : n' = n - k) (hc : c' = c - k) : TreeR w (.slice (some ⟨b, o', none⟩) n' c') (t.drop k) := by
  obtain ⟨a', cap, e, h1, h2, h3⟩ := h
  simp only [Value.slice.injEq] at e
  obtain ⟨rfl, rfl, rfl⟩ := e
  subst ho hn hc
  refine ⟨_, _, by rw [List.length_drop], by rw [List.length_drop]; omega, by omega, fun i hi => ?_⟩
  rw [List.length_drop] at hi
  obtain ⟨b', off', cs, e, hl, hn, hr⟩ := h3 (k + i) (by omega)
  simp only [Option.some.injEq, Addr.mk.injEq, and_true] at e
  obtain ⟨rfl, rfl⟩ := e
  refine ⟨b, off + k * 10, cs, rfl, hl, by rw [nd_drop]; exact hn, ?_⟩
  rw [show off + k * 10 + i * 10 = off + (k + i) * 10 by omega]
  exact hr
set_option maxRecDepth 100000 in
set_option maxHeartbeats 4000000 in
theorem tright_any (v : Value) (t : List NodeD) (w : World) (h : TreeR w v t) (hs : smallT t = true) (hok : TreeOk t) :
    Calls Try.prog 39 #[v] w fun e w' => e = .returned (.bool (rightT t)) ∧ Below w.heap.size w w' := by
  obtain ⟨a, c, rfl, hc, hc2⟩ := h.sl
  have hlen := smallT_len hs
  have LV := fun (W : World) => tleaves_any a t.length c W (by omega)
  have PL := fun (W : World) (hw : Below w.heap.size w W) => placed_any (.slice a t.length c) t W (h.below hw (Nat.le_refl _)) hs hok
  have SM := fun (W : World) (hw : Below w.heap.size w W) => tsome_any (.slice a t.length c) t W (h.below hw (Nat.le_refl _)) hok
  obtain ⟨R, hR⟩ : ∃ R, R = rightT t := ⟨_, rfl⟩
  have hRe : R = (decide (leavesN t.length ≠ 0) && (placedB t && (someB t && latesB t))) := by rw [hR, rightT]
  rw [← hR]
  by_cases h0 : leavesN t.length = 0
  · rw [h0] at LV
    have HF := Lib.hid (show R = false by rw [hRe, h0]; rfl)
    obtain ⟨n, hn⟩ : ∃ n, n = t.length := ⟨_, rfl⟩
    rw [← hn] at LV ⊢
    have HLV := Lib.hid LV
    clear LV PL SM hRe hR h0 h hs hok hn hc hlen
    go_enter Try.func39, Try.ntmps39
    go_wp2_with fail
    refine (HLV.out w).mono ?_
    rintro e w' ⟨rfl, rfl⟩
    go_wp2_with fail
    go_ret
    exact ⟨retB HF.out, Below.refl _ _⟩
  · obtain ⟨d, hd, hN, hl⟩ := leavesN_pos h0
    rw [decide_eq_true h0, Bool.true_and] at hRe
    cases hp : placedB t with
    | false =>
      rw [hp] at PL hRe
      have HF := Lib.hid (show R = false by rw [hRe, Bool.false_and])
      obtain ⟨N, hNN⟩ : ∃ N, N = leavesN t.length := ⟨_, rfl⟩
      rw [← hNN] at LV h0
      obtain ⟨n, hn⟩ : ∃ n, n = t.length := ⟨_, rfl⟩
      rw [← hn] at LV PL ⊢
      have hq : ((N : Int) == 0) = false := by rw [beq_eq_false_iff_ne]; omega
      have HLV := Lib.hid LV
      have HPL := Lib.hid (PL w (Below.refl _ _))
      clear LV PL SM hRe hR h0 h hs hok hn hc hlen hl hN hNN
      go_enter Try.func39, Try.ntmps39
      go_wp2_with fail
      refine (HLV.out w).mono ?_
      rintro e w' ⟨rfl, rfl⟩
      go_wp2_with fail
      refine (HPL.out).mono ?_
      rintro e w2 ⟨rfl, hb⟩
      have HB := Lib.hid hb
      clear hb
      go_wp2_with fail
      go_ret
      exact ⟨retB HF.out, HB.out⟩
    | true =>
      rw [hp] at PL hRe
      rw [Bool.true_and] at hRe
      have LT := fun (x : Nat) (hx : x < t.length) (W : World) (hw : Below w.heap.size w W) => late_any (.slice a t.length c) t x d W (h.below hw (Nat.le_refl _)) hs hp hd hl hx
      have L1 := fun (hh : ∀ x, x < t.length → lateTB t x = true) => latesB_yes hh
      have L2 := fun (x : Nat) (hx : x < t.length) (hh : lateTB t x = false) => latesB_no hx hh
      have hn1 : t.length ≠ 0 := by have := pow_pos' d; omega
      obtain ⟨b, off, cs0, rfl, _, _, _⟩ := h.node (i := 0) (by omega)
      have hN2 : leavesN t.length ≤ t.length := by rw [hN]; have := pow_pos' d; omega
      have SD := fun (W : World) (hw : Below w.heap.size w W) => tsome_any (.slice (some ⟨b, off + leavesN t.length * 10, none⟩) (t.length - leavesN t.length) (c - leavesN t.length)) (t.drop (leavesN t.length)) W ((h.below hw (Nat.le_refl _)).drop _ hN2 rfl rfl rfl) (fun d hd => hok d (List.mem_of_mem_drop hd))
      have hsb : someB t = if leavesN t.length = 1 then someK t else someK (t.drop (leavesN t.length)) := rfl
      have hNl : 2 * leavesN t.length = t.length + 1 := by rw [hN]; omega
      obtain ⟨N, hNN⟩ : ∃ N, N = leavesN t.length := ⟨_, rfl⟩
      rw [← hNN] at LV h0 SD hsb hNl
      obtain ⟨n, hn⟩ : ∃ n, n = t.length := ⟨_, rfl⟩
      rw [← hn] at LV PL SM LT L1 L2 SD hNl hc hlen ⊢
      obtain ⟨sb, hsb'⟩ : ∃ b, b = someB t := ⟨_, rfl⟩
      rw [← hsb'] at hRe hsb
      obtain ⟨lb, hlb⟩ : ∃ b, b = latesB t := ⟨_, rfl⟩
      rw [← hlb] at hRe L1 L2
      have hq : ((N : Int) == 0) = false := by rw [beq_eq_false_iff_ne]; omega
      have HLV := Lib.hid LV
      have HPL := Lib.hid (PL w (Below.refl _ _))
      have HSM := Lib.hid SM
      have HSD := Lib.hid SD
      have HLT := Lib.hid LT
      have HL1 := Lib.hid L1
      have HL2 := Lib.hid L2
      have HRE := Lib.hid hRe
      have HSB := Lib.hid hsb
      have hnc : n ≤ c := hc
      clear LV PL SM SD LT L1 L2 hRe hsb hR h hs hok hn hl hN hNN hsb' hlb hp hd hN2 hc
      by_cases hN1 : N = 1
      · have HSE := Lib.hid (show sb = someK t by rw [HSB.out, if_pos hN1])
        subst hN1
        cases hsm : someK t with
        | false =>
          have HSF := Lib.hid hsm
          have HF := Lib.hid (show R = false by rw [HRE.out, HSE.out, hsm, Bool.false_and])
          clear hsm
          go_enter Try.func39, Try.ntmps39
          go_wp2_with fail
          refine (HLV.out w).mono ?_
          rintro e w' ⟨rfl, rfl⟩
          go_wp2_with fail
          refine (HPL.out).mono ?_
          rintro e w2 ⟨rfl, hb⟩
          have HB := Lib.hid hb
          have C1 := HSM.out w2 hb
          rw [HSF.out] at C1
          have HC1 := Lib.hid C1
          clear hb C1
          go_wp2_with fail
          refine (HC1.out).mono ?_
          rintro e w4 ⟨rfl, hb⟩
          have HB4 := Lib.hid (HB.out.trans (hb.mono HB.out.size))
          clear hb
          go_wp2_with fail
          go_ret
          exact ⟨retB HF.out, HB4.out⟩
        | true =>
          have HSF := Lib.hid hsm
          have HST := Lib.hid (show sb = true by rw [HSE.out, hsm])
          clear hsm
          go_enter Try.func39, Try.ntmps39
          go_wp2_with fail
          refine (HLV.out w).mono ?_
          rintro e w' ⟨rfl, rfl⟩
          go_wp2_with fail
          refine (HPL.out).mono ?_
          rintro e w2 ⟨rfl, hb⟩
          have HB := Lib.hid hb
          have C1 := HSM.out w2 hb
          rw [HSF.out] at C1
          have HC1 := Lib.hid C1
          clear hb C1
          go_wp2_with fail
          refine (HC1.out).mono ?_
          rintro e w4 ⟨rfl, hb⟩
          have HB4 := Lib.hid (HB.out.trans (hb.mono HB.out.size))
          clear hb
          go_wp2_with fail
          go_loopg [36] n (fun q iv wr => ∃ r : Nat, r + q = n ∧ iv = .int .i64 (r : Nat) ∧ (∀ i, i < r → lateTB t i = true) ∧ Below w'.heap.size w' wr)
          case atStart => exact ⟨0, by omega, rfl, fun i hi => by omega, HB4.out⟩
          case round =>
            obtain ⟨r, hr, rfl, hall, hb⟩ := hrel
            have HR := Lib.hid hr
            have HALL := Lib.hid hall
            have HB := Lib.hid hb
            clear hr hall hb
            by_cases hlt : r < n
            · have hlt' : decide (r < n) = true := decide_eq_true hlt
              have CC := HLT.out r hlt wr HB.out
              cases hk : lateTB t r with
              | true =>
                rw [hk] at CC
                have HCC := Lib.hid CC
                have HF := Lib.hid hk
                clear CC hk
                go_wp2_with fail
                refine (HCC.out).mono ?_
                rintro e w2 ⟨rfl, hb2⟩
                have HB2 := Lib.hid (HB.out.trans (hb2.mono HB.out.size))
                clear hb2
                go_wp2_with fail
                go_roundg (gk - 1)
                case measure => have := HR.out; omega
                case rel =>
                  refine ⟨r + 1, by have := HR.out; omega, by go_num, fun i hi => ?_, HB2.out⟩
                  by_cases e : i = r
                  · rw [e]; exact HF.out
                  · exact HALL.out i (by omega)
              | false =>
                rw [hk] at CC
                have HCC := Lib.hid CC
                have HF := Lib.hid (show R = false by rw [HRE.out, HL2.out r hlt hk, Bool.and_false])
                clear CC hk
                go_wp2_with fail
                refine (HCC.out).mono ?_
                rintro e w2 ⟨rfl, hb2⟩
                have HB2 := Lib.hid (HB.out.trans (hb2.mono HB.out.size))
                clear hb2
                go_wp2_with fail
                go_ret
                exact ⟨retB HF.out, HB2.out⟩
            · obtain rfl : r = n := by have := HR.out; omega
              have hlt' : decide (r < r) = false := decide_eq_false hlt
              have HF := Lib.hid (show R = true by rw [HRE.out, HL1.out HALL.out, HST.out]; rfl)
              go_wp2_with fail
              go_ret
              exact ⟨retB HF.out, HB.out⟩
      · have HSE := Lib.hid (show sb = someK (t.drop N) by rw [HSB.out, if_neg hN1])
        have hq1 : ((N : Int) == 1) = false := by rw [beq_eq_false_iff_ne]; omega
        have hg1 : decide ((N : Int) > 1) = true := by rw [decide_eq_true_iff]; omega
        have hg2 : decide ((1 : Int) < (N : Int)) = true := by rw [decide_eq_true_iff]; omega
        have hNlt : N ≤ n := by omega
        have hcN : c ≠ N := by omega
        cases hsm : someK (t.drop N) with
        | false =>
          have HSF := Lib.hid hsm
          have HF := Lib.hid (show R = false by rw [HRE.out, HSE.out, hsm, Bool.false_and])
          clear hsm
          go_enter Try.func39, Try.ntmps39
          go_wp2_with fail
          refine (HLV.out w).mono ?_
          rintro e w' ⟨rfl, rfl⟩
          go_wp2_with fail
          refine (HPL.out).mono ?_
          rintro e w2 ⟨rfl, hb⟩
          have HB := Lib.hid hb
          have C1 := HSD.out w2 hb
          rw [HSF.out] at C1
          have HC1 := Lib.hid C1
          clear hb C1
          go_wp2_with fail
          refine (HC1.out).mono ?_
          rintro e w4 ⟨rfl, hb⟩
          have HB4 := Lib.hid (HB.out.trans (hb.mono HB.out.size))
          clear hb
          go_wp2_with fail
          go_ret
          exact ⟨retB HF.out, HB4.out⟩
        | true =>
          have HSF := Lib.hid hsm
          have HST := Lib.hid (show sb = true by rw [HSE.out, hsm])
          clear hsm
          go_enter Try.func39, Try.ntmps39
          go_wp2_with fail
          refine (HLV.out w).mono ?_
          rintro e w' ⟨rfl, rfl⟩
          go_wp2_with fail
          refine (HPL.out).mono ?_
          rintro e w2 ⟨rfl, hb⟩
          have HB := Lib.hid hb
          have C1 := HSD.out w2 hb
          rw [HSF.out] at C1
          have HC1 := Lib.hid C1
          clear hb C1
          go_wp2_with fail
          refine (HC1.out).mono ?_
          rintro e w4 ⟨rfl, hb⟩
          have HB4 := Lib.hid (HB.out.trans (hb.mono HB.out.size))
          clear hb
          go_wp2_with fail
          go_loopg [36] n (fun q iv wr => ∃ r : Nat, r + q = n ∧ iv = .int .i64 (r : Nat) ∧ (∀ i, i < r → lateTB t i = true) ∧ Below w'.heap.size w' wr)
          case atStart => exact ⟨0, by omega, rfl, fun i hi => by omega, HB4.out⟩
          case round =>
            obtain ⟨r, hr, rfl, hall, hb⟩ := hrel
            have HR := Lib.hid hr
            have HALL := Lib.hid hall
            have HB := Lib.hid hb
            clear hr hall hb
            by_cases hlt : r < n
            · have hlt' : decide (r < n) = true := decide_eq_true hlt
              have CC := HLT.out r hlt wr HB.out
              cases hk : lateTB t r with
              | true =>
                rw [hk] at CC
                have HCC := Lib.hid CC
                have HF := Lib.hid hk
                clear CC hk
                go_wp2_with fail
                refine (HCC.out).mono ?_
                rintro e w2 ⟨rfl, hb2⟩
                have HB2 := Lib.hid (HB.out.trans (hb2.mono HB.out.size))
                clear hb2
                go_wp2_with fail
                go_roundg (gk - 1)
                case measure => have := HR.out; omega
                case rel =>
                  refine ⟨r + 1, by have := HR.out; omega, by go_num, fun i hi => ?_, HB2.out⟩
                  by_cases e : i = r
                  · rw [e]; exact HF.out
                  · exact HALL.out i (by omega)
              | false =>
                rw [hk] at CC
                have HCC := Lib.hid CC
                have HF := Lib.hid (show R = false by rw [HRE.out, HL2.out r hlt hk, Bool.and_false])
                clear CC hk
                go_wp2_with fail
                refine (HCC.out).mono ?_
                rintro e w2 ⟨rfl, hb2⟩
                have HB2 := Lib.hid (HB.out.trans (hb2.mono HB.out.size))
                clear hb2
                go_wp2_with fail
                go_ret
                exact ⟨retB HF.out, HB2.out⟩
            · obtain rfl : r = n := by have := HR.out; omega
              have hlt' : decide (r < r) = false := decide_eq_false hlt
              have HF := Lib.hid (show R = true by rw [HRE.out, HL1.out HALL.out, HST.out]; rfl)
              go_wp2_with fail
              go_ret
              exact ⟨retB HF.out, HB.out⟩
end Go.Proofs.Ytohldijomcljkaa
