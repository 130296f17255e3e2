/- Walks: the law TreeOrder. -/
import Derived.Test.YtlcmodbjbdfloaaZTreeOrder00
import Derived.Test.YtlcmodbjbdfloaaZTreeOrder01
import Derived.Test.YtlcmodbjbdfloaaZTreeOrder02
import Derived.Test.YtlcmodbjbdfloaaZTreeAdds36
namespace Go.Proofs.Ytlcmodbjbdfloaa
open Go.RowKit WalkM WireM
set_option linter.unusedVariables false
theorem leaf_info : (Try.prog.info? 25).map (·.size) = some 6 := by kernel_rfl
theorem one_ord (ls : List LeafD) : listT (2 * 2 ^ 0 - 1) (ordF ls 0) = [oneD] := by
  show [ordF ls 0 0] = [oneD]
  unfold ordF
  rw [if_pos (by omega), if_pos rfl]
theorem isLg_zero {e : Nat} (h : IsLg 0 e) : e = 0 := by
  rcases h.2 with h2 | h2
  · exact h2
  · have := pow_pos' e; omega
theorem LsOk.snoc {ls : List LeafD} {k : Nat} (h : LsOk ls k) (hk : leafOkB (ls.getD k noLeafD) = true) : LsOk ls (k + 1) := fun j hj => by
  by_cases e : j = k
  · rw [e]; exact hk
  · exact h j (by omega)
theorem one_c (w : World) (v : Value) (h : TreeR w v [oneD]) : True := trivial
set_option maxRecDepth 100000 in
set_option maxHeartbeats 16000000 in
theorem treeOrder_walk {w : World} (v : Value) (ls : List LeafD) (hop : LeafsR w v ls ∧ LeafsOk ls) :
    Calls Try.prog 5 #[v] w fun e w' => e = .returned (.bool true) ∧ Below w.heap.size w w' := by
  obtain ⟨h, hlo⟩ := hop
  have hok := hlo.at
  have HAL := Lib.hid (alive17 w)
  obtain ⟨a, c, rfl, hc, hc2⟩ := h.sl
  by_cases h20 : ls.length ≤ 20
  · have GL := fun (W : World) (hw : Below w.heap.size w W) (i : Nat) (hi : i < ls.length) => (show ∃ b off cs, a = some ⟨b, off, none⟩ ∧ b < W.heap.size ∧ LeafC W (ls.getD i noLeafD) cs ∧ W.rangeAt b (off + i * 6) cs.toList from by
      obtain ⟨a', cap', e, _, _, h3⟩ := h
      simp only [Value.slice.injEq] at e
      obtain ⟨rfl, _, rfl⟩ := e
      obtain ⟨b, off, cs, e, hl, hn, hr⟩ := h3 i hi
      exact ⟨b, off, cs, e, Nat.lt_of_lt_of_le hl hw.size, hn.below hw (Nat.le_refl _), rangeAt_below hr hw hl⟩)
    have ONE := fun (W : World) => one_any W
    have RRL := fun (i : Nat) (cs : Array Value) (W : World) (h : LeafC W (ls.getD i noLeafD) cs) => rrightLeafT_any (ls.getD i noLeafD) cs W h
    have ADD := fun (tv : Value) (cs : Array Value) (k e : Nat) (W : World) (h : TreeR W tv (listT (2 * 2 ^ e - 1) (ordF ls k))) (hcs : LeafC W (ls.getD k noLeafD) cs) (hls : LsOk ls (k + 1)) (hl : IsLg k e) (hk : k ≤ 19) => ord_add tv cs ls k e W h hcs hok hls hl hk
    have REM := fun (tv : Value) (k e : Nat) (W : World) (h : TreeR W tv (listT (2 * 2 ^ e - 1) (ordF ls (k + 1)))) (hls : LsOk ls (k + 1)) (hl : IsLg (k + 1) e) (hk : k ≤ 19) => ord_rem tv ls k e W h hok hls hl hk
    have ST0 := fun (W : World) (tv : Value) (h : TreeR W tv [oneD]) => (show IsLg 0 0 ∧ TreeR W tv (listT (2 * 2 ^ 0 - 1) (ordF ls 0)) from ⟨by unfold IsLg; simp, by rw [one_ord]; exact h⟩)
    have EN0 := fun (W : World) (tv : Value) (e : Nat) (hl : IsLg 0 e) (h : TreeR W tv (listT (2 * 2 ^ e - 1) (ordF ls 0))) => (show TreeR W tv [oneD] from by
      rw [isLg_zero hl, one_ord] at h
      exact h)
    have SAM := fun (W : World) (x y : Value) (hx : TreeR W x [oneD]) (hy : TreeR W y [oneD]) => tsameP_any x y [oneD] W hx hy (by decide) (fun x => by
      have : (nd [oneD] x).par.late = [] := by
        cases x with
        | zero => rfl
        | succ x => rw [nd_out (by simp)]; rfl
      rw [this]; decide)
    obtain ⟨n, hn⟩ : ∃ n, n = ls.length := ⟨_, rfl⟩
    rw [← hn] at GL h20 hc ⊢
    have SLN := fun (W : World) (tv : Value) (k e : Nat) (hl : IsLg k e) (hk : k ≤ 20) (h : TreeR W tv (listT (2 * 2 ^ e - 1) (ordF ls k))) => (show ∃ ta N tc, tv = .slice ta (2 * N - 1) tc ∧ 2 * N - 1 ≤ tc ∧ tc ≤ 9223372036854775807 ∧ N = 2 ^ e ∧ 1 ≤ N ∧ k < N ∧ (N = 1 ∨ N ≤ 2 * k) ∧ N ≤ 32 from by
      obtain ⟨ta, tc, e1, h1, h2⟩ := h.sl
      rw [listT_len] at e1 h1
      have he := isLg_five hl hk
      have h32 : 2 ^ e ≤ 2 ^ 5 := Nat.pow_le_pow_right (by omega) he
      refine ⟨ta, 2 ^ e, tc, e1, h1, h2, rfl, pow_pos' e, hl.1, ?_, by omega⟩
      rcases hl.2 with h3 | h3
      · left; rw [h3]
      · exact .inr h3)
    obtain ⟨L, hL⟩ : ∃ L : Nat → LeafD, L = fun i => ls.getD i noLeafD := ⟨_, rfl⟩
    have hL' : ∀ i, ls.getD i noLeafD = L i := fun i => by rw [hL]
    simp only [hL'] at GL RRL ADD
    have SNC := fun (k : Nat) (h : LsOk ls k) (hk : leafOkB (L k) = true) => h.snoc (by rw [hL']; exact hk)
    obtain ⟨OT, hOT⟩ : ∃ OT : Nat → Nat → List NodeD, OT = fun e k => listT (2 * 2 ^ e - 1) (ordF ls k) := ⟨_, rfl⟩
    have hOT' : ∀ e k, listT (2 * 2 ^ e - 1) (ordF ls k) = OT e k := fun e k => by rw [hOT]
    simp only [hOT'] at ADD REM ST0 EN0 SLN
    obtain ⟨LK, hLK⟩ : ∃ P : Nat → Prop, P = LsOk ls := ⟨_, rfl⟩
    have LK0 : LK 0 := by
      rw [hLK]
      intro j hj
      omega
    have LKM := fun (k : Nat) (h : LK (k + 1)) => (show LK k from by rw [hLK] at h ⊢; exact fun j hj => h j (by omega))
    rw [← hLK] at ADD REM SNC
    have HGL := Lib.hid GL
    have HONE := Lib.hid ONE
    have HRRL := Lib.hid RRL
    have HADD := Lib.hid ADD
    have HREM := Lib.hid REM
    have HST0 := Lib.hid ST0
    have HEN0 := Lib.hid EN0
    have HSAM := Lib.hid SAM
    have HSLN := Lib.hid SLN
    have HSNC := Lib.hid SNC
    have HLK0 := Lib.hid LK0
    have HLKM := Lib.hid LKM
    have h20d : decide ((n : Int) > 20) = false := decide_eq_false (by omega)
    have h20d2 : decide ((20 : Int) < (n : Int)) = false := decide_eq_false (by omega)
    clear GL ONE RRL ADD REM ST0 EN0 SAM SLN SNC LK0 LKM hL hL' hOT hOT' hLK hn h hlo hok
    go_enter Try.func5, Try.ntmps5
    go_wp2_with fail
    refine (HAL.out).mono ?_
    rintro e w1 ⟨rfl, hb⟩
    have HB1 := Lib.hid hb
    clear hb
    go_wp2_with fail
    refine (HONE.out w1).mono ?_
    rintro e w2 ⟨v0, rfl, ht0, hb⟩
    have HB2 := Lib.hid (HB1.out.trans (hb.mono HB1.out.size))
    have HT0 := Lib.hid (HST0.out w2 v0 ht0)
    clear ht0 hb
    go_wp2_with fail
    go_loopg [3, 4] n (fun q tv iv wr => ∃ k e : Nat, k + q = n ∧ iv = .int .i64 (k : Nat) ∧ LK k ∧ IsLg k e ∧ TreeR wr tv (OT e k) ∧ Below w.heap.size w wr)
    case atStart => exact ⟨0, 0, by omega, rfl, HLK0.out, HT0.out.1, HT0.out.2, HB2.out⟩
    case round =>
      obtain ⟨k, e, hk, rfl, hlk, hlg, htr, hb⟩ := hrel
      have HK := Lib.hid hk
      have HLK := Lib.hid hlk
      have HLG := Lib.hid hlg
      have HTR := Lib.hid htr
      have HB := Lib.hid hb
      have hk20 : k ≤ 20 := by omega
      obtain ⟨ta, N0, tc, rfl, hN1, hN2, hN3, hN4, hN5, hN6, hN7⟩ := HSLN.out wr _ k e hlg hk20 htr
      by_cases hlt : k < n
      · have hltD : decide (k < n) = true := decide_eq_true hlt
        have hltI : (k : Int) < (n : Int) := by omega
        obtain ⟨b, off, cs, rfl, hbl, hlc, hra⟩ := HGL.out wr hb k hlt
        have HLC := Lib.hid hlc
        obtain ⟨a1, c1, a2, c2, a3, c3, a4, c4, a5, c5, rfl, -⟩ := hlc
        obtain ⟨l1, hl1⟩ : ∃ x, x = (L k).box.length := ⟨_, rfl⟩
        obtain ⟨l2, hl2⟩ : ∃ x, x = (L k).sign.length := ⟨_, rfl⟩
        obtain ⟨l3, hl3⟩ : ∃ x, x = (L k).ident.length := ⟨_, rfl⟩
        obtain ⟨l4, hl4⟩ : ∃ x, x = (L k).par.length := ⟨_, rfl⟩
        obtain ⟨l5, hl5⟩ : ∃ x, x = (L k).sig.length := ⟨_, rfl⟩
        obtain ⟨s, hsr⟩ : ∃ s, s = (L k).source := ⟨_, rfl⟩
        have hlc := HLC.out
        rw [← hl1, ← hl2, ← hl3, ← hl4, ← hl5, ← hsr] at hlc hra
        have HLC1 := Lib.hid hlc
        have HRA := Lib.hid hra
        have HRA2 := Lib.hid (fun (W : World) (hw : Below wr.heap.size wr W) => rangeAt_below hra hw hbl)
        have HR1 := Lib.hid (HRRL.out k _ wr hlc)
        clear hk hlk hlg htr hb hlc hra HLC hl1 hl2 hl3 hl4 hl5 hsr hN3
        go_wp2_with (refine wpList_load_mid rfl 25 (.tmp 27) rfl b (off + k * 6) rfl [.slice a1 l1 c1, .slice a2 l2 c2, .slice a3 l3 c3, .int .u8 (s : Nat), .slice a4 l4 c4, .slice a5 l5 c5] _ HRA.out Try.underlying25 rfl leaf_info ?_)
        refine (HR1.out).mono ?_
        rintro e3 w3 ⟨rfl, hb3⟩
        have HB3 := Lib.hid (HB.out.trans (hb3.mono HB.out.size))
        have HRA3 := Lib.hid (HRA2.out w3 hb3)
        have HTR3 := Lib.hid (HTR.out.below hb3 (Nat.le_refl _))
        have HLC3 := Lib.hid (HLC1.out.below hb3 (Nat.le_refl _))
        clear hb3
        cases hf : leafOkB (L k) with
        | false =>
          clear hf
          go_wp2_with fail
          go_ret
          exact ⟨rfl, HB3.out⟩
        | true =>
          have HLK1 := Lib.hid (HSNC.out k HLK.out hf)
          have HAD := Lib.hid (HADD.out _ _ k e w3 HTR3.out HLC3.out HLK1.out HLG.out (by omega))
          clear hf
          go_wp2_with (refine wpList_load_mid rfl 25 (.tmp 35) rfl b (off + k * 6) rfl [.slice a1 l1 c1, .slice a2 l2 c2, .slice a3 l3 c3, .int .u8 (s : Nat), .slice a4 l4 c4, .slice a5 l5 c5] _ HRA3.out Try.underlying25 rfl leaf_info ?_)
          refine (HAD.out).mono ?_
          rintro e4 w4 ⟨v4, e', rfl, hlg4, htr4, hb4⟩
          have HB4 := Lib.hid (HB3.out.trans (hb4.mono HB3.out.size))
          have HLG4 := Lib.hid hlg4
          have HTR4 := Lib.hid htr4
          obtain ⟨ta4, N4, tc4, rfl, hM1, hM2, hM3, hM4, hM5, hM6, hM7⟩ := HSLN.out w4 _ (k + 1) e' hlg4 (by omega) htr4
          have q1 : ((2 * N4 - 1 : Nat) : Int) = 2 * (N4 : Int) - 1 := by omega
          obtain ⟨m4, hm4⟩ : ∃ m, m = 2 * N4 - 1 := ⟨_, rfl⟩
          rw [← hm4] at hM1 HTR4 ⊢
          have HM4 := Lib.hid hm4
          have q2 : ((m4 : Int) + 1) / 2 = (N4 : Int) := by omega
          have q3 : Int.tdiv ((m4 : Int) + 1) 2 = (N4 : Int) := by rw [Int.tdiv_eq_ediv_of_nonneg (by omega)]; omega
          have q4 : decide ((N4 : Int) < (k : Int) + 2) = false := decide_eq_false (by omega)
          have q5 : ((k + 1 : Nat) : Int) = (k : Int) + 1 := by omega
          have hmb : m4 ≤ 100 := by omega
          clear hlg4 htr4 hb4 q1 hm4 hM3
          by_cases hN41 : N4 = 1
          · omega
          · have q6 : decide ((N4 : Int) ≥ 2 * ((k : Int) + 2)) = false := decide_eq_false (by omega)
            have q7 : decide (2 * ((k : Int) + 2) ≤ (N4 : Int)) = false := decide_eq_false (by omega)
            go_wp2_with fail
            go_roundg (gk - 1)
            case measure => have := HK.out; omega
            case rel => exact ⟨k + 1, e', by have := HK.out; omega, by go_num, HLK1.out, HLG4.out, HTR4.out, HB4.out⟩
      · obtain rfl : k = n := by omega
        have hltD : decide (k < k) = false := decide_eq_false hlt
        clear hk hlk hlg htr hb hlt hN1 hN2 hN3 hN4 hN5 hN6 hN7
        go_wp2_with fail
        obtain ⟨g0, rfl⟩ : ∃ g0, g0 = gk := ⟨_, rfl⟩
        obtain ⟨w7, rfl⟩ : ∃ w7, w7 = wr := ⟨_, rfl⟩
        go_loopg [3, 9] k (fun q tv iv wr => ∃ e : Nat, q ≤ k ∧ iv = .int .i64 (q : Nat) ∧ LK q ∧ IsLg q e ∧ TreeR wr tv (OT e q) ∧ Below w.heap.size w wr)
        case atStart => exact ⟨e, Nat.le_refl _, rfl, HLK.out, HLG.out, HTR.out, HB.out⟩
        case round =>
          obtain ⟨e5, hq, rfl, hlk, hlg, htr, hb⟩ := hrel
          have HLK5 := Lib.hid hlk
          have HLG5 := Lib.hid hlg
          have HTR5 := Lib.hid htr
          have HB5 := Lib.hid hb
          cases gk with
          | zero =>
            have HE := Lib.hid (HEN0.out wr _ e5 hlg htr)
            obtain ⟨xa, xn, xc, rfl⟩ : ∃ a n c, _ = Value.slice a n c := by obtain ⟨a, c, e, _⟩ := htr.sl; exact ⟨_, _, _, e⟩
            clear hlk hlg htr hb
            go_wp2_with fail
            refine (HONE.out wr).mono ?_
            rintro e6 w6 ⟨v6, rfl, ht6, hb6⟩
            have HB6 := Lib.hid (HB5.out.trans (hb6.mono HB5.out.size))
            have HS6 := Lib.hid (HSAM.out w6 _ _ (HE.out.below hb6 (Nat.le_refl _)) ht6)
            obtain ⟨ya, yn, yc, rfl⟩ : ∃ a n c, v6 = .slice a n c := by obtain ⟨a, c, e, _⟩ := ht6.sl; exact ⟨_, _, _, e⟩
            clear ht6 hb6
            go_wp2_with fail
            refine (HS6.out).mono ?_
            rintro e7 w8 ⟨rfl, hb8⟩
            have HB8 := Lib.hid (HB6.out.trans (hb8.mono HB6.out.size))
            clear hb8
            go_wp2_with fail
            go_ret
            exact ⟨rfl, HB8.out⟩
          | succ j =>
            have HRM := Lib.hid (HREM.out _ j e5 wr htr hlk hlg (by omega))
            obtain ⟨xa, xn, xc, rfl⟩ : ∃ a n c, _ = Value.slice a n c := by obtain ⟨a, c, e, _⟩ := htr.sl; exact ⟨_, _, _, e⟩
            have z1 : decide (((j + 1 : Nat) : Int) > 0) = true := decide_eq_true (by omega)
            have z2 : decide ((0 : Int) < ((j + 1 : Nat) : Int)) = true := decide_eq_true (by omega)
            have z3 : ((j + 1 : Nat) : Int) = (j : Int) + 1 := by omega
            obtain ⟨z, hz⟩ : ∃ z, z = j + 1 := ⟨_, rfl⟩
            have HZ := Lib.hid hz
            have HLKj := Lib.hid (HLKM.out j hlk)
            rw [← hz] at HRM hq z1 z2 ⊢
            have z4 : decide (0 < z) = true := decide_eq_true (by omega)
            have z5 : 0 < z := by omega
            clear hlk hlg htr hb z3 hz
            go_wp2_with fail
            refine (HRM.out).mono ?_
            rintro e6 w6 ⟨v6, e', rfl, hlg6, htr6, hb6⟩
            have HB6 := Lib.hid (HB5.out.trans (hb6.mono HB5.out.size))
            have HLG6 := Lib.hid hlg6
            have HTR6 := Lib.hid htr6
            obtain ⟨ta6, N6, tc6, rfl, hM1, hM2, hM3, hM4, hM5, hM6, hM7⟩ := HSLN.out w6 _ j e' hlg6 (by have := HZ.out; omega) htr6
            obtain ⟨m6, hm6⟩ : ∃ m, m = 2 * N6 - 1 := ⟨_, rfl⟩
            rw [← hm6] at hM1 HTR6 ⊢
            have HM6 := Lib.hid hm6
            have hzj := HZ.out
            have q2 : ((m6 : Int) + 1) / 2 = (N6 : Int) := by omega
            have q3 : Int.tdiv ((m6 : Int) + 1) 2 = (N6 : Int) := by rw [Int.tdiv_eq_ediv_of_nonneg (by omega)]; omega
            have q4 : decide ((N6 : Int) < (z : Int)) = false := decide_eq_false (by omega)
            have q4n : decide (N6 < z) = false := decide_eq_false (by omega)
            have hmb : m6 ≤ 100 := by omega
            have hz20 : z ≤ 20 := by omega
            have zz : (z : Int) - 1 = (j : Int) := by omega
            have ZZ := Lib.hid zz
            clear hlg6 htr6 hb6 hm6 hM3 zz
            by_cases hN61 : N6 = 1
            · have q5 : decide ((N6 : Int) > 1) = false := decide_eq_false (by omega)
              have q8 : decide ((1 : Int) < (N6 : Int)) = false := decide_eq_false (by omega)
              have q9 : N6 = 1 := hN61
              have q10 : decide ((1 : Int) < (z : Int)) = false := decide_eq_false (by omega)
              clear hN61 hzj
              subst q9
              by_cases hz1 : z = 1
              · have r1 : decide ((1 : Int) ≥ 2 * (z : Int)) = false := decide_eq_false (by omega)
                have r2 : decide (2 * (z : Int) ≤ (1 : Int)) = false := decide_eq_false (by omega)
                clear hz1
                go_wp2_with fail
                go_roundg j
                case measure => omega
                case rel => exact ⟨e', by have := HZ.out; omega, by first | rw [ZZ.out] | go_num | (have := HZ.out; have := ZZ.out; simp; omega), HLKj.out, HLG6.out, HTR6.out, HB6.out⟩
              · have r1 : decide ((1 : Int) ≥ 2 * (z : Int)) = false := decide_eq_false (by omega)
                have r2 : decide (2 * (z : Int) ≤ (1 : Int)) = false := decide_eq_false (by omega)
                clear hz1
                go_wp2_with fail
                go_roundg j
                case measure => omega
                case rel => exact ⟨e', by have := HZ.out; omega, by first | rw [ZZ.out] | go_num | (have := HZ.out; have := ZZ.out; simp; omega), HLKj.out, HLG6.out, HTR6.out, HB6.out⟩
            · have q6 : decide ((N6 : Int) ≥ 2 * (z : Int)) = false := decide_eq_false (by omega)
              have q7 : decide (2 * (z : Int) ≤ (N6 : Int)) = false := decide_eq_false (by omega)
              clear hzj
              go_wp2_with fail
              go_roundg j
              case measure => omega
              case rel => exact ⟨e', by have := HZ.out; omega, by first | rw [ZZ.out] | go_num | (have := HZ.out; have := ZZ.out; simp; omega), HLKj.out, HLG6.out, HTR6.out, HB6.out⟩
  · obtain ⟨n, hn⟩ : ∃ n, n = ls.length := ⟨_, rfl⟩
    rw [← hn] at h20 hc ⊢
    have h20d : decide ((n : Int) > 20) = true := decide_eq_true (by omega)
    have h20d2 : decide ((20 : Int) < (n : Int)) = true := decide_eq_true (by omega)
    clear hn h hlo hok h20
    go_enter Try.func5, Try.ntmps5
    go_wp2_with fail
    refine (HAL.out).mono ?_
    rintro e w1 ⟨rfl, hb⟩
    have HB1 := Lib.hid hb
    clear hb
    go_wp2_with fail
    go_ret
    exact ⟨rfl, HB1.out⟩
end Go.Proofs.Ytlcmodbjbdfloaa
