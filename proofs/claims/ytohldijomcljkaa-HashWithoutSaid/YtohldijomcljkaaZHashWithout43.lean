/- Walks: the law HashWithout. -/
import Derived.Test.YtohldijomcljkaaZHashWithout36
import Derived.Test.YtohldijomcljkaaZHashWithout42
namespace Go.Proofs.Ytohldijomcljkaa
open Go.RowKit WalkM ShaM WireM
set_option linter.unusedVariables false
set_option maxRecDepth 100000 in
set_option maxHeartbeats 8000000 in
theorem hashWithout_walk {w : World} (v : Value) (t : List NodeD) (x : Int) (vp : Value) (ps : List Int) (hop : TreeR w v t ∧ TreeOk t) (hx : -9223372036854775808 ≤ x ∧ x ≤ 9223372036854775807) (hwf : ∀ n ∈ ps, (Lit.int .i64 n).wf = true) (hp : Rd w vp (ivs .i64 ps)) :
    Calls Try.prog 5 #[v, .int .i64 x, vp] w fun e w' => e = .returned (.bool true) ∧ Below w.heap.size w w' := by
  obtain ⟨h, hok⟩ := hop
  have HAL := Lib.hid (alive18 w)
  have SM := fun (W : World) (hw : Below w.heap.size w W) => tsmall_any v t W (h.below hw (Nat.le_refl _))
  have TB := fun (W : World) (hw : Below w.heap.size w W) => h.below hw (Nat.le_refl _)
  have PB := fun (W : World) (hw : Below w.heap.size w W) => hp.below hw (Nat.le_refl _)
  obtain ⟨a, c, rfl, hc, hc2⟩ := h.sl
  obtain ⟨ap, cp, rfl⟩ : ∃ ap cp, vp = .slice ap ps.length cp := by obtain ⟨ap, cp, e, _⟩ := hp; rw [ivs_len'] at e; exact ⟨ap, cp, e⟩
  cases hs : smallT t with
  | false =>
    rw [hs] at SM
    have HSM := Lib.hid SM
    obtain ⟨n, hn⟩ : ∃ n, n = t.length := ⟨_, rfl⟩
    rw [← hn] at HSM ⊢
    obtain ⟨k, hk⟩ : ∃ k, k = ps.length := ⟨_, rfl⟩
    rw [← hk]
    clear SM TB PB h hok hs hp hwf hn hk hc
    go_enter Try.func5, Try.ntmps5
    go_wp2_with fail
    refine (HAL.out).mono ?_
    rintro e w1 ⟨rfl, hb⟩
    have Hw1 := Lib.hid hb
    clear hb
    go_wp2_with fail
    refine (HSM.out w1 Hw1.out).mono ?_
    rintro e w2 ⟨rfl, hb⟩
    have Hw2 := Lib.hid (Hw1.out.trans (hb.mono Hw1.out.size))
    clear hb
    go_wp2_with fail
    go_ret
    exact ⟨rfl, Hw2.out⟩
  | true =>
    rw [hs] at SM
    have HSM := Lib.hid SM
    have RR := fun (W : World) (hw : Below w.heap.size w W) => rtright_any _ t W (TB W hw) hs hok
    by_cases h20 : ps.length > 20
    · have h20' : decide ((ps.length : Int) > 20) = true := decide_eq_true (by omega)
      obtain ⟨n, hn⟩ : ∃ n, n = t.length := ⟨_, rfl⟩
      rw [← hn] at HSM ⊢
      obtain ⟨k, hk⟩ : ∃ k, k = ps.length := ⟨_, rfl⟩
      rw [← hk] at h20' ⊢
      have h20'' : decide ((20 : Int) < (k : Int)) = true := h20'
      clear SM TB PB RR h hok hs hp hwf hn hk hc h20
      go_enter Try.func5, Try.ntmps5
      go_wp2_with fail
      refine (HAL.out).mono ?_
      rintro e w1 ⟨rfl, hb⟩
      have Hw1 := Lib.hid hb
      clear hb
      go_wp2_with fail
      refine (HSM.out w1 Hw1.out).mono ?_
      rintro e w2 ⟨rfl, hb⟩
      have Hw2 := Lib.hid (Hw1.out.trans (hb.mono Hw1.out.size))
      clear hb
      go_wp2_with fail
      go_ret
      exact ⟨rfl, Hw2.out⟩
    · have h20' : decide ((ps.length : Int) > 20) = false := decide_eq_false (by omega)
      cases hr : rightT t with
      | false =>
        rw [hr] at RR
        have HRR := Lib.hid RR
        have HWO := Lib.hid (fun (W : World) (hw : Below w.heap.size w W) => hwithout_no _ _ t x ps W (TB W hw) (PB W hw) hs hok hr)
        obtain ⟨n, hn⟩ : ∃ n, n = t.length := ⟨_, rfl⟩
        rw [← hn] at HSM HRR HWO ⊢
        obtain ⟨k, hk⟩ : ∃ k, k = ps.length := ⟨_, rfl⟩
        rw [← hk] at h20' HWO ⊢
        have h20'' : decide ((20 : Int) < (k : Int)) = false := h20'
        clear SM TB PB RR h hok hs hp hwf hn hk hc h20 hr
        go_enter Try.func5, Try.ntmps5
        go_wp2_with fail
        refine (HAL.out).mono ?_
        rintro e w1 ⟨rfl, hb⟩
        have Hw1 := Lib.hid hb
        clear hb
        go_wp2_with fail
        refine (HSM.out w1 Hw1.out).mono ?_
        rintro e w2 ⟨rfl, hb⟩
        have Hw2 := Lib.hid (Hw1.out.trans (hb.mono Hw1.out.size))
        clear hb
        go_wp2_with fail
        refine (HWO.out w2 Hw2.out).mono ?_
        rintro e w3 ⟨rfl, hb⟩
        have Hw3 := Lib.hid (Hw2.out.trans (hb.mono Hw2.out.size))
        clear hb
        go_wp2_with fail
        refine (HRR.out w3 Hw3.out).mono ?_
        rintro e w4 ⟨rfl, hb⟩
        have Hw4 := Lib.hid (Hw3.out.trans (hb.mono Hw3.out.size))
        clear hb
        go_wp2_with fail
        go_ret
        exact ⟨rfl, Hw4.out⟩
      | true =>
        rw [hr] at RR
        have HRR := Lib.hid RR
        by_cases hin : x < 0 ∨ (t.length : Int) ≤ x
        · have HWO := Lib.hid (fun (W : World) (hw : Below w.heap.size w W) => hwithout_none _ _ t x ps W (TB W hw) (PB W hw) hs hok hr hin)
          obtain ⟨n, hn⟩ : ∃ n, n = t.length := ⟨_, rfl⟩
          rw [← hn] at HSM HRR HWO hin ⊢
          obtain ⟨k, hk⟩ : ∃ k, k = ps.length := ⟨_, rfl⟩
          rw [← hk] at h20' HWO ⊢
          have h20'' : decide ((20 : Int) < (k : Int)) = false := h20'
          clear SM TB PB RR h hok hs hp hwf hn hk hc h20 hr
          by_cases h0 : x < 0
          · have h0' : decide (x < 0) = true := decide_eq_true h0
            clear hin
            go_enter Try.func5, Try.ntmps5
            go_wp2_with fail
            refine (HAL.out).mono ?_
            rintro e w1 ⟨rfl, hb⟩
            have Hw1 := Lib.hid hb
            clear hb
            go_wp2_with fail
            refine (HSM.out w1 Hw1.out).mono ?_
            rintro e w2 ⟨rfl, hb⟩
            have Hw2 := Lib.hid (Hw1.out.trans (hb.mono Hw1.out.size))
            clear hb
            go_wp2_with fail
            refine (HWO.out w2 Hw2.out).mono ?_
            rintro e w3 ⟨rfl, hb⟩
            have Hw3 := Lib.hid (Hw2.out.trans (hb.mono Hw2.out.size))
            clear hb
            go_wp2_with fail
            refine (HRR.out w3 Hw3.out).mono ?_
            rintro e w4 ⟨rfl, hb⟩
            have Hw4 := Lib.hid (Hw3.out.trans (hb.mono Hw3.out.size))
            clear hb
            go_wp2_with fail
            go_ret
            exact ⟨rfl, Hw4.out⟩
          · have h0' : decide (x < 0) = false := decide_eq_false h0
            have h1' : decide (x ≥ (n : Int)) = true := decide_eq_true (by omega)
            have h2' : decide ((n : Int) ≤ x) = true := decide_eq_true (by omega)
            clear hin
            go_enter Try.func5, Try.ntmps5
            go_wp2_with fail
            refine (HAL.out).mono ?_
            rintro e w1 ⟨rfl, hb⟩
            have Hw1 := Lib.hid hb
            clear hb
            go_wp2_with fail
            refine (HSM.out w1 Hw1.out).mono ?_
            rintro e w2 ⟨rfl, hb⟩
            have Hw2 := Lib.hid (Hw1.out.trans (hb.mono Hw1.out.size))
            clear hb
            go_wp2_with fail
            refine (HWO.out w2 Hw2.out).mono ?_
            rintro e w3 ⟨rfl, hb⟩
            have Hw3 := Lib.hid (Hw2.out.trans (hb.mono Hw2.out.size))
            clear hb
            go_wp2_with fail
            refine (HRR.out w3 Hw3.out).mono ?_
            rintro e w4 ⟨rfl, hb⟩
            have Hw4 := Lib.hid (Hw3.out.trans (hb.mono Hw3.out.size))
            clear hb
            go_wp2_with fail
            go_ret
            exact ⟨rfl, Hw4.out⟩
        · obtain ⟨y, rfl⟩ : ∃ y : Nat, x = (y : Int) := ⟨x.toNat, by omega⟩
          have hy : y < t.length := by omega
          have HWO := Lib.hid (fun (W : World) (hw : Below w.heap.size w W) => hwithout_yes _ _ t y ps W (TB W hw) (PB W hw) hs hok hr (by omega) hy)
          have HRH := Lib.hid (fun (W : World) (hw : Below w.heap.size w W) => rhashX_any t hs hok hr y hy _ _ ps W (TB W hw) (PB W hw))
          have hlt := hashX_lt (woD t ps) y
          have SD := fun (W : World) (u u' : Value) (hu : Rd W u (bvs (hashX (woD t ps) y))) (hu' : Rd W u' (bvs (hashX (woD t ps) y))) => same_dec u u' _ _ W hu hu' hlt hlt true (decide_eq_true rfl)
          obtain ⟨HH, hHH⟩ : ∃ HH, HH = hashX (woD t ps) y := ⟨_, rfl⟩
          rw [← hHH] at HWO HRH SD
          have HSD := Lib.hid SD
          obtain ⟨n, hn⟩ : ∃ n, n = t.length := ⟨_, rfl⟩
          rw [← hn] at HSM HRR HWO HRH hy hin ⊢
          obtain ⟨k, hk⟩ : ∃ k, k = ps.length := ⟨_, rfl⟩
          rw [← hk] at h20' HWO HRH ⊢
          have h20'' : decide ((20 : Int) < (k : Int)) = false := h20'
          have h0' : decide ((y : Int) < 0) = false := decide_eq_false (by omega)
          have h1' : decide ((y : Int) ≥ (n : Int)) = false := decide_eq_false (by omega)
          have h2' : decide ((n : Int) ≤ (y : Int)) = false := decide_eq_false (by omega)
          clear SM TB PB RR SD h hok hs hp hwf hn hk hc h20 hr hin hlt hHH
          go_enter Try.func5, Try.ntmps5
          go_wp2_with fail
          refine (HAL.out).mono ?_
          rintro e w1 ⟨rfl, hb⟩
          have Hw1 := Lib.hid hb
          clear hb
          go_wp2_with fail
          refine (HSM.out w1 Hw1.out).mono ?_
          rintro e w2 ⟨rfl, hb⟩
          have Hw2 := Lib.hid (Hw1.out.trans (hb.mono Hw1.out.size))
          clear hb
          go_wp2_with fail
          refine (HWO.out w2 Hw2.out).mono ?_
          rintro e w3 ⟨u, rfl, hru, hb⟩
          have Hw3 := Lib.hid (Hw2.out.trans (hb.mono Hw2.out.size))
          have HU := Lib.hid hru
          obtain ⟨u1, u2, u3, rfl⟩ := rdS hru
          clear hb hru
          go_wp2_with fail
          refine (HRR.out w3 Hw3.out).mono ?_
          rintro e w4 ⟨rfl, hb⟩
          have Hw4 := Lib.hid (Hw3.out.trans (hb.mono Hw3.out.size))
          have HU4 := Lib.hid (HU.out.below hb (Nat.le_refl _))
          clear hb
          go_wp2_with fail
          refine (HRH.out w4 Hw4.out).mono ?_
          rintro e w5 ⟨u', rfl, hown, hb⟩
          have Hw5 := Lib.hid (Hw4.out.trans (hb.mono Hw4.out.size))
          have HU5 := Lib.hid (HU4.out.below hb (Nat.le_refl _))
          have HR5 := Lib.hid hown.rd
          clear hb hown
          go_wp2_with fail
          refine (HSD.out w5 _ _ HU5.out HR5.out).mono ?_
          rintro e w6 ⟨rfl, n6, rfl⟩
          have hb := below_drewN' (Below.refl w5.heap.size w5) n6
          have Hw6 := Lib.hid (Hw5.out.trans (hb.mono Hw5.out.size))
          clear hb
          go_wp2_with fail
          go_ret
          exact ⟨rfl, Hw6.out⟩
end Go.Proofs.Ytohldijomcljkaa
