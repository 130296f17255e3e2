/- Walks: the reference's Less, Low, Same of whole numbers. -/
import Derived.Test.YtkihcngllhjabaaBigAdd
namespace Go.Proofs.Ytkihcngllhjabaa
open Go.RowKit BigM
theorem big_eq {A B : Nat} (h : A / 32768 ^ 0 = B / 32768 ^ 0) : A = B := by simpa using h
theorem bcells {w : World} {a : Option Addr} {c A la : Nat} (h : Rd w (.slice a la c) (dvs (big A))) (hl : la = (big A).length) (i : Nat) (hi : i < la) :
    ∃ b off, a = some ⟨b, off, none⟩ ∧ w.cell? ⟨b, off + i, none⟩ = some (.int .i64 (dg A i : Nat)) := by
  obtain ⟨b, off, e1, e2, e3⟩ := h.get' (r := i) (u := .int .i64 (dg A i : Nat)) (by rw [dvs_getD (by omega), List.getD_eq_getElem?_getD, big_get A i (by omega)]; rfl)
  exact ⟨b, off, e1, e3⟩
set_option maxRecDepth 100000 in
set_option maxHeartbeats 2000000 in
theorem bless_any (v v' : Value) (A B : Nat) (w : World) (h : Rd w v (dvs (big A))) (h' : Rd w v' (dvs (big B))) :
    Calls Try.prog 13 #[v, v'] w fun e w' => e = .returned (.bool (decide (A < B))) ∧ ∃ n, w' = w.drewN n := by
  obtain ⟨la, hla⟩ : ∃ k, k = (big A).length := ⟨_, rfl⟩
  obtain ⟨lb, hlb⟩ : ∃ k, k = (big B).length := ⟨_, rfl⟩
  have hm : la ≤ 9223372036854775807 := by have := Dig.small h; unfold maxLen at this; omega
  have hm' : lb ≤ 9223372036854775807 := by have := Dig.small h'; unfold maxLen at this; omega
  have hv : ∃ a c, v = .slice a la c := by obtain ⟨a, c, e, _⟩ := h; exact ⟨a, c, by rw [e, dvs_len, hla]⟩
  have hv' : ∃ a c, v' = .slice a lb c := by obtain ⟨a, c, e, _⟩ := h'; exact ⟨a, c, by rw [e, dvs_len, hlb]⟩
  obtain ⟨a, c, rfl⟩ := hv
  obtain ⟨a', c', rfl⟩ := hv'
  by_cases hlen : la = lb
  · subst hlen
    have C1 := bcells h hla
    have C2 := bcells h' hlb
    have hA := div_out (n := A) (i := la) (by omega)
    have hB := div_out (n := B) (i := la) (by omega)
    rw [← hB] at hA
    have HC1 := Lib.hid C1
    have HC2 := Lib.hid C2
    have HA := Lib.hid hA
    obtain ⟨r, hr⟩ : ∃ r, r = decide (A < B) := ⟨_, rfl⟩
    rw [← hr]
    have HR := Lib.hid hr
    clear C1 C2 hA hB h h' hla hlb hr
    go_enter Try.func13, Try.ntmps13
    go_wp2_with fail
    go_loopg [5] la (fun q iv wr => ∃ n, q ≤ la ∧ iv = .int .i64 ((q : Int) - 1) ∧ Hid (A / 32768 ^ q = B / 32768 ^ q) ∧ wr = w.drewN n)
    case atStart => exact ⟨0, Nat.le_refl _, rfl, HA, rfl⟩
    case round =>
      obtain ⟨n, hq, rfl, HQ, rfl⟩ := hrel
      by_cases h0 : gk = 0
      · subst h0
        go_wp2_with fail
        go_ret
        refine ⟨ret_bool ?_, _, rfl⟩
        rw [HR.out, decide_eq_false (by rw [big_eq HQ.out]; omega)]
      · obtain ⟨j, rfl⟩ : ∃ j, gk = j + 1 := ⟨gk - 1, by omega⟩
        obtain ⟨b, off, rfl, g1⟩ := HC1.out j (by omega)
        obtain ⟨b', off', rfl, g2⟩ := HC2.out j (by omega)
        obtain ⟨x, hx⟩ : ∃ x, x = dg A j := ⟨_, rfl⟩
        obtain ⟨y, hy⟩ : ∃ y, y = dg B j := ⟨_, rfl⟩
        rw [← hx] at g1
        rw [← hy] at g2
        have HX := Lib.hid hx
        have HY := Lib.hid hy
        have ej : ((j + 1 : Nat) : Int) - 1 = (j : Int) := by omega
        rw [ej]
        clear hx hy ej h0
        by_cases hxy : x = y
        · subst hxy
          go_wp2_with fail
          go_quiet (fail)
          go_wp2_with fail
          go_roundg j
          case measure => omega
          case rel => exact ⟨_, by omega, rfl, eq_of_dg HQ.out (by rw [← HX.out, HY.out]), rfl⟩
        · have hxy' : ((x : Int) != (y : Int)) = true := by simp; omega
          obtain ⟨r2, hr2⟩ : ∃ r, r = decide ((x : Int) < (y : Int)) := ⟨_, rfl⟩
          have HR2 := Lib.hid hr2
          go_wp2_with fail
          go_quiet (fail)
          go_wp2_with fail
          go_quiet (fail)
          go_wp2_with fail
          go_ret
          refine ⟨ret_bool ?_, _, (congrArg (World.drewN · _) (World.drewN_drewN _ _ _)).trans (World.drewN_drewN _ _ _)⟩
          rw [HR.out]
          try rw [HR2.out]
          have q : x < y ↔ A < B := by
            constructor
            · intro hlt
              exact lt_of_dg HQ.out (by rw [← HX.out, ← HY.out]; exact hlt)
            · intro hlt
              rcases Nat.lt_or_ge x y with h | h
              · exact h
              · have := lt_of_dg (a := B) (b := A) HQ.out.symm (by rw [← HX.out, ← HY.out]; omega)
                omega
          exact decide_eq_decide.2 (by omega)
  · have hne : ((la : Int) != (lb : Int)) = true := by simp; omega
    have e : decide (A < B) = decide ((la : Int) < (lb : Int)) := by
      by_cases hl : la < lb
      · rw [decide_eq_true (show (la : Int) < (lb : Int) by omega), decide_eq_true]
        exact lt_of_len (by omega)
      · rw [decide_eq_false (show ¬ (la : Int) < (lb : Int) by omega), decide_eq_false]
        have := lt_of_len (a := B) (b := A) (by omega)
        omega
    rw [e]
    clear e h h' hla hlb
    go_enter Try.func13, Try.ntmps13
    go_wp2_with fail
    go_ret
    exact ⟨ret_bool (by simp), 0, rfl⟩
theorem low_step (A i : Nat) (hi : i < 5) : (A % 37778931862957161709568 / 32768 ^ (i + 1)) % 18446744073709551616 * 32768 % 18446744073709551616 + dg A i < 36893488147419103232 ∧
    ((A % 37778931862957161709568 / 32768 ^ (i + 1)) % 18446744073709551616 * 32768 % 18446744073709551616 + dg A i) % 18446744073709551616 = A % 37778931862957161709568 / 32768 ^ i % 18446744073709551616 := by
  have h1 := div_step (A % 37778931862957161709568) i
  have e : dg (A % 37778931862957161709568) i = dg A i := by
    unfold dg
    obtain rfl | rfl | rfl | rfl | rfl : i = 0 ∨ i = 1 ∨ i = 2 ∨ i = 3 ∨ i = 4 := by omega
    all_goals
      simp only [Nat.reducePow]
      omega
  rw [e] at h1
  have hd := dg_lt A i
  rw [h1]
  obtain ⟨x, hx⟩ : ∃ x, x = A % 37778931862957161709568 / 32768 ^ (i + 1) := ⟨_, rfl⟩
  rw [← hx]
  omega
set_option maxRecDepth 100000 in
set_option maxHeartbeats 2000000 in
theorem blow_any (v : Value) (A : Nat) (w : World) (h : Rd w v (dvs (big A))) :
    Calls Try.prog 25 #[v] w fun e w' => e = .returned (.int .u64 (A % 18446744073709551616 : Nat)) ∧ w' = w := by
  have hv : ∃ a b c, v = .slice a b c := by obtain ⟨a, c, e, _⟩ := h; exact ⟨a, _, c, e⟩
  obtain ⟨a, b, c, rfl⟩ := hv
  have G : ∀ (i : Nat), i < 1099511627776 → Calls Try.prog 68 #[.slice a b c, .int .i64 (i : Nat)] w fun e w' => e = .returned (.int .i64 (dg A i : Nat)) ∧ w' = w := fun i hi => bdigit_any _ A i w h hi
  have HG := Lib.hid G
  clear G h
  go_enter Try.func25, Try.ntmps25
  go_wp2_with fail
  go_loopg [3, 4] 5 (fun q nv iv wr => ∃ n : Nat, q ≤ 5 ∧ n < 18446744073709551616 ∧ nv = .int .u64 (n : Nat) ∧ iv = .int .i64 ((q : Int) - 1) ∧ Hid (n = A % 37778931862957161709568 / 32768 ^ q % 18446744073709551616) ∧ w = wr)
  case atStart => exact ⟨0, by omega, by omega, rfl, rfl, by show _ = _; rw [Nat.div_eq_of_lt]; exact Nat.mod_lt _ (by omega), rfl⟩
  case round =>
    obtain ⟨n, hq, hn, rfl, rfl, HN, rfl⟩ := hrel
    by_cases h0 : gk = 0
    · subst h0
      go_wp2_with fail
      go_ret
      have e : n = A % 18446744073709551616 := by
        have := HN.out
        rw [Nat.pow_zero, Nat.div_one] at this
        omega
      exact ⟨by rw [e]; rfl, rfl⟩
    · obtain ⟨j, rfl⟩ : ∃ j, gk = j + 1 := ⟨gk - 1, by omega⟩
      have D := HG.out j (by omega)
      have hst := low_step A j (by omega)
      rw [← HN.out] at hst
      have hd := dg_lt A j
      have ej : ((j + 1 : Nat) : Int) - 1 = (j : Int) := by omega
      rw [ej]
      obtain ⟨x, hx⟩ : ∃ x, x = dg A j := ⟨_, rfl⟩
      rw [← hx] at D hst hd
      have HST := Lib.hid hst
      have HD := Lib.hid D
      clear D hst hx ej h0
      go_wp2_with fail
      refine (HD.out).mono ?_
      rintro e w' ⟨rfl, rfl⟩
      go_wp2_with fail
      go_roundg j
      case measure => omega
      case rel =>
        refine ⟨(n * 32768 % 18446744073709551616 + x) % 18446744073709551616, by omega, Nat.mod_lt _ (by omega), ?_, rfl, HST.out.2, rfl⟩
        go_num
end Go.Proofs.Ytkihcngllhjabaa
