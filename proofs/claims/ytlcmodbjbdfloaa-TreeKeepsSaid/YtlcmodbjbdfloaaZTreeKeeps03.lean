/- Walks: the program's Same of equal nodes, and of equal trees. -/
import Derived.Test.YtlcmodbjbdfloaaZTreeAdds36
import Derived.Test.YtlcmodbjbdfloaaZTreeAdds20
import Derived.Test.YtlcmodbjbdfloaaZTreeAdds11
import Derived.Test.YtlcmodbjbdfloaaZTreeAdds07
import Derived.Test.YtlcmodbjbdfloaaZTreeAdds04
import Derived.Laws.BytesArg
import Derived.Deep.QuietTactic
import Derived.BigQuiet
namespace Go.Proofs.Ytlcmodbjbdfloaa
open Go.RowKit WireM
set_option linter.unusedVariables false
theorem conv_bytes {w : World} {v : Value} {L : List Nat} (h : Rd w v (bvs L)) : (convert 23 9 v).run Try.prog w = .ok (.string (strOfNums (L.map fun (n : Nat) => (n : Int)))) w := by
  obtain ⟨a, cap, rfl, h1, h2, h3⟩ := h
  rcases h3 with ⟨e, hn⟩ | ⟨b, off, rfl, hc⟩
  · have hL : L = [] := by
      have := congrArg List.length e
      rw [bvs_len] at this
      exact List.eq_nil_of_length_eq_zero this
    subst hL
    cases a with
    | none => exact run_convert_bytes_nil w 23 5 Try.underlying23 Try.underlying5 _ _ 9 Try.underlying9
    | some a =>
      obtain ⟨b, off, spot⟩ := a
      rw [run_convert_bytes_string w 23 9 5 _ _ _ Try.underlying23 Try.underlying5 Try.underlying9]
      rfl
  · refine run_convert_bytes_arg w 23 5 Try.underlying23 Try.underlying5 b off _ _ _ ?_ ?_ 9 Try.underlying9
    · rw [List.length_map, bvs_len]
    · intro i hi
      rw [bvs_len] at hi
      rw [hc i _ (bvs_get hi)]
      congr 2
      rw [List.getD_eq_getElem?_getD, List.getElem?_map, List.getElem?_eq_getElem hi]; rfl
set_option maxRecDepth 100000 in
theorem eqb_any (v1 v2 : Value) (L : List Nat) (w : World) (h1 : Rd w v1 (bvs L)) (h2 : Rd w v2 (bvs L)) :
    Calls Try.prog 69 #[v1, v2] w fun e w' => e = .returned (.bool true) ∧ w' = w := by
  have g1 := conv_bytes h1
  have g2 := conv_bytes h2
  obtain ⟨S, hS⟩ : ∃ S, S = strOfNums (L.map fun (n : Nat) => (n : Int)) := ⟨_, rfl⟩
  rw [← hS] at g1 g2
  obtain ⟨a1, n1, k1, rfl⟩ : ∃ a n c, v1 = .slice a n c := by obtain ⟨a, c, e, _⟩ := h1; exact ⟨_, _, _, e⟩
  obtain ⟨a2, n2, k2, rfl⟩ : ∃ a n c, v2 = .slice a n c := by obtain ⟨a, c, e, _⟩ := h2; exact ⟨_, _, _, e⟩
  clear hS h1 h2
  go_enter Try.func69, Try.ntmps69
  go_wp2_with fail
  go_ret
  exact ⟨by simp, rfl⟩
set_option maxRecDepth 100000 in
set_option maxHeartbeats 2000000 in
theorem eqi_any (v1 v2 : Value) (L : List Int) (w : World) (h1 : Rd w v1 (ivs .i64 L)) (h2 : Rd w v2 (ivs .i64 L)) (hl : L.length ≤ 1000000) :
    Calls Try.prog 68 #[v1, v2] w fun e w' => e = .returned (.bool true) ∧ ∃ n, w' = w.drewN n := by
  obtain ⟨a1, k1, rfl⟩ : ∃ a c, v1 = .slice a L.length c := by obtain ⟨a, c, e, _⟩ := h1; rw [ivs_len'] at e; exact ⟨a, c, e⟩
  obtain ⟨a2, k2, rfl⟩ : ∃ a c, v2 = .slice a L.length c := by obtain ⟨a, c, e, _⟩ := h2; rw [ivs_len'] at e; exact ⟨a, c, e⟩
  have G1 := fun (i : Nat) (hi : i < L.length) => h1.at3 (u := .int .i64 (L.getD i 0)) (r := i) (by simp [ivs, List.getD_eq_getElem?_getD, hi])
  have G2 := fun (i : Nat) (hi : i < L.length) => h2.at3 (u := .int .i64 (L.getD i 0)) (r := i) (by simp [ivs, List.getD_eq_getElem?_getD, hi])
  obtain ⟨n, hn⟩ : ∃ n, n = L.length := ⟨_, rfl⟩
  rw [← hn] at G1 G2 hl ⊢
  have HG1 := Lib.hid G1
  have HG2 := Lib.hid G2
  clear G1 G2 h1 h2 hn
  go_enter Try.func68, Try.ntmps68
  go_wp2_with fail
  go_loopg [13] n (fun q iv wr => ∃ i m : Nat, i + q = n ∧ iv = .int .i64 (i : Nat) ∧ wr = w.drewN m)
  case atStart => exact ⟨0, 0, by omega, rfl, rfl⟩
  case round =>
    obtain ⟨i, m, hi, rfl, rfl⟩ := hrel
    have HI := Lib.hid hi
    by_cases hlt : i < n
    · have hlt' : decide (i < n) = true := decide_eq_true hlt
      have hltI : (i : Int) < (n : Int) := by omega
      obtain ⟨b1, o1, e1, hl1, q1⟩ := HG1.out i hlt
      obtain ⟨b2, o2, e2, hl2, q2⟩ := HG2.out i hlt
      obtain ⟨u, hu⟩ : ∃ u, u = L.getD i 0 := ⟨_, rfl⟩
      rw [← hu] at q1 q2
      subst e1 e2
      clear hi hu
      go_wp2
      go_quiet (fail)
      go_wp2
      go_roundg (gk - 1)
      case measure => have := HI.out; omega
      case rel => exact ⟨i + 1, _, by have := HI.out; omega, by go_num, rfl⟩
    · obtain rfl : i = n := by omega
      have hlt' : decide (i < i) = false := decide_eq_false hlt
      clear hi hlt
      go_wp2_with fail
      go_ret
      exact ⟨rfl, _, rfl⟩
set_option maxRecDepth 100000 in
set_option maxHeartbeats 8000000 in
theorem nsame_any (D : NodeD) (c c' : Array Value) (w : World) (h1 : NodeC w D c) (h2 : NodeC w D c') (hl : D.par.late.length ≤ 1000000) :
    Calls Try.prog 50 #[.agg c, .agg c'] w fun e w' => e = .returned (.bool true) ∧ Below w.heap.size w w' := by
  obtain ⟨a1, ac1, a2, ac2, a3, ac3, a4, ac4, a5, ac5, a6, ac6, a7, ac7, a8, ac8, rfl, h11, h12, h13, h14, h15, h16, h17, h18⟩ := h1
  obtain ⟨b1, bc1, b2, bc2, b3, bc3, b4, bc4, b5, bc5, b6, bc6, b7, bc7, b8, bc8, rfl, h21, h22, h23, h24, h25, h26, h27, h28⟩ := h2
  have E1 := fun (W : World) (hw : Below w.heap.size w W) => eqb_any _ _ _ W (h11.below hw (Nat.le_refl _)) (h21.below hw (Nat.le_refl _))
  have E2 := fun (W : World) (hw : Below w.heap.size w W) => eqb_any _ _ _ W (h12.below hw (Nat.le_refl _)) (h22.below hw (Nat.le_refl _))
  have E3 := fun (W : World) (hw : Below w.heap.size w W) => eqb_any _ _ _ W (h13.below hw (Nat.le_refl _)) (h23.below hw (Nat.le_refl _))
  have E4 := fun (W : World) (hw : Below w.heap.size w W) => eqb_any _ _ _ W (h14.below hw (Nat.le_refl _)) (h24.below hw (Nat.le_refl _))
  have E5 := fun (W : World) (hw : Below w.heap.size w W) => eqb_any _ _ _ W (h15.below hw (Nat.le_refl _)) (h25.below hw (Nat.le_refl _))
  have E6 := fun (W : World) (hw : Below w.heap.size w W) => eqb_any _ _ _ W (h16.below hw (Nat.le_refl _)) (h26.below hw (Nat.le_refl _))
  have E7 := fun (W : World) (hw : Below w.heap.size w W) => eqb_any _ _ _ W (h17.below hw (Nat.le_refl _)) (h27.below hw (Nat.le_refl _))
  have E8 := fun (W : World) (hw : Below w.heap.size w W) => eqi_any _ _ _ W (h18.below hw (Nat.le_refl _)) (h28.below hw (Nat.le_refl _)) hl
  obtain ⟨l1, hl1⟩ : ∃ x, x = D.leaf.box.length := ⟨_, rfl⟩
  rw [← hl1] at E1 ⊢
  obtain ⟨l2, hl2⟩ : ∃ x, x = D.leaf.sign.length := ⟨_, rfl⟩
  rw [← hl2] at E2 ⊢
  obtain ⟨l3, hl3⟩ : ∃ x, x = D.leaf.ident.length := ⟨_, rfl⟩
  rw [← hl3] at E3 ⊢
  obtain ⟨l4, hl4⟩ : ∃ x, x = D.leaf.par.length := ⟨_, rfl⟩
  rw [← hl4] at E4 ⊢
  obtain ⟨l5, hl5⟩ : ∃ x, x = D.leaf.sig.length := ⟨_, rfl⟩
  rw [← hl5] at E5 ⊢
  obtain ⟨l6, hl6⟩ : ∃ x, x = D.par.box.length := ⟨_, rfl⟩
  rw [← hl6] at E6 ⊢
  obtain ⟨l7, hl7⟩ : ∃ x, x = D.par.hash.length := ⟨_, rfl⟩
  rw [← hl7] at E7 ⊢
  obtain ⟨l8, hl8⟩ : ∃ x, x = D.par.late.length := ⟨_, rfl⟩
  rw [← hl8] at E8 ⊢
  obtain ⟨kd, hkd⟩ : ∃ x, x = D.kind := ⟨_, rfl⟩
  obtain ⟨s, hs⟩ : ∃ x, x = D.leaf.source := ⟨_, rfl⟩
  rw [← hkd, ← hs]
  have HE1 := Lib.hid E1
  have HE2 := Lib.hid E2
  have HE3 := Lib.hid E3
  have HE4 := Lib.hid E4
  have HE5 := Lib.hid E5
  have HE6 := Lib.hid E6
  have HE7 := Lib.hid E7
  have HE8 := Lib.hid E8
  clear E1 E2 E3 E4 E5 E6 E7 E8 h11 h12 h13 h14 h15 h16 h17 h18 h21 h22 h23 h24 h25 h26 h27 h28 hl1 hl2 hl3 hl4 hl5 hl6 hl7 hl8 hkd hs hl
  go_enter Try.func50, Try.ntmps50
  go_wp2_with fail
  go_region
  all_goals
    go_wp2_with fail
    refine (HE8.out _ ?_).mono ?_
    · (repeat any_goals (first | exact Below.refl _ _ | exact Nat.le_refl _ | refine Below.alloc ?_ ?_ _ | refine Below.draw1 ?_ | refine below_drewN' ?_ _ | refine Below.setCell ?_ ?_ _ | (simp; done) | (simp; omega)))
    rintro e w10 ⟨rfl, k, rfl⟩
    go_wp2_with fail
    refine (HE1.out _ ?_).mono ?_
    · (repeat any_goals (first | exact Below.refl _ _ | exact Nat.le_refl _ | refine Below.alloc ?_ ?_ _ | refine Below.draw1 ?_ | refine below_drewN' ?_ _ | refine Below.setCell ?_ ?_ _ | (simp; done) | (simp; omega)))
    rintro e w11 ⟨rfl, rfl⟩
    go_wp2_with fail
    refine (HE2.out _ ?_).mono ?_
    · (repeat any_goals (first | exact Below.refl _ _ | exact Nat.le_refl _ | refine Below.alloc ?_ ?_ _ | refine Below.draw1 ?_ | refine below_drewN' ?_ _ | refine Below.setCell ?_ ?_ _ | (simp; done) | (simp; omega)))
    rintro e w11 ⟨rfl, rfl⟩
    go_wp2_with fail
    refine (HE3.out _ ?_).mono ?_
    · (repeat any_goals (first | exact Below.refl _ _ | exact Nat.le_refl _ | refine Below.alloc ?_ ?_ _ | refine Below.draw1 ?_ | refine below_drewN' ?_ _ | refine Below.setCell ?_ ?_ _ | (simp; done) | (simp; omega)))
    rintro e w11 ⟨rfl, rfl⟩
    go_wp2_with fail
    refine (HE4.out _ ?_).mono ?_
    · (repeat any_goals (first | exact Below.refl _ _ | exact Nat.le_refl _ | refine Below.alloc ?_ ?_ _ | refine Below.draw1 ?_ | refine below_drewN' ?_ _ | refine Below.setCell ?_ ?_ _ | (simp; done) | (simp; omega)))
    rintro e w11 ⟨rfl, rfl⟩
    go_wp2_with fail
    refine (HE5.out _ ?_).mono ?_
    · (repeat any_goals (first | exact Below.refl _ _ | exact Nat.le_refl _ | refine Below.alloc ?_ ?_ _ | refine Below.draw1 ?_ | refine below_drewN' ?_ _ | refine Below.setCell ?_ ?_ _ | (simp; done) | (simp; omega)))
    rintro e w11 ⟨rfl, rfl⟩
    go_wp2_with fail
    refine (HE6.out _ ?_).mono ?_
    · (repeat any_goals (first | exact Below.refl _ _ | exact Nat.le_refl _ | refine Below.alloc ?_ ?_ _ | refine Below.draw1 ?_ | refine below_drewN' ?_ _ | refine Below.setCell ?_ ?_ _ | (simp; done) | (simp; omega)))
    rintro e w11 ⟨rfl, rfl⟩
    go_wp2_with fail
    refine (HE7.out _ ?_).mono ?_
    · (repeat any_goals (first | exact Below.refl _ _ | exact Nat.le_refl _ | refine Below.alloc ?_ ?_ _ | refine Below.draw1 ?_ | refine below_drewN' ?_ _ | refine Below.setCell ?_ ?_ _ | (simp; done) | (simp; omega)))
    rintro e w11 ⟨rfl, rfl⟩
    go_wp2_with fail
    go_ret
    refine ⟨rfl, ?_⟩
    (repeat any_goals (first | exact Below.refl _ _ | exact Nat.le_refl _ | refine Below.alloc ?_ ?_ _ | refine Below.draw1 ?_ | refine below_drewN' ?_ _ | refine Below.setCell ?_ ?_ _ | (simp; done) | (simp; omega)))
set_option maxRecDepth 100000 in
set_option maxHeartbeats 8000000 in
theorem tsameP_any (v v' : Value) (t : List NodeD) (w : World) (h : TreeR w v t) (h' : TreeR w v' t) (hlen : t.length ≤ 1000000) (hlate : ∀ x, (nd t x).par.late.length ≤ 1000000) :
    Calls Try.prog 22 #[v, v'] w fun e w' => e = .returned (.bool true) ∧ Below w.heap.size w w' := by
  obtain ⟨a1, q1, rfl, hq1, hq12⟩ := h.sl
  obtain ⟨a2, q2, rfl, hq2, hq22⟩ := h'.sl
  have SN := fun (i : Nat) (c c' : Array Value) (W : World) (hc : NodeC W (nd t i) c) (hc' : NodeC W (nd t i) c') => nsame_any (nd t i) c c' W hc hc' (hlate i)
  have G1 := fun (W : World) (hw : Below w.heap.size w W) (i : Nat) (hi : i < t.length) => (h.below hw (Nat.le_refl _)).node hi
  have G2 := fun (W : World) (hw : Below w.heap.size w W) (i : Nat) (hi : i < t.length) => (h'.below hw (Nat.le_refl _)).node hi
  obtain ⟨n, hn⟩ : ∃ n, n = t.length := ⟨_, rfl⟩
  rw [← hn] at G1 G2 hq1 hq2 hlen ⊢
  have EFC : Calls Try.prog 49 #[.slice a1 n q1, .slice a2 n q2, .func (.func 50) #[] #[]] w fun e w' => e = .returned (.bool true) ∧ Below w.heap.size w w' := by
    have HSN := Lib.hid SN
    have HG1 := Lib.hid G1
    have HG2 := Lib.hid G2
    clear SN G1 G2 h h' hn
    go_enter Try.func49, Try.ntmps49
    go_wp2_with fail
    go_loopg [17] n (fun q iv wr => ∃ i : Nat, i + q = n ∧ iv = .int .i64 (i : Nat) ∧ Below w.heap.size w wr)
    case atStart => exact ⟨0, by omega, rfl, Below.refl _ _⟩
    case round =>
      obtain ⟨i, hi, rfl, hb⟩ := hrel
      have HI := Lib.hid hi
      have HB := Lib.hid hb
      by_cases hlt : i < n
      · have hlt' : decide (i < n) = true := decide_eq_true hlt
        have hltI : (i : Int) < (n : Int) := by omega
        obtain ⟨b1, f1, C1, rfl, hl1, hn1, hr1⟩ := HG1.out wr hb i hlt
        obtain ⟨b2, f2, C2, rfl, hl2, hn2, hr2⟩ := HG2.out wr hb i hlt
        have HN1 := Lib.hid hn1
        have HN2 := Lib.hid hn2
        obtain ⟨kd, sd, k1, k2, k3, k4, k5, k6, k7, k8, d1, d2, d3, d4, d5, e1, e2, e3, n1, n2, n3, n4, n5, m1, m2, m3, rfl, -, -, -⟩ := hn1.flat
        obtain ⟨kd', sd', k1', k2', k3', k4', k5', k6', k7', k8', d1', d2', d3', d4', d5', e1', e2', e3', n1', n2', n3', n4', n5', m1', m2', m3', rfl, -, -, -⟩ := hn2.flat
        have HR1 := Lib.hid hr1
        have HR2 := Lib.hid (fun (o : Obj) => rangeAt_below hr2 ((Below.refl wr.heap.size wr).alloc (Nat.le_refl _) o) hl2)
        have HS := Lib.hid (fun (W : World) (hw : Below wr.heap.size wr W) => HSN.out i _ _ W (HN1.out.below hw (Nat.le_refl _)) (HN2.out.below hw (Nat.le_refl _)))
        have hba := fun (o1 o2 : Obj) => ((Below.refl wr.heap.size wr).alloc (Nat.le_refl _) o1).alloc (by simp) o2
        have HBA := Lib.hid hba
        clear hi hb hr1 hr2 hn1 hn2 hba
        go_wp2_with (first | (refine wpList_load_mid rfl 45 (.tmp 20) rfl b1 (f1 + i * 10) rfl _ _ HR1.out Try.underlying45 rfl node_info ?_) | (refine wpList_load_mid rfl 45 (.tmp 24) rfl b2 (f2 + i * 10) rfl _ _ (HR2.out _) Try.underlying45 rfl node_info ?_))
        refine (HS.out _ (HBA.out _ _)).mono ?_
        rintro e w2 ⟨rfl, hb2⟩
        have HB2 := Lib.hid (HB.out.trans ((HBA.out _ _).trans (hb2.mono (HBA.out _ _).size) |>.mono HB.out.size))
        clear hb2
        go_wp2_with fail
        go_roundg (gk - 1)
        case measure => have := HI.out; omega
        case rel => exact ⟨i + 1, by have := HI.out; omega, by go_num, HB2.out⟩
      · obtain rfl : i = n := by omega
        have hlt' : decide (i < i) = false := decide_eq_false hlt
        clear hi hb hlt
        go_wp2_with fail
        go_ret
        exact ⟨rfl, HB.out⟩
  have HEF := Lib.hid EFC
  clear EFC SN G1 G2 h h' hn
  go_enter Try.func22, Try.ntmps22
  go_wp2_with fail
  refine (HEF.out).mono ?_
  rintro e w1 ⟨rfl, hb⟩
  go_wp2_with fail
  go_ret
  exact ⟨rfl, hb⟩
end Go.Proofs.Ytlcmodbjbdfloaa
