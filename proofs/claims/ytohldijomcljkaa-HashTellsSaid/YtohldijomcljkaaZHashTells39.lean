/- Walks: the reference's Texts of a tree. -/
import Derived.Test.YtohldijomcljkaaZHashTells38
import Derived.Test.YtohldijomcljkaaZHashTells30
import Derived.Test.YtohldijomcljkaaZHashTells34
import Derived.Test.YtohldijomcljkaaZHashTells23
import Derived.Test.YtohldijomcljkaaZHashTells37
import Derived.Test.YtohldijomcljkaaZHashTells28
namespace Go.Proofs.Ytohldijomcljkaa
open Go.RowKit WalkM ShaM WireM
set_option linter.unusedVariables false
def textsK (T : Nat → NodeD) (i : Nat) : List (List Nat) := (List.range i).map fun x => textN T (lev x) x
theorem textsK_len (T : Nat → NodeD) (i : Nat) : (textsK T i).length = i := by simp [textsK]
theorem textsK_succ (T : Nat → NodeD) (i : Nat) : textsK T (i + 1) = textsK T i ++ [textN T (lev i) i] := by simp [textsK, List.range_succ]
theorem textsK_get {T : Nat → NodeD} {n i : Nat} (h : i < n) : (textsK T n)[i]? = some (textN T (lev i) i) := by simp [textsK, h]
set_option maxRecDepth 100000 in
set_option maxHeartbeats 4000000 in
theorem texts_any (v : Value) (t : List NodeD) (w : World) (h : TreeR w v t) (hs : smallT t = true) (hok : TreeOk t) (hr : rightT t = true) :
    Calls Try.prog 23 #[v] w fun e w' => ∃ v', e = .returned v' ∧ GridB w' w.heap.size v' (textsK (nd t) t.length) ∧ Below w.heap.size w w' := by
  obtain ⟨hln, hpl⟩ : leavesN t.length ≠ 0 ∧ placedB t = true := by
    rw [rightT, Bool.and_eq_true, Bool.and_eq_true] at hr
    exact ⟨of_decide_eq_true hr.1, hr.2.1⟩
  obtain ⟨d, hd, hN, hl⟩ := leavesN_pos hln
  have hlen := smallT_len hs
  have e2 : 2 ^ (d + 1) = 2 * 2 ^ d := by rw [Nat.pow_succ]; omega
  have ew : woD t [] = nd t := funext fun x => woD_nil t x
  have TX := fun (x : Nat) (hx : x < t.length) (W : World) (hw : Below w.heap.size w W) => (rboth_any t [] hs hok hpl (lev x)).1 x v (.slice none 0 0) W (h.below hw (Nat.le_refl _)) (rd_nili W) (lev_is (by omega)) (by have := under_in (x := x) (d := d) (by omega) hd; omega)
  rw [ew] at TX
  obtain ⟨ta, c, rfl, hc, hc2⟩ := h.sl
  obtain ⟨n, hn⟩ : ∃ n, n = t.length := ⟨_, rfl⟩
  rw [← hn] at TX hc hlen ⊢
  have HTX := Lib.hid TX
  clear TX h hs hok hr hln hpl hN hl hn e2 ew hd
  go_enter Try.func23, Try.ntmps23
  go_wp2_with fail
  go_loopg [3, 4] n (fun q ov iv wr => ∃ i : Nat, i + q = n ∧ iv = .int .i64 (i : Nat) ∧ GridB wr w.heap.size ov (textsK (nd t) i) ∧ Below w.heap.size w wr)
  case atStart => exact ⟨0, by omega, rfl, Grid.nil _ _ _ _, Below.refl _ _⟩
  case round =>
    obtain ⟨i, hi, rfl, hg, hb⟩ := hrel
    have HI := Lib.hid hi
    have HG := Lib.hid hg
    have HB := Lib.hid hb
    have hg0 := hg
    obtain ⟨vs, kg, -⟩ := hg0
    obtain ⟨o1, o2, o3, rfl⟩ := slOf kg
    clear kg vs
    by_cases hlt : i < n
    · have hlt' : decide (i < n) = true := decide_eq_true hlt
      have hltI : (i : Int) < (n : Int) := by omega
      have HT := Lib.hid (HTX.out i hlt wr hb)
      have HSU := Lib.hid (textsK_succ (nd t) i)
      obtain ⟨X, hX⟩ : ∃ X, X = textN (nd t) (lev i) i := ⟨_, rfl⟩
      rw [← hX] at HT HSU
      clear hi hg hb hX
      go_wp2_with fail
      refine (HT.out).mono ?_
      rintro e w2 ⟨v2, rfl, hown, hb2⟩
      obtain ⟨y1, y2, y3, rfl⟩ := slOf hown
      have HB2 := Lib.hid (HB.out.trans (hb2.mono HB.out.size))
      have HG2 := Lib.hid (show Grid w2 w.heap.size 29 5 (.slice o1 o2 o3) ((textsK (nd t) i).map bvs) from Grid.below HG.out hb2 (Nat.le_refl _))
      have HO2 := Lib.hid (hown.mono HB.out.size)
      clear hown hb2
      go_wp2_with (at_builtin; refine wpList_pushRow rfl (.tmp 11) (.tmp 15) 25 rfl w.heap.size 29 5 _ 24 rowsE (by decide) _ _ rfl (HG2.out.alloc _) ⟨w2.heap.size, 0, none⟩ (.slice y1 y2 y3) (bvs X) rfl ?c1 (HO2.out.alloc _) ?c2 ?c3 ?_)
      case c1 => exact cell_new rfl
      case c2 => rw [List.length_map, textsK_len]; omega
      case c3 => have := HB2.out.size; simp; omega
      rintro v' w3 hg3 hb3
      have HG3 := Lib.hid hg3
      have HB3 := Lib.hid ((HB2.out.alloc HB2.out.size (.cells #[.slice y1 y2 y3] 29)).trans hb3)
      clear hg3 hb3
      go_wp2_with fail
      go_roundg (gk - 1)
      case measure => have := HI.out; omega
      case rel =>
        refine ⟨i + 1, by have := HI.out; omega, by go_num, ?_, HB3.out⟩
        unfold GridB
        rw [HSU.out, List.map_append]
        exact HG3.out
    · obtain rfl : i = n := by omega
      have hlt' : decide (i < i) = false := decide_eq_false hlt
      clear hi hg hb hlt
      go_wp2_with fail
      go_ret
      exact ⟨_, rfl, HG.out, HB.out⟩
end Go.Proofs.Ytohldijomcljkaa
/- Plain: two trees of one hash are the same, or two unlike texts collide. -/
namespace Go.Proofs.Ytohldijomcljkaa
open Go.RowKit WalkM ShaM WireM
set_option linter.unusedVariables false
theorem sameNB_eq {d e : NodeD} (h : sameNB d e = true) : d = e := by
  obtain ⟨k, ⟨b1, b2, b3, s, b4, b5⟩, ⟨p1, p2, p3⟩⟩ := d
  obtain ⟨k', ⟨b1', b2', b3', s', b4', b5'⟩, ⟨p1', p2', p3'⟩⟩ := e
  have h1 := of_decide_eq_true h
  simp only at h1
  obtain ⟨rfl, h2, rfl, rfl, rfl⟩ := h1
  have h3 := of_decide_eq_true h2
  simp only at h3
  obtain ⟨rfl, rfl, rfl, rfl, rfl, rfl⟩ := h3
  rfl
theorem sameNB_self (d : NodeD) : sameNB d d = true := by simp [sameNB, sameLB]
theorem sameT_out {t u : List NodeD} (h : sameT t u = true) : t.length = u.length ∧ nd t = nd u := by
  unfold sameT at h
  rw [Bool.and_eq_true] at h
  have hl := of_decide_eq_true h.1
  refine ⟨hl, funext fun i => ?_⟩
  by_cases hi : i < t.length
  · exact sameNB_eq (List.all_eq_true.1 h.2 i (List.mem_range.2 hi))
  · unfold nd
    rw [List.getD_eq_getElem?_getD, List.getElem?_eq_none (by omega), List.getD_eq_getElem?_getD, List.getElem?_eq_none (by omega)]
theorem right_shape {t : List NodeD} (hr : rightT t = true) : ∃ d, d ≤ 16 ∧ t.length + 1 = 2 * 2 ^ d ∧ ∀ x, x < t.length → rightB (nd t x) = true := by
  obtain ⟨hln, hpl⟩ : leavesN t.length ≠ 0 ∧ placedB t = true := by
    rw [rightT, Bool.and_eq_true, Bool.and_eq_true] at hr
    exact ⟨of_decide_eq_true hr.1, hr.2.1⟩
  obtain ⟨d, hd, hN, hl⟩ := leavesN_pos hln
  exact ⟨d, hd, hl, fun x hx => (placed_at hpl hx).2⟩
theorem rootLev (d : Nat) : IsLev (2 ^ d - 1) d := by
  have hp : 0 < 2 ^ d := Nat.pos_of_ne_zero (by simp)
  unfold IsLev
  exact Nat.mod_eq_of_lt (by have : 2 ^ (d + 1) = 2 * 2 ^ d := by rw [Nat.pow_succ]; omega
                             omega)
theorem tells_law {t u : List NodeD} (ht : smallT t = true) (hu : smallT u = true) (hrt : rightT t = true) (hru : rightT u = true) (hs : sameT t u = false)
    (hh : hashX (nd t) (t.length / 2) = hashX (nd u) (u.length / 2)) : collideB (textsK (nd t) t.length) (textsK (nd u) u.length) = true := by
  cases hc : collideB (textsK (nd t) t.length) (textsK (nd u) u.length) with
  | true => rfl
  | false =>
    exfalso
    obtain ⟨d, hd, hl, hT⟩ := right_shape hrt
    obtain ⟨e, he, hm, hU⟩ := right_shape hru
    have h40 := smallT_len ht
    have h41 := smallT_len hu
    have hpd : 0 < 2 ^ d := Nat.pos_of_ne_zero (by simp)
    have hpe : 0 < 2 ^ e := Nat.pos_of_ne_zero (by simp)
    have hno : NoColl (nd t) (nd u) t.length u.length := by
      intro x y hx hy hxy
      cases hq : decide (textN (nd t) (lev x) x = textN (nd u) (lev y) y) with
      | true => exact of_decide_eq_true hq
      | false =>
        have := collideB_yes (A := textsK (nd t) t.length) (B := textsK (nd u) u.length) (i := x) (k := y) (by rw [textsK_len]; exact hx) (by rw [textsK_len]; exact hy) (by
          rw [List.getD_eq_getElem?_getD, textsK_get hx, List.getD_eq_getElem?_getD, textsK_get hy]
          simp only [Option.getD_some]
          unfold badB
          rw [hq, decide_eq_true hxy]; rfl)
        rw [this] at hc; cases hc
    have hxt : t.length / 2 = 2 ^ d - 1 := by omega
    have hyu : u.length / 2 = 2 ^ e - 1 := by omega
    have lt : lev (2 ^ d - 1) = d := lev_eq (by omega) (rootLev d)
    have lu : lev (2 ^ e - 1) = e := lev_eq (by omega) (rootLev e)
    unfold hashX at hh
    rw [hxt, hyu, lt, lu] at hh
    obtain ⟨e1, e2, e3⟩ := tells hT hU (fun x => smallT_nd ht x) (fun x => smallT_nd hu x) h40 h41 hno d e _ _ (rootLev d) (rootLev e) (by omega) (by omega) hh
    subst e1
    have hlen : t.length = u.length := by omega
    have := sameT_yes hlen (fun i hi => by rw [e3 i (by omega) (by omega)]; exact sameNB_self _)
    rw [this] at hs; cases hs
end Go.Proofs.Ytohldijomcljkaa
/- Walks: the law HashTells. -/
namespace Go.Proofs.Ytohldijomcljkaa
open Go.RowKit WalkM ShaM WireM
set_option linter.unusedVariables false
theorem textsK_lt {t : List NodeD} (hs : smallT t = true) (hok : TreeOk t) (n i : Nat) : (∀ x ∈ (textsK (nd t) n).getD i [], x < 256) ∧ ((textsK (nd t) n).getD i []).length ≤ 1000000 := by
  rcases Nat.lt_or_ge i n with hi | hi
  · rw [List.getD_eq_getElem?_getD, textsK_get hi]
    exact ⟨textN_lt' (nd t) (fun x => hok.nd x) (fun x => smallT_nd hs x) _ _, by have := textN_len (t := nd t) (fun x => smallT_nd hs x) (lev i) i; simp only [Option.getD_some]; omega⟩
  · rw [List.getD_eq_getElem?_getD, List.getElem?_eq_none (by rw [textsK_len]; exact hi)]
    exact ⟨by simp, by simp⟩
theorem LEN32 {w : World} {v : Value} {L : List Nat} (h : Rd w v (bvs L)) (hl : L.length = 32) : ∀ a n c, v = .slice a n c → n = 32 := by
  intro a n c e
  obtain ⟨a', c', e', _⟩ := h
  rw [e] at e'
  simp only [Value.slice.injEq, bvs_len] at e'
  omega
set_option maxRecDepth 100000 in
set_option maxHeartbeats 8000000 in
theorem hashTells_walk {w : World} (v : Value) (t : List NodeD) (v' : Value) (u : List NodeD) (hop : TreeR w v t ∧ TreeOk t) (hop' : TreeR w v' u ∧ TreeOk u) :
    Calls Try.prog 4 #[v, v'] w fun e w' => e = .returned (.bool true) ∧ Below w.heap.size w w' := by
  obtain ⟨h, hok⟩ := hop
  obtain ⟨h', hok'⟩ := hop'
  have HAL := Lib.hid (alive18 w)
  have SM := fun (W : World) (hw : Below w.heap.size w W) => tsmall_any v t W (h.below hw (Nat.le_refl _))
  have SM' := fun (W : World) (hw : Below w.heap.size w W) => tsmall_any v' u W (h'.below hw (Nat.le_refl _))
  cases hs : smallT t with
  | false =>
    rw [hs] at SM
    have HSM := Lib.hid SM
    obtain ⟨a1, n1, c1, rfl⟩ : ∃ a n c, v = .slice a n c := by obtain ⟨a, c, e, _⟩ := h.sl; exact ⟨_, _, _, e⟩
    obtain ⟨a2, n2, c2, rfl⟩ : ∃ a n c, v' = .slice a n c := by obtain ⟨a, c, e, _⟩ := h'.sl; exact ⟨_, _, _, e⟩
    clear SM SM' h h' hok hok' hs
    go_enter Try.func4, Try.ntmps4
    go_wp2_with fail
    refine (HAL.out).mono ?_
    rintro e w1 ⟨rfl, hb⟩
    have HB1 := Lib.hid hb
    clear hb
    go_wp2_with fail
    refine (HSM.out w1 HB1.out).mono ?_
    rintro e w2 ⟨rfl, hb⟩
    have HB2 := Lib.hid (HB1.out.trans (hb.mono HB1.out.size))
    clear hb
    go_wp2_with fail
    go_ret
    exact ⟨rfl, HB2.out⟩
  | true =>
    rw [hs] at SM
    have HSM := Lib.hid SM
    cases hs' : smallT u with
    | false =>
      rw [hs'] at SM'
      have HSM' := Lib.hid SM'
      obtain ⟨a1, n1, c1, rfl⟩ : ∃ a n c, v = .slice a n c := by obtain ⟨a, c, e, _⟩ := h.sl; exact ⟨_, _, _, e⟩
      obtain ⟨a2, n2, c2, rfl⟩ : ∃ a n c, v' = .slice a n c := by obtain ⟨a, c, e, _⟩ := h'.sl; exact ⟨_, _, _, e⟩
      clear SM SM' h h' hok hok' hs hs'
      go_enter Try.func4, Try.ntmps4
      go_wp2_with fail
      refine (HAL.out).mono ?_
      rintro e w1 ⟨rfl, hb⟩
      have HB1 := Lib.hid hb
      clear hb
      go_wp2_with fail
      refine (HSM.out w1 HB1.out).mono ?_
      rintro e w2 ⟨rfl, hb⟩
      have HB2 := Lib.hid (HB1.out.trans (hb.mono HB1.out.size))
      clear hb
      go_wp2_with fail
      refine (HSM'.out w2 HB2.out).mono ?_
      rintro e w3 ⟨rfl, hb⟩
      have HB3 := Lib.hid (HB2.out.trans (hb.mono HB2.out.size))
      clear hb
      go_wp2_with fail
      go_ret
      exact ⟨rfl, HB3.out⟩
    | true =>
      rw [hs'] at SM'
      have HSM' := Lib.hid SM'
      have TB := fun (W : World) (hw : Below w.heap.size w W) => h.below hw (Nat.le_refl _)
      have TB' := fun (W : World) (hw : Below w.heap.size w W) => h'.below hw (Nat.le_refl _)
      cases hr : rightT t with
      | false =>
        have HT := Lib.hid (fun (W : World) (hw : Below w.heap.size w W) => htree_no v t W (TB W hw) hs hok hr)
        cases hr' : rightT u with
        | false =>
          have HT' := Lib.hid (fun (W : World) (hw : Below w.heap.size w W) => htree_no v' u W (TB' W hw) hs' hok' hr')
          obtain ⟨a1, n1, c1, rfl⟩ : ∃ a n c, v = .slice a n c := by obtain ⟨a, c, e, _⟩ := h.sl; exact ⟨_, _, _, e⟩
          obtain ⟨a2, n2, c2, rfl⟩ : ∃ a n c, v' = .slice a n c := by obtain ⟨a, c, e, _⟩ := h'.sl; exact ⟨_, _, _, e⟩
          clear SM SM' TB TB' h h' hok hok' hs hs' hr hr'
          go_enter Try.func4, Try.ntmps4
          go_wp2_with fail
          refine (HAL.out).mono ?_
          rintro e w1 ⟨rfl, hb⟩
          have HB1 := Lib.hid hb
          clear hb
          go_wp2_with fail
          refine (HSM.out w1 HB1.out).mono ?_
          rintro e w2 ⟨rfl, hb⟩
          have HB2 := Lib.hid (HB1.out.trans (hb.mono HB1.out.size))
          clear hb
          go_wp2_with fail
          refine (HSM'.out w2 HB2.out).mono ?_
          rintro e w3 ⟨rfl, hb⟩
          have HB3 := Lib.hid (HB2.out.trans (hb.mono HB2.out.size))
          clear hb
          go_wp2_with fail
          refine (HT.out w3 HB3.out).mono ?_
          rintro e w4 ⟨rfl, hb⟩
          have HB4 := Lib.hid (HB3.out.trans (hb.mono HB3.out.size))
          clear hb
          go_wp2_with fail
          refine (HT'.out w4 HB4.out).mono ?_
          rintro e w5 ⟨rfl, hb⟩
          have HB5 := Lib.hid (HB4.out.trans (hb.mono HB4.out.size))
          clear hb
          go_wp2_with fail
          go_ret
          exact ⟨rfl, HB5.out⟩
        | true =>
          have HT' := Lib.hid (fun (W : World) (hw : Below w.heap.size w W) => htree_yes v' u W (TB' W hw) hs' hok' hr')
          obtain ⟨a1, n1, c1, rfl⟩ : ∃ a n c, v = .slice a n c := by obtain ⟨a, c, e, _⟩ := h.sl; exact ⟨_, _, _, e⟩
          obtain ⟨a2, n2, c2, rfl⟩ : ∃ a n c, v' = .slice a n c := by obtain ⟨a, c, e, _⟩ := h'.sl; exact ⟨_, _, _, e⟩
          clear SM SM' TB TB' h h' hok hok' hs hs' hr hr'
          go_enter Try.func4, Try.ntmps4
          go_wp2_with fail
          refine (HAL.out).mono ?_
          rintro e w1 ⟨rfl, hb⟩
          have HB1 := Lib.hid hb
          clear hb
          go_wp2_with fail
          refine (HSM.out w1 HB1.out).mono ?_
          rintro e w2 ⟨rfl, hb⟩
          have HB2 := Lib.hid (HB1.out.trans (hb.mono HB1.out.size))
          clear hb
          go_wp2_with fail
          refine (HSM'.out w2 HB2.out).mono ?_
          rintro e w3 ⟨rfl, hb⟩
          have HB3 := Lib.hid (HB2.out.trans (hb.mono HB2.out.size))
          clear hb
          go_wp2_with fail
          refine (HT.out w3 HB3.out).mono ?_
          rintro e w4 ⟨rfl, hb⟩
          have HB4 := Lib.hid (HB3.out.trans (hb.mono HB3.out.size))
          clear hb
          go_wp2_with fail
          refine (HT'.out w4 HB4.out).mono ?_
          rintro e w5 ⟨u5, rfl, hru, hb⟩
          have HB5 := Lib.hid (HB4.out.trans (hb.mono HB4.out.size))
          obtain ⟨y1, y2, y3, rfl⟩ := rdS hru
          clear hru
          clear hb
          go_wp2_with fail
          go_ret
          exact ⟨rfl, HB5.out⟩
      | true =>
        have HT := Lib.hid (fun (W : World) (hw : Below w.heap.size w W) => htree_yes v t W (TB W hw) hs hok hr)
        cases hr' : rightT u with
        | false =>
          have HT' := Lib.hid (fun (W : World) (hw : Below w.heap.size w W) => htree_no v' u W (TB' W hw) hs' hok' hr')
          obtain ⟨a1, n1, c1, rfl⟩ : ∃ a n c, v = .slice a n c := by obtain ⟨a, c, e, _⟩ := h.sl; exact ⟨_, _, _, e⟩
          obtain ⟨a2, n2, c2, rfl⟩ : ∃ a n c, v' = .slice a n c := by obtain ⟨a, c, e, _⟩ := h'.sl; exact ⟨_, _, _, e⟩
          clear SM SM' TB TB' h h' hok hok' hs hs' hr hr'
          go_enter Try.func4, Try.ntmps4
          go_wp2_with fail
          refine (HAL.out).mono ?_
          rintro e w1 ⟨rfl, hb⟩
          have HB1 := Lib.hid hb
          clear hb
          go_wp2_with fail
          refine (HSM.out w1 HB1.out).mono ?_
          rintro e w2 ⟨rfl, hb⟩
          have HB2 := Lib.hid (HB1.out.trans (hb.mono HB1.out.size))
          clear hb
          go_wp2_with fail
          refine (HSM'.out w2 HB2.out).mono ?_
          rintro e w3 ⟨rfl, hb⟩
          have HB3 := Lib.hid (HB2.out.trans (hb.mono HB2.out.size))
          clear hb
          go_wp2_with fail
          refine (HT.out w3 HB3.out).mono ?_
          rintro e w4 ⟨u4, rfl, hru, hb⟩
          have HB4 := Lib.hid (HB3.out.trans (hb.mono HB3.out.size))
          have hl32 := LEN32 hru (hashX_len _ _)
          obtain ⟨y1, y2, y3, rfl⟩ := rdS hru
          obtain rfl : y2 = 32 := hl32 _ _ _ rfl
          clear hru hl32
          clear hb
          go_wp2_with fail
          refine (HT'.out w4 HB4.out).mono ?_
          rintro e w5 ⟨rfl, hb⟩
          have HB5 := Lib.hid (HB4.out.trans (hb.mono HB4.out.size))
          clear hb
          go_wp2_with fail
          go_ret
          exact ⟨rfl, HB5.out⟩
        | true =>
          have HT' := Lib.hid (fun (W : World) (hw : Below w.heap.size w W) => htree_yes v' u W (TB' W hw) hs' hok' hr')
          have HS := Lib.hid (fun (W : World) (hw : Below w.heap.size w W) => tsame_any v v' t u W (TB W hw) (TB' W hw) hok hok' (by have := smallT_len hs; omega))
          have hH1 := hashX_lt (nd t) (t.length / 2)
          have hH2 := hashX_lt (nd u) (u.length / 2)
          have hl1 := hashX_len (nd t) (t.length / 2)
          have hl2 := hashX_len (nd u) (u.length / 2)
          have SO := fun (hq : sameT t u = true) => (show hashX (nd t) (t.length / 2) = hashX (nd u) (u.length / 2) by obtain ⟨e1, e2⟩ := sameT_out hq; rw [e1, e2])
          have LAW := fun (hq : sameT t u = false) (hh : hashX (nd t) (t.length / 2) = hashX (nd u) (u.length / 2)) => tells_law hs hs' hr hr' hq hh
          have TX := Lib.hid (fun (W : World) (hw : Below w.heap.size w W) => texts_any v t W (TB W hw) hs hok hr)
          have TX' := Lib.hid (fun (W : World) (hw : Below w.heap.size w W) => texts_any v' u W (TB' W hw) hs' hok' hr')
          have CO := Lib.hid (fun (W : World) (x y : Value) (hx : RdL W x (textsK (nd t) t.length)) (hy : RdL W y (textsK (nd u) u.length)) => collide_any x y _ _ W hx hy (fun i => (textsK_lt hs hok _ i).1) (fun i => (textsK_lt hs' hok' _ i).1) (fun i => (textsK_lt hs hok _ i).2) (fun i => (textsK_lt hs' hok' _ i).2))
          obtain ⟨G1, hG1⟩ : ∃ G, G = hashX (nd t) (t.length / 2) := ⟨_, rfl⟩
          obtain ⟨G2, hG2⟩ : ∃ G, G = hashX (nd u) (u.length / 2) := ⟨_, rfl⟩
          rw [← hG1] at HT hH1 hl1 SO LAW
          rw [← hG2] at HT' hH2 hl2 SO LAW
          have HSB := Lib.hid (fun (W : World) (x y : Value) (hx : Rd W x (bvs G1)) (hy : Rd W y (bvs G2)) (b : Bool) (hb : decide (G1 = G2) = b) => same_dec x y G1 G2 W hx hy hH1 hH2 b hb)
          have HL1 := Lib.hid hl1
          have HL2 := Lib.hid hl2
          obtain ⟨CB, hCB⟩ : ∃ c, c = collideB (textsK (nd t) t.length) (textsK (nd u) u.length) := ⟨_, rfl⟩
          rw [← hCB] at LAW CO
          obtain ⟨SB, hSB⟩ : ∃ s, s = sameT t u := ⟨_, rfl⟩
          rw [← hSB] at HS SO LAW
          clear hG1 hG2 hCB hSB hH1 hH2 hl1 hl2
          cases SB with
          | true =>
            have HD := Lib.hid (show decide (G1 = G2) = true from decide_eq_true (SO rfl))
            obtain ⟨a1, n1, c1, rfl⟩ : ∃ a n c, v = .slice a n c := by obtain ⟨a, c, e, _⟩ := h.sl; exact ⟨_, _, _, e⟩
            obtain ⟨a2, n2, c2, rfl⟩ : ∃ a n c, v' = .slice a n c := by obtain ⟨a, c, e, _⟩ := h'.sl; exact ⟨_, _, _, e⟩
            clear SM SM' TB TB' SO LAW h h' hok hok' hs hs' hr hr'
            go_enter Try.func4, Try.ntmps4
            go_wp2_with fail
            refine (HAL.out).mono ?_
            rintro e w1 ⟨rfl, hb⟩
            have HB1 := Lib.hid hb
            clear hb
            go_wp2_with fail
            refine (HSM.out w1 HB1.out).mono ?_
            rintro e w2 ⟨rfl, hb⟩
            have HB2 := Lib.hid (HB1.out.trans (hb.mono HB1.out.size))
            clear hb
            go_wp2_with fail
            refine (HSM'.out w2 HB2.out).mono ?_
            rintro e w3 ⟨rfl, hb⟩
            have HB3 := Lib.hid (HB2.out.trans (hb.mono HB2.out.size))
            clear hb
            go_wp2_with fail
            refine (HT.out w3 HB3.out).mono ?_
            rintro e w4 ⟨u4, rfl, hru, hb⟩
            have HB4 := Lib.hid (HB3.out.trans (hb.mono HB3.out.size))
            have hl32 := LEN32 hru HL1.out
            have HU4 := Lib.hid hru
            obtain ⟨y1, y2, y3, rfl⟩ := rdS hru
            obtain rfl : y2 = 32 := hl32 _ _ _ rfl
            clear hru hl32
            clear hb
            go_wp2_with fail
            refine (HT'.out w4 HB4.out).mono ?_
            rintro e w5 ⟨u5, rfl, hru, hb⟩
            have HB5 := Lib.hid (HB4.out.trans (hb.mono HB4.out.size))
            have hl32 := LEN32 hru HL2.out
            have HU5 := Lib.hid hru
            have HU45 := Lib.hid (HU4.out.below hb (Nat.le_refl _))
            obtain ⟨z1, z2, z3, rfl⟩ := rdS hru
            obtain rfl : z2 = 32 := hl32 _ _ _ rfl
            clear hru hl32
            clear hb
            go_wp2_with fail
            refine (HS.out w5 HB5.out).mono ?_
            rintro e w6 ⟨rfl, hb⟩
            have HB6 := Lib.hid (HB5.out.trans (hb.mono HB5.out.size))
            have HU46 := Lib.hid (HU45.out.below hb (Nat.le_refl _))
            have HU56 := Lib.hid (HU5.out.below hb (Nat.le_refl _))
            clear hb
            go_wp2_with fail
            refine (HSB.out w6 _ _ HU46.out HU56.out true HD.out).mono ?_
            rintro e w7 ⟨rfl, n7, rfl⟩
            have HB7 := Lib.hid (below_drewN' HB6.out n7)
            go_wp2_with fail
            go_ret
            exact ⟨rfl, HB7.out⟩
          | false =>
            cases hq : decide (G1 = G2) with
            | false =>
              have HD := Lib.hid hq
              clear hq
              obtain ⟨a1, n1, c1, rfl⟩ : ∃ a n c, v = .slice a n c := by obtain ⟨a, c, e, _⟩ := h.sl; exact ⟨_, _, _, e⟩
              obtain ⟨a2, n2, c2, rfl⟩ : ∃ a n c, v' = .slice a n c := by obtain ⟨a, c, e, _⟩ := h'.sl; exact ⟨_, _, _, e⟩
              clear SM SM' TB TB' SO LAW h h' hok hok' hs hs' hr hr'
              go_enter Try.func4, Try.ntmps4
              go_wp2_with fail
              refine (HAL.out).mono ?_
              rintro e w1 ⟨rfl, hb⟩
              have HB1 := Lib.hid hb
              clear hb
              go_wp2_with fail
              refine (HSM.out w1 HB1.out).mono ?_
              rintro e w2 ⟨rfl, hb⟩
              have HB2 := Lib.hid (HB1.out.trans (hb.mono HB1.out.size))
              clear hb
              go_wp2_with fail
              refine (HSM'.out w2 HB2.out).mono ?_
              rintro e w3 ⟨rfl, hb⟩
              have HB3 := Lib.hid (HB2.out.trans (hb.mono HB2.out.size))
              clear hb
              go_wp2_with fail
              refine (HT.out w3 HB3.out).mono ?_
              rintro e w4 ⟨u4, rfl, hru, hb⟩
              have HB4 := Lib.hid (HB3.out.trans (hb.mono HB3.out.size))
              have hl32 := LEN32 hru HL1.out
              have HU4 := Lib.hid hru
              obtain ⟨y1, y2, y3, rfl⟩ := rdS hru
              obtain rfl : y2 = 32 := hl32 _ _ _ rfl
              clear hru hl32
              clear hb
              go_wp2_with fail
              refine (HT'.out w4 HB4.out).mono ?_
              rintro e w5 ⟨u5, rfl, hru, hb⟩
              have HB5 := Lib.hid (HB4.out.trans (hb.mono HB4.out.size))
              have hl32 := LEN32 hru HL2.out
              have HU5 := Lib.hid hru
              have HU45 := Lib.hid (HU4.out.below hb (Nat.le_refl _))
              obtain ⟨z1, z2, z3, rfl⟩ := rdS hru
              obtain rfl : z2 = 32 := hl32 _ _ _ rfl
              clear hru hl32
              clear hb
              go_wp2_with fail
              refine (HS.out w5 HB5.out).mono ?_
              rintro e w6 ⟨rfl, hb⟩
              have HB6 := Lib.hid (HB5.out.trans (hb.mono HB5.out.size))
              have HU46 := Lib.hid (HU45.out.below hb (Nat.le_refl _))
              have HU56 := Lib.hid (HU5.out.below hb (Nat.le_refl _))
              clear hb
              go_wp2_with fail
              refine (HSB.out w6 _ _ HU46.out HU56.out false HD.out).mono ?_
              rintro e w7 ⟨rfl, n7, rfl⟩
              have HB7 := Lib.hid (below_drewN' HB6.out n7)
              go_wp2_with fail
              go_ret
              exact ⟨rfl, HB7.out⟩
            | true =>
              have HD := Lib.hid hq
              obtain rfl : CB = true := LAW rfl (of_decide_eq_true hq)
              clear hq
              obtain ⟨a1, n1, c1, rfl⟩ : ∃ a n c, v = .slice a n c := by obtain ⟨a, c, e, _⟩ := h.sl; exact ⟨_, _, _, e⟩
              obtain ⟨a2, n2, c2, rfl⟩ : ∃ a n c, v' = .slice a n c := by obtain ⟨a, c, e, _⟩ := h'.sl; exact ⟨_, _, _, e⟩
              clear SM SM' TB TB' SO LAW h h' hok hok' hs hs' hr hr'
              go_enter Try.func4, Try.ntmps4
              go_wp2_with fail
              refine (HAL.out).mono ?_
              rintro e w1 ⟨rfl, hb⟩
              have HB1 := Lib.hid hb
              clear hb
              go_wp2_with fail
              refine (HSM.out w1 HB1.out).mono ?_
              rintro e w2 ⟨rfl, hb⟩
              have HB2 := Lib.hid (HB1.out.trans (hb.mono HB1.out.size))
              clear hb
              go_wp2_with fail
              refine (HSM'.out w2 HB2.out).mono ?_
              rintro e w3 ⟨rfl, hb⟩
              have HB3 := Lib.hid (HB2.out.trans (hb.mono HB2.out.size))
              clear hb
              go_wp2_with fail
              refine (HT.out w3 HB3.out).mono ?_
              rintro e w4 ⟨u4, rfl, hru, hb⟩
              have HB4 := Lib.hid (HB3.out.trans (hb.mono HB3.out.size))
              have hl32 := LEN32 hru HL1.out
              have HU4 := Lib.hid hru
              obtain ⟨y1, y2, y3, rfl⟩ := rdS hru
              obtain rfl : y2 = 32 := hl32 _ _ _ rfl
              clear hru hl32
              clear hb
              go_wp2_with fail
              refine (HT'.out w4 HB4.out).mono ?_
              rintro e w5 ⟨u5, rfl, hru, hb⟩
              have HB5 := Lib.hid (HB4.out.trans (hb.mono HB4.out.size))
              have hl32 := LEN32 hru HL2.out
              have HU5 := Lib.hid hru
              have HU45 := Lib.hid (HU4.out.below hb (Nat.le_refl _))
              obtain ⟨z1, z2, z3, rfl⟩ := rdS hru
              obtain rfl : z2 = 32 := hl32 _ _ _ rfl
              clear hru hl32
              clear hb
              go_wp2_with fail
              refine (HS.out w5 HB5.out).mono ?_
              rintro e w6 ⟨rfl, hb⟩
              have HB6 := Lib.hid (HB5.out.trans (hb.mono HB5.out.size))
              have HU46 := Lib.hid (HU45.out.below hb (Nat.le_refl _))
              have HU56 := Lib.hid (HU5.out.below hb (Nat.le_refl _))
              clear hb
              go_wp2_with fail
              refine (HSB.out w6 _ _ HU46.out HU56.out true HD.out).mono ?_
              rintro e w7 ⟨rfl, n7, rfl⟩
              have HB7 := Lib.hid (below_drewN' HB6.out n7)
              go_wp2_with fail
              refine (TX.out _ HB7.out).mono ?_
              rintro e w8 ⟨u8, rfl, hg8, hb⟩
              have HB8 := Lib.hid (HB7.out.trans (hb.mono HB7.out.size))
              have HG8 := Lib.hid hg8.rdl
              clear hg8 hb
              obtain ⟨o1, o2, o3, rfl⟩ : ∃ a b c, u8 = .slice a b c := by obtain ⟨a, c, e, _⟩ := HG8.out.at; exact ⟨_, _, _, e⟩
              go_wp2_with fail
              refine (TX'.out _ HB8.out).mono ?_
              rintro e w9 ⟨u9, rfl, hg9, hb⟩
              have HB9 := Lib.hid (HB8.out.trans (hb.mono HB8.out.size))
              have HG9 := Lib.hid hg9.rdl
              have HG89 := Lib.hid (HG8.out.below hb (Nat.le_refl _))
              clear hg9 hb
              obtain ⟨r1, r2, r3, rfl⟩ : ∃ a b c, u9 = .slice a b c := by obtain ⟨a, c, e, _⟩ := HG9.out.at; exact ⟨_, _, _, e⟩
              go_wp2_with fail
              refine (CO.out w9 _ _ HG89.out HG9.out).mono ?_
              rintro e w10 ⟨rfl, hb⟩
              have HB10 := Lib.hid (HB9.out.trans (hb.mono HB9.out.size))
              clear hb
              go_wp2_with fail
              go_ret
              exact ⟨rfl, HB10.out⟩
end Go.Proofs.Ytohldijomcljkaa
