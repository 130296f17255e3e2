/- Walks: the reference's Same of two trees. -/
import Derived.Test.YtngealmhgkoaiaaGreatZTreeBytes17
import Derived.Test.YtngealmhgkoaiaaGreatZTreeBytes08
import Derived.Test.YtngealmhgkoaiaaGreatZTreeBytes07
import Derived.Test.YtngealmhgkoaiaaGreatZTreeBytes25
import Derived.Deep.MidRow
namespace Go.Proofs.YtngealmhgkoaiaaGreat
open Go.RowKit
set_option linter.unusedVariables false
/-- are two trees the same? -/
def sameT (t u : List NodeD) : Bool := decide (t.length = u.length) && (List.range t.length).all fun i => sameNB (nd t i) (nd u i)
theorem sameT_yes {t u : List NodeD} (hl : t.length = u.length) (h : ∀ i, i < t.length → sameNB (nd t i) (nd u i) = true) : sameT t u = true := by
  unfold sameT
  rw [decide_eq_true hl, Bool.true_and]
  exact List.all_eq_true.2 fun i hi => h i (List.mem_range.1 hi)
theorem sameT_no {t u : List NodeD} {i : Nat} (hi : i < t.length) (h : sameNB (nd t i) (nd u i) = false) : sameT t u = false := by
  cases hs : sameT t u with
  | false => rfl
  | true =>
    unfold sameT at hs
    rw [Bool.and_eq_true] at hs
    have := List.all_eq_true.1 hs.2 i (List.mem_range.2 hi)
    rw [h] at this; cases this
theorem sameT_len {t u : List NodeD} (h : t.length ≠ u.length) : sameT t u = false := by unfold sameT; rw [decide_eq_false h, Bool.false_and]
set_option maxRecDepth 100000 in
set_option maxHeartbeats 8000000 in
theorem tsame_any (v v' : Value) (t u : List NodeD) (w : World) (h : TreeR w v t) (h' : TreeR w v' u) (hok : TreeOk t) (hok' : TreeOk u) (hlen : t.length ≤ 1000000) :
    Calls Tryz.prog 22 #[v, v'] w fun e w' => e = .returned (.bool (sameT t u)) ∧ Below w.heap.size w w' := by
  obtain ⟨a1, q1, rfl, hq1, hq12⟩ := h.sl
  obtain ⟨a2, q2, rfl, hq2, hq22⟩ := h'.sl
  by_cases hl : t.length = u.length
  · have SN := fun (i : Nat) (c c' : Array Value) (W : World) (hc : NodeC W (nd t i) c) (hc' : NodeC W (nd u i) c') => rsameNode_any (nd t i) (nd u i) c c' W hc hc' (hok.nd i) (hok'.nd i)
    have G1 := fun (W : World) (hw : Below w.heap.size w W) (i : Nat) (hi : i < t.length) => (h.below hw (Nat.le_refl _)).node hi
    have G2 := fun (W : World) (hw : Below w.heap.size w W) (i : Nat) (hi : i < t.length) => (h'.below hw (Nat.le_refl _)).node (i := i) (by omega)
    have Y := fun (h : ∀ i, i < t.length → sameNB (nd t i) (nd u i) = true) => sameT_yes hl h
    have No := fun (i : Nat) (hi : i < t.length) (h : sameNB (nd t i) (nd u i) = false) => sameT_no hi h
    rw [← hl]
    obtain ⟨n, hn⟩ : ∃ n, n = t.length := ⟨_, rfl⟩
    rw [← hl] at hq2
    rw [← hn] at G1 G2 Y No hq1 hq2 hlen ⊢
    obtain ⟨R, hR⟩ : ∃ R, R = sameT t u := ⟨_, rfl⟩
    rw [← hR] at Y No ⊢
    have HSNN := Lib.hid SN
    have HG1 := Lib.hid G1
    have HG2 := Lib.hid G2
    have HY := Lib.hid Y
    have HNO := Lib.hid No
    clear SN G1 G2 Y No h h' hok hok' hl hn hR
    go_enter Tryz.func22, Tryz.ntmps22
    go_wp2_with fail
    go_loopg [5] n (fun q iv wr => ∃ i : Nat, i + q = n ∧ iv = .int .i64 (i : Nat) ∧ (∀ j, j < i → sameNB (nd t j) (nd u j) = true) ∧ Below w.heap.size w wr)
    case atStart => exact ⟨0, by omega, rfl, fun j hj => by omega, Below.refl _ _⟩
    case round =>
      obtain ⟨i, hi, rfl, hall, hb⟩ := hrel
      have HI := Lib.hid hi
      have HALL := Lib.hid hall
      have HB := Lib.hid hb
      by_cases hlt : i < n
      · have hlt' : decide (i < n) = true := decide_eq_true hlt
        have hltI : (i : Int) < (n : Int) := by omega
        obtain ⟨b1, f1, C1, rfl, hl1, hn1, hr1⟩ := HG1.out wr hb i hlt
        obtain ⟨b2, f2, C2, rfl, hl2, hn2, hr2⟩ := HG2.out wr hb i hlt
        have HR1 := Lib.hid hr1
        have HR2 := Lib.hid hr2
        have HZ1 := Lib.hid hn1.size
        have HZ2 := Lib.hid hn2.size
        have HSN0 := Lib.hid (fun (W : World) (hw : Below wr.heap.size wr W) => HSNN.out i C1 C2 W (hn1.below hw (Nat.le_refl _)) (hn2.below hw (Nat.le_refl _)))
        clear hi hall hb hr1 hr2 hn1 hn2
        cases hs : sameNB (nd t i) (nd u i) with
        | true =>
          rw [hs] at HSN0
          have HSN := Lib.hid HSN0.out
          have HS := Lib.hid hs
          clear hs HSN0
          go_wp2_with fail
          refine wp_region_rel [fun v _ => v = .slice (some ⟨b1, f1, none⟩) n q1, fun v _ => v = .int .i64 (i : Nat), fun v _ => v = .pointer (some ⟨b1, f1 + i * 10, none⟩), fun v _ => v = .agg C1, fun v _ => v = .slice (some ⟨b2, f2, none⟩) n q2, fun v _ => v = .int .i64 (i : Nat), fun v _ => v = .pointer (some ⟨b2, f2 + i * 10, none⟩), fun v _ => v = .agg C2, fun v _ => v = .bool true, fun v _ => v = .bool false]
            [true, true, true, true, true, true, true, true, true, true] (fun x => Below wr.heap.size wr x) (fun x y => Below x.heap.size x y) none (by kernel_rfl) ?_ (⟨rfl, rfl, rfl, Nat.le_refl _, fun _ _ => rfl⟩) (fun x y _ h => h) (fun x y hx hs => hx.trans (hs.mono hx.size)) (by kernel_rfl) (by kernel_rfl) ?_ ?_
          · exact keepsR_n (fun _ _ _ h _ _ => h) (keepsR_n (fun _ _ _ h _ _ => h) (keepsR_n (fun _ _ _ h _ _ => h) (keepsR_n (fun _ _ _ h _ _ => h) (keepsR_n (fun _ _ _ h _ _ => h) (keepsR_n (fun _ _ _ h _ _ => h) (keepsR_n (fun _ _ _ h _ _ => h) (keepsR_n (fun _ _ _ h _ _ => h) (keepsR_n (fun _ _ _ h _ _ => h) (keepsR_n (fun _ _ _ h _ _ => h) (keepsR_nil))))))))))
          · refine .cons (owed7_go ?_) (.cons (owed7_go ?_) (.cons (owed7_go ?_) (.cons (owed7_go ?_) (.cons (owed7_go ?_) (.cons (owed7_go ?_) (.cons (owed7_go ?_) (.cons (owed7_go ?_) (.cons (owed7_go ?_) (.cons (owed7_go ?_) (.nil))))))))))
            · intro a wx hbx hq ho hf
              have hbx : Below wr.heap.size wr wx := hbx
              have hbq : Below wr.heap.size wr wx := hq (by kernel_rfl)
              clear hq
              refine ⟨rfl, ?_⟩
              intro K hK
              have e0 : a.tmps[0]?.getD undef = .slice (some ⟨b1, f1, none⟩) n q1 := ho 0 (by kernel_rfl)
              go_simp
              exact hK _ _ rfl (stepR_no rfl (Below.refl _ _))
            · intro a wx hbx hq ho hf
              have hbx : Below wr.heap.size wr wx := hbx
              have hbq : Below wr.heap.size wr wx := hq (by kernel_rfl)
              clear hq
              refine ⟨rfl, ?_⟩
              intro K hK
              have e0 : a.tmps[5]?.getD undef = .int .i64 (i : Nat) := ho 5 (by kernel_rfl)
              go_simp
              exact hK _ _ rfl (stepR_no rfl (Below.refl _ _))
            · intro a wx hbx hq ho hf
              have hbx : Below wr.heap.size wr wx := hbx
              have hbq : Below wr.heap.size wr wx := hq (by kernel_rfl)
              clear hq
              refine ⟨rfl, ?_⟩
              intro K hK
              have e0 : a.tmps[17]?.getD undef = .slice (some ⟨b1, f1, none⟩) n q1 := hf.1
              have e1 : a.tmps[18]?.getD undef = .int .i64 (i : Nat) := hf.2.1
              go_simp
              exact hK _ _ rfl (stepR_no rfl (Below.refl _ _))
            · intro a wx hbx hq ho hf
              have hbx : Below wr.heap.size wr wx := hbx
              have hbq : Below wr.heap.size wr wx := hq (by kernel_rfl)
              clear hq
              refine ⟨rfl, ?_⟩
              intro K hK
              have e0 : a.tmps[19]?.getD undef = .pointer (some ⟨b1, f1 + i * 10, none⟩) := hf.1
              exact wp_load_mid 54 (.tmp 19) rfl b1 (f1 + i * 10) (evs e0) _ _ (rangeAt_below HR1.out hbq hl1) Tryz.underlying54 rfl (by rw [Array.length_toList, HZ1.out]; exact node_info) (hK _ _ rfl (stepR_no rfl (Below.refl _ _)))
            · intro a wx hbx hq ho hf
              have hbx : Below wr.heap.size wr wx := hbx
              have hbq : Below wr.heap.size wr wx := hq (by kernel_rfl)
              clear hq
              refine ⟨rfl, ?_⟩
              intro K hK
              have e0 : a.tmps[1]?.getD undef = .slice (some ⟨b2, f2, none⟩) n q2 := ho 1 (by kernel_rfl)
              go_simp
              exact hK _ _ rfl (stepR_no rfl (Below.refl _ _))
            · intro a wx hbx hq ho hf
              have hbx : Below wr.heap.size wr wx := hbx
              have hbq : Below wr.heap.size wr wx := hq (by kernel_rfl)
              clear hq
              refine ⟨rfl, ?_⟩
              intro K hK
              have e0 : a.tmps[5]?.getD undef = .int .i64 (i : Nat) := ho 5 (by kernel_rfl)
              go_simp
              exact hK _ _ rfl (stepR_no rfl (Below.refl _ _))
            · intro a wx hbx hq ho hf
              have hbx : Below wr.heap.size wr wx := hbx
              have hbq : Below wr.heap.size wr wx := hq (by kernel_rfl)
              clear hq
              refine ⟨rfl, ?_⟩
              intro K hK
              have e0 : a.tmps[21]?.getD undef = .slice (some ⟨b2, f2, none⟩) n q2 := hf.1
              have e1 : a.tmps[22]?.getD undef = .int .i64 (i : Nat) := hf.2.1
              go_simp
              exact hK _ _ rfl (stepR_no rfl (Below.refl _ _))
            · intro a wx hbx hq ho hf
              have hbx : Below wr.heap.size wr wx := hbx
              have hbq : Below wr.heap.size wr wx := hq (by kernel_rfl)
              clear hq
              refine ⟨rfl, ?_⟩
              intro K hK
              have e0 : a.tmps[23]?.getD undef = .pointer (some ⟨b2, f2 + i * 10, none⟩) := hf.1
              exact wp_load_mid 54 (.tmp 23) rfl b2 (f2 + i * 10) (evs e0) _ _ (rangeAt_below HR2.out hbq hl2) Tryz.underlying54 rfl (by rw [Array.length_toList, HZ2.out]; exact node_info) (hK _ _ rfl (stepR_no rfl (Below.refl _ _)))
            · intro a wx hbx hq ho hf
              have hbx : Below wr.heap.size wr wx := hbx
              have hbq : Below wr.heap.size wr wx := hq (by kernel_rfl)
              clear hq
              refine ⟨rfl, ?_⟩
              intro K hK
              have e0 : a.tmps[20]?.getD undef = .agg C1 := hf.1
              have e1 : a.tmps[24]?.getD undef = .agg C2 := hf.2.1
              go_simp
              refine (HSN.out wx hbq).mono ?_
              rintro e w2 ⟨rfl, hb2⟩
              exact hK _ _ rfl (stepR_no rfl hb2)
            · intro a wx hbx hq ho hf
              have hbx : Below wr.heap.size wr wx := hbx
              have hbq : Below wr.heap.size wr wx := hq (by kernel_rfl)
              clear hq
              refine ⟨rfl, ?_⟩
              intro K hK
              have e0 : a.tmps[25]?.getD undef = .bool true := hf.1
              go_simp
              exact hK _ _ rfl (stepR_no rfl (Below.refl _ _))
          · rintro f w9 hb9 hfin
            have hb9 : Below wr.heap.size wr w9 := hb9
            have S26 : f 26 = .bool false := hfin.2.2.2.2.2.2.2.2.2.1
            clear hfin
            simp only [frameOf, dstsOf, zipF, List.filterMap_cons, List.filterMap_nil, List.contains_cons, List.contains_nil, Nat.reduceBEq, Nat.reduceAdd, Bool.or_false, Bool.or_true, cond_true, cond_false]
            rw [S26]
            clear S26
            have HB9 := Lib.hid (HB.out.trans (hb9.mono HB.out.size))
            clear hb9
            go_wp2_with fail
            go_roundg (gk - 1)
            case measure => have := HI.out; omega
            case rel =>
              refine ⟨i + 1, by have := HI.out; omega, by go_num, fun j hj => ?_, HB9.out⟩
              by_cases e : j = i
              · rw [e]; exact HS.out
              · exact HALL.out j (by omega)
        | false =>
          rw [hs] at HSN0
          have HSN := Lib.hid HSN0.out
          have HS := Lib.hid (HNO.out i hlt hs)
          clear hs HSN0
          go_wp2_with fail
          refine wp_region_rel [fun v _ => v = .slice (some ⟨b1, f1, none⟩) n q1, fun v _ => v = .int .i64 (i : Nat), fun v _ => v = .pointer (some ⟨b1, f1 + i * 10, none⟩), fun v _ => v = .agg C1, fun v _ => v = .slice (some ⟨b2, f2, none⟩) n q2, fun v _ => v = .int .i64 (i : Nat), fun v _ => v = .pointer (some ⟨b2, f2 + i * 10, none⟩), fun v _ => v = .agg C2, fun v _ => v = .bool false, fun v _ => v = .bool true]
            [true, true, true, true, true, true, true, true, true, true] (fun x => Below wr.heap.size wr x) (fun x y => Below x.heap.size x y) none (by kernel_rfl) ?_ (⟨rfl, rfl, rfl, Nat.le_refl _, fun _ _ => rfl⟩) (fun x y _ h => h) (fun x y hx hs => hx.trans (hs.mono hx.size)) (by kernel_rfl) (by kernel_rfl) ?_ ?_
          · exact keepsR_n (fun _ _ _ h _ _ => h) (keepsR_n (fun _ _ _ h _ _ => h) (keepsR_n (fun _ _ _ h _ _ => h) (keepsR_n (fun _ _ _ h _ _ => h) (keepsR_n (fun _ _ _ h _ _ => h) (keepsR_n (fun _ _ _ h _ _ => h) (keepsR_n (fun _ _ _ h _ _ => h) (keepsR_n (fun _ _ _ h _ _ => h) (keepsR_n (fun _ _ _ h _ _ => h) (keepsR_n (fun _ _ _ h _ _ => h) (keepsR_nil))))))))))
          · refine .cons (owed7_go ?_) (.cons (owed7_go ?_) (.cons (owed7_go ?_) (.cons (owed7_go ?_) (.cons (owed7_go ?_) (.cons (owed7_go ?_) (.cons (owed7_go ?_) (.cons (owed7_go ?_) (.cons (owed7_go ?_) (.cons (owed7_go ?_) (.nil))))))))))
            · intro a wx hbx hq ho hf
              have hbx : Below wr.heap.size wr wx := hbx
              have hbq : Below wr.heap.size wr wx := hq (by kernel_rfl)
              clear hq
              refine ⟨rfl, ?_⟩
              intro K hK
              have e0 : a.tmps[0]?.getD undef = .slice (some ⟨b1, f1, none⟩) n q1 := ho 0 (by kernel_rfl)
              go_simp
              exact hK _ _ rfl (stepR_no rfl (Below.refl _ _))
            · intro a wx hbx hq ho hf
              have hbx : Below wr.heap.size wr wx := hbx
              have hbq : Below wr.heap.size wr wx := hq (by kernel_rfl)
              clear hq
              refine ⟨rfl, ?_⟩
              intro K hK
              have e0 : a.tmps[5]?.getD undef = .int .i64 (i : Nat) := ho 5 (by kernel_rfl)
              go_simp
              exact hK _ _ rfl (stepR_no rfl (Below.refl _ _))
            · intro a wx hbx hq ho hf
              have hbx : Below wr.heap.size wr wx := hbx
              have hbq : Below wr.heap.size wr wx := hq (by kernel_rfl)
              clear hq
              refine ⟨rfl, ?_⟩
              intro K hK
              have e0 : a.tmps[17]?.getD undef = .slice (some ⟨b1, f1, none⟩) n q1 := hf.1
              have e1 : a.tmps[18]?.getD undef = .int .i64 (i : Nat) := hf.2.1
              go_simp
              exact hK _ _ rfl (stepR_no rfl (Below.refl _ _))
            · intro a wx hbx hq ho hf
              have hbx : Below wr.heap.size wr wx := hbx
              have hbq : Below wr.heap.size wr wx := hq (by kernel_rfl)
              clear hq
              refine ⟨rfl, ?_⟩
              intro K hK
              have e0 : a.tmps[19]?.getD undef = .pointer (some ⟨b1, f1 + i * 10, none⟩) := hf.1
              exact wp_load_mid 54 (.tmp 19) rfl b1 (f1 + i * 10) (evs e0) _ _ (rangeAt_below HR1.out hbq hl1) Tryz.underlying54 rfl (by rw [Array.length_toList, HZ1.out]; exact node_info) (hK _ _ rfl (stepR_no rfl (Below.refl _ _)))
            · intro a wx hbx hq ho hf
              have hbx : Below wr.heap.size wr wx := hbx
              have hbq : Below wr.heap.size wr wx := hq (by kernel_rfl)
              clear hq
              refine ⟨rfl, ?_⟩
              intro K hK
              have e0 : a.tmps[1]?.getD undef = .slice (some ⟨b2, f2, none⟩) n q2 := ho 1 (by kernel_rfl)
              go_simp
              exact hK _ _ rfl (stepR_no rfl (Below.refl _ _))
            · intro a wx hbx hq ho hf
              have hbx : Below wr.heap.size wr wx := hbx
              have hbq : Below wr.heap.size wr wx := hq (by kernel_rfl)
              clear hq
              refine ⟨rfl, ?_⟩
              intro K hK
              have e0 : a.tmps[5]?.getD undef = .int .i64 (i : Nat) := ho 5 (by kernel_rfl)
              go_simp
              exact hK _ _ rfl (stepR_no rfl (Below.refl _ _))
            · intro a wx hbx hq ho hf
              have hbx : Below wr.heap.size wr wx := hbx
              have hbq : Below wr.heap.size wr wx := hq (by kernel_rfl)
              clear hq
              refine ⟨rfl, ?_⟩
              intro K hK
              have e0 : a.tmps[21]?.getD undef = .slice (some ⟨b2, f2, none⟩) n q2 := hf.1
              have e1 : a.tmps[22]?.getD undef = .int .i64 (i : Nat) := hf.2.1
              go_simp
              exact hK _ _ rfl (stepR_no rfl (Below.refl _ _))
            · intro a wx hbx hq ho hf
              have hbx : Below wr.heap.size wr wx := hbx
              have hbq : Below wr.heap.size wr wx := hq (by kernel_rfl)
              clear hq
              refine ⟨rfl, ?_⟩
              intro K hK
              have e0 : a.tmps[23]?.getD undef = .pointer (some ⟨b2, f2 + i * 10, none⟩) := hf.1
              exact wp_load_mid 54 (.tmp 23) rfl b2 (f2 + i * 10) (evs e0) _ _ (rangeAt_below HR2.out hbq hl2) Tryz.underlying54 rfl (by rw [Array.length_toList, HZ2.out]; exact node_info) (hK _ _ rfl (stepR_no rfl (Below.refl _ _)))
            · intro a wx hbx hq ho hf
              have hbx : Below wr.heap.size wr wx := hbx
              have hbq : Below wr.heap.size wr wx := hq (by kernel_rfl)
              clear hq
              refine ⟨rfl, ?_⟩
              intro K hK
              have e0 : a.tmps[20]?.getD undef = .agg C1 := hf.1
              have e1 : a.tmps[24]?.getD undef = .agg C2 := hf.2.1
              go_simp
              refine (HSN.out wx hbq).mono ?_
              rintro e w2 ⟨rfl, hb2⟩
              exact hK _ _ rfl (stepR_no rfl hb2)
            · intro a wx hbx hq ho hf
              have hbx : Below wr.heap.size wr wx := hbx
              have hbq : Below wr.heap.size wr wx := hq (by kernel_rfl)
              clear hq
              refine ⟨rfl, ?_⟩
              intro K hK
              have e0 : a.tmps[25]?.getD undef = .bool false := hf.1
              go_simp
              exact hK _ _ rfl (stepR_no rfl (Below.refl _ _))
          · rintro f w9 hb9 hfin
            have hb9 : Below wr.heap.size wr w9 := hb9
            have S26 : f 26 = .bool true := hfin.2.2.2.2.2.2.2.2.2.1
            clear hfin
            simp only [frameOf, dstsOf, zipF, List.filterMap_cons, List.filterMap_nil, List.contains_cons, List.contains_nil, Nat.reduceBEq, Nat.reduceAdd, Bool.or_false, Bool.or_true, cond_true, cond_false]
            rw [S26]
            clear S26
            have HB9 := Lib.hid (HB.out.trans (hb9.mono HB.out.size))
            clear hb9
            go_wp2_with fail
            go_ret
            exact ⟨retB HS.out, HB9.out⟩
      · obtain rfl : i = n := by omega
        have hlt' : decide (i < i) = false := decide_eq_false hlt
        have HF := Lib.hid (HY.out hall)
        clear hi hall hb hlt
        go_wp2_with fail
        go_ret
        exact ⟨retB HF.out, HB.out⟩
  · have HF := Lib.hid (sameT_len hl)
    obtain ⟨n, hn⟩ : ∃ n, n = t.length := ⟨_, rfl⟩
    obtain ⟨m, hm⟩ : ∃ m, m = u.length := ⟨_, rfl⟩
    rw [← hn, ← hm] at hl ⊢
    have hne : ((n : Int) != (m : Int)) = true := by rw [bne_iff_ne]; omega
    clear h h' hok hok' hn hm hlen hq1 hq2 hq12 hq22 hl
    go_enter Tryz.func22, Tryz.ntmps22
    go_wp2_with fail
    go_ret
    exact ⟨retB HF.out, Below.refl _ _⟩
end Go.Proofs.YtngealmhgkoaiaaGreat
