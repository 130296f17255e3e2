/- Walks: the law HashTrees. -/
import Derived.Test.YtohldijomcljkaaZHashWithout34
import Derived.Test.YtohldijomcljkaaZHashWithout40
import Derived.Test.YtohldijomcljkaaZHashWithout28
import Derived.Test.YtohldijomcljkaaZHashWithout41
namespace Go.Proofs.Ytohldijomcljkaa
open Go.RowKit WalkM ShaM WireM
set_option linter.unusedVariables false
theorem woD_fun (t : List NodeD) : woD t [] = nd t := funext fun x => woD_nil t x
/-- the reference's hash of any node -/
theorem rhashX_any (t : List NodeD) (hs : smallT t = true) (hok : TreeOk t) (hr : rightT t = true) (x : Nat) (hx : x < t.length) (v vp : Value) (ps : List Int) (w : World) (h : TreeR w v t) (hp : Rd w vp (ivs .i64 ps)) :
    Calls Try.prog 20 #[v, .int .i64 (x : Nat), vp] w fun e w' => ∃ v', e = .returned v' ∧ Own w' w.heap.size 5 v' (bvs (hashX (woD t ps) x)) ∧ Below w.heap.size w w' := by
  obtain ⟨hln, hpl⟩ : leavesN t.length ≠ 0 ∧ placedB t = true := by
    rw [rightT, Bool.and_eq_true, Bool.and_eq_true] at hr
    exact ⟨of_decide_eq_true hr.1, hr.2.1⟩
  obtain ⟨d, hd, hN, hl⟩ := leavesN_pos hln
  have hlen := smallT_len hs
  have e : 2 ^ (d + 1) = 2 * 2 ^ d := by rw [Nat.pow_succ]; omega
  exact (rboth_any t ps hs hok hpl (lev x)).2 x v vp w h hp (lev_is (by omega)) (by have := under_in (x := x) (d := d) (by omega) hd; omega)
set_option maxRecDepth 100000 in
set_option maxHeartbeats 8000000 in
theorem hashTrees_walk {w : World} (v : Value) (t : List NodeD) (hop : TreeR w v t ∧ TreeOk t) :
    Calls Try.prog 3 #[v] w fun e w' => e = .returned (.bool true) ∧ Below w.heap.size w w' := by
  obtain ⟨h, hok⟩ := hop
  have HAL := Lib.hid (alive18 w)
  have SM := fun (W : World) (hw : Below w.heap.size w W) => tsmall_any v t W (h.below hw (Nat.le_refl _))
  cases hs : smallT t with
  | false =>
    rw [hs] at SM
    have HSM := Lib.hid SM
    obtain ⟨a, n, c, rfl⟩ : ∃ a n c, v = .slice a n c := by obtain ⟨a, c, e, _⟩ := h.sl; exact ⟨_, _, _, e⟩
    clear SM h hok hs
    go_enter Try.func3, Try.ntmps3
    go_wp2_with fail
    refine (HAL.out).mono ?_
    rintro e w1 ⟨rfl, hb⟩
    have HB := Lib.hid hb
    clear hb
    go_wp2_with fail
    refine (HSM.out w1 HB.out).mono ?_
    rintro e w2 ⟨rfl, hb⟩
    have HB2 := Lib.hid (HB.out.trans (hb.mono HB.out.size))
    clear hb
    go_wp2_with fail
    go_ret
    exact ⟨rfl, HB2.out⟩
  | true =>
    rw [hs] at SM
    have HSM := Lib.hid SM
    have TB := fun (W : World) (hw : Below w.heap.size w W) => h.below hw (Nat.le_refl _)
    have RR := fun (W : World) (hw : Below w.heap.size w W) => rtright_any v t W (TB W hw) hs hok
    cases hr : rightT t with
    | false =>
      rw [hr] at RR
      have HRR := Lib.hid RR
      have HA := Lib.hid (fun (W : World) (hw : Below w.heap.size w W) => hall_no v t W (TB W hw) hs hok hr)
      have HT := Lib.hid (fun (W : World) (hw : Below w.heap.size w W) => htree_no v t W (TB W hw) hs hok hr)
      obtain ⟨a, n, c, rfl⟩ : ∃ a n c, v = .slice a n c := by obtain ⟨a, c, e, _⟩ := h.sl; exact ⟨_, _, _, e⟩
      clear SM RR TB h hok hs hr
      go_enter Try.func3, Try.ntmps3
      go_wp2_with fail
      refine (HAL.out).mono ?_
      rintro e w1 ⟨rfl, hb⟩
      have HB := Lib.hid hb
      clear hb
      go_wp2_with fail
      refine (HSM.out w1 HB.out).mono ?_
      rintro e w2 ⟨rfl, hb⟩
      have HB2 := Lib.hid (HB.out.trans (hb.mono HB.out.size))
      clear hb
      go_wp2_with fail
      refine (HA.out w2 HB2.out).mono ?_
      rintro e w3 ⟨rfl, hb⟩
      have HB3 := Lib.hid (HB2.out.trans (hb.mono HB2.out.size))
      clear hb
      go_wp2_with fail
      refine (HT.out w3 HB3.out).mono ?_
      rintro e w4 ⟨rfl, hb⟩
      have HB4 := Lib.hid (HB3.out.trans (hb.mono HB3.out.size))
      clear hb
      go_wp2_with fail
      refine (HRR.out w4 HB4.out).mono ?_
      rintro e w5 ⟨rfl, hb⟩
      have HB5 := Lib.hid (HB4.out.trans (hb.mono HB4.out.size))
      clear hb
      go_wp2_with fail
      go_ret
      exact ⟨rfl, HB5.out⟩
    | true =>
      rw [hr] at RR
      have HRR := Lib.hid RR
      have HA := Lib.hid (fun (W : World) (hw : Below w.heap.size w W) => hall_yes v t W (TB W hw) hs hok hr)
      have HT := Lib.hid (fun (W : World) (hw : Below w.heap.size w W) => htree_yes v t W (TB W hw) hs hok hr)
      have RH := fun (x : Nat) (hx : x < t.length) (W : World) (hw : Below w.heap.size w W) => rhashX_any t hs hok hr x hx v (.slice none 0 0) [] W (TB W hw) (rd_nili W)
      rw [woD_fun] at RH
      have hln : leavesN t.length ≠ 0 := by
        rw [rightT, Bool.and_eq_true] at hr
        exact of_decide_eq_true hr.1
      obtain ⟨d, hd, hN, hl⟩ := leavesN_pos hln
      have hp1 : 0 < 2 ^ d := Nat.pos_of_ne_zero (by simp)
      have hlen := smallT_len hs
      obtain ⟨ta, c, rfl, hc, hc2⟩ := h.sl
      obtain ⟨n, hn⟩ : ∃ n, n = t.length := ⟨_, rfl⟩
      rw [← hn] at hl HSM HRR HA HT RH hc hlen ⊢
      obtain ⟨x, hx⟩ : ∃ x, x = n / 2 := ⟨_, rfl⟩
      have hq : ((n : Int) - 1) / 2 = (x : Int) := by omega
      have hxn : x < n := by omega
      have hxI : (x : Int) < (n : Int) := by omega
      have hn1 : 1 ≤ n := by omega
      rw [← hx] at HT
      have HRHX := Lib.hid RH
      have HT2 := Lib.hid (fun (W : World) (u u' : Value) (L : List Nat) (hL : ∀ y ∈ L, y < 256) (hu : Rd W u (bvs L)) (hu' : Rd W u' (bvs L)) => same_dec u u' L L W hu hu' hL hL true (decide_eq_true rfl))
      clear SM RR RH TB h hok hs hr hx hN hl hp1 hln hn
      go_enter Try.func3, Try.ntmps3
      go_wp2_with fail
      refine (HAL.out).mono ?_
      rintro e w1 ⟨rfl, hb⟩
      have HB := Lib.hid hb
      clear hb
      go_wp2_with fail
      refine (HSM.out w1 HB.out).mono ?_
      rintro e w2 ⟨rfl, hb⟩
      have HB2 := Lib.hid (HB.out.trans (hb.mono HB.out.size))
      clear hb
      go_wp2_with fail
      refine (HA.out w2 HB2.out).mono ?_
      rintro e w3 ⟨g, hg, rfl, hall, hb⟩
      have HB3 := Lib.hid (HB2.out.trans (hb.mono HB2.out.size))
      have HL3 := Lib.hid hall
      clear hb hall
      go_wp2_with fail
      refine (HT.out w3 HB3.out).mono ?_
      rintro e w4 ⟨u4, rfl, hru, hb⟩
      have HB4 := Lib.hid (HB3.out.trans (hb.mono HB3.out.size))
      have HL4 := Lib.hid (HL3.out.below hb)
      have HU4 := Lib.hid hru
      obtain ⟨u41, u42, u43, rfl⟩ := rdS hru
      clear hb hru HL3
      go_wp2_with fail
      refine (HRR.out w4 HB4.out).mono ?_
      rintro e w5 ⟨rfl, hb⟩
      have HB5 := Lib.hid (HB4.out.trans (hb.mono HB4.out.size))
      have HL5 := Lib.hid (HL4.out.below hb)
      have HU5 := Lib.hid (HU4.out.below hb (Nat.le_refl _))
      clear hb HL4 HU4
      obtain ⟨u5, hc5, hr5, _⟩ := HL5.out.row hxn rfl
      have HR5 := Lib.hid hr5
      obtain ⟨u51, u52, u53, rfl⟩ := rdS hr5
      have hgl5 : g < w5.heap.size := HL5.out.lt
      clear hr5
      go_wp2_with fail
      refine (HT2.out w5 _ _ _ (hashX_lt _ _) HU5.out HR5.out).mono ?_
      rintro e w6 ⟨rfl, n6, rfl⟩
      have hb := below_drewN' (Below.refl w5.heap.size w5) n6
      have HB6 := Lib.hid (HB5.out.trans (hb.mono HB5.out.size))
      have HL6 := Lib.hid (HL5.out.below hb)
      clear hb HU5 HR5 hc5 hgl5
      go_wp2_with fail
      go_loopg [7] n (fun q iv wr => ∃ i : Nat, i + q = n ∧ iv = .int .i64 (i : Nat) ∧ AllR wr g n (fun y => some (hashX (nd t) y)) ∧ Below w.heap.size w wr)
      case atStart => exact ⟨0, by omega, rfl, HL6.out, HB6.out⟩
      case round =>
        obtain ⟨i, hi, rfl, hall, hb⟩ := hrel
        have HI := Lib.hid hi
        have HL := Lib.hid hall
        have HBR := Lib.hid hb
        by_cases hlt : i < n
        · have hlt' : decide (i < n) = true := decide_eq_true hlt
          have hltI : (i : Int) < (n : Int) := by omega
          obtain ⟨u, hci, hri, _⟩ := hall.row hlt rfl
          have hgl : g < wr.heap.size := hall.lt
          have HRH := Lib.hid (fun (W : World) (hw : Below wr.heap.size wr W) => HRHX.out i hlt W (hb.trans (hw.mono hb.size)))
          obtain ⟨HH, hHI⟩ : ∃ H, H = hashX (nd t) i := ⟨_, rfl⟩
          have hH2 := hashX_lt (nd t) i
          rw [← hHI] at HRH hri hH2
          obtain ⟨r1, r2, r3, rfl⟩ := rdS hri
          have HSM := Lib.hid (fun (W : World) (hw : Below wr.heap.size wr W) (v' : Value) (hv' : Rd W v' (bvs HH)) => HT2.out W (.slice r1 r2 r3) v' HH hH2 (hri.below hw (Nat.le_refl _)) hv')
          clear hi hall hb hri hHI hH2
          go_wp2_with fail
          refine wp_region_rel [fun v _ => v = .slice (some ⟨g, 0, none⟩) n n, fun v _ => v = .int .i64 (i : Nat), fun v _ => v = .pointer (some ⟨g, i, none⟩), fun v _ => v = .slice r1 r2 r3, fun v _ => v = .slice ta n c, fun v _ => v = .int .i64 (i : Nat), fun v w' => Own w' wr.heap.size 5 v (bvs HH), fun v _ => v = .bool true, fun v _ => v = .bool false]
            [true, true, true, true, true, true, true, true, true] (fun x => Below wr.heap.size wr x) (fun x y => Below x.heap.size x y) none (by kernel_rfl) ?_ (⟨rfl, rfl, rfl, Nat.le_refl _, fun _ _ => rfl⟩) (fun x y _ h => h) (fun x y hx hs => hx.trans (hs.mono hx.size)) (by kernel_rfl) (by kernel_rfl) ?_ ?_
          · exact keepsR_n (fun _ _ _ h _ _ => h) (keepsR_n (fun _ _ _ h _ _ => h) (keepsR_n (fun _ _ _ h _ _ => h) (keepsR_n (fun _ _ _ h _ _ => h) (keepsR_n (fun _ _ _ h _ _ => h) (keepsR_n (fun _ _ _ h _ _ => h) (keepsR_n (fun v x y h _ hs => Own.below h hs (Nat.le_refl _)) (keepsR_n (fun _ _ _ h _ _ => h) (keepsR_n (fun _ _ _ h _ _ => h) (keepsR_nil)))))))))
          · refine .cons (owed7_go ?_) (.cons (owed7_go ?_) (.cons (owed7_go ?_) (.cons (owed7_go ?_) (.cons (owed7_go ?_) (.cons (owed7_go ?_) (.cons (owed7_go ?_) (.cons (owed7_go ?_) (.cons (owed7_go ?_) (.nil)))))))))
            · intro a wx hbx hq ho hf
              have hbx : Below wr.heap.size wr wx := hbx
              have hbq : Below wr.heap.size wr wx := hq (by kernel_rfl)
              clear hq
              refine ⟨rfl, ?_⟩
              intro K hK
              have e0 : a.tmps[3]?.getD undef = .slice (some ⟨g, 0, none⟩) n n := ho 3 (by kernel_rfl)
              go_simp
              exact hK _ _ rfl (stepR_no rfl (Below.refl _ _))
            · intro a wx hbx hq ho hf
              have hbx : Below wr.heap.size wr wx := hbx
              have hbq : Below wr.heap.size wr wx := hq (by kernel_rfl)
              clear hq
              refine ⟨rfl, ?_⟩
              intro K hK
              have e0 : a.tmps[7]?.getD undef = .int .i64 (i : Nat) := ho 7 (by kernel_rfl)
              go_simp
              exact hK _ _ rfl (stepR_no rfl (Below.refl _ _))
            · intro a wx hbx hq ho hf
              have hbx : Below wr.heap.size wr wx := hbx
              have hbq : Below wr.heap.size wr wx := hq (by kernel_rfl)
              clear hq
              refine ⟨rfl, ?_⟩
              intro K hK
              have e0 : a.tmps[75]?.getD undef = .slice (some ⟨g, 0, none⟩) n n := hf.1
              have e1 : a.tmps[76]?.getD undef = .int .i64 (i : Nat) := hf.2.1
              go_simp
              exact hK _ _ rfl (stepR_no rfl (Below.refl _ _))
            · intro a wx hbx hq ho hf
              have hbx : Below wr.heap.size wr wx := hbx
              have hbq : Below wr.heap.size wr wx := hq (by kernel_rfl)
              clear hq
              refine ⟨rfl, ?_⟩
              intro K hK
              have e0 : a.tmps[77]?.getD undef = .pointer (some ⟨g, i, none⟩) := hf.1
              have d1 := (hbx.cell (p := ⟨g, i, none⟩) hgl).trans hci
              go_simp
              exact hK _ _ rfl (stepR_no rfl (Below.refl _ _))
            · intro a wx hbx hq ho hf
              have hbx : Below wr.heap.size wr wx := hbx
              have hbq : Below wr.heap.size wr wx := hq (by kernel_rfl)
              clear hq
              refine ⟨rfl, ?_⟩
              intro K hK
              have e0 : a.tmps[0]?.getD undef = .slice ta n c := ho 0 (by kernel_rfl)
              go_simp
              exact hK _ _ rfl (stepR_no rfl (Below.refl _ _))
            · intro a wx hbx hq ho hf
              have hbx : Below wr.heap.size wr wx := hbx
              have hbq : Below wr.heap.size wr wx := hq (by kernel_rfl)
              clear hq
              refine ⟨rfl, ?_⟩
              intro K hK
              have e0 : a.tmps[7]?.getD undef = .int .i64 (i : Nat) := ho 7 (by kernel_rfl)
              go_simp
              exact hK _ _ rfl (stepR_no rfl (Below.refl _ _))
            · intro a wx hbx hq ho hf
              have hbx : Below wr.heap.size wr wx := hbx
              have hbq : Below wr.heap.size wr wx := hq (by kernel_rfl)
              clear hq
              refine ⟨rfl, ?_⟩
              intro K hK
              have e0 : a.tmps[79]?.getD undef = .slice ta n c := hf.1
              have e1 : a.tmps[80]?.getD undef = .int .i64 (i : Nat) := hf.2.1
              go_simp
              refine (HRH.out wx hbx).mono ?_
              rintro e w2 ⟨v9, rfl, hown, hb2⟩
              exact hK _ _ (hown.mono hbx.size) (stepR_no rfl hb2)
            · intro a wx hbx hq ho hf
              have hbx : Below wr.heap.size wr wx := hbx
              have hbq : Below wr.heap.size wr wx := hq (by kernel_rfl)
              clear hq
              refine ⟨rfl, ?_⟩
              intro K hK
              have e0 : a.tmps[78]?.getD undef = .slice r1 r2 r3 := hf.1
              have o1 : Own wx wr.heap.size 5 (a.tmps[81]?.getD undef) (bvs HH) := hf.2.1
              obtain ⟨v1, hv1⟩ : ∃ v, v = a.tmps[81]?.getD undef := ⟨_, rfl⟩
              rw [← hv1] at o1
              have e1 := hv1.symm
              clear hv1
              go_simp
              refine (HSM.out wx hbx v1 o1.rd).mono ?_
              rintro e w2 ⟨rfl, n9, rfl⟩
              exact hK _ _ rfl (stepR_no rfl (below_drewN' (Below.refl _ _) _))
            · intro a wx hbx hq ho hf
              have hbx : Below wr.heap.size wr wx := hbx
              have hbq : Below wr.heap.size wr wx := hq (by kernel_rfl)
              clear hq
              refine ⟨rfl, ?_⟩
              intro K hK
              have e0 : a.tmps[82]?.getD undef = .bool true := hf.1
              go_simp
              exact hK _ _ rfl (stepR_no rfl (Below.refl _ _))
          · rintro f w9 hb9 hfin
            have hb9 : Below wr.heap.size wr w9 := hb9
            have S83 : f 83 = .bool false := hfin.2.2.2.2.2.2.2.2.1
            clear hfin
            simp only [frameOf, dstsOf, zipF, List.filterMap_cons, List.filterMap_nil, List.contains_cons, List.contains_nil, Nat.reduceBEq, Nat.reduceAdd, Bool.or_false, Bool.or_true, cond_true, cond_false]
            rw [S83]
            clear S83
            have HB9 := Lib.hid (HBR.out.trans (hb9.mono HBR.out.size))
            have HL9 := Lib.hid (HL.out.below hb9)
            clear hb9
            go_wp2_with fail
            go_roundg (gk - 1)
            case measure => have := HI.out; omega
            case rel => exact ⟨i + 1, by have := HI.out; omega, by go_num, HL9.out, HB9.out⟩
        · obtain rfl : i = n := by omega
          have hlt' : decide (i < i) = false := decide_eq_false hlt
          clear hi hall hb
          go_wp2_with fail
          go_ret
          exact ⟨rfl, HBR.out⟩
end Go.Proofs.Ytohldijomcljkaa
