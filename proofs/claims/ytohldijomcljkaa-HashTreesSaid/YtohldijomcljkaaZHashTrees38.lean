/- Walks: the law HashTrees. -/
import Derived.Test.YtohldijomcljkaaZHashTrees28
import Derived.Test.YtohldijomcljkaaZHashTrees36
import Derived.Test.YtohldijomcljkaaZHashTrees26
import Derived.Test.YtohldijomcljkaaZHashTrees37
import Derived.Test.YtohldijomcljkaaZHashTrees01
import Derived.Deep.Slices
import Derived.Deep.Fields
import Derived.ChangeSame
import Derived.Test.YtohldijomcljkaaZHashTrees03
import Derived.Deep.Strs
import Derived.Test.YtohldijomcljkaaZHashTrees13
namespace Go.Proofs.Ytohldijomcljkaa
open Go.RowKit WalkM ShaM WireM
set_option linter.unusedVariables false
theorem woD_fun (t : List NodeD) : woD t [] = nd t := funext fun x => woD_nil t x
/-- the reference's hash of any node -/
theorem rhashX_any (t : List NodeD) (hs : smallT t = true) (hok : TreeOk t) (hr : rightT t = true) (x : Nat) (hx : x < t.length) (v vp : Value) (ps : List Int) (w : World) (h : TreeR w v t) (hp : Rd w vp (ivs .i64 ps)) :
    Calls Try.prog 20 #[v, .int .i64 (x : Nat), vp] w fun e w' => ∃ v', e = .returned v' ∧ Own w' w.heap.size 5 v' (bvs (hashX (woD t ps) x)) ∧ Below w.heap.size w w' := by
  obtain ⟨hln, hpl⟩ : leavesN t.length ≠ 0 ∧ placedB t = true := by
    rw [rightT, Bool.and_eq_true, Bool.and_eq_true] at hr
    exact ⟨of_decide_eq_true hr.1, hr.2.1⟩
  obtain ⟨d, hd, hN, hl⟩ := leavesN_pos hln
  have hlen := smallT_len hs
  have e : 2 ^ (d + 1) = 2 * 2 ^ d := by rw [Nat.pow_succ]; omega
  exact (rboth_any t ps hs hok hpl (lev x)).2 x v vp w h hp (lev_is (by omega)) (by have := under_in (x := x) (d := d) (by omega) hd; omega)
set_option maxRecDepth 100000 in
set_option maxHeartbeats 8000000 in
theorem hashTrees_walk {w : World} (v : Value) (t : List NodeD) (hop : TreeR w v t ∧ TreeOk t) :
    Calls Try.prog 3 #[v] w fun e w' => e = .returned (.bool true) ∧ Below w.heap.size w w' := by
  obtain ⟨h, hok⟩ := hop
  have HAL := Lib.hid (alive18 w)
  have SM := fun (W : World) (hw : Below w.heap.size w W) => tsmall_any v t W (h.below hw (Nat.le_refl _))
  cases hs : smallT t with
  | false =>
    rw [hs] at SM
    have HSM := Lib.hid SM
    obtain ⟨a, n, c, rfl⟩ : ∃ a n c, v = .slice a n c := by obtain ⟨a, c, e, _⟩ := h.sl; exact ⟨_, _, _, e⟩
    clear SM h hok hs
    go_enter Try.func3, Try.ntmps3
    go_wp2_with fail
    refine (HAL.out).mono ?_
    rintro e w1 ⟨rfl, hb⟩
    have HB := Lib.hid hb
    clear hb
    go_wp2_with fail
    refine (HSM.out w1 HB.out).mono ?_
    rintro e w2 ⟨rfl, hb⟩
    have HB2 := Lib.hid (HB.out.trans (hb.mono HB.out.size))
    clear hb
    go_wp2_with fail
    go_ret
    exact ⟨rfl, HB2.out⟩
  | true =>
    rw [hs] at SM
    have HSM := Lib.hid SM
    have TB := fun (W : World) (hw : Below w.heap.size w W) => h.below hw (Nat.le_refl _)
    have RR := fun (W : World) (hw : Below w.heap.size w W) => rtright_any v t W (TB W hw) hs hok
    cases hr : rightT t with
    | false =>
      rw [hr] at RR
      have HRR := Lib.hid RR
      have HA := Lib.hid (fun (W : World) (hw : Below w.heap.size w W) => hall_no v t W (TB W hw) hs hok hr)
      have HT := Lib.hid (fun (W : World) (hw : Below w.heap.size w W) => htree_no v t W (TB W hw) hs hok hr)
      obtain ⟨a, n, c, rfl⟩ : ∃ a n c, v = .slice a n c := by obtain ⟨a, c, e, _⟩ := h.sl; exact ⟨_, _, _, e⟩
      clear SM RR TB h hok hs hr
      go_enter Try.func3, Try.ntmps3
      go_wp2_with fail
      refine (HAL.out).mono ?_
      rintro e w1 ⟨rfl, hb⟩
      have HB := Lib.hid hb
      clear hb
      go_wp2_with fail
      refine (HSM.out w1 HB.out).mono ?_
      rintro e w2 ⟨rfl, hb⟩
      have HB2 := Lib.hid (HB.out.trans (hb.mono HB.out.size))
      clear hb
      go_wp2_with fail
      refine (HA.out w2 HB2.out).mono ?_
      rintro e w3 ⟨rfl, hb⟩
      have HB3 := Lib.hid (HB2.out.trans (hb.mono HB2.out.size))
      clear hb
      go_wp2_with fail
      refine (HT.out w3 HB3.out).mono ?_
      rintro e w4 ⟨rfl, hb⟩
      have HB4 := Lib.hid (HB3.out.trans (hb.mono HB3.out.size))
      clear hb
      go_wp2_with fail
      refine (HRR.out w4 HB4.out).mono ?_
      rintro e w5 ⟨rfl, hb⟩
      have HB5 := Lib.hid (HB4.out.trans (hb.mono HB4.out.size))
      clear hb
      go_wp2_with fail
      go_ret
      exact ⟨rfl, HB5.out⟩
    | true =>
      rw [hr] at RR
      have HRR := Lib.hid RR
      have HA := Lib.hid (fun (W : World) (hw : Below w.heap.size w W) => hall_yes v t W (TB W hw) hs hok hr)
      have HT := Lib.hid (fun (W : World) (hw : Below w.heap.size w W) => htree_yes v t W (TB W hw) hs hok hr)
      have RH := fun (x : Nat) (hx : x < t.length) (W : World) (hw : Below w.heap.size w W) => rhashX_any t hs hok hr x hx v (.slice none 0 0) [] W (TB W hw) (rd_nili W)
      rw [woD_fun] at RH
      have hln : leavesN t.length ≠ 0 := by
        rw [rightT, Bool.and_eq_true] at hr
        exact of_decide_eq_true hr.1
      obtain ⟨d, hd, hN, hl⟩ := leavesN_pos hln
      have hp1 : 0 < 2 ^ d := Nat.pos_of_ne_zero (by simp)
      have hlen := smallT_len hs
      obtain ⟨ta, c, rfl, hc, hc2⟩ := h.sl
      obtain ⟨n, hn⟩ : ∃ n, n = t.length := ⟨_, rfl⟩
      rw [← hn] at hl HSM HRR HA HT RH hc hlen ⊢
      obtain ⟨x, hx⟩ : ∃ x, x = n / 2 := ⟨_, rfl⟩
      have hq : ((n : Int) - 1) / 2 = (x : Int) := by omega
      have hxn : x < n := by omega
      have hxI : (x : Int) < (n : Int) := by omega
      have hn1 : 1 ≤ n := by omega
      rw [← hx] at HT
      have HRHX := Lib.hid RH
      have HT2 := Lib.hid (fun (W : World) (u u' : Value) (L : List Nat) (hL : ∀ y ∈ L, y < 256) (hu : Rd W u (bvs L)) (hu' : Rd W u' (bvs L)) => same_dec u u' L L W hu hu' hL hL true (decide_eq_true rfl))
      clear SM RR RH TB h hok hs hr hx hN hl hp1 hln hn
      go_enter Try.func3, Try.ntmps3
      go_wp2_with fail
      refine (HAL.out).mono ?_
      rintro e w1 ⟨rfl, hb⟩
      have HB := Lib.hid hb
      clear hb
      go_wp2_with fail
      refine (HSM.out w1 HB.out).mono ?_
      rintro e w2 ⟨rfl, hb⟩
      have HB2 := Lib.hid (HB.out.trans (hb.mono HB.out.size))
      clear hb
      go_wp2_with fail
      refine (HA.out w2 HB2.out).mono ?_
      rintro e w3 ⟨g, hg, rfl, hall, hb⟩
      have HB3 := Lib.hid (HB2.out.trans (hb.mono HB2.out.size))
      have HL3 := Lib.hid hall
      clear hb hall
      go_wp2_with fail
      refine (HT.out w3 HB3.out).mono ?_
      rintro e w4 ⟨u4, rfl, hru, hb⟩
      have HB4 := Lib.hid (HB3.out.trans (hb.mono HB3.out.size))
      have HL4 := Lib.hid (HL3.out.below hb)
      have HU4 := Lib.hid hru
      obtain ⟨u41, u42, u43, rfl⟩ := rdS hru
      clear hb hru HL3
      go_wp2_with fail
      refine (HRR.out w4 HB4.out).mono ?_
      rintro e w5 ⟨rfl, hb⟩
      have HB5 := Lib.hid (HB4.out.trans (hb.mono HB4.out.size))
      have HL5 := Lib.hid (HL4.out.below hb)
      have HU5 := Lib.hid (HU4.out.below hb (Nat.le_refl _))
      clear hb HL4 HU4
      obtain ⟨u5, hc5, hr5, _⟩ := HL5.out.row hxn rfl
      have HR5 := Lib.hid hr5
      obtain ⟨u51, u52, u53, rfl⟩ := rdS hr5
      have hgl5 : g < w5.heap.size := HL5.out.lt
      clear hr5
      go_wp2_with fail
      refine (HT2.out w5 _ _ _ (hashX_lt _ _) HU5.out HR5.out).mono ?_
      rintro e w6 ⟨rfl, n6, rfl⟩
      have hb := below_drewN' (Below.refl w5.heap.size w5) n6
      have HB6 := Lib.hid (HB5.out.trans (hb.mono HB5.out.size))
      have HL6 := Lib.hid (HL5.out.below hb)
      clear hb HU5 HR5 hc5 hgl5
      go_wp2_with fail
      go_loopg [7] n (fun q iv wr => ∃ i : Nat, i + q = n ∧ iv = .int .i64 (i : Nat) ∧ AllR wr g n (fun y => some (hashX (nd t) y)) ∧ Below w.heap.size w wr)
      case atStart => exact ⟨0, by omega, rfl, HL6.out, HB6.out⟩
      case round =>
        obtain ⟨i, hi, rfl, hall, hb⟩ := hrel
        have HI := Lib.hid hi
        have HL := Lib.hid hall
        have HBR := Lib.hid hb
        by_cases hlt : i < n
        · have hlt' : decide (i < n) = true := decide_eq_true hlt
          have hltI : (i : Int) < (n : Int) := by omega
          obtain ⟨u, hci, hri, _⟩ := hall.row hlt rfl
          have hgl : g < wr.heap.size := hall.lt
          have HRH := Lib.hid (fun (W : World) (hw : Below wr.heap.size wr W) => HRHX.out i hlt W (hb.trans (hw.mono hb.size)))
          obtain ⟨HH, hHI⟩ : ∃ H, H = hashX (nd t) i := ⟨_, rfl⟩
          have hH2 := hashX_lt (nd t) i
          rw [← hHI] at HRH hri hH2
          obtain ⟨r1, r2, r3, rfl⟩ := rdS hri
          have HSM := Lib.hid (fun (W : World) (hw : Below wr.heap.size wr W) (v' : Value) (hv' : Rd W v' (bvs HH)) => HT2.out W (.slice r1 r2 r3) v' HH hH2 (hri.below hw (Nat.le_refl _)) hv')
          clear hi hall hb hri hHI hH2
          go_wp2_with fail
          refine wp_region_rel [fun v _ => v = .slice (some ⟨g, 0, none⟩) n n, fun v _ => v = .int .i64 (i : Nat), fun v _ => v = .pointer (some ⟨g, i, none⟩), fun v _ => v = .slice r1 r2 r3, fun v _ => v = .slice ta n c, fun v _ => v = .int .i64 (i : Nat), fun v w' => Own w' wr.heap.size 5 v (bvs HH), fun v _ => v = .bool true, fun v _ => v = .bool false]
            [true, true, true, true, true, true, true, true, true] (fun x => Below wr.heap.size wr x) (fun x y => Below x.heap.size x y) none (by kernel_rfl) ?_ (⟨rfl, rfl, rfl, Nat.le_refl _, fun _ _ => rfl⟩) (fun x y _ h => h) (fun x y hx hs => hx.trans (hs.mono hx.size)) (by kernel_rfl) (by kernel_rfl) ?_ ?_
          · exact keepsR_n (fun _ _ _ h _ _ => h) (keepsR_n (fun _ _ _ h _ _ => h) (keepsR_n (fun _ _ _ h _ _ => h) (keepsR_n (fun _ _ _ h _ _ => h) (keepsR_n (fun _ _ _ h _ _ => h) (keepsR_n (fun _ _ _ h _ _ => h) (keepsR_n (fun v x y h _ hs => Own.below h hs (Nat.le_refl _)) (keepsR_n (fun _ _ _ h _ _ => h) (keepsR_n (fun _ _ _ h _ _ => h) (keepsR_nil)))))))))
          · refine .cons (owed7_go ?_) (.cons (owed7_go ?_) (.cons (owed7_go ?_) (.cons (owed7_go ?_) (.cons (owed7_go ?_) (.cons (owed7_go ?_) (.cons (owed7_go ?_) (.cons (owed7_go ?_) (.cons (owed7_go ?_) (.nil)))))))))
            · intro a wx hbx hq ho hf
              have hbx : Below wr.heap.size wr wx := hbx
              have hbq : Below wr.heap.size wr wx := hq (by kernel_rfl)
              clear hq
              refine ⟨rfl, ?_⟩
              intro K hK
              have e0 : a.tmps[3]?.getD undef = .slice (some ⟨g, 0, none⟩) n n := ho 3 (by kernel_rfl)
              go_simp
              exact hK _ _ rfl (stepR_no rfl (Below.refl _ _))
            · intro a wx hbx hq ho hf
              have hbx : Below wr.heap.size wr wx := hbx
              have hbq : Below wr.heap.size wr wx := hq (by kernel_rfl)
              clear hq
              refine ⟨rfl, ?_⟩
              intro K hK
              have e0 : a.tmps[7]?.getD undef = .int .i64 (i : Nat) := ho 7 (by kernel_rfl)
              go_simp
              exact hK _ _ rfl (stepR_no rfl (Below.refl _ _))
            · intro a wx hbx hq ho hf
              have hbx : Below wr.heap.size wr wx := hbx
              have hbq : Below wr.heap.size wr wx := hq (by kernel_rfl)
              clear hq
              refine ⟨rfl, ?_⟩
              intro K hK
              have e0 : a.tmps[75]?.getD undef = .slice (some ⟨g, 0, none⟩) n n := hf.1
              have e1 : a.tmps[76]?.getD undef = .int .i64 (i : Nat) := hf.2.1
              go_simp
              exact hK _ _ rfl (stepR_no rfl (Below.refl _ _))
            · intro a wx hbx hq ho hf
              have hbx : Below wr.heap.size wr wx := hbx
              have hbq : Below wr.heap.size wr wx := hq (by kernel_rfl)
              clear hq
              refine ⟨rfl, ?_⟩
              intro K hK
              have e0 : a.tmps[77]?.getD undef = .pointer (some ⟨g, i, none⟩) := hf.1
              have d1 := (hbx.cell (p := ⟨g, i, none⟩) hgl).trans hci
              go_simp
              exact hK _ _ rfl (stepR_no rfl (Below.refl _ _))
            · intro a wx hbx hq ho hf
              have hbx : Below wr.heap.size wr wx := hbx
              have hbq : Below wr.heap.size wr wx := hq (by kernel_rfl)
              clear hq
              refine ⟨rfl, ?_⟩
              intro K hK
              have e0 : a.tmps[0]?.getD undef = .slice ta n c := ho 0 (by kernel_rfl)
              go_simp
              exact hK _ _ rfl (stepR_no rfl (Below.refl _ _))
            · intro a wx hbx hq ho hf
              have hbx : Below wr.heap.size wr wx := hbx
              have hbq : Below wr.heap.size wr wx := hq (by kernel_rfl)
              clear hq
              refine ⟨rfl, ?_⟩
              intro K hK
              have e0 : a.tmps[7]?.getD undef = .int .i64 (i : Nat) := ho 7 (by kernel_rfl)
              go_simp
              exact hK _ _ rfl (stepR_no rfl (Below.refl _ _))
            · intro a wx hbx hq ho hf
              have hbx : Below wr.heap.size wr wx := hbx
              have hbq : Below wr.heap.size wr wx := hq (by kernel_rfl)
              clear hq
              refine ⟨rfl, ?_⟩
              intro K hK
              have e0 : a.tmps[79]?.getD undef = .slice ta n c := hf.1
              have e1 : a.tmps[80]?.getD undef = .int .i64 (i : Nat) := hf.2.1
              go_simp
              refine (HRH.out wx hbx).mono ?_
              rintro e w2 ⟨v9, rfl, hown, hb2⟩
              exact hK _ _ (hown.mono hbx.size) (stepR_no rfl hb2)
            · intro a wx hbx hq ho hf
              have hbx : Below wr.heap.size wr wx := hbx
              have hbq : Below wr.heap.size wr wx := hq (by kernel_rfl)
              clear hq
              refine ⟨rfl, ?_⟩
              intro K hK
              have e0 : a.tmps[78]?.getD undef = .slice r1 r2 r3 := hf.1
              have o1 : Own wx wr.heap.size 5 (a.tmps[81]?.getD undef) (bvs HH) := hf.2.1
              obtain ⟨v1, hv1⟩ : ∃ v, v = a.tmps[81]?.getD undef := ⟨_, rfl⟩
              rw [← hv1] at o1
              have e1 := hv1.symm
              clear hv1
              go_simp
              refine (HSM.out wx hbx v1 o1.rd).mono ?_
              rintro e w2 ⟨rfl, n9, rfl⟩
              exact hK _ _ rfl (stepR_no rfl (below_drewN' (Below.refl _ _) _))
            · intro a wx hbx hq ho hf
              have hbx : Below wr.heap.size wr wx := hbx
              have hbq : Below wr.heap.size wr wx := hq (by kernel_rfl)
              clear hq
              refine ⟨rfl, ?_⟩
              intro K hK
              have e0 : a.tmps[82]?.getD undef = .bool true := hf.1
              go_simp
              exact hK _ _ rfl (stepR_no rfl (Below.refl _ _))
          · rintro f w9 hb9 hfin
            have hb9 : Below wr.heap.size wr w9 := hb9
            have S83 : f 83 = .bool false := hfin.2.2.2.2.2.2.2.2.1
            clear hfin
            simp only [frameOf, dstsOf, zipF, List.filterMap_cons, List.filterMap_nil, List.contains_cons, List.contains_nil, Nat.reduceBEq, Nat.reduceAdd, Bool.or_false, Bool.or_true, cond_true, cond_false]
            rw [S83]
            clear S83
            have HB9 := Lib.hid (HBR.out.trans (hb9.mono HBR.out.size))
            have HL9 := Lib.hid (HL.out.below hb9)
            clear hb9
            go_wp2_with fail
            go_roundg (gk - 1)
            case measure => have := HI.out; omega
            case rel => exact ⟨i + 1, by have := HI.out; omega, by go_num, HL9.out, HB9.out⟩
        · obtain rfl : i = n := by omega
          have hlt' : decide (i < i) = false := decide_eq_false hlt
          clear hi hall hb
          go_wp2_with fail
          go_ret
          exact ⟨rfl, HBR.out⟩
end Go.Proofs.Ytohldijomcljkaa
/- Slices as they come in. -/
namespace Go.Proofs.Ytohldijomcljkaa
open Go.RowKit WireM Go.ChangeShapes Go.WideShapes Go.Deep
set_option linter.unusedVariables false
section
variable {H : Type} {enc : TypeId × Value → H} {P : Program} {w : World} {base : Nat} {spare : Nat → Bool} {held : Bool}
theorem open_slice_fields {t e : TypeId} {fs : Array Field} {fuel : Nat} {cs : List Value} {x : DataW H × List MemPlace} (ht : P.underlying t = some (.slice e)) (he : P.underlying e = some (.struct fs))
    (hone : oneCellFields P fs = true) (hC : P.cellsOf e = fs.size) (h : DataW.trod enc P w base spare held fuel t cs = some x) :
    (cs = [.slice none 0 0] ∧ x = (.nil, [])) ∨
    ∃ (a : Addr) (len cap m : Nat), cs = [.slice (some a) len cap] ∧ base ≤ a.block ∧ len ≤ cap ∧ cap ≤ maxLen ∧ m = (if spare a.block then cap else len) ∧
      ∀ i, i < m → ∃ (n : Nat), ∀ (j : Nat) (f : Field), fs[j]? = some f → ∃ (v : Value) (y : DataW H × List MemPlace), w.cell? (a.add (i * fs.size + j)) = some v ∧ DataW.trod enc P w base spare held n f.type [v] = some y := by
  rcases open_slice ht h with h0 | ⟨a, len, cap, m, n, D, Pl, hcs, hb, hl, hm, hmm, hx, hi⟩
  · exact .inl h0
  · refine .inr ⟨a, len, cap, m, hcs, hb, hl, hm, hmm, fun i him => ?_⟩
    obtain ⟨cs', hc, ht'⟩ := hi i him
    rw [hC] at hc
    obtain ⟨ys, n', hn', hy, hlen, hyl, hf⟩ := DataW.trod_struct he ht'
    obtain ⟨_, hcl, hat⟩ := World.cells?_some hc
    refine ⟨n', fun j f hj => ?_⟩
    obtain ⟨ho, hk⟩ := hone_of hone j f hj
    have hjl : j < fs.size := (Array.getElem?_eq_some_iff.1 hj).1
    have hcell := hat j hjl
    have hv : cs'[j]? = some (cs'[j]'(by omega)) := List.getElem?_eq_getElem (by omega)
    have h1 := hf j f hj
    rw [ho, hk] at h1
    have hone' : (cs'.drop j).take 1 = [cs'[j]'(by omega)] := by
      rw [List.drop_eq_getElem_cons (by omega)]
      rfl
    rw [hone'] at h1
    have hys : ys[j]? = some (ys[j]'(by omega)) := List.getElem?_eq_getElem (by omega)
    refine ⟨_, _, ?_, h1.trans hys⟩
    rw [← Go.Deep.add_add, hcell, hv]
/-- a list of bytes, from its reading alone -/
theorem trod_bytes {T E : TypeId} (hT : P.underlying T = some (.slice E)) (hE : P.underlying E = some (.int .u8)) (hc : P.cellsOf E = 1) {v : Value} {fuel : Nat} {x : DataW H × List MemPlace}
    (h : DataW.trod enc P w base spare held fuel T [v] = some x) : ∃ L : List Nat, (∀ n ∈ L, n < 256) ∧ Rd w v (bvs L) := by
  rcases open_ints hT hE hc h with ⟨hcs, _⟩ | ⟨a, l, c, zs, hcs, _, hl, hm, hz, _, hcell, hwz⟩
  · simp only [List.cons.injEq, and_true] at hcs
    subst hcs
    exact ⟨[], by simp, none, 0, rfl, Nat.le_refl _, Nat.zero_le _, .inl ⟨rfl, fun _ => rfl⟩⟩
  · simp only [List.cons.injEq, and_true] at hcs
    subst hcs
    have hz' : l ≤ zs.length := by rw [hz]; split <;> omega
    have hlen : (bvs ((zs.take l).map Int.toNat)).length = l := by simp [bvs]; omega
    refine ⟨(zs.take l).map Int.toNat, ?_, some a, c, by rw [hlen], by rw [hlen]; exact hl, hm, ?_⟩
    · intro n hn
      obtain ⟨z, hz1, rfl⟩ := List.mem_map.1 hn
      obtain ⟨n, hn, rfl⟩ := nat_u8 (hwz z (List.mem_of_mem_take hz1))
      omega
    · by_cases h0 : l = 0
      · left; subst h0; simp [bvs]
      · right
        obtain ⟨b, off, spot⟩ := a
        have hc0 := hcell 0 (by omega)
        have hspot : spot = none := by simpa [Addr.add] using World.cell?_spot hc0
        subst hspot
        refine ⟨b, off, rfl, ?_⟩
        intro j u hu
        have hj : j < l := by
          rcases Nat.lt_or_ge j l with h | h
          · exact h
          · rw [List.getElem?_eq_none (by rw [hlen]; exact h)] at hu; cases hu
        have h5 := hcell j (by omega)
        rw [Addr.add_lit] at h5
        have hjz : j < zs.length := by omega
        obtain ⟨n, hn, hn2⟩ := nat_u8 (hwz zs[j] (List.getElem_mem hjz))
        rw [h5, ← hu]
        simp [bvs, hj, hjz, hn2]
/-- a list of lists of bytes -/
theorem trod_rows {T S E : TypeId} (hT : P.underlying T = some (.slice S)) (hS : P.underlying S = some (.slice E)) (hE : P.underlying E = some (.int .u8)) (hc : P.cellsOf E = 1) (hcS : P.cellsOf S = 1) {v : Value} {fuel : Nat} {x : DataW H × List MemPlace}
    (h : DataW.trod enc P w base spare held fuel T [v] = some x) : ∃ L : List (List Nat), (∀ r ∈ L, ∀ n ∈ r, n < 256) ∧ RdL w v L := by
  rcases open_slice hT h with ⟨hcs, _⟩ | ⟨a, len, cap, m, n, D, Pl, hcs, hb, hl, hm, hmm, hx, hi⟩
  · simp only [List.cons.injEq, and_true] at hcs
    subst hcs
    exact ⟨[], by simp, [], ⟨none, 0, rfl, Nat.le_refl _, Nat.zero_le _, .inl ⟨rfl, fun _ => rfl⟩⟩, rfl, by simp⟩
  · simp only [List.cons.injEq, and_true] at hcs
    subst hcs
    have hlm : len ≤ m := by rw [hmm]; split <;> omega
    have hrow : ∀ i, i < len → ∃ (u : Value) (r : List Nat), w.cell? (a.add i) = some u ∧ (∀ n ∈ r, n < 256) ∧ Rd w u (bvs r) := by
      intro i hil
      obtain ⟨cs', hc', ht'⟩ := hi i (by omega)
      rw [hcS] at hc'
      obtain ⟨_, hcl, hat⟩ := World.cells?_some hc'
      obtain ⟨u, rfl⟩ : ∃ u, cs' = [u] := by
        cases cs' with
        | nil => simp at hcl
        | cons u t => cases t with
          | nil => exact ⟨u, rfl⟩
          | cons _ _ => simp at hcl
      obtain ⟨r, h1, h2⟩ := trod_bytes hS hE hc ht'
      have h3 := hat 0 (by omega)
      rw [Nat.mul_one, Go.Deep.add_add, Nat.add_zero] at h3
      exact ⟨u, r, by simpa using h3, h1, h2⟩
    have : ∀ k, k ≤ len → ∃ (us : List Value) (rs : List (List Nat)), us.length = k ∧ rs.length = k ∧ (∀ r ∈ rs, ∀ n ∈ r, n < 256) ∧ ∀ i, i < k → ∃ u r, us[i]? = some u ∧ rs[i]? = some r ∧ w.cell? (a.add i) = some u ∧ Rd w u (bvs r) := by
      intro k
      induction k with
      | zero => intro _; exact ⟨[], [], rfl, rfl, by simp, fun i h => by omega⟩
      | succ k ih =>
        intro hk
        obtain ⟨us, rs, h1, h2, h3, h4⟩ := ih (by omega)
        obtain ⟨u, r, h5, h6, h7⟩ := hrow k (by omega)
        refine ⟨us ++ [u], rs ++ [r], by simp [h1], by simp [h2], ?_, ?_⟩
        · intro q hq
          rw [List.mem_append] at hq
          rcases hq with hq | hq
          · exact h3 q hq
          · simp only [List.mem_singleton] at hq; subst hq; exact h6
        · intro i hi
          by_cases e : i < k
          · obtain ⟨u', r', k1, k2, k3, k4⟩ := h4 i e
            exact ⟨u', r', by rw [List.getElem?_append_left (by omega)]; exact k1, by rw [List.getElem?_append_left (by omega)]; exact k2, k3, k4⟩
          · obtain rfl : i = k := by omega
            exact ⟨u, r, by rw [List.getElem?_append_right (by omega), h1, Nat.sub_self]; rfl, by rw [List.getElem?_append_right (by omega), h2, Nat.sub_self]; rfl, h5, h7⟩
    obtain ⟨us, rs, h1, h2, h3, h4⟩ := this len (Nat.le_refl _)
    refine ⟨rs, h3, us, ⟨some a, cap, by rw [h1], by rw [h1]; exact hl, hm, ?_⟩, by omega, ?_⟩
    · by_cases h0 : len = 0
      · left
        exact ⟨List.eq_nil_of_length_eq_zero (by omega), fun h => by cases h⟩
      · right
        obtain ⟨b, off, spot⟩ := a
        obtain ⟨u0, r0, _, _, hc0, _⟩ := h4 0 (by omega)
        have hspot : spot = none := by simpa [Addr.add] using World.cell?_spot hc0
        subst hspot
        refine ⟨b, off, rfl, ?_⟩
        intro j u hu
        have hj : j < len := by
          rcases Nat.lt_or_ge j us.length with h | h
          · omega
          · rw [List.getElem?_eq_none h] at hu; cases hu
        obtain ⟨u', r', k1, _, k3, _⟩ := h4 j hj
        rw [k1] at hu
        cases hu
        rw [Addr.add_lit] at k3
        exact k3
    · intro i r hr
      have hil : i < len := by
        rcases Nat.lt_or_ge i rs.length with h | h
        · omega
        · rw [List.getElem?_eq_none h] at hr; cases hr
      obtain ⟨u', r', k1, k2, _, k4⟩ := h4 i hil
      rw [k2] at hr
      cases hr
      exact ⟨u', k1, k4⟩
end
theorem list_of {α : Type} (Q : Nat → α → Prop) : ∀ n, (∀ i, i < n → ∃ x, Q i x) → ∃ L : List α, L.length = n ∧ ∀ i (hi : i < L.length), Q i L[i] := by
  intro n
  induction n with
  | zero => intro _; exact ⟨[], rfl, by intro i hi; simp at hi⟩
  | succ n ih =>
    intro h
    obtain ⟨L, h1, h2⟩ := ih fun i hi => h i (by omega)
    obtain ⟨x, hx⟩ := h n (by omega)
    refine ⟨L ++ [x], by simp [h1], ?_⟩
    intro i hi
    by_cases e : i < n
    · rw [List.getElem_append_left (by omega)]
      exact h2 i (by omega)
    · have : i = n := by simp at hi; omega
      subst this
      rw [List.getElem_append_right (by omega)]
      simpa [h1] using hx
end Go.Proofs.Ytohldijomcljkaa
/- Opening an argument that is a node. -/
namespace Go.Proofs.Ytohldijomcljkaa
open Go.RowKit Go.ChangeShapes Go.WideShapes Go.ChangeAt Go.Deep WireM
set_option linter.unusedVariables false
theorem trod_ints {H : Type} {enc : TypeId × Value → H} {P : Program} {w : World} {base : Nat} {spare : Nat → Bool} {held : Bool} {T E : TypeId} {k : IntKind} (hT : P.underlying T = some (.slice E)) (hE : P.underlying E = some (.int k)) (hc : P.cellsOf E = 1) {v : Value} {fuel : Nat} {x : DataW H × List MemPlace}
    (h : DataW.trod enc P w base spare held fuel T [v] = some x) : ∃ zs : List Int, (∀ n ∈ zs, (Lit.int k n).wf = true) ∧ Rd w v (ivs k zs) := by
  rcases open_ints hT hE hc h with ⟨hcs, _⟩ | ⟨x, l, c, zs, hcs, _, hl, hm, hz, _, hcell, hwz⟩
  · simp only [List.cons.injEq, and_true] at hcs
    subst hcs
    exact ⟨[], by simp, none, 0, rfl, Nat.le_refl _, Nat.zero_le _, .inl ⟨rfl, fun _ => rfl⟩⟩
  · simp only [List.cons.injEq, and_true] at hcs
    subst hcs
    have hz' : l ≤ zs.length := by rw [hz]; split <;> omega
    have hlen : (ivs k (zs.take l)).length = l := by simp [ivs]; omega
    refine ⟨zs.take l, fun n hn => hwz n (List.mem_of_mem_take hn), some x, c, by rw [hlen], by rw [hlen]; exact hl, hm, ?_⟩
    by_cases h0 : l = 0
    · left; subst h0; simp [ivs]
    · right
      obtain ⟨b, off, spot⟩ := x
      have hc0 := hcell 0 (by omega)
      have hspot : spot = none := by simpa [Addr.add] using World.cell?_spot hc0
      subst hspot
      refine ⟨b, off, rfl, ?_⟩
      intro j u hu
      have hj : j < l := by
        rcases Nat.lt_or_ge j l with h | h
        · exact h
        · rw [List.getElem?_eq_none (by rw [hlen]; exact h)] at hu; cases hu
      have := hcell j (by omega)
      rw [Addr.add_lit] at this
      rw [this, ← hu]
      simp [ivs, hj, show j < zs.length from by omega]
theorem c5 : Try.prog.cellsOf 5 = 1 := by kernel_rfl
theorem c22 : Try.prog.cellsOf 29 = 1 := by kernel_rfl
theorem c30 : Try.prog.cellsOf 37 = 1 := by kernel_rfl
theorem c53 : Try.prog.cellsOf 42 = 6 := by kernel_rfl
theorem c55 : Try.prog.cellsOf 44 = 3 := by kernel_rfl
theorem c57 : Try.prog.cellsOf 46 = 10 := by kernel_rfl
set_option maxRecDepth 100000 in
theorem open_node {H : Type} {enc : TypeId × Value → H} {W : World} {v : Value} {d : DataW H} {p : List MemPlace} {base : Nat}
    (ok : Value.okWide Try.prog W .any base 46 v) (h : DataW.Trod enc Try.prog W 0 (fun _ => true) true 46 v d p) : ∃ D : NodeD, ∃ c, v = .agg c ∧ NodeC W D c ∧ NodeOk D := by
  obtain ⟨cs, rfl, hsz⟩ := okWide_struct Try.underlying46 ok
  obtain ⟨fuel, hf⟩ := h
  rw [c57] at hsz
  obtain ⟨cs⟩ := cs
  match cs, hsz with
  | [x0, x1, x2, x3, x4, x5, x6, x7, x8, x9], _ =>
    simp only [Value.cells] at hf
    obtain ⟨y0, y1, y2, n, _, _, t0, t1, t2⟩ := trod_struct3 Try.underlying46 hf
    simp only [c5, c53, c55, List.drop_zero, List.drop_succ_cons, List.take_succ_cons, List.take_zero] at t0 t1 t2
    obtain ⟨k, e0, _, w0⟩ := DataW.trod_int Try.underlying5 t0
    obtain ⟨xs, n1, _, _, _, hlen, hl⟩ := DataW.trod_struct Try.underlying42 t1
    match xs, hlen with
    | [z0, z1, z2, z3, z4, z5], _ =>
      have u0 := hl 0 _ rfl
      have u1 := hl 1 _ rfl
      have u2 := hl 2 _ rfl
      have u3 := hl 3 _ rfl
      have u4 := hl 4 _ rfl
      have u5 := hl 5 _ rfl
      simp only [List.getElem_toArray, List.getElem_cons_zero, List.getElem_cons_succ, c5, c22, List.drop_zero, List.drop_succ_cons, List.take_succ_cons, List.take_zero, List.getElem?_cons_zero, List.getElem?_cons_succ] at u0 u1 u2 u3 u4 u5
      obtain ⟨p0, p1, p2, n2, _, _, s0, s1, s2⟩ := trod_struct3 Try.underlying44 t2
      simp only [c22, c30, List.drop_zero, List.drop_succ_cons, List.take_succ_cons, List.take_zero] at s0 s1 s2
      obtain ⟨L0, h0, r0⟩ := trod_bytes Try.underlying29 Try.underlying5 (by kernel_rfl) u0
      obtain ⟨L1, h1, r1⟩ := trod_bytes Try.underlying29 Try.underlying5 (by kernel_rfl) u1
      obtain ⟨L2, h2, r2⟩ := trod_bytes Try.underlying29 Try.underlying5 (by kernel_rfl) u2
      obtain ⟨sr, e3, _, w3⟩ := DataW.trod_int Try.underlying5 u3
      obtain ⟨L4, h4, r4⟩ := trod_bytes Try.underlying29 Try.underlying5 (by kernel_rfl) u4
      obtain ⟨L5, h5, r5⟩ := trod_bytes Try.underlying29 Try.underlying5 (by kernel_rfl) u5
      obtain ⟨M0, g0, q0⟩ := trod_bytes Try.underlying29 Try.underlying5 (by kernel_rfl) s0
      obtain ⟨M1, g1, q1⟩ := trod_bytes Try.underlying29 Try.underlying5 (by kernel_rfl) s1
      obtain ⟨M2, g2, q2⟩ := trod_ints Try.underlying37 Try.underlying3 (by kernel_rfl) s2
      simp only [List.cons.injEq, and_true] at e0 e3
      subst e0 e3
      obtain ⟨kd, hkd, rfl⟩ := nat_u8 w0
      obtain ⟨src, hsrc, rfl⟩ := nat_u8 w3
      obtain ⟨a0, c0, rfl, -⟩ := id r0
      obtain ⟨a1, c1, rfl, -⟩ := id r1
      obtain ⟨a2, c2, rfl, -⟩ := id r2
      obtain ⟨a4, c4, rfl, -⟩ := id r4
      obtain ⟨a5, c5, rfl, -⟩ := id r5
      obtain ⟨b0, d0, rfl, -⟩ := id q0
      obtain ⟨b1, d1, rfl, -⟩ := id q1
      obtain ⟨b2, d2, rfl, -⟩ := id q2
      have e9 : (ivs .i64 M2).length = M2.length := by simp [ivs]
      simp only [bvs_len, e9] at r0 r1 r2 r4 r5 q0 q1 q2 ⊢
      exact ⟨⟨kd, ⟨L0, L1, L2, src, L4, L5⟩, ⟨M0, M1, M2⟩⟩, _, rfl, ⟨a0, c0, a1, c1, a2, c2, a4, c4, a5, c5, b0, d0, b1, d1, b2, d2, rfl, r0, r1, r2, r4, r5, q0, q1, q2⟩,
        ⟨hkd, hsrc, h0, h1, h2, h4, h5, g0, g1, fun z hz => bd_i64 (g2 z hz)⟩⟩
end Go.Proofs.Ytohldijomcljkaa
/- Opening an argument that is a list of nodes. -/
namespace Go.Proofs.Ytohldijomcljkaa
open Go.RowKit Go.ChangeShapes Go.WideShapes Go.ChangeAt Go.Deep WireM
set_option linter.unusedVariables false
set_option maxRecDepth 100000 in
theorem trod_node {H : Type} {enc : TypeId × Value → H} {W : World} {base : Nat} {spare : Nat → Bool} {held : Bool} {fuel : Nat} {cs : List Value} {y : DataW H × List MemPlace} (hsz : cs.length = 10)
    (hf : DataW.trod enc Try.prog W base spare held fuel 46 cs = some y) : ∃ D : NodeD, NodeC W D cs.toArray ∧ NodeOk D := by
  match cs, hsz with
  | [x0, x1, x2, x3, x4, x5, x6, x7, x8, x9], _ =>
    obtain ⟨y0, y1, y2, n, _, _, t0, t1, t2⟩ := trod_struct3 Try.underlying46 hf
    simp only [c5, c53, c55, List.drop_zero, List.drop_succ_cons, List.take_succ_cons, List.take_zero] at t0 t1 t2
    obtain ⟨k, e0, _, w0⟩ := DataW.trod_int Try.underlying5 t0
    obtain ⟨xs, n1, _, _, _, hlen, hl⟩ := DataW.trod_struct Try.underlying42 t1
    match xs, hlen with
    | [z0, z1, z2, z3, z4, z5], _ =>
      have u0 := hl 0 _ rfl
      have u1 := hl 1 _ rfl
      have u2 := hl 2 _ rfl
      have u3 := hl 3 _ rfl
      have u4 := hl 4 _ rfl
      have u5 := hl 5 _ rfl
      simp only [List.getElem_toArray, List.getElem_cons_zero, List.getElem_cons_succ, c5, c22, List.drop_zero, List.drop_succ_cons, List.take_succ_cons, List.take_zero, List.getElem?_cons_zero, List.getElem?_cons_succ] at u0 u1 u2 u3 u4 u5
      obtain ⟨p0, p1, p2, n2, _, _, s0, s1, s2⟩ := trod_struct3 Try.underlying44 t2
      simp only [c22, c30, List.drop_zero, List.drop_succ_cons, List.take_succ_cons, List.take_zero] at s0 s1 s2
      obtain ⟨L0, h0, r0⟩ := trod_bytes Try.underlying29 Try.underlying5 (by kernel_rfl) u0
      obtain ⟨L1, h1, r1⟩ := trod_bytes Try.underlying29 Try.underlying5 (by kernel_rfl) u1
      obtain ⟨L2, h2, r2⟩ := trod_bytes Try.underlying29 Try.underlying5 (by kernel_rfl) u2
      obtain ⟨sr, e3, _, w3⟩ := DataW.trod_int Try.underlying5 u3
      obtain ⟨L4, h4, r4⟩ := trod_bytes Try.underlying29 Try.underlying5 (by kernel_rfl) u4
      obtain ⟨L5, h5, r5⟩ := trod_bytes Try.underlying29 Try.underlying5 (by kernel_rfl) u5
      obtain ⟨M0, g0, q0⟩ := trod_bytes Try.underlying29 Try.underlying5 (by kernel_rfl) s0
      obtain ⟨M1, g1, q1⟩ := trod_bytes Try.underlying29 Try.underlying5 (by kernel_rfl) s1
      obtain ⟨M2, g2, q2⟩ := trod_ints Try.underlying37 Try.underlying3 (by kernel_rfl) s2
      simp only [List.cons.injEq, and_true] at e0 e3
      subst e0 e3
      obtain ⟨kd, hkd, rfl⟩ := nat_u8 w0
      obtain ⟨src, hsrc, rfl⟩ := nat_u8 w3
      obtain ⟨a0, c0, rfl, -⟩ := id r0
      obtain ⟨a1, c1, rfl, -⟩ := id r1
      obtain ⟨a2, c2, rfl, -⟩ := id r2
      obtain ⟨a4, c4, rfl, -⟩ := id r4
      obtain ⟨a5, c5, rfl, -⟩ := id r5
      obtain ⟨b0, d0, rfl, -⟩ := id q0
      obtain ⟨b1, d1, rfl, -⟩ := id q1
      obtain ⟨b2, d2, rfl, -⟩ := id q2
      have e9 : (ivs .i64 M2).length = M2.length := by simp [ivs]
      simp only [bvs_len, e9] at r0 r1 r2 r4 r5 q0 q1 q2 ⊢
      exact ⟨⟨kd, ⟨L0, L1, L2, src, L4, L5⟩, ⟨M0, M1, M2⟩⟩, ⟨a0, c0, a1, c1, a2, c2, a4, c4, a5, c5, b0, d0, b1, d1, b2, d2, rfl, r0, r1, r2, r4, r5, q0, q1, q2⟩,
        ⟨hkd, hsrc, h0, h1, h2, h4, h5, g0, g1, fun z hz => bd_i64 (g2 z hz)⟩⟩

set_option maxRecDepth 100000 in
theorem open_nodes {H : Type} {enc : TypeId × Value → H} {W : World} {v : Value} {d : DataW H} {p : List MemPlace} {base : Nat}
    (ok : Value.okWide Try.prog W .any base 22 v) (h : DataW.Trod enc Try.prog W 0 (fun _ => true) true 22 v d p) : ∃ t : List NodeD, TreeR W v t ∧ TreeOk t := by
  obtain ⟨a0, len0, cap0, rfl⟩ := okWide_slice Try.underlying22 ok
  obtain ⟨fuel, hf⟩ := h
  rcases open_slice Try.underlying22 hf with ⟨hcs, _⟩ | ⟨a, len, cap, m, n, D, Pl, hcs, hb, hl, hm, hmm, hx, hi⟩
  · simp [Value.cells] at hcs
    obtain ⟨rfl, rfl, rfl⟩ := hcs
    exact ⟨[], TreeR.nil _, fun d hd => by cases hd⟩
  · simp [Value.cells] at hcs
    obtain ⟨rfl, rfl, rfl⟩ := hcs
    have hlm : len0 ≤ m := by rw [hmm]; split <;> omega
    have key : ∀ i, i < len0 → ∃ D : NodeD, NodeOk D ∧ ∃ b off c, some a = some ⟨b, off, none⟩ ∧ b < W.heap.size ∧ NodeC W D c ∧ W.rangeAt b (off + i * 10) c.toList := by
      intro i hil
      obtain ⟨cs', hc', ht'⟩ := hi i (by omega)
      rw [c57] at hc'
      obtain ⟨_, hcl, hat⟩ := World.cells?_some hc'
      obtain ⟨D, hD, hok⟩ := trod_node hcl ht'
      obtain ⟨b, off, spot⟩ := a
      have hz := hat 0 (by omega)
      have h0 : cs'[0]? = some (cs'[0]'(by omega)) := List.getElem?_eq_getElem (by omega)
      rw [h0] at hz
      have hspot : spot = none := by
        obtain ⟨cs0, hc0, _⟩ := hi 0 (by omega)
        rw [c57] at hc0
        obtain ⟨_, hcl0, hat0⟩ := World.cells?_some hc0
        have hz0 := hat0 0 (by omega)
        rw [List.getElem?_eq_getElem (show 0 < cs0.length by omega)] at hz0
        simpa [Addr.add] using World.cell?_spot hz0
      subst hspot
      refine ⟨D, hok, b, off, cs'.toArray, rfl, ?_, hD, ?_⟩
      · rw [Addr.add_lit, Addr.add_lit] at hz
        exact World.block_lt_of_cell? W _ hz
      · intro j u hu
        have hj : j < 10 := by
          rcases Nat.lt_or_ge j cs'.length with h | h
          · omega
          · rw [List.getElem?_eq_none h] at hu; cases hu
        have := hat j hj
        rw [Addr.add_lit, Addr.add_lit] at this
        rw [this]; exact hu
    obtain ⟨ds, h1, h2⟩ := list_of _ len0 key
    have hnd : ∀ i (hi : i < ds.length), nd ds i = ds[i] := fun i hi => by rw [nd, List.getD_eq_getElem?_getD, List.getElem?_eq_getElem hi]; rfl
    refine ⟨ds, ⟨some a, cap0, by rw [h1], by omega, hm, ?_⟩, ?_⟩
    · intro i hi
      rw [hnd i hi]
      exact (h2 i hi).2
    · intro x hx
      obtain ⟨i, hi, rfl⟩ := List.getElem_of_mem hx
      exact (h2 i hi).1
end Go.Proofs.Ytohldijomcljkaa
