/- Walks: tree.Add, on the tree of one member. -/
import Derived.Test.YtngealmhgkoaiaaGreatZTreeBytes25
import Derived.Test.YtngealmhgkoaiaaGreatZTreeBytes37
import Derived.Test.YtngealmhgkoaiaaGreatZTreeBytes32
import Derived.Test.YtngealmhgkoaiaaGreatZTreeBytes20
import Derived.Test.YtngealmhgkoaiaaGreatZTreeBytes26
import Derived.Test.YtngealmhgkoaiaaGreatZTreeBytes04
namespace Go.Proofs.YtngealmhgkoaiaaGreat
open Go.RowKit WalkM WireM
set_option linter.unusedVariables false
theorem one_small : smallT [oneD] = true := by decide
theorem one_ok : TreeOk [oneD] := by
  intro d hd
  rw [List.mem_singleton] at hd
  subst hd
  constructor <;> simp [oneD, noParD]
theorem one_right : rightT [oneD] = true := by decide +kernel
def zeroN : Value := .agg #[.int .u8 0, .slice none 0 0, .slice none 0 0, .slice none 0 0, .int .u8 0, .slice none 0 0, .slice none 0 0, .slice none 0 0, .slice none 0 0, .slice none 0 0]
theorem zeros_one : ∀ u ∈ (Builtin.zeroCells zeroN.cells 2).toList, u.oneCell' = true := by decide +kernel
theorem zeros_len : (Builtin.zeroCells zeroN.cells 2).toList.length = 20 := by decide +kernel
theorem zeros_kind : (Builtin.zeroCells zeroN.cells 2).toList[0]? = some (.int .u8 0) := by kernel_rfl
set_option maxRecDepth 100000 in
set_option maxHeartbeats 8000000 in
theorem add_one (v : Value) (c : Array Value) (l : LeafD) (w : World) (h : TreeR w v [oneD]) (hl : LeafC w l c) (hls : SmallL l) (hsrc : l.source < 256) (hlok : leafOkB l = true) :
    Calls Tryz.prog 64 #[v, .agg c] w fun e w' => ∃ g cap, e = .returned (.tuple #[.slice (some ⟨g, 0, none⟩) 3 cap, .int .i64 1, .int .u8 0]) ∧ w'.cell? ⟨g, 20, none⟩ = some (.int .u8 1) ∧ Below w.heap.size w w' := by
  have TR := fun (W : World) (hw : Below w.heap.size w W) => tright_any v [oneD] W (h.below hw (Nat.le_refl _)) one_small one_ok
  rw [one_right] at TR
  have RL := fun (W : World) (hw : Below w.heap.size w W) => rightLeafT_any l c W (hl.below hw (Nat.le_refl _)) hls hsrc
  rw [hlok] at RL
  have HD := fun (W : World) (hw : Below w.heap.size w W) => held_any l c W (hl.below hw (Nat.le_refl _)) hls
  have CP := fun (W : World) (hw : Below w.heap.size w W) => treeCopy_any v [oneD] W (h.below hw (Nat.le_refl _)) one_small
  have PA := fun (W : World) => path_any 2 1 (by omega) (by omega) W
  rw [lev_even (by omega) (by omega)] at PA
  obtain ⟨a1, c1, a2, c2, a3, c3, a4, c4, a5, c5, rfl, -⟩ := hl
  obtain ⟨l1, hl1⟩ : ∃ x, x = l.box.length := ⟨_, rfl⟩
  obtain ⟨l2, hl2⟩ : ∃ x, x = l.sign.length := ⟨_, rfl⟩
  obtain ⟨l3, hl3⟩ : ∃ x, x = l.ident.length := ⟨_, rfl⟩
  obtain ⟨l4, hl4⟩ : ∃ x, x = l.par.length := ⟨_, rfl⟩
  obtain ⟨l5, hl5⟩ : ∃ x, x = l.sig.length := ⟨_, rfl⟩
  obtain ⟨s, hsr⟩ : ∃ s, s = l.source := ⟨_, rfl⟩
  rw [← hl1, ← hl2, ← hl3, ← hl4, ← hl5, ← hsr] at RL HD ⊢
  obtain ⟨ta, n0, rfl, hc, hc2⟩ := h.sl
  have LV := fun (W : World) => tleaves_any ta 1 n0 W (by omega)
  rw [leavesN_pow (d := 0) (n := 1) (by omega) (by omega)] at LV
  obtain ⟨b, off, lb, e1, rfl, hbl, ck, -, -⟩ := h.at (i := 0) (show 0 < [oneD].length by decide)
  have hk1 : (nd [oneD] 0).kind = 1 := rfl
  rw [hk1, Nat.zero_mul, Nat.add_zero] at ck
  simp only [List.length_cons, List.length_nil, Nat.zero_add] at TR RL HD CP hc ⊢
  have HCK := Lib.hid ck
  have HTR := Lib.hid TR
  have HRL := Lib.hid RL
  have HHD := Lib.hid HD
  have HCP := Lib.hid CP
  have HPA := Lib.hid PA
  have HLV := Lib.hid LV
  clear TR RL HD CP PA LV ck hk1 h hls hsrc hlok hl1 hl2 hl3 hl4 hl5 hsr
  go_enter Tryz.func64, Tryz.ntmps64
  go_wp2_with fail
  have HBK0 := Lib.hid (Blk.new w 49 #[.slice a1 l1 c1, .slice a2 l2 c2, .slice a3 l3 c3, .int .u8 (s : Nat), .slice a4 l4 c4, .slice a5 l5 c5])
  have HB0 := Lib.hid ((Below.refl w.heap.size w).alloc (Nat.le_refl _) (.cells #[.slice a1 l1 c1, .slice a2 l2 c2, .slice a3 l3 c3, .int .u8 (s : Nat), .slice a4 l4 c4, .slice a5 l5 c5] 49))
  generalize hw0 : w.alloc (.cells #[.slice a1 l1 c1, .slice a2 l2 c2, .slice a3 l3 c3, .int .u8 (s : Nat), .slice a4 l4 c4, .slice a5 l5 c5] 49) = w0 at HBK0 HB0 ⊢
  clear hw0
  refine (HTR.out w0 HB0.out).mono ?_
  rintro e w1 ⟨rfl, hb⟩
  have HB1 := Lib.hid (HB0.out.trans (hb.mono HB0.out.size))
  have HBK1 := Lib.hid (HBK0.out.below hb HBK0.out.lt)
  clear hb
  go_wp2_with (refine wpList_load_at rfl 49 (.tmp 3) rfl w.heap.size rfl 49 #[.slice a1 l1 c1, .slice a2 l2 c2, .slice a3 l3 c3, .int .u8 (s : Nat), .slice a4 l4 c4, .slice a5 l5 c5] (0, 0) _ HBK1.out Tryz.underlying49 rfl (by kernel_rfl) ?_)
  refine (HRL.out w1 HB1.out).mono ?_
  rintro e w2 ⟨rfl, hb⟩
  have HB2 := Lib.hid (HB1.out.trans (hb.mono HB1.out.size))
  have HBK2 := Lib.hid (HBK1.out.below hb HBK1.out.lt)
  clear hb
  go_wp2_with fail
  refine (HLV.out w2).mono ?_
  rintro e w' ⟨rfl, rfl⟩
  have ck2 := (HB2.out.cell (p := ⟨b, off, none⟩) hbl).trans HCK.out
  go_wp2_with fail
  go_loopg [8] 1 (fun q iv wr => wr = w' ∧ ((q = 1 ∧ iv = .int .i64 0) ∨ (q = 0 ∧ iv = .int .i64 1)))
  case atStart => exact ⟨rfl, .inl ⟨rfl, rfl⟩⟩
  case round =>
    obtain ⟨rfl, ⟨rfl, rfl⟩ | ⟨rfl, rfl⟩⟩ := hrel
    · go_wp2_with fail
      go_roundg 0
      case measure => omega
      case rel => exact ⟨rfl, .inr ⟨rfl, by go_num⟩⟩
    · go_wp2_with fail
      refine (HCP.out wr HB2.out).mono ?_
      rintro e w3 ⟨v3, rfl, ⟨xs, hown, hno⟩, hb⟩
      have hown : OwnK w3 wr.heap.size 54 10 v3 1 xs := hown
      have HB3 := Lib.hid (HB2.out.trans (hb.mono HB2.out.size))
      have HBK3 := HBK2.out.below hb HBK2.out.lt
      have hlA : w.heap.size < wr.heap.size := HBK2.out.lt
      have hxl := hown.len
      obtain ⟨g, cap, rfl, hgB, hglt, hn1, hm1, -, -⟩ := hown.out (by omega)
      obtain ⟨v4, w4, hrun, hown4, hg4⟩ := run_app_zerosK 22 3 22 54 zeroN 10 208 treesE .i64 Tryz.underlying3 _ 1 xs hown (by omega) 2 (by omega) zeros_one (by omega) hb.size
      have hrun : (Builtin.append_ #[22, 3] 22 #[.slice (some ⟨g, 0, none⟩) 1 cap, .int .i64 2]).run Tryz.prog w3 = .ok v4 w4 := hrun
      have hb4 : Below w.heap.size w w4 := HB3.out.grown hg4 HB3.out.size (fun k hk => by simp only [Value.ownBlock, Option.some.injEq] at hk; omega)
      have hbk4 : Blk w4 w.heap.size 49 #[.slice a1 l1 c1, .slice a2 l2 c2, .slice a3 l3 c3, .int .u8 (s : Nat), .slice a4 l4 c4, .slice a5 l5 c5] := (hg4.block w.heap.size HBK3.lt (by simp only [Value.ownBlock, ne_eq, Option.some.injEq]; omega)).trans HBK3
      have hsz4 : w3.heap.size ≤ w4.heap.size := hg4.size
      obtain ⟨g4, cap4, rfl, hgB4, hglt4, hn4, hm4, -, -⟩ := hown4.out (by omega)
      have hcap4 : cap4 ≤ 9223372036854775807 := by unfold maxLen at hm4; exact hm4
      have HB4 := Lib.hid hb4
      have HBK4 := Lib.hid hbk4
      have HO4 := Lib.hid hown4
      have HXL := Lib.hid hxl
      clear hown hno hown4 hg4 hb4 hbk4 HBK3 hm4 hxl hb
      have HRUN := Lib.hid hrun
      clear hrun
      go_wp2_with (first | (at_builtin; refine wpList_app_run rfl (.tmp 46) (.tmp 52) 22 3 rfl _ _ rfl rfl _ _ HRUN.out ?_) | (refine wpList_load_at rfl 49 (.tmp 3) rfl w.heap.size rfl 49 #[.slice a1 l1 c1, .slice a2 l2 c2, .slice a3 l3 c3, .int .u8 (s : Nat), .slice a4 l4 c4, .slice a5 l5 c5] (0, 0) _ HBK4.out Tryz.underlying49 rfl (by kernel_rfl) ?_))
      refine (HHD.out w4 HB4.out).mono ?_
      rintro e w5 ⟨c', rfl, hno5, hb5⟩
      have HB5 := Lib.hid (HB4.out.trans (hb5.mono HB4.out.size))
      have hown5 := HO4.out.below hb5 (Nat.le_refl _)
      obtain ⟨hcz, hco⟩ := hno5.ones
      have hck : c'.toList[0]? = some (.int .u8 1) := by obtain ⟨x0, x1, x2, x3, x4, u0, u1, u2, e, _⟩ := hno5; rw [e]; rfl
      obtain ⟨cur, hcb, hcB, hcl, hcs⟩ := OwnK.blk hown5
      have HTH := Lib.hid (show w5.there g4 20 c'.size by rw [hcz]; exact hcb.there 20 10 (by omega))
      have HI := Lib.hid (show (Tryz.prog.info? 54).map (·.size) = some c'.size by rw [hcz]; exact node_info)
      have HONE := Lib.hid (show c'.all (·.oneCell') = true by rw [← Array.all_toList]; exact hco)
      have hzl := zeros_len
      have hzk := zeros_kind
      have hown9 := OwnK.put c'.toList 20 hown5
      have hb9 : Below w.heap.size w (w5.setCells g4 20 c'.toList) := HB5.out.grown (grownBy_setCells c'.toList 20) HB5.out.size (fun k hk => by simp only [Option.some.injEq] at hk; omega)
      have hcells : (w5.setCells g4 20 c'.toList).cell? ⟨g4, 10, none⟩ = some (.int .u8 0) ∧ (w5.setCells g4 20 c'.toList).cell? ⟨g4, 20, none⟩ = some (.int .u8 1) := by
        have hcz' : c'.toList.length = 10 := by simpa using hcz
        have hx := HXL.out
        have hlen : (xs ++ (Builtin.zeroCells zeroN.cells 2).toList).length = 30 := by rw [List.length_append, hzl]; omega
        constructor
        · rw [World.ownsRow.cellAt hown9 10 (by omega), putL_get _ _ _ (by omega), if_neg (by omega), List.getElem?_append_right (by omega), show 10 - xs.length = 0 by omega]
          exact hzk
        · rw [World.ownsRow.cellAt hown9 20 (by omega), putL_get _ _ _ (by omega), if_pos (by omega), Nat.sub_self]
          exact hck
      obtain ⟨w9, hw9⟩ : ∃ w9, w9 = w5.setCells g4 20 c'.toList := ⟨_, rfl⟩
      rw [← hw9] at hb9 hcells
      have HB9 := Lib.hid hb9
      have HC9 := Lib.hid hcells
      have HW9 := Lib.hid hw9
      clear hno5 hb5 hown5 hown9 hcz hco hck hcb hcs hzl hzk hb9 hcells hw9
      go_wp2_with (refine wpList_store_mid rfl 54 (.tmp 59) (.tmp 58) rfl g4 20 c' rfl rfl HTH.out HI.out HONE.out ?_; rw [← HW9.out])
      refine (HPA.out w9).mono ?_
      rintro e w6 ⟨vp, rfl, hownp, hbp⟩
      have HB6 := Lib.hid (HB9.out.trans (hbp.mono HB9.out.size))
      have hg9 : g4 < w9.heap.size := World.block_lt_of_cell? w9 ⟨g4, 20, none⟩ HC9.out.2
      have ck10 := (hbp.cell (p := ⟨g4, 10, none⟩) hg9).trans HC9.out.1
      have HC20 := Lib.hid ((hbp.cell (p := ⟨g4, 20, none⟩) hg9).trans HC9.out.2)
      have hups : nvs (ups 2 0 (1 - 0)) = [.int .i64 1] := by rfl
      rw [hups] at hownp
      obtain ⟨ap, cp, rfl⟩ : ∃ a c, vp = .slice a 1 c := by obtain ⟨a, c, e, _⟩ := hownp.rd; exact ⟨a, c, e⟩
      obtain ⟨bp, op, rfl, hbp2, cu⟩ := hownp.rd.at3 (u := .int .i64 1) (r := 0) rfl
      rw [Nat.add_zero] at cu
      clear hownp hbp hups
      go_wp2_with fail
      go_loopg [65] 1 (fun q iv wz => wz = w6 ∧ ((q = 1 ∧ iv = .int .i64 0) ∨ (q = 0 ∧ iv = .int .i64 1)))
      case atStart => exact ⟨rfl, .inl ⟨rfl, rfl⟩⟩
      case round =>
        obtain ⟨rfl, ⟨rfl, rfl⟩ | ⟨rfl, rfl⟩⟩ := hrel
        · go_wp2_with fail
          go_roundg 0
          case measure => omega
          case rel => exact ⟨rfl, .inr ⟨rfl, by go_num⟩⟩
        · go_wp2_with fail
          go_ret3
          exact ⟨_, _, rfl, HC20.out, HB6.out⟩
end Go.Proofs.YtngealmhgkoaiaaGreat
/- Walks: the law's alive of layer 17. -/
namespace Go.Proofs.YtngealmhgkoaiaaGreat
open Go.RowKit WalkM WireM
set_option linter.unusedVariables false
theorem none_right : rightT [] = false := by decide +kernel
theorem one_members : memL [oneD] [oneD].length = [0] := by decide +kernel
theorem one_filtered : filN [oneD] (2 * 0) 0 0 = [] := by decide +kernel
theorem one_leaf_ok : leafOkB oneD.leaf = true := by decide +kernel
theorem one_leaf_small : SmallL oneD.leaf := by refine ⟨?_, ?_, ?_, ?_, ?_⟩ <;> decide
/-- the leaf of a node, as cells -/
theorem NodeC.leaf {w : World} {d : NodeD} {c : Array Value} (h : NodeC w d c) : ∃ c6 : Array Value, LeafC w d.leaf c6 ∧ c6.size = 6 ∧ ∀ j u, c6.toList[j]? = some u → c.toList[j + 1]? = some u := by
  obtain ⟨a1, c1, a2, c2, a3, c3, a4, c4, a5, c5, b1, e1, b2, e2, b3, e3, rfl, h1, h2, h3, h4, h5, h6, h7, h8⟩ := h
  refine ⟨_, ⟨a1, c1, a2, c2, a3, c3, a4, c4, a5, c5, rfl, h1, h2, h3, h4, h5⟩, rfl, ?_⟩
  intro j u hu
  match j, hu with
  | 0, hu => exact hu
  | 1, hu => exact hu
  | 2, hu => exact hu
  | 3, hu => exact hu
  | 4, hu => exact hu
  | 5, hu => exact hu
  | j + 6, hu => simp at hu
set_option maxRecDepth 100000 in
set_option maxHeartbeats 8000000 in
theorem alive17 (w : World) : Calls Tryz.prog 15 #[] w fun e w' => e = .returned (.bool true) ∧ Below w.heap.size w w' := by
  have HONE := Lib.hid (one_any w)
  go_enter Tryz.func15, Tryz.ntmps15
  go_wp2_with fail
  refine (HONE.out).mono ?_
  rintro e w1 ⟨vt, rfl, ht, hb⟩
  have HB1 := Lib.hid hb
  have HT := Lib.hid (fun (W : World) (hw : Below w1.heap.size w1 W) => (show TreeR W vt [oneD] from ht.below hw (Nat.le_refl _)))
  obtain ⟨ta, n0, rfl, hc, hc2⟩ := ht.sl
  obtain ⟨b, off, cs, rfl, hbl, hnc, hra⟩ := ht.node (i := 0) (show 0 < [oneD].length by decide)
  obtain ⟨c6, hlc, hc6, hsub⟩ := hnc.leaf
  have HR6 := Lib.hid (show w1.rangeAt b (off + 1) c6.toList from by
    intro j u hu
    have := hra (j + 1) u (hsub j u hu)
    rw [show off + 0 * 10 + (j + 1) = off + 1 + j by omega] at this
    exact this)
  have HI6 := Lib.hid (show (Tryz.prog.info? 49).map (·.size) = some c6.toList.length by rw [Array.length_toList, hc6]; kernel_rfl)
  have HAD := Lib.hid (add_one _ c6 oneD.leaf w1 ht hlc one_leaf_small (by decide) one_leaf_ok)
  have HME := Lib.hid (fun (W : World) (hw : Below w1.heap.size w1 W) => (show Calls Tryz.prog 65 #[.slice (some ⟨b, off, none⟩) [oneD].length n0] W fun e w' => ∃ v', e = .returned v' ∧ Own w' W.heap.size 3 v' (ivs .i64 [0]) ∧ Below W.heap.size W w' from by
    have := tmembers_yes _ [oneD] W (HT.out W hw) one_small one_ok one_right
    rw [one_members] at this
    exact this))
  have HFI := Lib.hid (fun (W : World) (hw : Below w1.heap.size w1 W) => (show Calls Tryz.prog 66 #[.slice (some ⟨b, off, none⟩) [oneD].length n0, .int .i64 0] W fun e w' => ∃ v', e = .returned v' ∧ Own w' W.heap.size 3 v' (ivs .i64 []) ∧ Below W.heap.size W w' from by
    have := tfiltered_any _ [oneD] 0 0 W (HT.out W hw) one_small one_ok one_right (by omega) (by decide) (by decide)
    rw [one_filtered] at this
    exact this))
  have HRN := Lib.hid (fun (W : World) => (show Calls Tryz.prog 67 #[.slice none 0 0] W fun e w' => e = .returned (.bool false) ∧ Below W.heap.size W w' from by
    have := tright_any (.slice none 0 0) [] W (TreeR.nil W) (by decide) (fun d hd => by cases hd)
    rw [none_right] at this
    exact this))
  simp only [List.length_cons, List.length_nil, Nat.zero_add] at HAD HME HFI hc ⊢
  clear hb ht hnc hra hlc hsub
  go_wp2_with (refine wpList_load_mid rfl 49 (.tmp 10) rfl b (off + 1) rfl c6.toList _ HR6.out Tryz.underlying49 rfl HI6.out ?_)
  refine (HAD.out).mono ?_
  rintro e w2 ⟨g, cap, rfl, hc20, hb⟩
  have HB12 := Lib.hid hb
  have HB2 := Lib.hid (HB1.out.trans (hb.mono HB1.out.size))
  have hg2 : g < w2.heap.size := World.block_lt_of_cell? w2 ⟨g, 20, none⟩ hc20
  have HC20 := Lib.hid hc20
  clear hb hc20
  go_wp2_with fail
  refine (HME.out w2 HB12.out).mono ?_
  rintro e w3 ⟨vm, rfl, hown, hb⟩
  have HB13 := Lib.hid (HB12.out.trans (hb.mono HB12.out.size))
  have HB23 := Lib.hid hb
  have HB3 := Lib.hid (HB2.out.trans (hb.mono HB2.out.size))
  have HM := Lib.hid hown.rd
  obtain ⟨m1, m3, rfl⟩ : ∃ a c, vm = .slice a 1 c := by obtain ⟨a, c, e, _⟩ := hown.rd; exact ⟨a, c, e⟩
  clear hown hb
  go_wp2_with fail
  have HS := Lib.hid (sameI_any _ _ [0] [0] (w3.alloc (.cells #[.int .i64 0] 3)) ((HM.out).alloc _) (Own.full (w := w3) (B := w3.heap.size) (e := 3) (cs := #[.int .i64 0]) rfl (Nat.le_refl _) (by unfold maxLen; simp) rfl).rd)
  rw [show decide (([0] : List Int) = [0]) = true from rfl] at HS
  refine (HS.out).mono ?_
  rintro e w4 ⟨rfl, n4, rfl⟩
  have hb34 := below_drewN' ((Below.refl w3.heap.size w3).alloc (Nat.le_refl _) (.cells #[.int .i64 0] 3)) n4
  have HB14 := Lib.hid (HB13.out.trans (hb34.mono HB13.out.size))
  have HB24 := Lib.hid (HB23.out.trans (hb34.mono HB23.out.size))
  have HB4 := Lib.hid (HB3.out.trans (hb34.mono HB3.out.size))
  generalize hw4 : (w3.alloc (.cells #[.int .i64 0] 3)).drewN n4 = w4 at HB14 HB24 HB4 ⊢
  clear hw4 hb34
  go_wp2_with fail
  refine (HFI.out w4 HB14.out).mono ?_
  rintro e w5 ⟨vf, rfl, hown, hb⟩
  have HB25 := Lib.hid (HB24.out.trans (hb.mono HB24.out.size))
  have HB5 := Lib.hid (HB4.out.trans (hb.mono HB4.out.size))
  obtain ⟨f1, f3, rfl⟩ : ∃ a c, vf = .slice a 0 c := by obtain ⟨a, c, e, _⟩ := hown.rd; exact ⟨a, c, e⟩
  clear hown hb
  have ck20 := (HB25.out.cell (p := ⟨g, 20, none⟩) hg2).trans HC20.out
  go_wp2_with fail
  refine (HRN.out w5).mono ?_
  rintro e w6 ⟨rfl, hb⟩
  have HB6 := Lib.hid (HB5.out.trans (hb.mono HB5.out.size))
  clear hb
  go_wp2_with fail
  go_ret
  exact ⟨rfl, HB6.out⟩
end Go.Proofs.YtngealmhgkoaiaaGreat
