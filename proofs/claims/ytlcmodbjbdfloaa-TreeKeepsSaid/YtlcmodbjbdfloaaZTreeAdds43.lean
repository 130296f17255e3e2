/- Walks: tree.member, tree.Leaf. -/
import Derived.Test.YtlcmodbjbdfloaaZTreeAdds20
import Derived.Test.YtlcmodbjbdfloaaZTreeAdds23
namespace Go.Proofs.Ytlcmodbjbdfloaa
open Go.RowKit WalkM WireM
set_option linter.unusedVariables false
theorem field_leaf (x0 x1 x2 x3 x4 x5 x6 x7 x8 x9 : Value) (w : World) : (Instr.field 45 (.agg #[x0, x1, x2, x3, x4, x5, x6, x7, x8, x9]) 1).run Try.prog w = .ok (.agg #[x1, x2, x3, x4, x5, x6]) w := by kernel_rfl
/-- own slices stay when only an older block is changed -/
theorem leaf_of {w' w2 W : World} {d : LeafD} {x0 x1 x2 x3 x4 : Value} {g : Nat} (h0 : Own w2 w'.heap.size 5 x0 (bvs d.box)) (h1 : Own w2 w'.heap.size 5 x1 (bvs d.sign)) (h2 : Own w2 w'.heap.size 5 x2 (bvs d.ident)) (h3 : Own w2 w'.heap.size 5 x3 (bvs d.par)) (h4 : Own w2 w'.heap.size 5 x4 (bvs d.sig))
    (hg : g < w'.heap.size) (hoth : ∀ j, j ≠ g → W.heap[j]? = w2.heap[j]?) : LeafC W d #[x0, x1, x2, .int .u8 (d.source : Nat), x3, x4] := by
  have key : ∀ {v : Value} {xs : List Value}, Own w2 w'.heap.size 5 v xs → Own W w'.heap.size 5 v xs := by
    intro v xs hu
    obtain ⟨q1, q2 | ⟨g', cp, cur, rfl, hg', hh, rest⟩⟩ := hu
    · exact ⟨q1, .inl q2⟩
    · exact ⟨q1, .inr ⟨g', cp, cur, rfl, hg', by rw [hoth g' (by omega)]; exact hh, rest⟩⟩
  have e : ∀ {v : Value} {b : List Nat}, Own W w'.heap.size 5 v (bvs b) → ∃ a c, v = .slice a b.length c := by
    intro v b hu
    obtain ⟨a, c, e, _⟩ := hu.rd
    rw [bvs_len] at e
    exact ⟨a, c, e⟩
  have k0 := key h0
  have k1 := key h1
  have k2 := key h2
  have k3 := key h3
  have k4 := key h4
  obtain ⟨a0, c0, rfl⟩ := e k0
  obtain ⟨a1, c1, rfl⟩ := e k1
  obtain ⟨a2, c2, rfl⟩ := e k2
  obtain ⟨a3, c3, rfl⟩ := e k3
  obtain ⟨a4, c4, rfl⟩ := e k4
  exact ⟨a0, c0, a1, c1, a2, c2, a3, c3, a4, c4, rfl, k0.rd, k1.rd, k2.rd, k3.rd, k4.rd⟩
theorem right_half {t : List NodeD} (hr : rightT t = true) : ∃ h : Nat, t.length = 2 * h + 1 ∧ leavesN t.length = h + 1 := by
  rw [rightT, Bool.and_eq_true] at hr
  obtain ⟨d, hd, hN, hlen⟩ := leavesN_pos (of_decide_eq_true hr.1)
  have : 0 < 2 ^ d := Nat.pos_of_ne_zero (by simp)
  exact ⟨2 ^ d - 1, by omega, by omega⟩
set_option maxRecDepth 100000 in
set_option maxHeartbeats 4000000 in
theorem member_any (v : Value) (t : List NodeD) (hh : Nat) (i : Int) (w : World) (h : TreeR w v t) (hok : TreeOk t) (hlen : t.length = 2 * hh + 1) (hN : leavesN t.length = hh + 1) (hl : hh ≤ 1000) (hib : -9223372036854775808 ≤ i ∧ i ≤ 9223372036854775807) :
    Calls Try.prog 44 #[v, .int .i64 i] w fun e w' => e = .returned (.bool (decide (i ∈ rmemL t (hh + 1)))) ∧ w' = w := by
  obtain ⟨ta, c, rfl, hc, hc2⟩ := h.sl
  have LV := fun (W : World) => tleaves_any ta t.length c W (by omega)
  rw [hN] at LV
  by_cases h0 : i < 0
  · rw [decide_eq_false (mem_neg t (hh + 1) h0)]
    have h0' : decide (i ≥ 0) = false := decide_eq_false (by omega)
    obtain ⟨n, hn⟩ : ∃ n, n = t.length := ⟨_, rfl⟩
    rw [← hn]
    clear LV h hok hlen hN hl hc hn
    go_enter Try.func44, Try.ntmps44
    go_wp2_with fail
    go_ret
    exact ⟨rfl, rfl⟩
  · obtain ⟨m, rfl⟩ : ∃ m : Nat, i = (m : Int) := ⟨i.toNat, by omega⟩
    by_cases hm : m < hh + 1
    · obtain ⟨b, off, l1, e1, rfl, hbl, ck, -, -⟩ := h.at (i := 2 * m) (by omega)
      have hkd0 := (hok.nd (2 * m)).kind
      have hiff := mem_iff t (hh + 1) m
      obtain ⟨kd, hkd⟩ : ∃ k, k = (nd t (2 * m)).kind := ⟨_, rfl⟩
      rw [← hkd] at ck hkd0 hiff
      have e : decide (((m : Nat) : Int) ∈ rmemL t (hh + 1)) = ((kd : Int) == 1) := by
        by_cases hk : kd = 1
        · rw [decide_eq_true (hiff.2 ⟨hm, hk⟩), hk]; rfl
        · rw [decide_eq_false (fun hc => hk (hiff.1 hc).2), Eq.comm, beq_eq_false_iff_ne]; omega
      rw [e]
      obtain ⟨N, hNN⟩ : ∃ N, N = hh + 1 := ⟨_, rfl⟩
      rw [← hNN] at LV hm
      have hmn : 2 * m < t.length := by omega
      obtain ⟨n, hn⟩ : ∃ n, n = t.length := ⟨_, rfl⟩
      rw [← hn] at LV hc hmn ⊢
      have HLV := Lib.hid LV
      have h1 : decide (m < N) = true := decide_eq_true hm
      have h2 : decide ((m : Int) < (N : Int)) = true := decide_eq_true (by omega)
      have hw : wrap64 (2 * (m : Int)) = 2 * (m : Int) := by clear LV hiff e; unfold wrap64; omega
      have hm2 : (2 * (m : Int)).toNat = 2 * m := by omega
      have hmI : 2 * (m : Int) < (n : Int) := by omega
      clear LV h hok hlen hN hl hiff e hNN hn hkd h0
      go_enter Try.func44, Try.ntmps44
      go_wp2_with fail
      refine (HLV.out w).mono ?_
      rintro e w' ⟨rfl, rfl⟩
      go_wp2_with fail
      go_ret
      exact ⟨rfl, rfl⟩
    · rw [decide_eq_false (fun hc => hm ((mem_iff t (hh + 1) m).1 hc).1)]
      obtain ⟨N, hNN⟩ : ∃ N, N = hh + 1 := ⟨_, rfl⟩
      rw [← hNN] at LV hm
      obtain ⟨n, hn⟩ : ∃ n, n = t.length := ⟨_, rfl⟩
      rw [← hn] at LV hc ⊢
      have HLV := Lib.hid LV
      have h1 : decide (m < N) = false := decide_eq_false hm
      have h2 : decide ((m : Int) < (N : Int)) = false := decide_eq_false (by omega)
      clear LV h hok hlen hN hl hNN hn h0
      go_enter Try.func44, Try.ntmps44
      go_wp2_with fail
      refine (HLV.out w).mono ?_
      rintro e w' ⟨rfl, rfl⟩
      go_wp2_with fail
      go_ret
      exact ⟨rfl, rfl⟩
set_option maxRecDepth 100000 in
set_option maxHeartbeats 4000000 in
theorem tleaf_no_med (v : Value) (t : List NodeD) (i : Int) (w : World) (h : TreeR w v t) (hs : medT t = true) (hok : TreeOk t) (hr : rightT t = false) :
    Calls Try.prog 26 #[v, .int .i64 i] w fun e w' => e = .returned (.tuple #[.agg #[.slice none 0 0, .slice none 0 0, .slice none 0 0, .int .u8 0, .slice none 0 0, .slice none 0 0], .bool false]) ∧ Below w.heap.size w w' := by
  have TR := fun (W : World) (hw : Below w.heap.size w W) => tright_med v t W (h.below hw (Nat.le_refl _)) hs hok
  rw [hr] at TR
  have HT := Lib.hid TR
  obtain ⟨a, n, c, rfl⟩ : ∃ a n c, v = .slice a n c := by obtain ⟨a, c, e, _⟩ := h.sl; exact ⟨_, _, _, e⟩
  clear TR h hs hok hr
  have hba := (Below.refl w.heap.size w).alloc (Nat.le_refl _) (.cells #[.slice none 0 0, .slice none 0 0, .slice none 0 0, .int .u8 0, .slice none 0 0, .slice none 0 0] 25)
  have HBA := Lib.hid hba
  clear hba
  go_enter Try.func26, Try.ntmps26
  go_wp2_with fail
  refine (HT.out _ HBA.out).mono ?_
  rintro e w1 ⟨rfl, hb⟩
  have HB := Lib.hid (HBA.out.trans (hb.mono HBA.out.size))
  have HBK := Lib.hid ((Blk.new w 25 #[.slice none 0 0, .slice none 0 0, .slice none 0 0, .int .u8 0, .slice none 0 0, .slice none 0 0]).below hb (by simp))
  clear hb
  go_wp2_with (refine wpList_store_blk rfl 25 (.tmp 4) (.tmp 15) rfl w.heap.size #[.slice none 0 0, .slice none 0 0, .slice none 0 0, .int .u8 0, .slice none 0 0, .slice none 0 0] rfl rfl 25 #[.slice none 0 0, .slice none 0 0, .slice none 0 0, .int .u8 0, .slice none 0 0, .slice none 0 0] HBK.out (by kernel_rfl) rfl rfl ?_)
  rintro w3 hblk hbl hoth hsize
  have HK := Lib.hid hblk
  have HB3 := Lib.hid (HB.out.trans (hbl w.heap.size (Nat.le_refl _)))
  clear hblk hbl hoth hsize
  go_wp2_with fail
  exact bodyPost_ret (v := .tuple #[.agg #[.slice none 0 0, .slice none 0 0, .slice none 0 0, .int .u8 0, .slice none 0 0, .slice none 0 0], .bool false]) (results_row2 Try.results26 _ _ w.heap.size _ _ _ rfl HK.out Try.underlying25 rfl (by kernel_rfl)) rfl ⟨rfl, HB3.out⟩
set_option maxRecDepth 100000 in
set_option maxHeartbeats 4000000 in
theorem tleaf_none_med (v : Value) (t : List NodeD) (hh : Nat) (i : Int) (w : World) (h : TreeR w v t) (hs : medT t = true) (hok : TreeOk t) (hr : rightT t = true) (hlen : t.length = 2 * hh + 1) (hN : leavesN t.length = hh + 1) (hib : -9223372036854775808 ≤ i ∧ i ≤ 9223372036854775807) (hi : i ∉ rmemL t (hh + 1)) :
    Calls Try.prog 26 #[v, .int .i64 i] w fun e w' => e = .returned (.tuple #[.agg #[.slice none 0 0, .slice none 0 0, .slice none 0 0, .int .u8 0, .slice none 0 0, .slice none 0 0], .bool false]) ∧ Below w.heap.size w w' := by
  have TR := fun (W : World) (hw : Below w.heap.size w W) => tright_med v t W (h.below hw (Nat.le_refl _)) hs hok
  rw [hr] at TR
  have HT := Lib.hid TR
  have MB := fun (W : World) (hw : Below w.heap.size w W) => member_any v t hh i W (h.below hw (Nat.le_refl _)) hok hlen hN (by have := medT_len hs; omega) hib
  rw [decide_eq_false hi] at MB
  have HM := Lib.hid MB
  obtain ⟨a, n, c, rfl⟩ : ∃ a n c, v = .slice a n c := by obtain ⟨a, c, e, _⟩ := h.sl; exact ⟨_, _, _, e⟩
  clear TR MB h hs hok hr hlen hN hi
  have hba := (Below.refl w.heap.size w).alloc (Nat.le_refl _) (.cells #[.slice none 0 0, .slice none 0 0, .slice none 0 0, .int .u8 0, .slice none 0 0, .slice none 0 0] 25)
  have HBA := Lib.hid hba
  clear hba
  go_enter Try.func26, Try.ntmps26
  go_wp2_with fail
  refine (HT.out _ HBA.out).mono ?_
  rintro e w1 ⟨rfl, hb⟩
  have HB := Lib.hid (HBA.out.trans (hb.mono HBA.out.size))
  have HBK := Lib.hid ((Blk.new w 25 #[.slice none 0 0, .slice none 0 0, .slice none 0 0, .int .u8 0, .slice none 0 0, .slice none 0 0]).below hb (by simp))
  clear hb
  go_wp2_with fail
  refine (HM.out _ HB.out).mono ?_
  rintro e w' ⟨rfl, rfl⟩
  go_wp2_with (refine wpList_store_blk rfl 25 (.tmp 4) (.tmp 15) rfl w.heap.size #[.slice none 0 0, .slice none 0 0, .slice none 0 0, .int .u8 0, .slice none 0 0, .slice none 0 0] rfl rfl 25 #[.slice none 0 0, .slice none 0 0, .slice none 0 0, .int .u8 0, .slice none 0 0, .slice none 0 0] HBK.out (by kernel_rfl) rfl rfl ?_)
  rintro w3 hblk hbl hoth hsize
  have HK := Lib.hid hblk
  have HB3 := Lib.hid (HB.out.trans (hbl w.heap.size (Nat.le_refl _)))
  clear hblk hbl hoth hsize
  go_wp2_with fail
  exact bodyPost_ret (v := .tuple #[.agg #[.slice none 0 0, .slice none 0 0, .slice none 0 0, .int .u8 0, .slice none 0 0, .slice none 0 0], .bool false]) (results_row2 Try.results26 _ _ w.heap.size _ _ _ rfl HK.out Try.underlying25 rfl (by kernel_rfl)) rfl ⟨rfl, HB3.out⟩
set_option maxRecDepth 100000 in
set_option maxHeartbeats 4000000 in
theorem tleaf_yes_med (v : Value) (t : List NodeD) (hh m : Nat) (w : World) (h : TreeR w v t) (hs : medT t = true) (hok : TreeOk t) (hr : rightT t = true) (hlen : t.length = 2 * hh + 1) (hN : leavesN t.length = hh + 1) (hi : ((m : Nat) : Int) ∈ rmemL t (hh + 1)) :
    Calls Try.prog 26 #[v, .int .i64 (m : Nat)] w fun e w' => ∃ c6 : Array Value, e = .returned (.tuple #[.agg c6, .bool true]) ∧ LeafC w' (nd t (2 * m)).leaf c6 ∧ Below w.heap.size w w' := by
  have hmh := ((mem_iff t (hh + 1) m).1 hi).1
  have hlen40 := medT_len hs
  have TR := fun (W : World) (hw : Below w.heap.size w W) => tright_med v t W (h.below hw (Nat.le_refl _)) hs hok
  rw [hr] at TR
  have HT := Lib.hid TR
  have MB := fun (W : World) (hw : Below w.heap.size w W) => member_any v t hh (m : Int) W (h.below hw (Nat.le_refl _)) hok hlen hN (by omega) (by omega)
  rw [decide_eq_true hi] at MB
  have HM := Lib.hid MB
  have hmn : 2 * m < t.length := by omega
  obtain ⟨ta, n0, rfl, hc, hc2⟩ := h.sl
  obtain ⟨b, off, cs, rfl, hbl, hnc, hra⟩ := h.node hmn
  have CP := fun (W : World) (hw : Below w.heap.size w W) => nodeCopy_any (nd t (2 * m)) cs W (hnc.below hw (Nat.le_refl _)) (medT_nd hs (2 * m))
  have HCP := Lib.hid CP
  have HRA0 := Lib.hid hra
  have HSZ := Lib.hid hnc.size
  obtain ⟨D, hD⟩ : ∃ D, D = nd t (2 * m) := ⟨_, rfl⟩
  rw [← hD] at HCP ⊢
  obtain ⟨n, hn⟩ : ∃ n, n = t.length := ⟨_, rfl⟩
  rw [← hn] at HT HM hc hmn ⊢
  have hw : wrap64 (2 * (m : Int)) = 2 * (m : Int) := by clear HT HM HCP HRA0 hra TR MB CP; unfold wrap64; omega
  have hm2 : (2 * (m : Int)).toNat = 2 * m := by omega
  have hmI : 2 * (m : Int) < (n : Int) := by omega
  clear TR MB CP h hs hok hr hlen hN hi hnc hra hn hD hmh hlen40
  have hba := (Below.refl w.heap.size w).alloc (Nat.le_refl _) (.cells #[.slice none 0 0, .slice none 0 0, .slice none 0 0, .int .u8 0, .slice none 0 0, .slice none 0 0] 25)
  have HBA := Lib.hid hba
  clear hba
  go_enter Try.func26, Try.ntmps26
  go_wp2_with fail
  refine (HT.out _ HBA.out).mono ?_
  rintro e w1 ⟨rfl, hb⟩
  have HB := Lib.hid (HBA.out.trans (hb.mono HBA.out.size))
  have HBK := Lib.hid ((Blk.new w 25 #[.slice none 0 0, .slice none 0 0, .slice none 0 0, .int .u8 0, .slice none 0 0, .slice none 0 0]).below hb (by simp))
  clear hb
  go_wp2_with fail
  refine (HM.out _ HB.out).mono ?_
  rintro e w' ⟨rfl, rfl⟩
  have HRA := Lib.hid (rangeAt_below HRA0.out HB.out hbl)
  go_wp2_with (refine wpList_load_mid rfl 45 (.tmp 19) rfl b (off + 2 * m * 10) rfl cs.toList _ HRA.out Try.underlying45 rfl (by rw [Array.length_toList, HSZ.out]; exact node_info) ?_)
  refine (HCP.out w' HB.out).mono ?_
  rintro e w2 ⟨c', rfl, hno, hb2⟩
  have HB2 := Lib.hid (HB.out.trans (hb2.mono HB.out.size))
  have HBK2 := Lib.hid (HBK.out.below hb2 HBK.out.lt)
  have hlt2 := HBK.out.lt
  obtain ⟨x0, x1, x2, x3, x4, u0, u1, u2, rfl, h0, h1, h2, h3, h4, h5, h6, h7⟩ := hno
  have LC := fun (W : World) (hoth : ∀ j, j ≠ w.heap.size → W.heap[j]? = w2.heap[j]?) => leaf_of h0 h1 h2 h3 h4 (show w.heap.size < w'.heap.size from hlt2) hoth
  obtain ⟨a0, n1, k0, rfl⟩ := slOf' h0
  obtain ⟨a1, n2, k1, rfl⟩ := slOf' h1
  obtain ⟨a2, n3, k2, rfl⟩ := slOf' h2
  obtain ⟨a3, n4, k3, rfl⟩ := slOf' h3
  obtain ⟨a4, n5, k4, rfl⟩ := slOf' h4
  obtain ⟨a5, n6, k5, rfl⟩ := slOf' h5
  obtain ⟨a6, n7, k6, rfl⟩ := slOf' h6
  obtain ⟨a7, n8, k7, rfl⟩ := slOf' h7
  obtain ⟨s, hsr⟩ : ∃ s, s = D.leaf.source := ⟨_, rfl⟩
  obtain ⟨kd, hkd⟩ : ∃ s, s = D.kind := ⟨_, rfl⟩
  rw [← hsr, ← hkd]
  rw [← hsr] at LC
  have HLC := Lib.hid LC
  clear LC hsr hkd h0 h1 h2 h3 h4 h5 h6 h7 hb2 hlt2
  have hfl := field_leaf (.int .u8 (kd : Nat)) (.slice a0 n1 k0) (.slice a1 n2 k1) (.slice a2 n3 k2) (.int .u8 (s : Nat)) (.slice a3 n4 k3) (.slice a4 n5 k4) (.slice a5 n6 k5) (.slice a6 n7 k6) (.slice a7 n8 k7) w2
  go_wp2_with (refine wpList_store_blk rfl 25 (.tmp 4) (.tmp 22) rfl w.heap.size #[.slice a0 n1 k0, .slice a1 n2 k1, .slice a2 n3 k2, .int .u8 (s : Nat), .slice a3 n4 k3, .slice a4 n5 k4] rfl rfl 25 #[.slice none 0 0, .slice none 0 0, .slice none 0 0, .int .u8 0, .slice none 0 0, .slice none 0 0] HBK2.out (by kernel_rfl) rfl rfl ?_)
  rintro w3 hblk hbl3 hoth hsize
  have HK := Lib.hid hblk
  have HB3 := Lib.hid (HB2.out.trans (hbl3 w.heap.size (Nat.le_refl _)))
  have HL3 := Lib.hid (HLC.out w3 hoth)
  clear hblk hbl3 hoth hsize
  go_wp2_with fail
  exact bodyPost_ret (v := .tuple #[.agg #[.slice a0 n1 k0, .slice a1 n2 k1, .slice a2 n3 k2, .int .u8 (s : Nat), .slice a3 n4 k3, .slice a4 n5 k4], .bool true]) (results_row2 Try.results26 _ _ w.heap.size _ _ _ rfl HK.out Try.underlying25 rfl (by kernel_rfl)) rfl ⟨_, rfl, HL3.out, HB3.out⟩
theorem tleaf_no (v : Value) (t : List NodeD) (i : Int) (w : World) (h : TreeR w v t) (hs : smallT t = true) (hok : TreeOk t) (hr : rightT t = false) :
    Calls Try.prog 26 #[v, .int .i64 i] w fun e w' => e = .returned (.tuple #[.agg #[.slice none 0 0, .slice none 0 0, .slice none 0 0, .int .u8 0, .slice none 0 0, .slice none 0 0], .bool false]) ∧ Below w.heap.size w w' :=
  tleaf_no_med v t i w h (smallT_med hs) hok hr
theorem tleaf_none (v : Value) (t : List NodeD) (hh : Nat) (i : Int) (w : World) (h : TreeR w v t) (hs : smallT t = true) (hok : TreeOk t) (hr : rightT t = true) (hlen : t.length = 2 * hh + 1) (hN : leavesN t.length = hh + 1) (hib : -9223372036854775808 ≤ i ∧ i ≤ 9223372036854775807) (hi : i ∉ rmemL t (hh + 1)) :
    Calls Try.prog 26 #[v, .int .i64 i] w fun e w' => e = .returned (.tuple #[.agg #[.slice none 0 0, .slice none 0 0, .slice none 0 0, .int .u8 0, .slice none 0 0, .slice none 0 0], .bool false]) ∧ Below w.heap.size w w' :=
  tleaf_none_med v t hh i w h (smallT_med hs) hok hr hlen hN hib hi
theorem tleaf_yes (v : Value) (t : List NodeD) (hh m : Nat) (w : World) (h : TreeR w v t) (hs : smallT t = true) (hok : TreeOk t) (hr : rightT t = true) (hlen : t.length = 2 * hh + 1) (hN : leavesN t.length = hh + 1) (hi : ((m : Nat) : Int) ∈ rmemL t (hh + 1)) :
    Calls Try.prog 26 #[v, .int .i64 (m : Nat)] w fun e w' => ∃ c6 : Array Value, e = .returned (.tuple #[.agg c6, .bool true]) ∧ LeafC w' (nd t (2 * m)).leaf c6 ∧ Below w.heap.size w w' :=
  tleaf_yes_med v t hh m w h (smallT_med hs) hok hr hlen hN hi
end Go.Proofs.Ytlcmodbjbdfloaa
