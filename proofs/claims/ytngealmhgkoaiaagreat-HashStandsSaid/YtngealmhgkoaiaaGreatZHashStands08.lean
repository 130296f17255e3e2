/- Walks: node.parentBytes. -/
import Derived.Test.YtngealmhgkoaiaaGreatZHashStands06
import Derived.Test.YtngealmhgkoaiaaGreatZHashStands07
namespace Go.Proofs.YtngealmhgkoaiaaGreat
open Go.RowKit WireM
set_option linter.unusedVariables false
def lateL (L : List Int) : List Nat := (L.map fun x => beN 4 x.toNat).flatten
theorem lateL_snoc (L : List Int) (x : Int) : lateL (L ++ [x]) = lateL L ++ beN 4 x.toNat := by simp [lateL]
theorem lateL_len : ∀ L : List Int, (lateL L).length = 4 * L.length := by
 intro L
 induction L with
 | nil => rfl
 | cons x L ih => simp only [lateL, List.map_cons, List.flatten_cons, List.length_append, List.length_cons, beN_len] at ih ⊢; omega
def parB (d : ParD) : List Nat := vecB d.box ++ vecB d.hash ++ vecB (lateL d.late)
set_option maxRecDepth 100000 in
set_option maxHeartbeats 4000000 in
theorem parentBytes_any (b : Value) (B : List Nat) (d : ParD) (a1 a2 a3 : Option Addr) (c1 c2 c3 : Nat) (w : World) (hb : Rd w b (bvs B)) (hB : B.length < 1000000000) (hs1 : d.box.length ≤ 200) (hs2 : d.hash.length ≤ 200) (hs3 : d.late.length ≤ 60) (hl : ∀ x ∈ d.late, 0 ≤ x ∧ x < 65536)
  (h1 : Rd w (.slice a1 d.box.length c1) (bvs d.box)) (h2 : Rd w (.slice a2 d.hash.length c2) (bvs d.hash)) (h3 : Rd w (.slice a3 d.late.length c3) (ivs .i64 d.late)) :
  Calls Tryz.prog 135 #[b, .agg #[.slice a1 d.box.length c1, .slice a2 d.hash.length c2, .slice a3 d.late.length c3]] w
   fun e w' => ∃ v, e = .returned v ∧ Own w' w.heap.size 5 v (bvs (B ++ parB d)) ∧ Below w.heap.size w w' := by
 have hp : parB d = vecB d.box ++ vecB d.hash ++ vecB (lateL d.late) := rfl
 have hlen := slice_len h3
 have hget := fun r (hr : r < d.late.length) => h3.get (r := r) (show (ivs .i64 d.late)[r]? = some (.int .i64 (d.late.getD r 0)) by simp [ivs, hr])
 have hts := fun (r : Nat) (h : r < d.late.length) => (show d.late.take (r + 1) = d.late.take r ++ [d.late.getD r 0] by rw [List.take_succ_eq_append_getElem h, List.getD_eq_getElem?_getD, List.getElem?_eq_getElem h]; rfl)
 have hval := fun (r : Nat) (h : r < d.late.length) => (show 0 ≤ d.late.getD r 0 ∧ d.late.getD r 0 < 65536 by rw [List.getD_eq_getElem?_getD, List.getElem?_eq_getElem h]; exact hl _ (List.getElem_mem h))
 have hll := fun r => lateL_len (d.late.take r)
 obtain ⟨k, hk⟩ : ∃ k, k = d.late.length := ⟨_, rfl⟩
 rw [← hk] at hget hts hs3 hlen hval ⊢
 have HP := Lib.hid hp
 have H1 := Lib.hid h1
 have H2 := Lib.hid h2
 have HB := Lib.hid hb
 have HG := Lib.hid hget
 have HTS := Lib.hid hts
 have HV := Lib.hid hval
 have HLL := Lib.hid hll
 have HK := Lib.hid hk
 clear hp h1 h2 h3 hb hget hts hval hll hk hl
 obtain ⟨n1, hn1⟩ : ∃ n, n = d.box.length := ⟨_, rfl⟩
 obtain ⟨n2, hn2⟩ : ∃ n, n = d.hash.length := ⟨_, rfl⟩
 rw [← hn1] at H1 hs1 ⊢
 rw [← hn2] at H2 hs2 ⊢
 have HN1 := Lib.hid hn1
 have HN2 := Lib.hid hn2
 clear hn1 hn2
 have hbk0 := Blk.new w 52 #[.slice a1 n1 c1, .slice a2 n2 c2, .slice a3 k c3]
 have hw0 : Below w.heap.size w (w.alloc (.cells #[.slice a1 n1 c1, .slice a2 n2 c2, .slice a3 k c3] 52)) := (Below.refl _ _).alloc (Nat.le_refl _) _
 have hz0 : (w.alloc (.cells #[.slice a1 n1 c1, .slice a2 n2 c2, .slice a3 k c3] 52)).heap.size = w.heap.size + 1 := by simp
 obtain ⟨W1, hW1⟩ : ∃ W1, W1 = w.alloc (.cells #[.slice a1 n1 c1, .slice a2 n2 c2, .slice a3 k c3] 52) := ⟨_, rfl⟩
 rw [← hW1] at hbk0 hw0 hz0
 have HBK := Lib.hid hbk0
 have HW0 := Lib.hid hw0
 have HZ0 := Lib.hid hz0
 have HW1 := Lib.hid hW1
 clear hbk0 hw0 hz0 hW1
 go_enter Tryz.func135, Tryz.ntmps135
 go_wp2_with fail
 rw [← HW1.out]
 go_loopg [5, 11] k (fun q lv i wr => ∃ r : Nat, r + q = k ∧ i = .int .i64 (r : Int) ∧ Rd wr lv (bvs (lateL (d.late.take r))) ∧ Below (w.heap.size + 1) W1 wr)
 case atStart => exact ⟨0, by omega, rfl, ⟨none, 0, rfl, Nat.le_refl _, Nat.zero_le _, .inl ⟨rfl, fun _ => rfl⟩⟩, Below.refl _ _⟩
 case round =>
  obtain ⟨r, hr, rfl, hrl, hbw⟩ := hrel
  have HRL := Lib.hid hrl
  have HBW := Lib.hid hbw
  have hzw := hbw.size
  rw [HZ0.out] at hzw
  clear hrl hbw
  by_cases hrk : r < k
  ·obtain ⟨b1, o1, rfl, hb1, c0⟩ := HG.out r hrk
   have c0' := (HBW.out.cell (p := ⟨b1, o1 + r, none⟩) (by simp only; omega)).trans ((HW0.out.cell (p := ⟨b1, o1 + r, none⟩) hb1).trans c0)
   have hts := HTS.out r hrk
   obtain ⟨v0, v1⟩ := HV.out r hrk
   have hll := HLL.out r
   obtain ⟨x, hx⟩ : ∃ x, x = d.late.getD r 0 := ⟨_, rfl⟩
   rw [← hx] at c0' hts v0 v1
   obtain ⟨m, rfl⟩ : ∃ m : Nat, x = (m : Int) := ⟨x.toNat, by omega⟩
   have hl60 : (d.late.take r).length ≤ r := List.length_take_le _ _
   have HPN := Lib.hid (fun lv (h : Rd wr lv (bvs (lateL (d.late.take r)))) => putNum_on lv _ 4 m wr h (by omega) rfl (by omega))
   have HT := Lib.hid hts
   clear c0 hx hts hll hl60 hb1
   go_wp2_with fail
   refine (HPN.out _ HRL.out).mono ?_
   rintro e w2 ⟨v2, rfl, hown, hb2⟩
   have HO := Lib.hid hown.rd
   have HB2 := Lib.hid (HBW.out.trans (hb2.mono hzw))
   clear hown hb2
   go_wp2_with fail
   go_roundg (gk - 1)
   case measure => omega
   case rel => exact ⟨r + 1, by omega, by go_num, by rw [HT.out, lateL_snoc, Int.toNat_natCast]; exact HO.out, HB2.out⟩
  ·obtain rfl : r = k := by omega
   have ht : d.late.take r = d.late := by rw [HK.out, List.take_length]
   rw [ht] at HRL
   have hll := HLL.out r
   rw [ht, ← HK.out] at hll
   have hrk' : decide ((r : Int) < (r : Int)) = false := by rw [decide_eq_false_iff_not]; omega
   go_wp2_with fail
   have hbk := HBK.out.below HBW.out (by omega)
   have y0 := hbk.cell 0
   have y1 := hbk.cell 1
   simp only [List.getElem?_toArray, List.getElem?_cons_zero, List.getElem?_cons_succ] at y0 y1
   have hv1 := vecB_len d.box (by rw [← HN1.out]; omega)
   have hv2 := vecB_len d.hash (by rw [← HN2.out]; omega)
   rw [← HN1.out] at hv1
   rw [← HN2.out] at hv2
   have hbw1 := HW0.out.trans (HBW.out.mono (by omega))
   have r1 := H1.out.below hbw1 (Nat.le_refl _)
   have r2 := H2.out.below hbw1 (Nat.le_refl _)
   have rb := HB.out.below hbw1 (Nat.le_refl _)
   have r3 := HRL.out
   have hgx : w.heap.size < wr.heap.size := by omega
   have hws : w.heap.size ≤ wr.heap.size := by omega
   have own : ∀ (v : Value) (w1 w2 : World) (L : List Nat), Own w1 w.heap.size 5 v (bvs L) → Below w1.heap.size w1 w2 → Own w2 w.heap.size 5 v (bvs L) := fun v w1 w2 L h hb => h.below hb (Nat.le_refl _)
   clear hbk
   refine wp_region_once [fun v _ => v = b, fun v _ => v = .pointer (some ⟨w.heap.size, 0, none⟩), fun v _ => v = .slice a1 n1 c1, fun v w' => Own w' w.heap.size 5 v (bvs (B ++ vecB d.box)),
    fun v _ => v = .pointer (some ⟨w.heap.size, 1, none⟩), fun v _ => v = .slice a2 n2 c2, fun v w' => Own w' w.heap.size 5 v (bvs (B ++ vecB d.box ++ vecB d.hash)), fun v w' => Rd w' v (bvs (lateL d.late)),
    fun v w' => Own w' w.heap.size 5 v (bvs (B ++ vecB d.box ++ vecB d.hash ++ vecB (lateL d.late))), fun v w' => Own w' w.heap.size 5 v (bvs (B ++ vecB d.box ++ vecB d.hash ++ vecB (lateL d.late)))]
    (by kernel_rfl) ?_ (by kernel_rfl) (by kernel_rfl) ?_ ?_
   ·exact keeps_cons (fun _ _ _ h _ => h) (keeps_cons (fun _ _ _ h _ => h) (keeps_cons (fun _ _ _ h _ => h) (keeps_cons (fun v w1 w2 h hb => own v w1 w2 _ h hb) (keeps_cons (fun _ _ _ h _ => h) (keeps_cons (fun _ _ _ h _ => h)
     (keeps_cons (fun v w1 w2 h hb => own v w1 w2 _ h hb) (keeps_cons (fun v w1 w2 h hb => h.below hb (Nat.le_refl _)) (keeps_cons (fun v w1 w2 h hb => own v w1 w2 _ h hb) (keeps_cons (fun v w1 w2 h hb => own v w1 w2 _ h hb) keeps_nil)))))))))
   ·refine .cons (owed_go rfl ?_) (.cons (owed_go rfl ?_) (.cons (owed_go rfl ?_) (.cons (owed_go rfl ?_) (.cons (owed_go rfl ?_) (.cons (owed_go rfl ?_) (.cons (owed_go rfl ?_) (.cons (owed_go rfl ?_) (.cons (owed_go rfl ?_) (.cons (owed_go rfl ?_) .nil)))))))))
    ·intro a wx hbx ho hf K hK
     have e0 : a.tmps[0]?.getD undef = b := ho 0 (by kernel_rfl)
     go_simp
     exact hK _ _ rfl (Below.refl _ _)
    ·intro a wx hbx ho hf K hK
     have e0 : a.tmps[3]?.getD undef = .pointer (some ⟨w.heap.size, 0, none⟩) := ho 3 (by kernel_rfl)
     go_simp
     exact hK _ _ rfl (Below.refl _ _)
    ·intro a wx hbx ho hf K hK
     have e0 : a.tmps[21]?.getD undef = .pointer (some ⟨w.heap.size, 0, none⟩) := hf.1
     have c0 := (hbx.cell (p := ⟨w.heap.size, 0, none⟩) hgx).trans y0
     go_simp
     exact hK _ _ rfl (Below.refl _ _)
    ·intro a wx hbx ho hf K hK
     have e0 : a.tmps[20]?.getD undef = b := hf.1
     have e1 : a.tmps[22]?.getD undef = .slice a1 n1 c1 := hf.2.1
     go_simp
     refine (putVec_any b _ B d.box wx (rb.below hbx (Nat.le_refl _)) (r1.below hbx (Nat.le_refl _)) (by omega) (by rw [← HN1.out]; omega)).mono ?_
     rintro e w2 ⟨v2, rfl, hown, hb2⟩
     exact hK _ _ (hown.mono (by have := hbx.size; omega)) hb2
    ·intro a wx hbx ho hf K hK
     have e0 : a.tmps[3]?.getD undef = .pointer (some ⟨w.heap.size, 0, none⟩) := ho 3 (by kernel_rfl)
     go_simp
     exact hK _ _ rfl (Below.refl _ _)
    ·intro a wx hbx ho hf K hK
     have e0 : a.tmps[24]?.getD undef = .pointer (some ⟨w.heap.size, 1, none⟩) := hf.1
     have c0 := (hbx.cell (p := ⟨w.heap.size, 1, none⟩) hgx).trans y1
     go_simp
     exact hK _ _ rfl (Below.refl _ _)
    ·intro a wx hbx ho hf K hK
     have o0 : Own wx w.heap.size 5 (a.tmps[23]?.getD undef) (bvs (B ++ vecB d.box)) := hf.1
     obtain ⟨v, hv⟩ : ∃ v, v = a.tmps[23]?.getD undef := ⟨_, rfl⟩
     rw [← hv] at o0
     have e0 := hv.symm
     have e1 : a.tmps[25]?.getD undef = .slice a2 n2 c2 := hf.2.1
     clear hv
     go_simp
     refine (putVec_any v _ _ d.hash wx o0.rd (r2.below hbx (Nat.le_refl _)) (by rw [List.length_append]; omega) (by rw [← HN2.out]; omega)).mono ?_
     rintro e w2 ⟨v2, rfl, hown, hb2⟩
     exact hK _ _ (hown.mono (by have := hbx.size; omega)) hb2
    ·intro a wx hbx ho hf K hK
     have e0 : a.tmps[5]?.getD undef = u5 := ho 5 (by kernel_rfl)
     go_simp
     exact hK _ _ (r3.below hbx (Nat.le_refl _)) (Below.refl _ _)
    ·intro a wx hbx ho hf K hK
     have o0 : Own wx w.heap.size 5 (a.tmps[26]?.getD undef) (bvs (B ++ vecB d.box ++ vecB d.hash)) := hf.1
     obtain ⟨v, hv⟩ : ∃ v, v = a.tmps[26]?.getD undef := ⟨_, rfl⟩
     rw [← hv] at o0
     have e0 := hv.symm
     have o1 : Rd wx (a.tmps[27]?.getD undef) (bvs (lateL d.late)) := hf.2.1
     obtain ⟨u, hu⟩ : ∃ v, v = a.tmps[27]?.getD undef := ⟨_, rfl⟩
     rw [← hu] at o1
     have e1 := hu.symm
     clear hv hu
     go_simp
     refine (putVec_any v u _ (lateL d.late) wx o0.rd o1 (by rw [List.length_append, List.length_append]; omega) (by omega)).mono ?_
     rintro e w2 ⟨v2, rfl, hown, hb2⟩
     exact hK _ _ (hown.mono (by have := hbx.size; omega)) hb2
    ·intro a wx hbx ho hf K hK
     have o0 : Own wx w.heap.size 5 (a.tmps[28]?.getD undef) (bvs (B ++ vecB d.box ++ vecB d.hash ++ vecB (lateL d.late))) := hf.1
     obtain ⟨v, hv⟩ : ∃ v, v = a.tmps[28]?.getD undef := ⟨_, rfl⟩
     rw [← hv] at o0
     have e0 := hv.symm
     clear hv
     go_simp
     exact hK _ _ o0 (Below.refl _ _)
   ·rintro f w2 hb2 ⟨-, -, -, -, -, -, -, -, -, f9, -⟩
    have h9 : Own w2 w.heap.size 5 (f 4) (bvs (B ++ vecB d.box ++ vecB d.hash ++ vecB (lateL d.late))) := f9
    simp only [frameOf, dstsOf, zipF, List.filterMap_cons, List.filterMap_nil, List.contains_cons, List.contains_nil, Nat.reduceBEq, Nat.reduceAdd, Bool.or_false, Bool.or_true, cond_true, cond_false]
    go_wp2_with fail
    go_ret
    refine ⟨_, rfl, ?_, hbw1.trans (hb2.mono hws)⟩
    rw [HP.out, ← List.append_assoc, ← List.append_assoc]
    exact h9
end Go.Proofs.YtngealmhgkoaiaaGreat
/- Walks: node.Bytes. -/
namespace Go.Proofs.YtngealmhgkoaiaaGreat
open Go.RowKit WireM
set_option linter.unusedVariables false
theorem late_pos {L : List Int} (h : lateB L = true) : ∀ i, i < L.length → 0 ≤ L.getD i 0 ∧ L.getD i 0 < 65536 := by
 rw [lateB_iff] at h
 intro i
 induction i with
 | zero => intro hi; have := h 0 hi; unfold prevZ at this; rw [if_pos rfl] at this; omega
 | succ i ih =>
  intro hi
  have h1 := ih (by omega)
  have := h (i + 1) hi
  unfold prevZ at this
  rw [if_neg (by omega), Nat.add_sub_cancel] at this
  omega
theorem late_bd {L : List Int} (h : lateB L = true) : ∀ x ∈ L, 0 ≤ x ∧ x < 65536 := by
 intro x hx
 obtain ⟨i, hi, rfl⟩ := List.getElem_of_mem hx
 have := late_pos h i hi
 rw [List.getD_eq_getElem?_getD, List.getElem?_eq_getElem hi] at this
 exact this
/-- a node's bytes -/
def nodeB (d : NodeD) : List Nat := if d.kind = 1 then 1 :: (unsB d.leaf ++ vecB d.leaf.sig) else if d.kind = 2 then 2 :: parB d.par else [0]
def NBytesP (d : NodeD) (w : World) (e : Ending) (w' : World) : Prop :=
 Below w.heap.size w w' ∧ ∃ v, e = .returned (.tuple #[v, .int .u8 (if rightB d = true then 0 else 3)]) ∧ Own w' w.heap.size 5 v (bvs (if rightB d = true then nodeB d else []))
theorem unsB_len {d : LeafD} (h : SmallL d) : (unsB d).length ≤ 820 := by
 obtain ⟨s1, s2, s3, s4, s5⟩ := h
 have h1 := catB_len [d.box, d.sign, d.ident] (by intro r hr; simp only [List.mem_cons, List.not_mem_nil, or_false] at hr; rcases hr with rfl | rfl | rfl <;> assumption)
 have h2 := vecB_len d.par (by omega)
 simp only [List.length_cons, List.length_nil] at h1
 unfold unsB
 rw [List.length_append, List.length_append]
 split
 ·simp only [List.length_cons, List.length_nil]; omega
 ·simp only [List.length_cons, List.length_nil]; omega
set_option maxRecDepth 100000 in
set_option maxHeartbeats 4000000 in
theorem nbytes_off (d : NodeD) (c : Array Value) (w : World) (h : NodeC w d c) (hs : smallB d = true) (hr : rightB d = false) :
  Calls Tryz.prog 69 #[.agg c] w (NBytesP d w) := by
 have R := fun w h => right_any d c w h hs
 rw [hr] at R
 have HR := Lib.hid (R _ (h.below ((Below.refl w.heap.size w).alloc (Nat.le_refl _) (.cells c 54)) (Nat.le_refl _)))
 obtain ⟨a1, c1, a2, c2, a3, c3, a4, c4, a5, c5, b1, e1, b2, e2, b3, e3, rfl, -⟩ := h
 have eP : ∀ e w', NBytesP d w e w' ↔ Below w.heap.size w w' ∧ ∃ v, e = .returned (.tuple #[v, .int .u8 3]) ∧ Own w' w.heap.size 5 v (bvs []) := by
  intro e w'; unfold NBytesP; rw [hr]; exact Iff.rfl
 have HE := Lib.hid eP
 obtain ⟨m1, hm1⟩ : ∃ b, b = d.leaf.box.length := ⟨_, rfl⟩
 obtain ⟨m2, hm2⟩ : ∃ b, b = d.leaf.sign.length := ⟨_, rfl⟩
 obtain ⟨m3, hm3⟩ : ∃ b, b = d.leaf.ident.length := ⟨_, rfl⟩
 obtain ⟨m4, hm4⟩ : ∃ b, b = d.leaf.par.length := ⟨_, rfl⟩
 obtain ⟨m5, hm5⟩ : ∃ b, b = d.leaf.sig.length := ⟨_, rfl⟩
 obtain ⟨m6, hm6⟩ : ∃ b, b = d.par.box.length := ⟨_, rfl⟩
 obtain ⟨m7, hm7⟩ : ∃ b, b = d.par.hash.length := ⟨_, rfl⟩
 obtain ⟨m8, hm8⟩ : ∃ b, b = d.par.late.length := ⟨_, rfl⟩
 obtain ⟨kd, hkd⟩ : ∃ b, b = d.kind := ⟨_, rfl⟩
 obtain ⟨src, hsrc⟩ : ∃ b, b = d.leaf.source := ⟨_, rfl⟩
 rw [← hm1, ← hm2, ← hm3, ← hm4, ← hm5, ← hm6, ← hm7, ← hm8, ← hkd, ← hsrc] at HR ⊢
 clear R hs hr eP hm1 hm2 hm3 hm4 hm5 hm6 hm7 hm8 hkd hsrc
 go_enter Tryz.func69, Tryz.ntmps69
 go_wp2_with fail
 refine HR.out.mono ?_
 rintro e w1 ⟨rfl, hb1⟩
 have HB1 := Lib.hid (((Below.refl w.heap.size w).alloc (Nat.le_refl _) _).trans (hb1.mono (by simp)))
 clear hb1
 go_wp2_with fail
 go_ret2
 exact (HE.out _ _).2 ⟨HB1.out, _, rfl, Own.nil _ _ _⟩
set_option maxRecDepth 100000 in
set_option maxHeartbeats 4000000 in
theorem nbytes_on (d : NodeD) (c : Array Value) (w : World) (h : NodeC w d c) (hk : NodeOk d) (hs : smallB d = true) (hr : rightB d = true) :
  Calls Tryz.prog 69 #[.agg c] w (NBytesP d w) := by
 have R := fun w h => right_any d c w h hs
 rw [hr] at R
 have hw0 := (Below.refl w.heap.size w).alloc (Nat.le_refl _) (.cells c 54)
 have HR := Lib.hid (R _ (h.below hw0 (Nat.le_refl _)))
 have hsm := of_decide_eq_true hs
 have hkd : d.kind = 0 ∨ d.kind = 1 ∨ d.kind = 2 := by
  by_cases h0 : d.kind = 0
  ·exact .inl h0
  ·by_cases h1 : d.kind = 1
   ·exact .inr (.inl h1)
   ·by_cases h2 : d.kind = 2
    ·exact .inr (.inr h2)
    ·rw [rightB, if_neg h0, if_neg h1, if_neg h2] at hr; cases hr
 have hlate : d.kind = 2 → ∀ x ∈ d.par.late, 0 ≤ x ∧ x < 65536 := by
  intro h2
  rw [rightB, if_neg (by omega), if_neg (by omega), if_pos h2, Bool.and_eq_true, rpB, Bool.and_eq_true] at hr
  exact late_bd hr.2.1
 have hsl : SmallL d.leaf := ⟨hsm.1, hsm.2.1, hsm.2.2.1, hsm.2.2.2.1, hsm.2.2.2.2.1⟩
 have eP : ∀ e w', NBytesP d w e w' ↔ Below w.heap.size w w' ∧ ∃ v, e = .returned (.tuple #[v, .int .u8 0]) ∧ Own w' w.heap.size 5 v (bvs (nodeB d)) := by
  intro e w'; unfold NBytesP; rw [hr]; exact Iff.rfl
 have HE := Lib.hid eP
 obtain ⟨a1, c1, a2, c2, a3, c3, a4, c4, a5, c5, b1, e1, b2, e2, b3, e3, rfl, h1, h2, h3, h4, h5, h6, h7, h8⟩ := h
 have U := fun (b : Value) (B : List Nat) W (hb : Rd W b (bvs B)) (hB : B.length < 1000000000) (hw : Below w.heap.size w W) => unsigned_any b B d.leaf a1 a2 a3 a4 a5 c1 c2 c3 c4 c5 W hb hB hsl hk.source (h1.below hw (Nat.le_refl _)) (h2.below hw (Nat.le_refl _)) (h3.below hw (Nat.le_refl _)) (h4.below hw (Nat.le_refl _))
 have PB := fun (h2 : d.kind = 2) (b : Value) (B : List Nat) W (hb : Rd W b (bvs B)) (hB : B.length < 1000000000) (hw : Below w.heap.size w W) => parentBytes_any b B d.par b1 b2 b3 e1 e2 e3 W hb hB hsm.2.2.2.2.2.1 hsm.2.2.2.2.2.2.1 hsm.2.2.2.2.2.2.2 (hlate h2) (h6.below hw (Nat.le_refl _)) (h7.below hw (Nat.le_refl _)) (h8.below hw (Nat.le_refl _))
 have hul := unsB_len hsl
 have hn1 : d.kind = 1 → nodeB d = [1] ++ unsB d.leaf ++ vecB d.leaf.sig := fun h => by rw [nodeB, if_pos h]; rfl
 have hn2 : d.kind = 2 → nodeB d = [2] ++ parB d.par := fun h => by rw [nodeB, if_neg (by omega), if_pos h]; rfl
 have hn0 : d.kind = 0 → nodeB d = [0] := fun h => by rw [nodeB, if_neg (by omega), if_neg (by omega)]
 have hs5 := hsl.2.2.2.2
 obtain ⟨m1, hm1⟩ : ∃ b, b = d.leaf.box.length := ⟨_, rfl⟩
 obtain ⟨m2, hm2⟩ : ∃ b, b = d.leaf.sign.length := ⟨_, rfl⟩
 obtain ⟨m3, hm3⟩ : ∃ b, b = d.leaf.ident.length := ⟨_, rfl⟩
 obtain ⟨m4, hm4⟩ : ∃ b, b = d.leaf.par.length := ⟨_, rfl⟩
 obtain ⟨m5, hm5⟩ : ∃ b, b = d.leaf.sig.length := ⟨_, rfl⟩
 obtain ⟨m6, hm6⟩ : ∃ b, b = d.par.box.length := ⟨_, rfl⟩
 obtain ⟨m7, hm7⟩ : ∃ b, b = d.par.hash.length := ⟨_, rfl⟩
 obtain ⟨m8, hm8⟩ : ∃ b, b = d.par.late.length := ⟨_, rfl⟩
 obtain ⟨kd, hkk⟩ : ∃ b, b = d.kind := ⟨_, rfl⟩
 obtain ⟨src, hsrc⟩ : ∃ b, b = d.leaf.source := ⟨_, rfl⟩
 rw [← hm1, ← hm2, ← hm3, ← hm4, ← hm5, ← hm6, ← hm7, ← hm8, ← hkk, ← hsrc] at HR hw0 ⊢
 rw [← hm1, ← hm2, ← hm3, ← hm4, ← hm5, ← hsrc] at U
 rw [← hm6, ← hm7, ← hm8, ← hkk] at PB
 rw [← hkk] at hkd hn0 hn1 hn2
 rw [← hm5] at h5 hs5
 have HU := Lib.hid U
 have HPB := Lib.hid PB
 have HN0 := Lib.hid hn0
 have HN1 := Lib.hid hn1
 have HN2 := Lib.hid hn2
 have H5 := Lib.hid h5
 have HM5 := Lib.hid hm5
 have HW0 := Lib.hid hw0
 clear R eP hs hr hm1 hm2 hm3 hm4 hm5 hm6 hm7 hm8 hkk hsrc U PB hn0 hn1 hn2 h1 h2 h3 h4 h5 h6 h7 h8 hlate hsl hsm hw0 hk
 go_enter Tryz.func69, Tryz.ntmps69
 go_wp2_with fail
 refine HR.out.mono ?_
 rintro e w1 ⟨rfl, hb1⟩
 have hbk := (Blk.new w 54 _).below hb1 (by simp)
 have hz := hb1.size
 simp only [World.alloc] at hz
 have hgx : w.heap.size < w1.heap.size := by simp at hz; omega
 have x0 := hbk.cell 0
 have x1 := hbk.cell 1
 have x2 := hbk.cell 2
 have x3 := hbk.cell 3
 have x4 := hbk.cell 4
 have x5 := hbk.cell 5
 have x6 := hbk.cell 6
 have x7 := hbk.cell 7
 have x8 := hbk.cell 8
 have x9 := hbk.cell 9
 simp only [List.getElem?_toArray, List.getElem?_cons_zero, List.getElem?_cons_succ] at x0 x1 x2 x3 x4 x5 x6 x7 x8 x9
 have HB1 := Lib.hid (HW0.out.trans (hb1.mono (by simp)))
 clear hbk hz hb1
 rcases hkd with rfl | rfl | rfl
 ·go_wp2_with fail
  go_ret2
  refine (HE.out _ _).2 ⟨HB1.out.alloc HB1.out.size _, _, rfl, ?_⟩
  rw [HN0.out trivial]
  have := Own.full (w := w1) (B := w.heap.size) (e := 5) (cs := #[.int .u8 0]) rfl HB1.out.size (by unfold maxLen; simp) (n := 1) rfl
  exact this
 ·go_wp2_with fail
  have hbt := HB1.out.alloc HB1.out.size (.cells #[.int .u8 1] 5)
  have HO := Lib.hid (Own.full (w := w1) (B := w.heap.size) (e := 5) (cs := #[.int .u8 1]) rfl HB1.out.size (by unfold maxLen; simp) (n := 1) rfl)
  obtain ⟨W2, hW2⟩ : ∃ W2, W2 = w1.alloc (.cells #[.int .u8 1] 5) := ⟨_, rfl⟩
  rw [← hW2] at hbt HO ⊢
  have hz2 : W2.heap.size = w1.heap.size + 1 := by rw [hW2]; simp
  have zz : ∀ i v, w1.cell? ⟨w.heap.size, i, none⟩ = some v → W2.cell? ⟨w.heap.size, i, none⟩ = some v := fun i v h => by rw [hW2]; exact (World.cell?_alloc_lt w1 _ _ hgx).trans h
  have z1 := zz _ _ x1
  have z2 := zz _ _ x2
  have z3 := zz _ _ x3
  have z4 := zz _ _ x4
  have z5 := zz _ _ x5
  have z6 := zz _ _ x6
  have hg2 : w.heap.size < W2.heap.size := by omega
  clear hW2 zz x0 x1 x2 x3 x4 x5 x6 x7 x8 x9
  have own : ∀ (v : Value) (w1 w2 : World) (L : List Nat), Own w1 w.heap.size 5 v (bvs L) → Below w1.heap.size w1 w2 → Own w2 w.heap.size 5 v (bvs L) := fun v w1 w2 L h hb => h.below hb (Nat.le_refl _)
  refine wp_region_once [fun v _ => v = .slice (some ⟨w1.heap.size, 0, none⟩) 1 1, fun v _ => v = .pointer (some ⟨w.heap.size, 1, none⟩),
   fun v _ => v = .agg #[.slice a1 m1 c1, .slice a2 m2 c2, .slice a3 m3 c3, .int .u8 (src : Nat), .slice a4 m4 c4, .slice a5 m5 c5], fun v w' => Own w' w.heap.size 5 v (bvs ([1] ++ unsB d.leaf)),
   fun v _ => v = .pointer (some ⟨w.heap.size, 1, none⟩), fun v _ => v = .pointer (some ⟨w.heap.size, 6, none⟩), fun v _ => v = .slice a5 m5 c5, fun v w' => Own w' w.heap.size 5 v (bvs ([1] ++ unsB d.leaf ++ vecB d.leaf.sig)), fun v w' => Own w' w.heap.size 5 v (bvs ([1] ++ unsB d.leaf ++ vecB d.leaf.sig))]
   (by kernel_rfl) ?_ (by kernel_rfl) (by kernel_rfl) ?_ ?_
  ·exact keeps_cons (fun _ _ _ h _ => h) (keeps_cons (fun _ _ _ h _ => h) (keeps_cons (fun _ _ _ h _ => h) (keeps_cons (fun v w1 w2 h hb => own v w1 w2 _ h hb) (keeps_cons (fun _ _ _ h _ => h) (keeps_cons (fun _ _ _ h _ => h)
    (keeps_cons (fun _ _ _ h _ => h) (keeps_cons (fun v w1 w2 h hb => own v w1 w2 _ h hb) (keeps_cons (fun v w1 w2 h hb => own v w1 w2 _ h hb) keeps_nil))))))))
  ·refine .cons (owed_go rfl ?_) (.cons (owed_go rfl ?_) (.cons (owed_go rfl ?_) (.cons (owed_go rfl ?_) (.cons (owed_go rfl ?_) (.cons (owed_go rfl ?_) (.cons (owed_go rfl ?_) (.cons (owed_go rfl ?_) (.cons (owed_go rfl ?_) .nil))))))))
   ·intro a wx hbx ho hf K hK
    have e0 : a.tmps[4]?.getD undef = .slice (some ⟨w1.heap.size, 0, none⟩) 1 1 := ho 4 (by kernel_rfl)
    go_simp
    exact hK _ _ rfl (Below.refl _ _)
   ·intro a wx hbx ho hf K hK
    have e0 : a.tmps[1]?.getD undef = .pointer (some ⟨w.heap.size, 0, none⟩) := ho 1 (by kernel_rfl)
    go_simp
    exact hK _ _ rfl (Below.refl _ _)
   ·intro a wx hbx ho hf K hK
    have e0 : a.tmps[16]?.getD undef = .pointer (some ⟨w.heap.size, 1, none⟩) := hf.1
    have c1 := (hbx.cell (p := ⟨w.heap.size, 1, none⟩) hg2).trans z1
    have c2 := (hbx.cell (p := ⟨w.heap.size, 2, none⟩) hg2).trans z2
    have c3 := (hbx.cell (p := ⟨w.heap.size, 3, none⟩) hg2).trans z3
    have c4 := (hbx.cell (p := ⟨w.heap.size, 4, none⟩) hg2).trans z4
    have c5 := (hbx.cell (p := ⟨w.heap.size, 5, none⟩) hg2).trans z5
    have c6 := (hbx.cell (p := ⟨w.heap.size, 6, none⟩) hg2).trans z6
    go_simp
    exact hK _ _ rfl (Below.refl _ _)
   ·intro a wx hbx ho hf K hK
    have e0 : a.tmps[15]?.getD undef = .slice (some ⟨w1.heap.size, 0, none⟩) 1 1 := hf.1
    have e1 : a.tmps[17]?.getD undef = .agg #[.slice a1 m1 c1, .slice a2 m2 c2, .slice a3 m3 c3, .int .u8 (src : Nat), .slice a4 m4 c4, .slice a5 m5 c5] := hf.2.1
    go_simp
    refine (HU.out _ [1] wx (HO.out.rd.below hbx (Nat.le_refl _)) (by simp) (hbt.trans (hbx.mono (by omega)))).mono ?_
    rintro e w2 ⟨v2, rfl, hown, hb2⟩
    exact hK _ _ (hown.mono (by have := hbx.size; omega)) hb2
   ·intro a wx hbx ho hf K hK
    have e0 : a.tmps[1]?.getD undef = .pointer (some ⟨w.heap.size, 0, none⟩) := ho 1 (by kernel_rfl)
    go_simp
    exact hK _ _ rfl (Below.refl _ _)
   ·intro a wx hbx ho hf K hK
    have e0 : a.tmps[19]?.getD undef = .pointer (some ⟨w.heap.size, 1, none⟩) := hf.1
    go_simp
    exact hK _ _ rfl (Below.refl _ _)
   ·intro a wx hbx ho hf K hK
    have e0 : a.tmps[20]?.getD undef = .pointer (some ⟨w.heap.size, 6, none⟩) := hf.1
    have c6 := (hbx.cell (p := ⟨w.heap.size, 6, none⟩) hg2).trans z6
    go_simp
    exact hK _ _ rfl (Below.refl _ _)
   ·intro a wx hbx ho hf K hK
    have o0 : Own wx w.heap.size 5 (a.tmps[18]?.getD undef) (bvs ([1] ++ unsB d.leaf)) := hf.1
    obtain ⟨v, hv⟩ : ∃ v, v = a.tmps[18]?.getD undef := ⟨_, rfl⟩
    rw [← hv] at o0
    have e0 := hv.symm
    have e1 : a.tmps[21]?.getD undef = .slice a5 m5 c5 := hf.2.1
    clear hv
    go_simp
    refine (putVec_any v _ _ d.leaf.sig wx o0.rd (H5.out.below (hbt.trans (hbx.mono (by omega))) (Nat.le_refl _)) (by rw [List.length_append]; simp; omega) (by rw [← HM5.out]; omega)).mono ?_
    rintro e w2 ⟨v2, rfl, hown, hb2⟩
    exact hK _ _ (hown.mono (by have := hbx.size; omega)) hb2
   ·intro a wx hbx ho hf K hK
    have o0 : Own wx w.heap.size 5 (a.tmps[22]?.getD undef) (bvs ([1] ++ unsB d.leaf ++ vecB d.leaf.sig)) := hf.1
    obtain ⟨v, hv⟩ : ∃ v, v = a.tmps[22]?.getD undef := ⟨_, rfl⟩
    rw [← hv] at o0
    have e0 := hv.symm
    clear hv
    go_simp
    exact hK _ _ o0 (Below.refl _ _)
  ·rintro f w3 hb3 ⟨-, -, -, -, -, -, -, -, f8, -⟩
   have h8 : Own w3 w.heap.size 5 (f 4) (bvs ([1] ++ unsB d.leaf ++ vecB d.leaf.sig)) := f8
   have H8 := Lib.hid h8
   have HB3 := Lib.hid (hbt.trans (hb3.mono (show w.heap.size ≤ W2.heap.size by omega)))
   clear h8 f8 hb3 z1 z2 z3 z4 z5 z6 own hbt
   simp only [frameOf, dstsOf, zipF, List.filterMap_cons, List.filterMap_nil, List.contains_cons, List.contains_nil, Nat.reduceBEq, Nat.reduceAdd, Bool.or_false, Bool.or_true, cond_true, cond_false]
   go_wp2_with fail
   go_ret2
   refine (HE.out _ _).2 ⟨HB3.out, _, rfl, ?_⟩
   rw [HN1.out trivial]
   exact H8.out
 ·go_wp2_with fail
  have hbt := HB1.out.alloc HB1.out.size (.cells #[.int .u8 2] 5)
  have HO := Lib.hid (Own.full (w := w1) (B := w.heap.size) (e := 5) (cs := #[.int .u8 2]) rfl HB1.out.size (by unfold maxLen; simp) (n := 1) rfl)
  refine (HPB.out trivial _ [2] _ HO.out.rd (by simp) hbt).mono ?_
  rintro e w3 ⟨v3, rfl, hown, hb3⟩
  have HO3 := Lib.hid (hown.mono hbt.size)
  have HB3 := Lib.hid (hbt.trans (hb3.mono hbt.size))
  clear hown hb3 hbt
  go_wp2_with fail
  go_ret2
  refine (HE.out _ _).2 ⟨HB3.out, _, rfl, ?_⟩
  rw [HN2.out trivial]
  exact HO3.out
end Go.Proofs.YtngealmhgkoaiaaGreat
/- Walks: the reference's SameLeaf, Same of nodes. -/
namespace Go.Proofs.YtngealmhgkoaiaaGreat
open Go.RowKit WireM
set_option linter.unusedVariables false
/-- one call of Same, decided -/
theorem same_dec (v v' : Value) (A B : List Nat) (w : World) (h : Rd w v (bvs A)) (h' : Rd w v' (bvs B)) (hA : ∀ n ∈ A, n < 256) (hB : ∀ n ∈ B, n < 256) (b : Bool) (hb : decide (A = B) = b) :
  Calls Tryz.prog 20 #[v, v'] w fun e w' => e = .returned (.bool b) ∧ ∃ n, w' = w.drewN n := by
 refine (same_any v v' A B w h h' hA hB).mono ?_
 rintro e w' ⟨he, hw⟩
 rw [hb] at he
 exact ⟨he, hw⟩
structure LeafOk (d : LeafD) : Prop where
 source : d.source < 256
 box : ∀ n ∈ d.box, n < 256
 sign : ∀ n ∈ d.sign, n < 256
 ident : ∀ n ∈ d.ident, n < 256
 par : ∀ n ∈ d.par, n < 256
 sig : ∀ n ∈ d.sig, n < 256
theorem NodeOk.leaf {d : NodeD} (h : NodeOk d) : LeafOk d.leaf := ⟨h.source, h.box, h.sign, h.ident, h.par, h.sig⟩
/-- the six cells of a leaf -/
def LeafC (w : World) (d : LeafD) (c : Array Value) : Prop :=
 ∃ a1 c1 a2 c2 a3 c3 a4 c4 a5 c5, c = #[.slice a1 d.box.length c1, .slice a2 d.sign.length c2, .slice a3 d.ident.length c3, .int .u8 (d.source : Nat), .slice a4 d.par.length c4, .slice a5 d.sig.length c5] ∧
  Rd w (.slice a1 d.box.length c1) (bvs d.box) ∧ Rd w (.slice a2 d.sign.length c2) (bvs d.sign) ∧ Rd w (.slice a3 d.ident.length c3) (bvs d.ident) ∧
  Rd w (.slice a4 d.par.length c4) (bvs d.par) ∧ Rd w (.slice a5 d.sig.length c5) (bvs d.sig)
def sameLB (a b : LeafD) : Bool := decide (a.box = b.box ∧ a.sign = b.sign ∧ a.ident = b.ident ∧ a.source = b.source ∧ a.par = b.par ∧ a.sig = b.sig)
set_option maxRecDepth 100000 in
set_option maxHeartbeats 8000000 in
theorem rsameLeaf_any (d e : LeafD) (c c' : Array Value) (w : World) (hc : LeafC w d c) (hc' : LeafC w e c') (hd : LeafOk d) (he : LeafOk e) :
  Calls Tryz.prog 53 #[.agg c, .agg c'] w fun e' w' => e' = .returned (.bool (sameLB d e)) ∧ Below w.heap.size w w' := by
 obtain ⟨a1, c1, a2, c2, a3, c3, a4, c4, a5, c5, rfl, h1, h2, h3, h4, h5⟩ := hc
 obtain ⟨b1, e1, b2, e2, b3, e3, b4, e4, b5, e5, rfl, k1, k2, k3, k4, k5⟩ := hc'
 have S1 := fun W (hw : Below w.heap.size w W) b hb => same_dec _ _ d.box e.box W (h1.below hw (Nat.le_refl _)) (k1.below hw (Nat.le_refl _)) hd.box he.box b hb
 have S2 := fun W (hw : Below w.heap.size w W) b hb => same_dec _ _ d.sign e.sign W (h2.below hw (Nat.le_refl _)) (k2.below hw (Nat.le_refl _)) hd.sign he.sign b hb
 have S3 := fun W (hw : Below w.heap.size w W) b hb => same_dec _ _ d.ident e.ident W (h3.below hw (Nat.le_refl _)) (k3.below hw (Nat.le_refl _)) hd.ident he.ident b hb
 have S4 := fun W (hw : Below w.heap.size w W) b hb => same_dec _ _ d.par e.par W (h4.below hw (Nat.le_refl _)) (k4.below hw (Nat.le_refl _)) hd.par he.par b hb
 have S5 := fun W (hw : Below w.heap.size w W) b hb => same_dec _ _ d.sig e.sig W (h5.below hw (Nat.le_refl _)) (k5.below hw (Nat.le_refl _)) hd.sig he.sig b hb
 have hE : sameLB d e = decide (d.box = e.box ∧ d.sign = e.sign ∧ d.ident = e.ident ∧ d.source = e.source ∧ d.par = e.par ∧ d.sig = e.sig) := rfl
 rw [hE]
 clear hE
 obtain ⟨m1, hm1⟩ : ∃ m, m = d.box.length := ⟨_, rfl⟩
 obtain ⟨q1, hq1⟩ : ∃ m, m = e.box.length := ⟨_, rfl⟩
 rw [← hm1, ← hq1] at S1
 obtain ⟨m2, hm2⟩ : ∃ m, m = d.sign.length := ⟨_, rfl⟩
 obtain ⟨q2, hq2⟩ : ∃ m, m = e.sign.length := ⟨_, rfl⟩
 rw [← hm2, ← hq2] at S2
 obtain ⟨m3, hm3⟩ : ∃ m, m = d.ident.length := ⟨_, rfl⟩
 obtain ⟨q3, hq3⟩ : ∃ m, m = e.ident.length := ⟨_, rfl⟩
 rw [← hm3, ← hq3] at S3
 obtain ⟨m4, hm4⟩ : ∃ m, m = d.par.length := ⟨_, rfl⟩
 obtain ⟨q4, hq4⟩ : ∃ m, m = e.par.length := ⟨_, rfl⟩
 rw [← hm4, ← hq4] at S4
 obtain ⟨m5, hm5⟩ : ∃ m, m = d.sig.length := ⟨_, rfl⟩
 obtain ⟨q5, hq5⟩ : ∃ m, m = e.sig.length := ⟨_, rfl⟩
 rw [← hm5, ← hq5] at S5
 rw [← hm1, ← hm2, ← hm3, ← hm4, ← hm5, ← hq1, ← hq2, ← hq3, ← hq4, ← hq5]
 obtain ⟨s1, hs1⟩ : ∃ m, m = d.source := ⟨_, rfl⟩
 obtain ⟨s2, hs2⟩ : ∃ m, m = e.source := ⟨_, rfl⟩
 rw [← hs1, ← hs2]
 obtain ⟨A1, hA1⟩ : ∃ m, m = d.box := ⟨_, rfl⟩
 obtain ⟨B1, hB1⟩ : ∃ m, m = e.box := ⟨_, rfl⟩
 rw [← hA1, ← hB1] at S1
 obtain ⟨A2, hA2⟩ : ∃ m, m = d.sign := ⟨_, rfl⟩
 obtain ⟨B2, hB2⟩ : ∃ m, m = e.sign := ⟨_, rfl⟩
 rw [← hA2, ← hB2] at S2
 obtain ⟨A3, hA3⟩ : ∃ m, m = d.ident := ⟨_, rfl⟩
 obtain ⟨B3, hB3⟩ : ∃ m, m = e.ident := ⟨_, rfl⟩
 rw [← hA3, ← hB3] at S3
 obtain ⟨A4, hA4⟩ : ∃ m, m = d.par := ⟨_, rfl⟩
 obtain ⟨B4, hB4⟩ : ∃ m, m = e.par := ⟨_, rfl⟩
 rw [← hA4, ← hB4] at S4
 obtain ⟨A5, hA5⟩ : ∃ m, m = d.sig := ⟨_, rfl⟩
 obtain ⟨B5, hB5⟩ : ∃ m, m = e.sig := ⟨_, rfl⟩
 rw [← hA5, ← hB5] at S5
 rw [← hA1, ← hA2, ← hA3, ← hA4, ← hA5, ← hB1, ← hB2, ← hB3, ← hB4, ← hB5]
 have HS1 := Lib.hid S1
 have HS2 := Lib.hid S2
 have HS3 := Lib.hid S3
 have HS4 := Lib.hid S4
 have HS5 := Lib.hid S5
 have HB0 := Lib.hid (((Below.refl w.heap.size w).alloc (Nat.le_refl _) (.cells #[.slice a1 m1 c1, .slice a2 m2 c2, .slice a3 m3 c3, .int .u8 (s1 : Nat), .slice a4 m4 c4, .slice a5 m5 c5] 49)).alloc (by simp) (.cells #[.slice b1 q1 e1, .slice b2 q2 e2, .slice b3 q3 e3, .int .u8 (s2 : Nat), .slice b4 q4 e4, .slice b5 q5 e5] 49))
 clear h1 k1 S1 hm1 hq1 hA1 hB1 h2 k2 S2 hm2 hq2 hA2 hB2 h3 k3 S3 hm3 hq3 hA3 hB3 h4 k4 S4 hm4 hq4 hA4 hB4 h5 k5 S5 hm5 hq5 hA5 hB5 hs1 hs2 hd he
 by_cases k1 : A1 = B1
 ·skip
  by_cases k2 : A2 = B2
  ·skip
   by_cases k3 : A3 = B3
   ·skip
    by_cases ks : s1 = s2
    ·have ts : ((s1 : Int) == (s2 : Int)) = true := by rw [beq_iff_eq]; omega
     by_cases k4 : A4 = B4
     ·skip
      by_cases k5 : A5 = B5
      ·skip
       have HE : Hid (decide (A1 = B1 ∧ A2 = B2 ∧ A3 = B3 ∧ s1 = s2 ∧ A4 = B4 ∧ A5 = B5) = true) := Lib.hid (decide_eq_true ⟨k1, k2, k3, ks, k4, k5⟩)
       have HK := Lib.hid (show A1 = B1 ∧ A2 = B2 ∧ A3 = B3 ∧ A4 = B4 ∧ A5 = B5 from ⟨k1, k2, k3, k4, k5⟩)
       clear k1 k2 k3 ks k4 k5
       go_enter Tryz.func53, Tryz.ntmps53
       go_wp2_with fail
       refine (HS1.out _ (by repeat (first | exact HB0.out | refine below_drewN' ?_ _)) true (decide_eq_true (HK.out.1))).mono ?_
       rintro e' w' ⟨rfl, n1, rfl⟩
       go_wp2_with fail
       refine (HS2.out _ (by repeat (first | exact HB0.out | refine below_drewN' ?_ _)) true (decide_eq_true (HK.out.2.1))).mono ?_
       rintro e' w' ⟨rfl, n2, rfl⟩
       go_wp2_with fail
       refine (HS3.out _ (by repeat (first | exact HB0.out | refine below_drewN' ?_ _)) true (decide_eq_true (HK.out.2.2.1))).mono ?_
       rintro e' w' ⟨rfl, n3, rfl⟩
       go_wp2_with fail
       refine (HS4.out _ (by repeat (first | exact HB0.out | refine below_drewN' ?_ _)) true (decide_eq_true (HK.out.2.2.2.1))).mono ?_
       rintro e' w' ⟨rfl, n4, rfl⟩
       go_wp2_with fail
       refine (HS5.out _ (by repeat (first | exact HB0.out | refine below_drewN' ?_ _)) true (decide_eq_true (HK.out.2.2.2.2))).mono ?_
       rintro e' w' ⟨rfl, n5, rfl⟩
       go_wp2_with fail
       go_ret
       exact ⟨ret_bool HE.out.symm, (by repeat (first | exact HB0.out | refine below_drewN' ?_ _))⟩
      ·have HE : Hid (decide (A1 = B1 ∧ A2 = B2 ∧ A3 = B3 ∧ s1 = s2 ∧ A4 = B4 ∧ A5 = B5) = false) := Lib.hid (decide_eq_false (fun h => k5 (h.2.2.2.2.2)))
       have HK1 := Lib.hid k1
       have HK2 := Lib.hid k2
       have HK3 := Lib.hid k3
       have HK4 := Lib.hid k4
       have HN := Lib.hid k5
       clear k1 k2 k3 ks k4 k5
       go_enter Tryz.func53, Tryz.ntmps53
       go_wp2_with fail
       refine (HS1.out _ (by repeat (first | exact HB0.out | refine below_drewN' ?_ _)) true (decide_eq_true HK1.out)).mono ?_
       rintro e' w' ⟨rfl, n1, rfl⟩
       go_wp2_with fail
       refine (HS2.out _ (by repeat (first | exact HB0.out | refine below_drewN' ?_ _)) true (decide_eq_true HK2.out)).mono ?_
       rintro e' w' ⟨rfl, n2, rfl⟩
       go_wp2_with fail
       refine (HS3.out _ (by repeat (first | exact HB0.out | refine below_drewN' ?_ _)) true (decide_eq_true HK3.out)).mono ?_
       rintro e' w' ⟨rfl, n3, rfl⟩
       go_wp2_with fail
       refine (HS4.out _ (by repeat (first | exact HB0.out | refine below_drewN' ?_ _)) true (decide_eq_true HK4.out)).mono ?_
       rintro e' w' ⟨rfl, n4, rfl⟩
       go_wp2_with fail
       refine (HS5.out _ (by repeat (first | exact HB0.out | refine below_drewN' ?_ _)) false (decide_eq_false HN.out)).mono ?_
       rintro e' w' ⟨rfl, n5, rfl⟩
       go_wp2_with fail
       go_ret
       exact ⟨ret_bool HE.out.symm, (by repeat (first | exact HB0.out | refine below_drewN' ?_ _))⟩
     ·have HE : Hid (decide (A1 = B1 ∧ A2 = B2 ∧ A3 = B3 ∧ s1 = s2 ∧ A4 = B4 ∧ A5 = B5) = false) := Lib.hid (decide_eq_false (fun h => k4 (h.2.2.2.2.1)))
      have HK1 := Lib.hid k1
      have HK2 := Lib.hid k2
      have HK3 := Lib.hid k3
      have HN := Lib.hid k4
      clear k1 k2 k3 ks k4
      go_enter Tryz.func53, Tryz.ntmps53
      go_wp2_with fail
      refine (HS1.out _ (by repeat (first | exact HB0.out | refine below_drewN' ?_ _)) true (decide_eq_true HK1.out)).mono ?_
      rintro e' w' ⟨rfl, n1, rfl⟩
      go_wp2_with fail
      refine (HS2.out _ (by repeat (first | exact HB0.out | refine below_drewN' ?_ _)) true (decide_eq_true HK2.out)).mono ?_
      rintro e' w' ⟨rfl, n2, rfl⟩
      go_wp2_with fail
      refine (HS3.out _ (by repeat (first | exact HB0.out | refine below_drewN' ?_ _)) true (decide_eq_true HK3.out)).mono ?_
      rintro e' w' ⟨rfl, n3, rfl⟩
      go_wp2_with fail
      refine (HS4.out _ (by repeat (first | exact HB0.out | refine below_drewN' ?_ _)) false (decide_eq_false HN.out)).mono ?_
      rintro e' w' ⟨rfl, n4, rfl⟩
      go_wp2_with fail
      go_ret
      exact ⟨ret_bool HE.out.symm, (by repeat (first | exact HB0.out | refine below_drewN' ?_ _))⟩
    ·have HE : Hid (decide (A1 = B1 ∧ A2 = B2 ∧ A3 = B3 ∧ s1 = s2 ∧ A4 = B4 ∧ A5 = B5) = false) := Lib.hid (decide_eq_false (fun h => ks (h.2.2.2.1)))
     have HK1 := Lib.hid k1
     have HK2 := Lib.hid k2
     have HK3 := Lib.hid k3
     have ts : ((s1 : Int) == (s2 : Int)) = false := by rw [beq_eq_false_iff_ne]; omega
     clear k1 k2 k3 ks
     go_enter Tryz.func53, Tryz.ntmps53
     go_wp2_with fail
     refine (HS1.out _ (by repeat (first | exact HB0.out | refine below_drewN' ?_ _)) true (decide_eq_true HK1.out)).mono ?_
     rintro e' w' ⟨rfl, n1, rfl⟩
     go_wp2_with fail
     refine (HS2.out _ (by repeat (first | exact HB0.out | refine below_drewN' ?_ _)) true (decide_eq_true HK2.out)).mono ?_
     rintro e' w' ⟨rfl, n2, rfl⟩
     go_wp2_with fail
     refine (HS3.out _ (by repeat (first | exact HB0.out | refine below_drewN' ?_ _)) true (decide_eq_true HK3.out)).mono ?_
     rintro e' w' ⟨rfl, n3, rfl⟩
     go_wp2_with fail
     go_ret
     exact ⟨ret_bool HE.out.symm, (by repeat (first | exact HB0.out | refine below_drewN' ?_ _))⟩
   ·have HE : Hid (decide (A1 = B1 ∧ A2 = B2 ∧ A3 = B3 ∧ s1 = s2 ∧ A4 = B4 ∧ A5 = B5) = false) := Lib.hid (decide_eq_false (fun h => k3 (h.2.2.1)))
    have HK1 := Lib.hid k1
    have HK2 := Lib.hid k2
    have HN := Lib.hid k3
    clear k1 k2 k3
    go_enter Tryz.func53, Tryz.ntmps53
    go_wp2_with fail
    refine (HS1.out _ (by repeat (first | exact HB0.out | refine below_drewN' ?_ _)) true (decide_eq_true HK1.out)).mono ?_
    rintro e' w' ⟨rfl, n1, rfl⟩
    go_wp2_with fail
    refine (HS2.out _ (by repeat (first | exact HB0.out | refine below_drewN' ?_ _)) true (decide_eq_true HK2.out)).mono ?_
    rintro e' w' ⟨rfl, n2, rfl⟩
    go_wp2_with fail
    refine (HS3.out _ (by repeat (first | exact HB0.out | refine below_drewN' ?_ _)) false (decide_eq_false HN.out)).mono ?_
    rintro e' w' ⟨rfl, n3, rfl⟩
    go_wp2_with fail
    go_ret
    exact ⟨ret_bool HE.out.symm, (by repeat (first | exact HB0.out | refine below_drewN' ?_ _))⟩
  ·have HE : Hid (decide (A1 = B1 ∧ A2 = B2 ∧ A3 = B3 ∧ s1 = s2 ∧ A4 = B4 ∧ A5 = B5) = false) := Lib.hid (decide_eq_false (fun h => k2 (h.2.1)))
   have HK1 := Lib.hid k1
   have HN := Lib.hid k2
   clear k1 k2
   go_enter Tryz.func53, Tryz.ntmps53
   go_wp2_with fail
   refine (HS1.out _ (by repeat (first | exact HB0.out | refine below_drewN' ?_ _)) true (decide_eq_true HK1.out)).mono ?_
   rintro e' w' ⟨rfl, n1, rfl⟩
   go_wp2_with fail
   refine (HS2.out _ (by repeat (first | exact HB0.out | refine below_drewN' ?_ _)) false (decide_eq_false HN.out)).mono ?_
   rintro e' w' ⟨rfl, n2, rfl⟩
   go_wp2_with fail
   go_ret
   exact ⟨ret_bool HE.out.symm, (by repeat (first | exact HB0.out | refine below_drewN' ?_ _))⟩
 ·have HE : Hid (decide (A1 = B1 ∧ A2 = B2 ∧ A3 = B3 ∧ s1 = s2 ∧ A4 = B4 ∧ A5 = B5) = false) := Lib.hid (decide_eq_false (fun h => k1 (h.1)))
  have HN := Lib.hid k1
  clear k1
  go_enter Tryz.func53, Tryz.ntmps53
  go_wp2_with fail
  refine (HS1.out _ (by repeat (first | exact HB0.out | refine below_drewN' ?_ _)) false (decide_eq_false HN.out)).mono ?_
  rintro e' w' ⟨rfl, n1, rfl⟩
  go_wp2_with fail
  go_ret
  exact ⟨ret_bool HE.out.symm, (by repeat (first | exact HB0.out | refine below_drewN' ?_ _))⟩
end Go.Proofs.YtngealmhgkoaiaaGreat
/- Walks: the reference's Same of nodes. -/
namespace Go.Proofs.YtngealmhgkoaiaaGreat
open Go.RowKit WireM
set_option linter.unusedVariables false
def sameNB (a b : NodeD) : Bool := decide (a.kind = b.kind ∧ sameLB a.leaf b.leaf = true ∧ a.par.box = b.par.box ∧ a.par.hash = b.par.hash ∧ a.par.late = b.par.late)
set_option maxRecDepth 100000 in
set_option maxHeartbeats 8000000 in
theorem rsameNode_any (d e : NodeD) (c c' : Array Value) (w : World) (hc : NodeC w d c) (hc' : NodeC w e c') (hd : NodeOk d) (he : NodeOk e) :
  Calls Tryz.prog 43 #[.agg c, .agg c'] w fun e' w' => e' = .returned (.bool (sameNB d e)) ∧ Below w.heap.size w w' := by
 obtain ⟨a1, c1, a2, c2, a3, c3, a4, c4, a5, c5, a6, c6, a7, c7, a8, c8, rfl, h1, h2, h3, h4, h5, h6, h7, h8⟩ := hc
 obtain ⟨b1, e1, b2, e2, b3, e3, b4, e4, b5, e5, b6, e6, b7, e7, b8, e8, rfl, k1, k2, k3, k4, k5, k6, k7, k8⟩ := hc'
 have SL := fun W (hw : Below w.heap.size w W) => rsameLeaf_any d.leaf e.leaf _ _ W ⟨a1, c1, a2, c2, a3, c3, a4, c4, a5, c5, rfl, h1.below hw (Nat.le_refl _), h2.below hw (Nat.le_refl _), h3.below hw (Nat.le_refl _), h4.below hw (Nat.le_refl _), h5.below hw (Nat.le_refl _)⟩
  ⟨b1, e1, b2, e2, b3, e3, b4, e4, b5, e5, rfl, k1.below hw (Nat.le_refl _), k2.below hw (Nat.le_refl _), k3.below hw (Nat.le_refl _), k4.below hw (Nat.le_refl _), k5.below hw (Nat.le_refl _)⟩ hd.leaf he.leaf
 have S6 := fun W (hw : Below w.heap.size w W) b hb => same_dec _ _ d.par.box e.par.box W (h6.below hw (Nat.le_refl _)) (k6.below hw (Nat.le_refl _)) hd.pbox he.pbox b hb
 have S7 := fun W (hw : Below w.heap.size w W) b hb => same_dec _ _ d.par.hash e.par.hash W (h7.below hw (Nat.le_refl _)) (k7.below hw (Nat.le_refl _)) hd.hash he.hash b hb
 have S8 := fun W (hw : Below w.heap.size w W) => sameI_any _ _ d.par.late e.par.late W (h8.below hw (Nat.le_refl _)) (k8.below hw (Nat.le_refl _))
 have hE : sameNB d e = decide (d.kind = e.kind ∧ sameLB d.leaf e.leaf = true ∧ d.par.box = e.par.box ∧ d.par.hash = e.par.hash ∧ d.par.late = e.par.late) := rfl
 rw [hE]
 clear hE
 obtain ⟨m1, hm1⟩ : ∃ m, m = d.leaf.box.length := ⟨_, rfl⟩
 obtain ⟨q1, hq1⟩ : ∃ m, m = e.leaf.box.length := ⟨_, rfl⟩
 obtain ⟨m2, hm2⟩ : ∃ m, m = d.leaf.sign.length := ⟨_, rfl⟩
 obtain ⟨q2, hq2⟩ : ∃ m, m = e.leaf.sign.length := ⟨_, rfl⟩
 obtain ⟨m3, hm3⟩ : ∃ m, m = d.leaf.ident.length := ⟨_, rfl⟩
 obtain ⟨q3, hq3⟩ : ∃ m, m = e.leaf.ident.length := ⟨_, rfl⟩
 obtain ⟨m4, hm4⟩ : ∃ m, m = d.leaf.par.length := ⟨_, rfl⟩
 obtain ⟨q4, hq4⟩ : ∃ m, m = e.leaf.par.length := ⟨_, rfl⟩
 obtain ⟨m5, hm5⟩ : ∃ m, m = d.leaf.sig.length := ⟨_, rfl⟩
 obtain ⟨q5, hq5⟩ : ∃ m, m = e.leaf.sig.length := ⟨_, rfl⟩
 obtain ⟨m6, hm6⟩ : ∃ m, m = d.par.box.length := ⟨_, rfl⟩
 obtain ⟨q6, hq6⟩ : ∃ m, m = e.par.box.length := ⟨_, rfl⟩
 obtain ⟨m7, hm7⟩ : ∃ m, m = d.par.hash.length := ⟨_, rfl⟩
 obtain ⟨q7, hq7⟩ : ∃ m, m = e.par.hash.length := ⟨_, rfl⟩
 obtain ⟨m8, hm8⟩ : ∃ m, m = d.par.late.length := ⟨_, rfl⟩
 obtain ⟨q8, hq8⟩ : ∃ m, m = e.par.late.length := ⟨_, rfl⟩
 obtain ⟨s1, hs1⟩ : ∃ m, m = d.leaf.source := ⟨_, rfl⟩
 obtain ⟨s2, hs2⟩ : ∃ m, m = e.leaf.source := ⟨_, rfl⟩
 obtain ⟨kd, hkd⟩ : ∃ m, m = d.kind := ⟨_, rfl⟩
 obtain ⟨ke, hke⟩ : ∃ m, m = e.kind := ⟨_, rfl⟩
 rw [← hm1, ← hm2, ← hm3, ← hm4, ← hm5, ← hq1, ← hq2, ← hq3, ← hq4, ← hq5, ← hs1, ← hs2] at SL
 rw [← hm6, ← hq6] at S6
 rw [← hm7, ← hq7] at S7
 rw [← hm8, ← hq8] at S8
 rw [← hm1, ← hm2, ← hm3, ← hm4, ← hm5, ← hm6, ← hm7, ← hm8, ← hq1, ← hq2, ← hq3, ← hq4, ← hq5, ← hq6, ← hq7, ← hq8, ← hs1, ← hs2, ← hkd, ← hke]
 obtain ⟨sl, hsl⟩ : ∃ m, m = sameLB d.leaf e.leaf := ⟨_, rfl⟩
 rw [← hsl] at SL ⊢
 obtain ⟨A6, hA6⟩ : ∃ m, m = d.par.box := ⟨_, rfl⟩
 obtain ⟨B6, hB6⟩ : ∃ m, m = e.par.box := ⟨_, rfl⟩
 rw [← hA6, ← hB6] at S6 ⊢
 obtain ⟨A7, hA7⟩ : ∃ m, m = d.par.hash := ⟨_, rfl⟩
 obtain ⟨B7, hB7⟩ : ∃ m, m = e.par.hash := ⟨_, rfl⟩
 rw [← hA7, ← hB7] at S7 ⊢
 obtain ⟨A8, hA8⟩ : ∃ m, m = d.par.late := ⟨_, rfl⟩
 obtain ⟨B8, hB8⟩ : ∃ m, m = e.par.late := ⟨_, rfl⟩
 rw [← hA8, ← hB8] at S8 ⊢
 have HSL := Lib.hid SL
 have HS6 := Lib.hid S6
 have HS7 := Lib.hid S7
 have HS8 := Lib.hid S8
 have HB0 := Lib.hid (((Below.refl w.heap.size w).alloc (Nat.le_refl _) (.cells #[.int .u8 (kd : Nat), .slice a1 m1 c1, .slice a2 m2 c2, .slice a3 m3 c3, .int .u8 (s1 : Nat), .slice a4 m4 c4, .slice a5 m5 c5, .slice a6 m6 c6, .slice a7 m7 c7, .slice a8 m8 c8] 54)).alloc (by simp) (.cells #[.int .u8 (ke : Nat), .slice b1 q1 e1, .slice b2 q2 e2, .slice b3 q3 e3, .int .u8 (s2 : Nat), .slice b4 q4 e4, .slice b5 q5 e5, .slice b6 q6 e6, .slice b7 q7 e7, .slice b8 q8 e8] 54))
 have HK1 := Lib.hid ((Blk.new w 54 #[.int .u8 (kd : Nat), .slice a1 m1 c1, .slice a2 m2 c2, .slice a3 m3 c3, .int .u8 (s1 : Nat), .slice a4 m4 c4, .slice a5 m5 c5, .slice a6 m6 c6, .slice a7 m7 c7, .slice a8 m8 c8]).alloc (.cells #[.int .u8 (ke : Nat), .slice b1 q1 e1, .slice b2 q2 e2, .slice b3 q3 e3, .int .u8 (s2 : Nat), .slice b4 q4 e4, .slice b5 q5 e5, .slice b6 q6 e6, .slice b7 q7 e7, .slice b8 q8 e8] 54))
 have hk2 := Blk.new (w.alloc (.cells #[.int .u8 (kd : Nat), .slice a1 m1 c1, .slice a2 m2 c2, .slice a3 m3 c3, .int .u8 (s1 : Nat), .slice a4 m4 c4, .slice a5 m5 c5, .slice a6 m6 c6, .slice a7 m7 c7, .slice a8 m8 c8] 54)) 54 #[.int .u8 (ke : Nat), .slice b1 q1 e1, .slice b2 q2 e2, .slice b3 q3 e3, .int .u8 (s2 : Nat), .slice b4 q4 e4, .slice b5 q5 e5, .slice b6 q6 e6, .slice b7 q7 e7, .slice b8 q8 e8]
 have hz : (w.alloc (.cells #[.int .u8 (kd : Nat), .slice a1 m1 c1, .slice a2 m2 c2, .slice a3 m3 c3, .int .u8 (s1 : Nat), .slice a4 m4 c4, .slice a5 m5 c5, .slice a6 m6 c6, .slice a7 m7 c7, .slice a8 m8 c8] 54)).heap.size = w.heap.size + 1 := by simp
 rw [hz] at hk2
 have HK2 := Lib.hid hk2
 clear hz hk2 SL S6 S7 S8 hd he h1 k1 hm1 hq1 h2 k2 hm2 hq2 h3 k3 hm3 hq3 h4 k4 hm4 hq4 h5 k5 hm5 hq5 h6 k6 hm6 hq6 h7 k7 hm7 hq7 h8 k8 hm8 hq8 hs1 hs2 hkd hke hsl hA6 hA7 hA8 hB6 hB7 hB8
 by_cases k0 : kd = ke
 ·have t0 : ((kd : Int) == (ke : Int)) = true := by rw [beq_iff_eq]; omega
  cases sl with
  | true =>
   by_cases k6 : A6 = B6
   ·by_cases k7 : A7 = B7
    ·have HN6 := Lib.hid k6
     have HN7 := Lib.hid k7
     by_cases k8 : A8 = B8
     ·have HE : Hid (decide (kd = ke ∧ (true : Bool) = true ∧ A6 = B6 ∧ A7 = B7 ∧ A8 = B8) = true) := Lib.hid (decide_eq_true ⟨k0, rfl, k6, k7, k8⟩)
      have HN8 := Lib.hid k8
      clear k0 k6 k7 k8
      go_enter Tryz.func43, Tryz.ntmps43
      go_wp2_with fail
      refine (HSL.out _ HB0.out).mono ?_
      rintro e' w3 ⟨rfl, hb3⟩
      have hk1 := HK1.out.below hb3 (by simp; omega)
      have hk2 := HK2.out.below hb3 (by simp)
      have y6 := hk1.cell 7
      have y7 := hk1.cell 8
      have y8 := hk1.cell 9
      have z6 := hk2.cell 7
      have z7 := hk2.cell 8
      have z8 := hk2.cell 9
      simp only [List.getElem?_toArray, List.getElem?_cons_zero, List.getElem?_cons_succ] at y6 y7 y8 z6 z7 z8
      have HB3 := Lib.hid (HB0.out.trans (hb3.mono (by simp; omega)))
      have hz3 := hb3.size
      simp only [World.alloc, Array.size_push] at hz3
      have hg1 : w.heap.size < w3.heap.size := by omega
      have hg2 : w.heap.size + 1 < w3.heap.size := by omega
      clear hk1 hk2 hb3 hz3
      go_wp2_with fail
      refine (HS6.out _ (by repeat (first | exact HB3.out | exact HB0.out | refine below_drewN' ?_ _)) true (decide_eq_true HN6.out)).mono ?_
      rintro e' w' ⟨rfl, n6, rfl⟩
      go_wp2_with fail
      refine (HS7.out _ (by repeat (first | exact HB3.out | exact HB0.out | refine below_drewN' ?_ _)) true (decide_eq_true HN7.out)).mono ?_
      rintro e' w' ⟨rfl, n7, rfl⟩
      go_wp2_with fail
      refine (HS8.out _ (by repeat (first | exact HB3.out | exact HB0.out | refine below_drewN' ?_ _))).mono ?_
      rintro e' w' ⟨he8, n8, rfl⟩
      rw [decide_eq_true HN8.out] at he8
      subst he8
      go_wp2_with fail
      go_ret
      exact ⟨ret_bool HE.out.symm, (by repeat (first | exact HB3.out | exact HB0.out | refine below_drewN' ?_ _))⟩
     ·have HE : Hid (decide (kd = ke ∧ (true : Bool) = true ∧ A6 = B6 ∧ A7 = B7 ∧ A8 = B8) = false) := Lib.hid (decide_eq_false (fun h => k8 h.2.2.2.2))
      have HN8 := Lib.hid k8
      clear k0 k6 k7 k8
      go_enter Tryz.func43, Tryz.ntmps43
      go_wp2_with fail
      refine (HSL.out _ HB0.out).mono ?_
      rintro e' w3 ⟨rfl, hb3⟩
      have hk1 := HK1.out.below hb3 (by simp; omega)
      have hk2 := HK2.out.below hb3 (by simp)
      have y6 := hk1.cell 7
      have y7 := hk1.cell 8
      have y8 := hk1.cell 9
      have z6 := hk2.cell 7
      have z7 := hk2.cell 8
      have z8 := hk2.cell 9
      simp only [List.getElem?_toArray, List.getElem?_cons_zero, List.getElem?_cons_succ] at y6 y7 y8 z6 z7 z8
      have HB3 := Lib.hid (HB0.out.trans (hb3.mono (by simp; omega)))
      have hz3 := hb3.size
      simp only [World.alloc, Array.size_push] at hz3
      have hg1 : w.heap.size < w3.heap.size := by omega
      have hg2 : w.heap.size + 1 < w3.heap.size := by omega
      clear hk1 hk2 hb3 hz3
      go_wp2_with fail
      refine (HS6.out _ (by repeat (first | exact HB3.out | exact HB0.out | refine below_drewN' ?_ _)) true (decide_eq_true HN6.out)).mono ?_
      rintro e' w' ⟨rfl, n6, rfl⟩
      go_wp2_with fail
      refine (HS7.out _ (by repeat (first | exact HB3.out | exact HB0.out | refine below_drewN' ?_ _)) true (decide_eq_true HN7.out)).mono ?_
      rintro e' w' ⟨rfl, n7, rfl⟩
      go_wp2_with fail
      refine (HS8.out _ (by repeat (first | exact HB3.out | exact HB0.out | refine below_drewN' ?_ _))).mono ?_
      rintro e' w' ⟨he8, n8, rfl⟩
      rw [decide_eq_false HN8.out] at he8
      subst he8
      go_wp2_with fail
      go_ret
      exact ⟨ret_bool HE.out.symm, (by repeat (first | exact HB3.out | exact HB0.out | refine below_drewN' ?_ _))⟩
    ·have HE : Hid (decide (kd = ke ∧ (true : Bool) = true ∧ A6 = B6 ∧ A7 = B7 ∧ A8 = B8) = false) := Lib.hid (decide_eq_false (fun h => k7 h.2.2.2.1))
     have HN6 := Lib.hid k6
     have HN7 := Lib.hid k7
     clear k0 k6 k7
     go_enter Tryz.func43, Tryz.ntmps43
     go_wp2_with fail
     refine (HSL.out _ HB0.out).mono ?_
     rintro e' w3 ⟨rfl, hb3⟩
     have hk1 := HK1.out.below hb3 (by simp; omega)
     have hk2 := HK2.out.below hb3 (by simp)
     have y6 := hk1.cell 7
     have y7 := hk1.cell 8
     have y8 := hk1.cell 9
     have z6 := hk2.cell 7
     have z7 := hk2.cell 8
     have z8 := hk2.cell 9
     simp only [List.getElem?_toArray, List.getElem?_cons_zero, List.getElem?_cons_succ] at y6 y7 y8 z6 z7 z8
     have HB3 := Lib.hid (HB0.out.trans (hb3.mono (by simp; omega)))
     have hz3 := hb3.size
     simp only [World.alloc, Array.size_push] at hz3
     have hg1 : w.heap.size < w3.heap.size := by omega
     have hg2 : w.heap.size + 1 < w3.heap.size := by omega
     clear hk1 hk2 hb3 hz3
     go_wp2_with fail
     refine (HS6.out _ (by repeat (first | exact HB3.out | exact HB0.out | refine below_drewN' ?_ _)) true (decide_eq_true HN6.out)).mono ?_
     rintro e' w' ⟨rfl, n6, rfl⟩
     go_wp2_with fail
     refine (HS7.out _ (by repeat (first | exact HB3.out | exact HB0.out | refine below_drewN' ?_ _)) false (decide_eq_false HN7.out)).mono ?_
     rintro e' w' ⟨rfl, n7, rfl⟩
     go_wp2_with fail
     go_ret
     exact ⟨ret_bool HE.out.symm, (by repeat (first | exact HB3.out | exact HB0.out | refine below_drewN' ?_ _))⟩
   ·have HE : Hid (decide (kd = ke ∧ (true : Bool) = true ∧ A6 = B6 ∧ A7 = B7 ∧ A8 = B8) = false) := Lib.hid (decide_eq_false (fun h => k6 h.2.2.1))
    have HN6 := Lib.hid k6
    clear k0 k6
    go_enter Tryz.func43, Tryz.ntmps43
    go_wp2_with fail
    refine (HSL.out _ HB0.out).mono ?_
    rintro e' w3 ⟨rfl, hb3⟩
    have hk1 := HK1.out.below hb3 (by simp; omega)
    have hk2 := HK2.out.below hb3 (by simp)
    have y6 := hk1.cell 7
    have y7 := hk1.cell 8
    have y8 := hk1.cell 9
    have z6 := hk2.cell 7
    have z7 := hk2.cell 8
    have z8 := hk2.cell 9
    simp only [List.getElem?_toArray, List.getElem?_cons_zero, List.getElem?_cons_succ] at y6 y7 y8 z6 z7 z8
    have HB3 := Lib.hid (HB0.out.trans (hb3.mono (by simp; omega)))
    have hz3 := hb3.size
    simp only [World.alloc, Array.size_push] at hz3
    have hg1 : w.heap.size < w3.heap.size := by omega
    have hg2 : w.heap.size + 1 < w3.heap.size := by omega
    clear hk1 hk2 hb3 hz3
    go_wp2_with fail
    refine (HS6.out _ (by repeat (first | exact HB3.out | exact HB0.out | refine below_drewN' ?_ _)) false (decide_eq_false HN6.out)).mono ?_
    rintro e' w' ⟨rfl, n6, rfl⟩
    go_wp2_with fail
    go_ret
    exact ⟨ret_bool HE.out.symm, (by repeat (first | exact HB3.out | exact HB0.out | refine below_drewN' ?_ _))⟩
  | false =>
   have HE : Hid (decide (kd = ke ∧ (false : Bool) = true ∧ A6 = B6 ∧ A7 = B7 ∧ A8 = B8) = false) := Lib.hid (decide_eq_false (fun h => by simp at h))
   clear k0
   go_enter Tryz.func43, Tryz.ntmps43
   go_wp2_with fail
   refine (HSL.out _ HB0.out).mono ?_
   rintro e' w3 ⟨rfl, hb3⟩
   have hk1 := HK1.out.below hb3 (by simp; omega)
   have hk2 := HK2.out.below hb3 (by simp)
   have y6 := hk1.cell 7
   have y7 := hk1.cell 8
   have y8 := hk1.cell 9
   have z6 := hk2.cell 7
   have z7 := hk2.cell 8
   have z8 := hk2.cell 9
   simp only [List.getElem?_toArray, List.getElem?_cons_zero, List.getElem?_cons_succ] at y6 y7 y8 z6 z7 z8
   have HB3 := Lib.hid (HB0.out.trans (hb3.mono (by simp; omega)))
   have hz3 := hb3.size
   simp only [World.alloc, Array.size_push] at hz3
   have hg1 : w.heap.size < w3.heap.size := by omega
   have hg2 : w.heap.size + 1 < w3.heap.size := by omega
   clear hk1 hk2 hb3 hz3
   go_wp2_with fail
   go_ret
   exact ⟨ret_bool HE.out.symm, (by repeat (first | exact HB3.out | exact HB0.out | refine below_drewN' ?_ _))⟩
 ·have t0 : ((kd : Int) == (ke : Int)) = false := by rw [beq_eq_false_iff_ne]; omega
  have HE : Hid (decide (kd = ke ∧ sl = true ∧ A6 = B6 ∧ A7 = B7 ∧ A8 = B8) = false) := Lib.hid (decide_eq_false (fun h => k0 h.1))
  clear k0
  go_enter Tryz.func43, Tryz.ntmps43
  go_wp2_with fail
  go_ret
  exact ⟨ret_bool HE.out.symm, HB0.out⟩
end Go.Proofs.YtngealmhgkoaiaaGreat
