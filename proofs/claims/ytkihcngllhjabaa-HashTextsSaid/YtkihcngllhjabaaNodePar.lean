/- Walks: node.parentBytes. -/
import Derived.Test.YtkihcngllhjabaaNodeBytes
import Derived.Test.YtkihcngllhjabaaOnce
namespace Go.Proofs.Ytkihcngllhjabaa
open Go.RowKit WireM
set_option linter.unusedVariables false
def lateL (L : List Int) : List Nat := (L.map fun x => beN 4 x.toNat).flatten
theorem lateL_snoc (L : List Int) (x : Int) : lateL (L ++ [x]) = lateL L ++ beN 4 x.toNat := by simp [lateL]
theorem lateL_len : ∀ L : List Int, (lateL L).length = 4 * L.length := by
  intro L
  induction L with
  | nil => rfl
  | cons x L ih => simp only [lateL, List.map_cons, List.flatten_cons, List.length_append, List.length_cons, beN_len] at ih ⊢; omega
def parB (d : ParD) : List Nat := vecB d.box ++ vecB d.hash ++ vecB (lateL d.late)
set_option maxRecDepth 100000 in
set_option maxHeartbeats 4000000 in
theorem parentBytes_any (b : Value) (B : List Nat) (d : ParD) (a1 a2 a3 : Option Addr) (c1 c2 c3 : Nat) (w : World) (hb : Rd w b (bvs B)) (hB : B.length < 1000000000) (hs1 : d.box.length ≤ 200) (hs2 : d.hash.length ≤ 200) (hs3 : d.late.length ≤ 60) (hl : ∀ x ∈ d.late, 0 ≤ x ∧ x < 65536)
    (h1 : Rd w (.slice a1 d.box.length c1) (bvs d.box)) (h2 : Rd w (.slice a2 d.hash.length c2) (bvs d.hash)) (h3 : Rd w (.slice a3 d.late.length c3) (ivs .i64 d.late)) :
    Calls Try.prog 91 #[b, .agg #[.slice a1 d.box.length c1, .slice a2 d.hash.length c2, .slice a3 d.late.length c3]] w
      fun e w' => ∃ v, e = .returned v ∧ Own w' w.heap.size 5 v (bvs (B ++ parB d)) ∧ Below w.heap.size w w' := by
  have hp : parB d = vecB d.box ++ vecB d.hash ++ vecB (lateL d.late) := rfl
  have hlen := slice_len h3
  have hget := fun r (hr : r < d.late.length) => h3.get (r := r) (show (ivs .i64 d.late)[r]? = some (.int .i64 (d.late.getD r 0)) by simp [ivs, hr])
  have hts := fun (r : Nat) (h : r < d.late.length) => (show d.late.take (r + 1) = d.late.take r ++ [d.late.getD r 0] by rw [List.take_succ_eq_append_getElem h, List.getD_eq_getElem?_getD, List.getElem?_eq_getElem h]; rfl)
  have hval := fun (r : Nat) (h : r < d.late.length) => (show 0 ≤ d.late.getD r 0 ∧ d.late.getD r 0 < 65536 by rw [List.getD_eq_getElem?_getD, List.getElem?_eq_getElem h]; exact hl _ (List.getElem_mem h))
  have hll := fun r => lateL_len (d.late.take r)
  obtain ⟨k, hk⟩ : ∃ k, k = d.late.length := ⟨_, rfl⟩
  rw [← hk] at hget hts hs3 hlen hval ⊢
  have HP := Lib.hid hp
  have H1 := Lib.hid h1
  have H2 := Lib.hid h2
  have HB := Lib.hid hb
  have HG := Lib.hid hget
  have HTS := Lib.hid hts
  have HV := Lib.hid hval
  have HLL := Lib.hid hll
  have HK := Lib.hid hk
  clear hp h1 h2 h3 hb hget hts hval hll hk hl
  obtain ⟨n1, hn1⟩ : ∃ n, n = d.box.length := ⟨_, rfl⟩
  obtain ⟨n2, hn2⟩ : ∃ n, n = d.hash.length := ⟨_, rfl⟩
  rw [← hn1] at H1 hs1 ⊢
  rw [← hn2] at H2 hs2 ⊢
  have HN1 := Lib.hid hn1
  have HN2 := Lib.hid hn2
  clear hn1 hn2
  have hbk0 := Blk.new w 55 #[.slice a1 n1 c1, .slice a2 n2 c2, .slice a3 k c3]
  have hw0 : Below w.heap.size w (w.alloc (.cells #[.slice a1 n1 c1, .slice a2 n2 c2, .slice a3 k c3] 55)) := (Below.refl _ _).alloc (Nat.le_refl _) _
  have hz0 : (w.alloc (.cells #[.slice a1 n1 c1, .slice a2 n2 c2, .slice a3 k c3] 55)).heap.size = w.heap.size + 1 := by simp
  obtain ⟨W1, hW1⟩ : ∃ W1, W1 = w.alloc (.cells #[.slice a1 n1 c1, .slice a2 n2 c2, .slice a3 k c3] 55) := ⟨_, rfl⟩
  rw [← hW1] at hbk0 hw0 hz0
  have HBK := Lib.hid hbk0
  have HW0 := Lib.hid hw0
  have HZ0 := Lib.hid hz0
  have HW1 := Lib.hid hW1
  clear hbk0 hw0 hz0 hW1
  go_enter Try.func91, Try.ntmps91
  go_wp2_with fail
  rw [← HW1.out]
  go_loopg [5, 11] k (fun q lv i wr => ∃ r : Nat, r + q = k ∧ i = .int .i64 (r : Int) ∧ Rd wr lv (bvs (lateL (d.late.take r))) ∧ Below (w.heap.size + 1) W1 wr)
  case atStart => exact ⟨0, by omega, rfl, ⟨none, 0, rfl, Nat.le_refl _, Nat.zero_le _, .inl ⟨rfl, fun _ => rfl⟩⟩, Below.refl _ _⟩
  case round =>
    obtain ⟨r, hr, rfl, hrl, hbw⟩ := hrel
    have HRL := Lib.hid hrl
    have HBW := Lib.hid hbw
    have hzw := hbw.size
    rw [HZ0.out] at hzw
    clear hrl hbw
    by_cases hrk : r < k
    · obtain ⟨b1, o1, rfl, hb1, c0⟩ := HG.out r hrk
      have c0' := (HBW.out.cell (p := ⟨b1, o1 + r, none⟩) (by simp only; omega)).trans ((HW0.out.cell (p := ⟨b1, o1 + r, none⟩) hb1).trans c0)
      have hts := HTS.out r hrk
      obtain ⟨v0, v1⟩ := HV.out r hrk
      have hll := HLL.out r
      obtain ⟨x, hx⟩ : ∃ x, x = d.late.getD r 0 := ⟨_, rfl⟩
      rw [← hx] at c0' hts v0 v1
      obtain ⟨m, rfl⟩ : ∃ m : Nat, x = (m : Int) := ⟨x.toNat, by omega⟩
      have hl60 : (d.late.take r).length ≤ r := List.length_take_le _ _
      have HPN := Lib.hid (fun lv (h : Rd wr lv (bvs (lateL (d.late.take r)))) => putNum_on lv _ 4 m wr h (by omega) rfl (by omega))
      have HT := Lib.hid hts
      clear c0 hx hts hll hl60 hb1
      go_wp2_with fail
      refine (HPN.out _ HRL.out).mono ?_
      rintro e w2 ⟨v2, rfl, hown, hb2⟩
      have HO := Lib.hid hown.rd
      have HB2 := Lib.hid (HBW.out.trans (hb2.mono hzw))
      clear hown hb2
      go_wp2_with fail
      go_roundg (gk - 1)
      case measure => omega
      case rel => exact ⟨r + 1, by omega, by go_num, by rw [HT.out, lateL_snoc, Int.toNat_natCast]; exact HO.out, HB2.out⟩
    · obtain rfl : r = k := by omega
      have ht : d.late.take r = d.late := by rw [HK.out, List.take_length]
      rw [ht] at HRL
      have hll := HLL.out r
      rw [ht, ← HK.out] at hll
      have hrk' : decide ((r : Int) < (r : Int)) = false := by rw [decide_eq_false_iff_not]; omega
      go_wp2_with fail
      have hbk := HBK.out.below HBW.out (by omega)
      have y0 := hbk.cell 0
      have y1 := hbk.cell 1
      simp only [List.getElem?_toArray, List.getElem?_cons_zero, List.getElem?_cons_succ] at y0 y1
      have hv1 := vecB_len d.box (by rw [← HN1.out]; omega)
      have hv2 := vecB_len d.hash (by rw [← HN2.out]; omega)
      rw [← HN1.out] at hv1
      rw [← HN2.out] at hv2
      have hbw1 := HW0.out.trans (HBW.out.mono (by omega))
      have r1 := H1.out.below hbw1 (Nat.le_refl _)
      have r2 := H2.out.below hbw1 (Nat.le_refl _)
      have rb := HB.out.below hbw1 (Nat.le_refl _)
      have r3 := HRL.out
      have hgx : w.heap.size < wr.heap.size := by omega
      have hws : w.heap.size ≤ wr.heap.size := by omega
      have own : ∀ (v : Value) (w1 w2 : World) (L : List Nat), Own w1 w.heap.size 5 v (bvs L) → Below w1.heap.size w1 w2 → Own w2 w.heap.size 5 v (bvs L) := fun v w1 w2 L h hb => h.below hb (Nat.le_refl _)
      clear hbk
      refine wp_region_once [fun v _ => v = b, fun v _ => v = .pointer (some ⟨w.heap.size, 0, none⟩), fun v _ => v = .slice a1 n1 c1, fun v w' => Own w' w.heap.size 5 v (bvs (B ++ vecB d.box)),
        fun v _ => v = .pointer (some ⟨w.heap.size, 1, none⟩), fun v _ => v = .slice a2 n2 c2, fun v w' => Own w' w.heap.size 5 v (bvs (B ++ vecB d.box ++ vecB d.hash)), fun v w' => Rd w' v (bvs (lateL d.late)),
        fun v w' => Own w' w.heap.size 5 v (bvs (B ++ vecB d.box ++ vecB d.hash ++ vecB (lateL d.late))), fun v w' => Own w' w.heap.size 5 v (bvs (B ++ vecB d.box ++ vecB d.hash ++ vecB (lateL d.late)))]
        (by kernel_rfl) ?_ (by kernel_rfl) (by kernel_rfl) ?_ ?_
      · exact keeps_cons (fun _ _ _ h _ => h) (keeps_cons (fun _ _ _ h _ => h) (keeps_cons (fun _ _ _ h _ => h) (keeps_cons (fun v w1 w2 h hb => own v w1 w2 _ h hb) (keeps_cons (fun _ _ _ h _ => h) (keeps_cons (fun _ _ _ h _ => h)
          (keeps_cons (fun v w1 w2 h hb => own v w1 w2 _ h hb) (keeps_cons (fun v w1 w2 h hb => h.below hb (Nat.le_refl _)) (keeps_cons (fun v w1 w2 h hb => own v w1 w2 _ h hb) (keeps_cons (fun v w1 w2 h hb => own v w1 w2 _ h hb) keeps_nil)))))))))
      · refine .cons (owed_go rfl ?_) (.cons (owed_go rfl ?_) (.cons (owed_go rfl ?_) (.cons (owed_go rfl ?_) (.cons (owed_go rfl ?_) (.cons (owed_go rfl ?_) (.cons (owed_go rfl ?_) (.cons (owed_go rfl ?_) (.cons (owed_go rfl ?_) (.cons (owed_go rfl ?_) .nil)))))))))
        · intro a wx hbx ho hf K hK
          have e0 : a.tmps[0]?.getD undef = b := ho 0 (by kernel_rfl)
          go_simp
          exact hK _ _ rfl (Below.refl _ _)
        · intro a wx hbx ho hf K hK
          have e0 : a.tmps[3]?.getD undef = .pointer (some ⟨w.heap.size, 0, none⟩) := ho 3 (by kernel_rfl)
          go_simp
          exact hK _ _ rfl (Below.refl _ _)
        · intro a wx hbx ho hf K hK
          have e0 : a.tmps[21]?.getD undef = .pointer (some ⟨w.heap.size, 0, none⟩) := hf.1
          have c0 := (hbx.cell (p := ⟨w.heap.size, 0, none⟩) hgx).trans y0
          go_simp
          exact hK _ _ rfl (Below.refl _ _)
        · intro a wx hbx ho hf K hK
          have e0 : a.tmps[20]?.getD undef = b := hf.1
          have e1 : a.tmps[22]?.getD undef = .slice a1 n1 c1 := hf.2.1
          go_simp
          refine (putVec_any b _ B d.box wx (rb.below hbx (Nat.le_refl _)) (r1.below hbx (Nat.le_refl _)) (by omega) (by rw [← HN1.out]; omega)).mono ?_
          rintro e w2 ⟨v2, rfl, hown, hb2⟩
          exact hK _ _ (hown.mono (by have := hbx.size; omega)) hb2
        · intro a wx hbx ho hf K hK
          have e0 : a.tmps[3]?.getD undef = .pointer (some ⟨w.heap.size, 0, none⟩) := ho 3 (by kernel_rfl)
          go_simp
          exact hK _ _ rfl (Below.refl _ _)
        · intro a wx hbx ho hf K hK
          have e0 : a.tmps[24]?.getD undef = .pointer (some ⟨w.heap.size, 1, none⟩) := hf.1
          have c0 := (hbx.cell (p := ⟨w.heap.size, 1, none⟩) hgx).trans y1
          go_simp
          exact hK _ _ rfl (Below.refl _ _)
        · intro a wx hbx ho hf K hK
          have o0 : Own wx w.heap.size 5 (a.tmps[23]?.getD undef) (bvs (B ++ vecB d.box)) := hf.1
          obtain ⟨v, hv⟩ : ∃ v, v = a.tmps[23]?.getD undef := ⟨_, rfl⟩
          rw [← hv] at o0
          have e0 := hv.symm
          have e1 : a.tmps[25]?.getD undef = .slice a2 n2 c2 := hf.2.1
          clear hv
          go_simp
          refine (putVec_any v _ _ d.hash wx o0.rd (r2.below hbx (Nat.le_refl _)) (by rw [List.length_append]; omega) (by rw [← HN2.out]; omega)).mono ?_
          rintro e w2 ⟨v2, rfl, hown, hb2⟩
          exact hK _ _ (hown.mono (by have := hbx.size; omega)) hb2
        · intro a wx hbx ho hf K hK
          have e0 : a.tmps[5]?.getD undef = u5 := ho 5 (by kernel_rfl)
          go_simp
          exact hK _ _ (r3.below hbx (Nat.le_refl _)) (Below.refl _ _)
        · intro a wx hbx ho hf K hK
          have o0 : Own wx w.heap.size 5 (a.tmps[26]?.getD undef) (bvs (B ++ vecB d.box ++ vecB d.hash)) := hf.1
          obtain ⟨v, hv⟩ : ∃ v, v = a.tmps[26]?.getD undef := ⟨_, rfl⟩
          rw [← hv] at o0
          have e0 := hv.symm
          have o1 : Rd wx (a.tmps[27]?.getD undef) (bvs (lateL d.late)) := hf.2.1
          obtain ⟨u, hu⟩ : ∃ v, v = a.tmps[27]?.getD undef := ⟨_, rfl⟩
          rw [← hu] at o1
          have e1 := hu.symm
          clear hv hu
          go_simp
          refine (putVec_any v u _ (lateL d.late) wx o0.rd o1 (by rw [List.length_append, List.length_append]; omega) (by omega)).mono ?_
          rintro e w2 ⟨v2, rfl, hown, hb2⟩
          exact hK _ _ (hown.mono (by have := hbx.size; omega)) hb2
        · intro a wx hbx ho hf K hK
          have o0 : Own wx w.heap.size 5 (a.tmps[28]?.getD undef) (bvs (B ++ vecB d.box ++ vecB d.hash ++ vecB (lateL d.late))) := hf.1
          obtain ⟨v, hv⟩ : ∃ v, v = a.tmps[28]?.getD undef := ⟨_, rfl⟩
          rw [← hv] at o0
          have e0 := hv.symm
          clear hv
          go_simp
          exact hK _ _ o0 (Below.refl _ _)
      · rintro f w2 hb2 ⟨-, -, -, -, -, -, -, -, -, f9, -⟩
        have h9 : Own w2 w.heap.size 5 (f 4) (bvs (B ++ vecB d.box ++ vecB d.hash ++ vecB (lateL d.late))) := f9
        simp only [frameOf, dstsOf, zipF, List.filterMap_cons, List.filterMap_nil, List.contains_cons, List.contains_nil, Nat.reduceBEq, Nat.reduceAdd, Bool.or_false, Bool.or_true, cond_true, cond_false]
        go_wp2_with fail
        go_ret
        refine ⟨_, rfl, ?_, hbw1.trans (hb2.mono hws)⟩
        rw [HP.out, ← List.append_assoc, ← List.append_assoc]
        exact h9
end Go.Proofs.Ytkihcngllhjabaa
