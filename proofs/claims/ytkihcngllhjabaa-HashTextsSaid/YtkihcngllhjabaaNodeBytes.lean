/- Walks: node.unsigned. -/
import Derived.Test.YtkihcngllhjabaaNodeRight2
namespace Go.Proofs.Ytkihcngllhjabaa
open Go.RowKit WireM
set_option linter.unusedVariables false
/-- a leaf's bytes but for the signature -/
def unsB (d : LeafD) : List Nat := catB [d.box, d.sign, d.ident] ++ [d.source] ++ (if d.source = 3 then vecB d.par else [])
def SmallL (d : LeafD) : Prop := d.box.length ≤ 200 ∧ d.sign.length ≤ 200 ∧ d.ident.length ≤ 200 ∧ d.par.length ≤ 200 ∧ d.sig.length ≤ 200
set_option maxRecDepth 100000 in
set_option maxHeartbeats 4000000 in
theorem unsigned_any (b : Value) (B : List Nat) (d : LeafD) (a1 a2 a3 a4 a5 : Option Addr) (c1 c2 c3 c4 c5 : Nat) (w : World) (hb : Rd w b (bvs B)) (hB : B.length < 1000000000) (hs : SmallL d) (hsrc : d.source < 256)
    (h1 : Rd w (.slice a1 d.box.length c1) (bvs d.box)) (h2 : Rd w (.slice a2 d.sign.length c2) (bvs d.sign)) (h3 : Rd w (.slice a3 d.ident.length c3) (bvs d.ident)) (h4 : Rd w (.slice a4 d.par.length c4) (bvs d.par)) :
    Calls Try.prog 90 #[b, .agg #[.slice a1 d.box.length c1, .slice a2 d.sign.length c2, .slice a3 d.ident.length c3, .int .u8 (d.source : Nat), .slice a4 d.par.length c4, .slice a5 d.sig.length c5]] w
      fun e w' => ∃ v, e = .returned v ∧ Own w' w.heap.size 5 v (bvs (B ++ unsB d)) ∧ Below w.heap.size w w' := by
  obtain ⟨s1, s2, s3, s4, s5⟩ := hs
  have hrows : ∀ r ∈ [d.box, d.sign, d.ident], r.length ≤ 200 := by
    intro r hr
    simp only [List.mem_cons, List.not_mem_nil, or_false] at hr
    rcases hr with rfl | rfl | rfl <;> assumption
  have hcl : ∀ r, (catB ([d.box, d.sign, d.ident].take r)).length ≤ 612 := by
    intro r
    have h := catB_len ([d.box, d.sign, d.ident].take r) (fun x hx => hrows x (List.mem_of_mem_take hx))
    have : ([d.box, d.sign, d.ident].take r).length ≤ 3 := by rw [List.length_take]; simp only [List.length_cons, List.length_nil]; omega
    omega
  have hu : unsB d = catB [d.box, d.sign, d.ident] ++ [d.source] ++ (if d.source = 3 then vecB d.par else []) := rfl
  obtain ⟨rows, hrw⟩ : ∃ rows, rows = [d.box, d.sign, d.ident] := ⟨_, rfl⟩
  rw [← hrw] at hcl hu hrows
  have hlen : rows.length = 3 := by rw [hrw]; rfl
  obtain ⟨V1, hV1⟩ : ∃ v, v = Value.slice a1 d.box.length c1 := ⟨_, rfl⟩
  have mkl : ∀ W : World, ∀ N, N = W.heap.size → Below w.heap.size w W → RdL (W.alloc (.cells #[.slice a1 d.box.length c1, .slice a2 d.sign.length c2, .slice a3 d.ident.length c3] 22)) (.slice (some ⟨N, 0, none⟩) 3 3) rows := by
    intro W N hN hW
    refine ⟨[.slice a1 d.box.length c1, .slice a2 d.sign.length c2, .slice a3 d.ident.length c3], ?_, by rw [hlen]; rfl, ?_⟩
    · exact (Own.full (w := W) (B := W.heap.size) (e := 22) (cs := #[.slice a1 d.box.length c1, .slice a2 d.sign.length c2, .slice a3 d.ident.length c3]) hN (by omega) (by unfold maxLen; simp) (n := 3) rfl).rd
    · intro i r hi
      rw [hrw] at hi
      have k1 := (h1.below hW (Nat.le_refl _)).alloc (.cells #[.slice a1 d.box.length c1, .slice a2 d.sign.length c2, .slice a3 d.ident.length c3] 22)
      have k2 := (h2.below hW (Nat.le_refl _)).alloc (.cells #[.slice a1 d.box.length c1, .slice a2 d.sign.length c2, .slice a3 d.ident.length c3] 22)
      have k3 := (h3.below hW (Nat.le_refl _)).alloc (.cells #[.slice a1 d.box.length c1, .slice a2 d.sign.length c2, .slice a3 d.ident.length c3] 22)
      match i, hi with
      | 0, hi => simp only [List.getElem?_cons_zero, Option.some.injEq] at hi; subst hi; exact ⟨_, rfl, k1⟩
      | 1, hi => simp only [List.getElem?_cons_succ, List.getElem?_cons_zero, Option.some.injEq] at hi; subst hi; exact ⟨_, rfl, k2⟩
      | 2, hi => simp only [List.getElem?_cons_succ, List.getElem?_cons_zero, Option.some.injEq] at hi; subst hi; exact ⟨_, rfl, k3⟩
      | n + 3, hi => simp at hi
  clear V1 hV1
  have hts := fun (r : Nat) (h : r < rows.length) => rows_snoc (l := rows) h
  have hW0 : Below w.heap.size w (w.alloc (.cells #[.slice a1 d.box.length c1, .slice a2 d.sign.length c2, .slice a3 d.ident.length c3, .int .u8 (d.source : Nat), .slice a4 d.par.length c4, .slice a5 d.sig.length c5] 53)) := (Below.refl _ _).alloc (Nat.le_refl _) _
  have hM := mkl _ (w.heap.size + 1) (by simp) hW0
  have hpar := h4
  have hbk0 := Blk.new w 53 #[.slice a1 d.box.length c1, .slice a2 d.sign.length c2, .slice a3 d.ident.length c3, .int .u8 (d.source : Nat), .slice a4 d.par.length c4, .slice a5 d.sig.length c5]
  obtain ⟨n1, hn1⟩ : ∃ n, n = d.box.length := ⟨_, rfl⟩
  obtain ⟨n2, hn2⟩ : ∃ n, n = d.sign.length := ⟨_, rfl⟩
  obtain ⟨n3, hn3⟩ : ∃ n, n = d.ident.length := ⟨_, rfl⟩
  obtain ⟨n5, hn5⟩ : ∃ n, n = d.sig.length := ⟨_, rfl⟩
  rw [← hn1, ← hn2, ← hn3] at hM hW0 hbk0 ⊢
  rw [← hn5] at hM hW0 hbk0 ⊢
  have hbk1 := hbk0.alloc (.cells #[.slice a1 n1 c1, .slice a2 n2 c2, .slice a3 n3 c3] 22)
  have hW1 := hW0.alloc (by simp) (.cells #[.slice a1 n1 c1, .slice a2 n2 c2, .slice a3 n3 c3] 22)
  have hz : ((w.alloc (.cells #[.slice a1 n1 c1, .slice a2 n2 c2, .slice a3 n3 c3, .int .u8 (d.source : Nat), .slice a4 d.par.length c4, .slice a5 n5 c5] 53)).alloc (.cells #[.slice a1 n1 c1, .slice a2 n2 c2, .slice a3 n3 c3] 22)).heap.size = w.heap.size + 2 := by simp
  have hb1 := hb.below hW1 (Nat.le_refl _)
  have hp1 := hpar.below hW1 (Nat.le_refl _)
  obtain ⟨W1, hWe⟩ : ∃ W1, W1 = ((w.alloc (.cells #[.slice a1 n1 c1, .slice a2 n2 c2, .slice a3 n3 c3, .int .u8 (d.source : Nat), .slice a4 d.par.length c4, .slice a5 n5 c5] 53)).alloc (.cells #[.slice a1 n1 c1, .slice a2 n2 c2, .slice a3 n3 c3] 22)) := ⟨_, rfl⟩
  rw [← hWe] at hM hbk1 hW1 hz hb1 hp1
  have HM := Lib.hid hM
  have HBK := Lib.hid hbk1
  have HW1 := Lib.hid hW1
  have HZ := Lib.hid hz
  have HB1 := Lib.hid hb1
  have HP1 := Lib.hid hp1
  have HWE := Lib.hid hWe
  have HU := Lib.hid hu
  have HTS := Lib.hid hts
  have HCL := Lib.hid hcl
  have HR := Lib.hid hrows
  have HLEN := Lib.hid hlen
  clear hM hbk0 hbk1 hW0 hW1 hz hb1 hp1 hWe hu hts hcl hrows hlen hpar mkl h1 h2 h3 h4 hb hrw hn1 hn2 hn3 hn5
  go_enter Try.func90, Try.ntmps90
  go_wp2_with fail
  rw [← HWE.out]
  go_loopg [0, 15] 3 (fun q bv i wr => ∃ r : Nat, r + q = 3 ∧ i = .int .i64 (r : Int) ∧ Rd wr bv (bvs (B ++ catB (rows.take r))) ∧ (0 < r → Own wr (w.heap.size + 2) 5 bv (bvs (B ++ catB (rows.take r)))) ∧ Below (w.heap.size + 2) W1 wr)
  case atStart => exact ⟨0, by omega, rfl, by simpa [catB] using HB1.out, fun h => absurd h (by omega), Below.refl _ _⟩
  case round =>
    obtain ⟨r, hr, rfl, hrb, hown, hbw⟩ := hrel
    have HRB := Lib.hid hrb
    have HO := Lib.hid hown
    have HBW := Lib.hid hbw
    have hzw := hbw.size
    rw [HZ.out] at hzw
    have hm := HM.out.below hbw (by rw [HZ.out]; exact Nat.le_refl _)
    obtain ⟨am, capm, he, hc1, hc2, hrow⟩ := hm.cases
    rw [HLEN.out] at he
    simp only [Value.slice.injEq] at he
    obtain ⟨rfl, -, rfl⟩ := he
    have HROW := Lib.hid hrow
    clear hrb hown hbw hrow hm hc1 hc2
    by_cases hrk : r < 3
    · have hrl : r < rows.length := by have := HLEN.out; omega
      obtain ⟨b2, o2, u, he2, hb2, c0, hu⟩ := HROW.out r hrl
      simp only [Option.some.injEq, Addr.mk.injEq, and_true] at he2
      obtain ⟨rfl, rfl⟩ := he2
      rw [Nat.zero_add] at c0
      have hl200 := HR.out _ (List.getElem_mem hrl)
      have hts := HTS.out r hrl
      have hcl := HCL.out r
      obtain ⟨x, hx⟩ : ∃ x, x = rows[r] := ⟨_, rfl⟩
      rw [← hx] at hu hl200 hts
      obtain ⟨au, nu, cu, rfl⟩ : ∃ a n c, u = .slice a n c := by obtain ⟨a, cap, e, _⟩ := hu; exact ⟨a, _, cap, e⟩
      have HPV := Lib.hid (fun b' (hb' : Rd wr b' (bvs (B ++ catB (rows.take r)))) => putVec_any b' (.slice au nu cu) _ x wr hb' hu (by rw [List.length_append]; omega) (by omega))
      have HT1 := Lib.hid hts
      have hrk' : decide ((r : Int) < 3) = true := by rw [decide_eq_true_iff]; omega
      clear hx hu hts hl200 hcl
      go_wp2_with fail
      refine (HPV.out _ HRB.out).mono ?_
      rintro e w5 ⟨v5, rfl, hown5, hb5⟩
      have HO5 := Lib.hid (hown5.mono hzw)
      have HB5 := Lib.hid (HBW.out.trans (hb5.mono hzw))
      clear hown5 hb5
      go_wp2_with fail
      go_roundg (gk - 1)
      case measure => omega
      case rel =>
        refine ⟨r + 1, by omega, by go_num, ?_, fun _ => ?_, HB5.out⟩
        · rw [HT1.out, catB_snoc, ← List.append_assoc]; exact HO5.out.rd
        · rw [HT1.out, catB_snoc, ← List.append_assoc]; exact HO5.out
    · obtain rfl : r = 3 := by omega
      have ho := HO.out (by omega)
      have ht : rows.take 3 = rows := by rw [← HLEN.out, List.take_length]
      rw [ht] at ho
      have hcl := HCL.out 3
      rw [ht] at hcl
      have HO3 := Lib.hid ho
      have hbk := HBK.out.below HBW.out (by omega)
      have x3 := hbk.cell 3
      have x4 := hbk.cell 4
      simp only [List.getElem?_toArray, List.getElem?_cons_zero, List.getElem?_cons_succ] at x3 x4
      have hgx : w.heap.size < wr.heap.size := by omega
      have HBK3 := Lib.hid hbk
      have hrk' : decide (((3 : Nat) : Int) < 3) = false := by decide
      obtain ⟨src, hsr⟩ : ∃ s, s = d.source := ⟨_, rfl⟩
      rw [← hsr] at x3 hsrc
      have HSR := Lib.hid hsr
      clear ho ht hbk hsr
      go_wp2_with (at_builtin; refine wpList_push rfl (.tmp 23) (.tmp 26) 22 rfl (w.heap.size + 2) 5 _ 1 bytesE _ _ rfl (HO3.out.alloc _) ⟨wr.heap.size, 0, none⟩ (.int .u8 (src : Nat)) rfl ?c1 rfl ?c2 ?c3 ?_)
      case c1 => exact cell_new rfl
      case c2 => rw [bvs_len, List.length_append]; omega
      case c3 => simp; omega
      rintro v6 w6 hown6 - hb6
      have hb6' := (HBW.out.alloc hzw (.cells #[.int .u8 (src : Nat)] 5)).trans hb6
      have HO6 := Lib.hid hown6
      have HB6 := Lib.hid hb6'
      have hz6 : w.heap.size + 2 ≤ w6.heap.size := by have := hb6.size; simp at this; omega
      have hbk6 := HBK.out.below hb6' (by omega)
      have y3 := hbk6.cell 3
      have y4 := hbk6.cell 4
      simp only [List.getElem?_toArray, List.getElem?_cons_zero, List.getElem?_cons_succ] at y3 y4
      rw [← HSR.out] at y3
      have hp6 := HP1.out.below hb6' (by rw [HZ.out]; exact Nat.le_refl _)
      have HP6 := Lib.hid hp6
      have hfin := (HW1.out.trans (hb6'.mono (by omega)))
      have HFIN := Lib.hid hfin
      clear hown6 hb6 hb6' hbk6 hp6 hfin x3 x4
      have hbv : bvs (B ++ catB rows) ++ [.int .u8 (src : Nat)] = bvs (B ++ catB rows ++ [src]) := (bvs_snoc _ _).symm
      have HBV := Lib.hid hbv
      clear hbv
      by_cases k3 : src = 3
      · have t3 : ((src : Int) == 3) = true := by rw [beq_iff_eq]; omega
        have HU3 : Hid (unsB d = catB rows ++ [src] ++ vecB d.par) := Lib.hid (by rw [HU.out, ← HSR.out, if_pos k3])
        have HR6 : Hid (Rd w6 v6 (bvs (B ++ catB rows ++ [src]))) := Lib.hid (by rw [← HBV.out]; exact HO6.out.rd)
        have HPV := Lib.hid (putVec_any v6 _ _ d.par w6 HR6.out HP6.out (by rw [List.length_append, List.length_append]; simp; omega) (by omega))
        clear k3
        go_wp2_with fail
        refine HPV.out.mono ?_
        rintro e w7 ⟨v7, rfl, hown7, hb7⟩
        have HO7 := Lib.hid (hown7.mono (show w.heap.size ≤ w6.heap.size by omega))
        have HB7 := Lib.hid (HFIN.out.trans (hb7.mono (by omega)))
        clear hown7 hb7
        go_wp2_with fail
        go_ret
        refine ⟨_, rfl, ?_, HB7.out⟩
        rw [HU3.out, ← List.append_assoc, ← List.append_assoc]
        exact HO7.out
      · have t3 : ((src : Int) == 3) = false := by rw [beq_eq_false_iff_ne]; omega
        have HU3 : Hid (unsB d = catB rows ++ [src]) := Lib.hid (by rw [HU.out, ← HSR.out, if_neg k3, List.append_nil])
        clear k3
        go_wp2_with fail
        go_ret
        refine ⟨_, rfl, ?_, HFIN.out⟩
        rw [HU3.out, ← List.append_assoc, ← HBV.out]
        exact HO6.out.mono (by omega)
end Go.Proofs.Ytkihcngllhjabaa
