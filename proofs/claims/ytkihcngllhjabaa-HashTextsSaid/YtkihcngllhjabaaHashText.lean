/- Walks: hash.LeafText, hash.ParentText. -/
import Derived.Test.YtkihcngllhjabaaNodeOut
import Derived.Test.YtkihcngllhjabaaWireAlive
namespace Go.Proofs.Ytkihcngllhjabaa
open Go.RowKit WireM
set_option linter.unusedVariables false
def ltF (i : Int) (d : NodeD) : List Nat × Nat := if i < 0 ∨ 65535 < i then ([], 1) else if rightB d = false ∨ d.kind = 2 then ([], 3) else ([1] ++ beN 4 i.toNat ++ nodeB d, 0)
def ptF (d : NodeD) (l r : List Nat) : List Nat × Nat := if rightB d = false ∨ d.kind = 1 then ([], 3) else if l.length ≠ 32 ∨ r.length ≠ 32 then ([], 1) else ([2] ++ nodeB d ++ vecB l ++ vecB r, 0)
def TextP (r : List Nat × Nat) (w : World) (e : Ending) (w' : World) : Prop :=
  Below w.heap.size w w' ∧ ∃ v, e = .returned (.tuple #[v, .int .u8 (r.2 : Nat)]) ∧ Own w' w.heap.size 5 v (bvs r.1)
theorem textP_off (n : Nat) (w w' : World) (hb : Below w.heap.size w w') : TextP ([], n) w (.returned (.tuple #[.slice none 0 0, .int .u8 (n : Nat)])) w' := ⟨hb, _, rfl, Own.nil _ _ _⟩
theorem parB_len {d : ParD} (h1 : d.box.length ≤ 200) (h2 : d.hash.length ≤ 200) (h3 : d.late.length ≤ 60) : (parB d).length ≤ 700 := by
  have a := vecB_len d.box (by omega)
  have b := vecB_len d.hash (by omega)
  have l := lateL_len d.late
  have c := vecB_len (lateL d.late) (by omega)
  unfold parB
  rw [List.length_append, List.length_append]; omega
theorem nodeB_len {d : NodeD} (hs : smallB d = true) : (nodeB d).length ≤ 1100 := by
  have hsm := of_decide_eq_true hs
  have hsl : SmallL d.leaf := ⟨hsm.1, hsm.2.1, hsm.2.2.1, hsm.2.2.2.1, hsm.2.2.2.2.1⟩
  have h1 := unsB_len hsl
  have h2 := vecB_len d.leaf.sig (by have := hsl.2.2.2.2; omega)
  have h3 := parB_len hsm.2.2.2.2.2.1 hsm.2.2.2.2.2.2.1 hsm.2.2.2.2.2.2.2
  have h4 := hsl.2.2.2.2
  unfold nodeB
  split
  · rw [List.length_cons, List.length_append]; omega
  · split
    · rw [List.length_cons]; omega
    · simp
theorem nbytes_any (d : NodeD) (c : Array Value) (w : World) (h : NodeC w d c) (hk : NodeOk d) (hs : smallB d = true) :
    Calls Try.prog 70 #[.agg c] w (NBytesP d w) := by
  cases hr : rightB d with
  | true => exact nbytes_on d c w h hk hs hr
  | false => exact nbytes_off d c w h hs hr
set_option maxRecDepth 100000 in
set_option maxHeartbeats 4000000 in
theorem leafText_any (i : Int) (d : NodeD) (c : Array Value) (w : World) (h : NodeC w d c) (hk : NodeOk d) (hs : smallB d = true) :
    Calls Try.prog 35 #[.int .i64 i, .agg c] w (TextP (ltF i d) w) := by
  have HNB := Lib.hid (nbytes_any d c _ (h.below ((Below.refl w.heap.size w).alloc (Nat.le_refl _) (.cells c 57)) (Nat.le_refl _)) hk hs)
  have hlen := nodeB_len hs
  have hF : ltF i d = if i < 0 ∨ 65535 < i then ([], 1) else if rightB d = false ∨ d.kind = 2 then ([], 3) else ([1] ++ beN 4 i.toNat ++ nodeB d, 0) := rfl
  obtain ⟨a1, c1, a2, c2, a3, c3, a4, c4, a5, c5, b1, e1, b2, e2, b3, e3, rfl, -⟩ := h
  obtain ⟨m1, hm1⟩ : ∃ b, b = d.leaf.box.length := ⟨_, rfl⟩
  obtain ⟨m2, hm2⟩ : ∃ b, b = d.leaf.sign.length := ⟨_, rfl⟩
  obtain ⟨m3, hm3⟩ : ∃ b, b = d.leaf.ident.length := ⟨_, rfl⟩
  obtain ⟨m4, hm4⟩ : ∃ b, b = d.leaf.par.length := ⟨_, rfl⟩
  obtain ⟨m5, hm5⟩ : ∃ b, b = d.leaf.sig.length := ⟨_, rfl⟩
  obtain ⟨m6, hm6⟩ : ∃ b, b = d.par.box.length := ⟨_, rfl⟩
  obtain ⟨m7, hm7⟩ : ∃ b, b = d.par.hash.length := ⟨_, rfl⟩
  obtain ⟨m8, hm8⟩ : ∃ b, b = d.par.late.length := ⟨_, rfl⟩
  obtain ⟨kd, hkd⟩ : ∃ b, b = d.kind := ⟨_, rfl⟩
  obtain ⟨src, hsrc⟩ : ∃ b, b = d.leaf.source := ⟨_, rfl⟩
  obtain ⟨NB, hNB⟩ : ∃ b, b = nodeB d := ⟨_, rfl⟩
  obtain ⟨rb, hrb⟩ : ∃ b, b = rightB d := ⟨_, rfl⟩
  rw [← hm1, ← hm2, ← hm3, ← hm4, ← hm5, ← hm6, ← hm7, ← hm8, ← hkd, ← hsrc] at HNB ⊢
  unfold NBytesP at HNB
  rw [← hNB, ← hrb] at HNB
  rw [← hNB] at hlen
  simp only [← hNB, ← hrb, ← hkd] at hF
  rw [hF]
  have hb0 := (Below.refl w.heap.size w).alloc (Nat.le_refl _) (.cells #[.int .u8 (kd : Nat), .slice a1 m1 c1, .slice a2 m2 c2, .slice a3 m3 c3, .int .u8 (src : Nat), .slice a4 m4 c4, .slice a5 m5 c5, .slice b1 m6 e1, .slice b2 m7 e2, .slice b3 m8 e3] 57)
  have HB0 := Lib.hid hb0
  clear hF hk hs hm1 hm2 hm3 hm4 hm5 hm6 hm7 hm8 hkd hsrc hNB hrb hb0
  by_cases k0 : i < 0
  · rw [if_pos (.inl k0)]
    have HE := Lib.hid (textP_off 1 w _ HB0.out)
    go_enter Try.func35, Try.ntmps35
    go_wp2_with fail
    go_ret2
    exact HE.out
  · by_cases k1 : 65535 < i
    · rw [if_pos (.inr k1)]
      have HE := Lib.hid (textP_off 1 w _ HB0.out)
      have k2 : 65536 ≤ i := by omega
      have k3 : 0 ≤ i := by omega
      clear k0 k1
      go_enter Try.func35, Try.ntmps35
      go_wp2_with fail
      go_ret2
      exact HE.out
    · rw [if_neg (by omega)]
      have k2 : i < 65536 := by omega
      have k3 : 0 ≤ i := by omega
      clear k0 k1
      cases rb with
      | false =>
        rw [if_pos (.inl rfl)]
        simp only [Bool.false_eq_true, if_false] at HNB
        go_enter Try.func35, Try.ntmps35
        go_wp2_with fail
        refine HNB.out.mono ?_
        rintro e w1 ⟨hb1, v1, rfl, hown⟩
        have hbk := (Blk.new w 57 _).below hb1 (by simp)
        have x0 := hbk.cell 0
        simp only [List.getElem?_toArray, List.getElem?_cons_zero] at x0
        have hz := hb1.size
        simp only [World.alloc] at hz
        have hgx : w.heap.size < w1.heap.size := by simp at hz; omega
        have HB1 := Lib.hid (((Below.refl w.heap.size w).alloc (Nat.le_refl _) (.cells #[.int .u8 (kd : Nat), .slice a1 m1 c1, .slice a2 m2 c2, .slice a3 m3 c3, .int .u8 (src : Nat), .slice a4 m4 c4, .slice a5 m5 c5, .slice b1 m6 e1, .slice b2 m7 e2, .slice b3 m8 e3] 57)).trans (hb1.mono (by simp)))
        clear hbk hb1 hz
        have HE := Lib.hid (textP_off 3 w _ HB1.out)
        clear hown
        go_wp2_with fail
        go_ret2
        exact HE.out
      | true =>
        simp only [if_true] at HNB
        by_cases k4 : kd = 2
        · have t4 : ((kd : Int) == 2) = true := by rw [beq_iff_eq]; omega
          rw [if_pos (.inr k4)]
          clear k4
          go_enter Try.func35, Try.ntmps35
          go_wp2_with fail
          refine HNB.out.mono ?_
          rintro e w1 ⟨hb1, v1, rfl, hown⟩
          have hbk := (Blk.new w 57 _).below hb1 (by simp)
          have x0 := hbk.cell 0
          simp only [List.getElem?_toArray, List.getElem?_cons_zero] at x0
          have hz := hb1.size
          simp only [World.alloc] at hz
          have hgx : w.heap.size < w1.heap.size := by simp at hz; omega
          have HB1 := Lib.hid (((Below.refl w.heap.size w).alloc (Nat.le_refl _) (.cells #[.int .u8 (kd : Nat), .slice a1 m1 c1, .slice a2 m2 c2, .slice a3 m3 c3, .int .u8 (src : Nat), .slice a4 m4 c4, .slice a5 m5 c5, .slice b1 m6 e1, .slice b2 m7 e2, .slice b3 m8 e3] 57)).trans (hb1.mono (by simp)))
          clear hbk hb1 hz
          have HE := Lib.hid (textP_off 3 w _ HB1.out)
          clear hown
          go_wp2_with fail
          go_ret2
          exact HE.out
        · rw [if_neg (by simp [k4])]
          have t4 : ((kd : Int) == 2) = false := by rw [beq_eq_false_iff_ne]; omega
          have PN : ∀ (N : Nat) (W : World), Rd W (.slice (some ⟨N, 0, none⟩) 1 1) (bvs [1]) → Calls Try.prog 71 #[.slice (some ⟨N, 0, none⟩) 1 1, .int .i64 4, .int .u64 i] W fun e w' => ∃ v', e = .returned v' ∧ Own w' W.heap.size 5 v' (bvs ([1] ++ beN 4 i.toNat)) ∧ Below W.heap.size W w' := by
            intro N W hr
            have := putNum_on (.slice (some ⟨N, 0, none⟩) 1 1) [1] 4 i.toNat W hr (by simp) rfl (by omega)
            rw [Int.toNat_of_nonneg k3] at this
            exact this
          have HPN0 := Lib.hid PN
          obtain ⟨BN, hBN⟩ : ∃ b, b = beN 4 i.toNat := ⟨_, rfl⟩
          have hbl : BN.length = 4 := by rw [hBN, beN_len]
          rw [← hBN] at HPN0 ⊢
          have HBL := Lib.hid hbl
          clear k4 PN hBN hbl
          go_enter Try.func35, Try.ntmps35
          go_wp2_with fail
          refine HNB.out.mono ?_
          rintro e w1 ⟨hb1, v1, rfl, hown⟩
          have hbk := (Blk.new w 57 _).below hb1 (by simp)
          have x0 := hbk.cell 0
          simp only [List.getElem?_toArray, List.getElem?_cons_zero] at x0
          have hz := hb1.size
          simp only [World.alloc] at hz
          have hgx : w.heap.size < w1.heap.size := by simp at hz; omega
          have HB1 := Lib.hid (((Below.refl w.heap.size w).alloc (Nat.le_refl _) (.cells #[.int .u8 (kd : Nat), .slice a1 m1 c1, .slice a2 m2 c2, .slice a3 m3 c3, .int .u8 (src : Nat), .slice a4 m4 c4, .slice a5 m5 c5, .slice b1 m6 e1, .slice b2 m7 e2, .slice b3 m8 e3] 57)).trans (hb1.mono (by simp)))
          clear hbk hb1 hz
          have HO := Lib.hid hown
          have HPN := Lib.hid (HPN0.out w1.heap.size _ (lit_rd (w := w1) (cs := #[.int .u8 1]) (L := [1]) rfl rfl (by simp)))
          clear hown
          go_wp2_with fail
          refine HPN.out.mono ?_
          rintro e w2 ⟨v2, rfl, hown2, hb2⟩
          have hbt := (HB1.out.alloc HB1.out.size (.cells #[.int .u8 1] 5)).trans (hb2.mono (by simp; omega))
          have HB2 := Lib.hid hbt
          have HO1 := Lib.hid (((HO.out.alloc (.cells #[.int .u8 1] 5)).below hb2 (Nat.le_refl _)).rd)
          have HO2 := Lib.hid (hown2.mono (show w.heap.size ≤ _ by simp; omega))
          have hz2 := hbt.size
          clear hown2 hb2 hbt
          go_wp2_with (at_builtin; refine wpList_app rfl (.tmp 29) (.tmp 30) 22 rfl w.heap.size 5 _ 1 bytesE _ _ rfl HO2.out _ (bvs NB) rfl HO1.out (bvs_one _) ?c1 ?c2 ?_)
          case c1 => rw [bvs_len, bvs_len, List.length_append, HBL.out]; simp only [List.length_cons, List.length_nil]; omega
          case c2 => exact hz2
          rintro v3 w3 hown3 - hb3
          have HO3 := Lib.hid hown3
          have HB3 := Lib.hid (HB2.out.trans hb3)
          clear hown3 hb3
          go_wp2_with fail
          go_ret2
          refine ⟨HB3.out, _, rfl, ?_⟩
          have := HO3.out
          rw [← bvs_append] at this
          exact this
set_option maxRecDepth 100000 in
set_option maxHeartbeats 4000000 in
theorem parentText_any (d : NodeD) (c : Array Value) (vl vr : Value) (l r : List Nat) (w : World) (h : NodeC w d c) (hk : NodeOk d) (hs : smallB d = true) (hl : Rd w vl (bvs l)) (hr : Rd w vr (bvs r)) :
    Calls Try.prog 36 #[.agg c, vl, vr] w (TextP (ptF d l r) w) := by
  have HNB := Lib.hid (nbytes_any d c _ (h.below ((Below.refl w.heap.size w).alloc (Nat.le_refl _) (.cells c 57)) (Nat.le_refl _)) hk hs)
  have hlen := nodeB_len hs
  have hF : ptF d l r = if rightB d = false ∨ d.kind = 1 then ([], 3) else if l.length ≠ 32 ∨ r.length ≠ 32 then ([], 1) else ([2] ++ nodeB d ++ vecB l ++ vecB r, 0) := rfl
  obtain ⟨a1, c1, a2, c2, a3, c3, a4, c4, a5, c5, b1, e1, b2, e2, b3, e3, rfl, -⟩ := h
  obtain ⟨m1, hm1⟩ : ∃ b, b = d.leaf.box.length := ⟨_, rfl⟩
  obtain ⟨m2, hm2⟩ : ∃ b, b = d.leaf.sign.length := ⟨_, rfl⟩
  obtain ⟨m3, hm3⟩ : ∃ b, b = d.leaf.ident.length := ⟨_, rfl⟩
  obtain ⟨m4, hm4⟩ : ∃ b, b = d.leaf.par.length := ⟨_, rfl⟩
  obtain ⟨m5, hm5⟩ : ∃ b, b = d.leaf.sig.length := ⟨_, rfl⟩
  obtain ⟨m6, hm6⟩ : ∃ b, b = d.par.box.length := ⟨_, rfl⟩
  obtain ⟨m7, hm7⟩ : ∃ b, b = d.par.hash.length := ⟨_, rfl⟩
  obtain ⟨m8, hm8⟩ : ∃ b, b = d.par.late.length := ⟨_, rfl⟩
  obtain ⟨kd, hkd⟩ : ∃ b, b = d.kind := ⟨_, rfl⟩
  obtain ⟨src, hsrc⟩ : ∃ b, b = d.leaf.source := ⟨_, rfl⟩
  obtain ⟨NB, hNB⟩ : ∃ b, b = nodeB d := ⟨_, rfl⟩
  obtain ⟨rb, hrb⟩ : ∃ b, b = rightB d := ⟨_, rfl⟩
  rw [← hm1, ← hm2, ← hm3, ← hm4, ← hm5, ← hm6, ← hm7, ← hm8, ← hkd, ← hsrc] at HNB ⊢
  unfold NBytesP at HNB
  rw [← hNB, ← hrb] at HNB
  rw [← hNB] at hlen
  simp only [← hNB, ← hrb, ← hkd] at hF
  rw [hF]
  have hb0 := (Below.refl w.heap.size w).alloc (Nat.le_refl _) (.cells #[.int .u8 (kd : Nat), .slice a1 m1 c1, .slice a2 m2 c2, .slice a3 m3 c3, .int .u8 (src : Nat), .slice a4 m4 c4, .slice a5 m5 c5, .slice b1 m6 e1, .slice b2 m7 e2, .slice b3 m8 e3] 57)
  have HB0 := Lib.hid hb0
  obtain ⟨al, cl, rfl, -⟩ := id hl
  obtain ⟨ar, cr, rfl, -⟩ := id hr
  rw [bvs_len] at hl hr ⊢
  rw [bvs_len]
  obtain ⟨nl, hnl⟩ : ∃ n, n = l.length := ⟨_, rfl⟩
  obtain ⟨nr, hnr⟩ : ∃ n, n = r.length := ⟨_, rfl⟩
  rw [← hnl] at hl ⊢
  rw [← hnr] at hr ⊢
  have HL := Lib.hid hl
  have HR := Lib.hid hr
  have HN := Lib.hid (show nl = l.length ∧ nr = r.length from ⟨hnl, hnr⟩)
  clear hF hk hs hm1 hm2 hm3 hm4 hm5 hm6 hm7 hm8 hkd hsrc hNB hrb hb0 hl hr hnl hnr
  cases rb with
  | false =>
    rw [if_pos (.inl rfl)]
    simp only [Bool.false_eq_true, if_false] at HNB
    go_enter Try.func36, Try.ntmps36
    go_wp2_with fail
    refine HNB.out.mono ?_
    rintro e w1 ⟨hb1, v1, rfl, hown⟩
    have hbk := (Blk.new w 57 _).below hb1 (by simp)
    have x0 := hbk.cell 0
    simp only [List.getElem?_toArray, List.getElem?_cons_zero] at x0
    have hz := hb1.size
    simp only [World.alloc] at hz
    have hgx : w.heap.size < w1.heap.size := by simp at hz; omega
    have HB1 := Lib.hid (((Below.refl w.heap.size w).alloc (Nat.le_refl _) (.cells #[.int .u8 (kd : Nat), .slice a1 m1 c1, .slice a2 m2 c2, .slice a3 m3 c3, .int .u8 (src : Nat), .slice a4 m4 c4, .slice a5 m5 c5, .slice b1 m6 e1, .slice b2 m7 e2, .slice b3 m8 e3] 57)).trans (hb1.mono (by simp)))
    clear hbk hb1 hz
    have HE := Lib.hid (textP_off 3 w _ HB1.out)
    clear hown
    go_wp2_with fail
    go_ret2
    exact HE.out
  | true =>
    simp only [if_true] at HNB
    by_cases k4 : kd = 1
    · have t4 : ((kd : Int) == 1) = true := by rw [beq_iff_eq]; omega
      rw [if_pos (.inr k4)]
      clear k4
      go_enter Try.func36, Try.ntmps36
      go_wp2_with fail
      refine HNB.out.mono ?_
      rintro e w1 ⟨hb1, v1, rfl, hown⟩
      have hbk := (Blk.new w 57 _).below hb1 (by simp)
      have x0 := hbk.cell 0
      simp only [List.getElem?_toArray, List.getElem?_cons_zero] at x0
      have hz := hb1.size
      simp only [World.alloc] at hz
      have hgx : w.heap.size < w1.heap.size := by simp at hz; omega
      have HB1 := Lib.hid (((Below.refl w.heap.size w).alloc (Nat.le_refl _) (.cells #[.int .u8 (kd : Nat), .slice a1 m1 c1, .slice a2 m2 c2, .slice a3 m3 c3, .int .u8 (src : Nat), .slice a4 m4 c4, .slice a5 m5 c5, .slice b1 m6 e1, .slice b2 m7 e2, .slice b3 m8 e3] 57)).trans (hb1.mono (by simp)))
      clear hbk hb1 hz
      have HE := Lib.hid (textP_off 3 w _ HB1.out)
      clear hown
      go_wp2_with fail
      go_ret2
      exact HE.out
    · rw [if_neg (by simp [k4])]
      have t4 : ((kd : Int) == 1) = false := by rw [beq_eq_false_iff_ne]; omega
      clear k4
      by_cases k5 : nl = 32
      · have t5 : ((nl : Int) != 32) = false := by rw [bne_eq_false_iff_eq]; omega
        by_cases k6 : nr = 32
        · have t6 : ((nr : Int) != 32) = false := by rw [bne_eq_false_iff_eq]; omega
          rw [if_neg (by omega)]
          have HN2 := Lib.hid (show l.length = 32 ∧ r.length = 32 from ⟨by rw [← HN.out.1]; exact k5, by rw [← HN.out.2]; exact k6⟩)
          clear k5 k6
          go_enter Try.func36, Try.ntmps36
          go_wp2_with fail
          refine HNB.out.mono ?_
          rintro e w1 ⟨hb1, v1, rfl, hown⟩
          have hbk := (Blk.new w 57 _).below hb1 (by simp)
          have x0 := hbk.cell 0
          simp only [List.getElem?_toArray, List.getElem?_cons_zero] at x0
          have hz := hb1.size
          simp only [World.alloc] at hz
          have hgx : w.heap.size < w1.heap.size := by simp at hz; omega
          have HB1 := Lib.hid (((Below.refl w.heap.size w).alloc (Nat.le_refl _) (.cells #[.int .u8 (kd : Nat), .slice a1 m1 c1, .slice a2 m2 c2, .slice a3 m3 c3, .int .u8 (src : Nat), .slice a4 m4 c4, .slice a5 m5 c5, .slice b1 m6 e1, .slice b2 m7 e2, .slice b3 m8 e3] 57)).trans (hb1.mono (by simp)))
          clear hbk hb1 hz
          have HO := Lib.hid hown
          have HL1 := Lib.hid (HL.out.below HB1.out (Nat.le_refl _))
          have HR1 := Lib.hid (HR.out.below HB1.out (Nat.le_refl _))
          have hz1 := HB1.out.size
          clear hown
          go_wp2_with (at_builtin; refine wpList_app rfl (.tmp 32) (.tmp 33) 22 rfl w.heap.size 5 _ 1 bytesE _ (bvs [2]) rfl (Own.full (w := w1) (B := w.heap.size) (e := 5) (cs := #[.int .u8 2]) rfl hz1 (by unfold maxLen; simp) (n := 1) rfl) _ (bvs NB) rfl (HO.out.rd.alloc _) (bvs_one _) ?c1 ?c2 ?_)
          case c1 => rw [bvs_len, bvs_len]; simp only [List.length_cons, List.length_nil]; omega
          case c2 => simp; omega
          rintro v3 w3 hown3 - hb3
          rw [← bvs_append] at hown3
          have hbt := (HB1.out.alloc hz1 (.cells #[.int .u8 2] 5)).trans hb3
          have HB3 := Lib.hid hbt
          have hz3 := hbt.size
          have HP1 := Lib.hid (putVec_any v3 _ _ l w3 hown3.rd (HL.out.below hbt (Nat.le_refl _)) (by rw [List.length_append]; simp only [List.length_cons, List.length_nil]; omega) (by have := HN2.out; omega))
          clear hown3 hb3 hbt
          go_wp2_with fail
          refine HP1.out.mono ?_
          rintro e w4 ⟨v4, rfl, hown4, hb4⟩
          have hbt4 := HB3.out.trans (hb4.mono hz3)
          have HB4 := Lib.hid hbt4
          have hz4 := hbt4.size
          have hvl := vecB_len l (by have := HN2.out; omega)
          have HP2 := Lib.hid (putVec_any v4 _ _ r w4 hown4.rd (HR.out.below hbt4 (Nat.le_refl _)) (by have := HN2.out; rw [List.length_append, List.length_append]; simp only [List.length_cons, List.length_nil]; omega) (by have := HN2.out; omega))
          clear hown4 hb4 hbt4 hvl
          go_wp2_with fail
          refine HP2.out.mono ?_
          rintro e w5 ⟨v5, rfl, hown5, hb5⟩
          have HO5 := Lib.hid (hown5.mono hz4)
          have HB5 := Lib.hid (HB4.out.trans (hb5.mono hz4))
          clear hown5 hb5
          go_wp2_with fail
          go_ret2
          exact ⟨HB5.out, _, rfl, HO5.out⟩
        · have t6 : ((nr : Int) != 32) = true := by rw [bne_iff_ne]; omega
          rw [if_pos (.inr k6)]
          clear k5 k6
          go_enter Try.func36, Try.ntmps36
          go_wp2_with fail
          refine HNB.out.mono ?_
          rintro e w1 ⟨hb1, v1, rfl, hown⟩
          have hbk := (Blk.new w 57 _).below hb1 (by simp)
          have x0 := hbk.cell 0
          simp only [List.getElem?_toArray, List.getElem?_cons_zero] at x0
          have hz := hb1.size
          simp only [World.alloc] at hz
          have hgx : w.heap.size < w1.heap.size := by simp at hz; omega
          have HB1 := Lib.hid (((Below.refl w.heap.size w).alloc (Nat.le_refl _) (.cells #[.int .u8 (kd : Nat), .slice a1 m1 c1, .slice a2 m2 c2, .slice a3 m3 c3, .int .u8 (src : Nat), .slice a4 m4 c4, .slice a5 m5 c5, .slice b1 m6 e1, .slice b2 m7 e2, .slice b3 m8 e3] 57)).trans (hb1.mono (by simp)))
          clear hbk hb1 hz
          have HE := Lib.hid (textP_off 1 w _ HB1.out)
          clear hown
          go_wp2_with fail
          go_ret2
          exact HE.out
      · have t5 : ((nl : Int) != 32) = true := by rw [bne_iff_ne]; omega
        rw [if_pos (.inl k5)]
        clear k5
        go_enter Try.func36, Try.ntmps36
        go_wp2_with fail
        refine HNB.out.mono ?_
        rintro e w1 ⟨hb1, v1, rfl, hown⟩
        have hbk := (Blk.new w 57 _).below hb1 (by simp)
        have x0 := hbk.cell 0
        simp only [List.getElem?_toArray, List.getElem?_cons_zero] at x0
        have hz := hb1.size
        simp only [World.alloc] at hz
        have hgx : w.heap.size < w1.heap.size := by simp at hz; omega
        have HB1 := Lib.hid (((Below.refl w.heap.size w).alloc (Nat.le_refl _) (.cells #[.int .u8 (kd : Nat), .slice a1 m1 c1, .slice a2 m2 c2, .slice a3 m3 c3, .int .u8 (src : Nat), .slice a4 m4 c4, .slice a5 m5 c5, .slice b1 m6 e1, .slice b2 m7 e2, .slice b3 m8 e3] 57)).trans (hb1.mono (by simp)))
        clear hbk hb1 hz
        have HE := Lib.hid (textP_off 1 w _ HB1.out)
        clear hown
        go_wp2_with fail
        go_ret2
        exact HE.out
end Go.Proofs.Ytkihcngllhjabaa
