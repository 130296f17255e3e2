/- Walks: hash.LeafText, hash.ParentText. -/
import Derived.Test.YtohldijomcljkaaZHashTrees05
import Derived.Test.YtohldijomcljkaaZHashTrees01
import Derived.Test.YtohldijomcljkaaZHashTrees00
import Derived.Test.YtohldijomcljkaaProg
import Derived.WalkSpells
import Derived.WalkLawsBesides
import Derived.Deep.LoopGhost
namespace Go.Proofs.Ytohldijomcljkaa
open Go.RowKit WireM
set_option linter.unusedVariables false
def ltF (i : Int) (d : NodeD) : List Nat × Nat := if i < 0 ∨ 65535 < i then ([], 1) else if rightB d = false ∨ d.kind = 2 then ([], 3) else ([1] ++ beN 4 i.toNat ++ nodeB d, 0)
def ptF (d : NodeD) (l r : List Nat) : List Nat × Nat := if rightB d = false ∨ d.kind = 1 then ([], 3) else if l.length ≠ 32 ∨ r.length ≠ 32 then ([], 1) else ([2] ++ nodeB d ++ vecB l ++ vecB r, 0)
def TextP (r : List Nat × Nat) (w : World) (e : Ending) (w' : World) : Prop :=
  Below w.heap.size w w' ∧ ∃ v, e = .returned (.tuple #[v, .int .u8 (r.2 : Nat)]) ∧ Own w' w.heap.size 5 v (bvs r.1)
theorem textP_off (n : Nat) (w w' : World) (hb : Below w.heap.size w w') : TextP ([], n) w (.returned (.tuple #[.slice none 0 0, .int .u8 (n : Nat)])) w' := ⟨hb, _, rfl, Own.nil _ _ _⟩
theorem parB_len {d : ParD} (h1 : d.box.length ≤ 200) (h2 : d.hash.length ≤ 200) (h3 : d.late.length ≤ 60) : (parB d).length ≤ 700 := by
  have a := vecB_len d.box (by omega)
  have b := vecB_len d.hash (by omega)
  have l := lateL_len d.late
  have c := vecB_len (lateL d.late) (by omega)
  unfold parB
  rw [List.length_append, List.length_append]; omega
theorem nodeB_len {d : NodeD} (hs : smallB d = true) : (nodeB d).length ≤ 1100 := by
  have hsm := of_decide_eq_true hs
  have hsl : SmallL d.leaf := ⟨hsm.1, hsm.2.1, hsm.2.2.1, hsm.2.2.2.1, hsm.2.2.2.2.1⟩
  have h1 := unsB_len hsl
  have h2 := vecB_len d.leaf.sig (by have := hsl.2.2.2.2; omega)
  have h3 := parB_len hsm.2.2.2.2.2.1 hsm.2.2.2.2.2.2.1 hsm.2.2.2.2.2.2.2
  have h4 := hsl.2.2.2.2
  unfold nodeB
  split
  · rw [List.length_cons, List.length_append]; omega
  · split
    · rw [List.length_cons]; omega
    · simp
theorem nbytes_any (d : NodeD) (c : Array Value) (w : World) (h : NodeC w d c) (hk : NodeOk d) (hs : smallB d = true) :
    Calls Try.prog 62 #[.agg c] w (NBytesP d w) := by
  cases hr : rightB d with
  | true => exact nbytes_on d c w h hk hs hr
  | false => exact nbytes_off d c w h hs hr
set_option maxRecDepth 100000 in
set_option maxHeartbeats 4000000 in
theorem leafText_any (i : Int) (d : NodeD) (c : Array Value) (w : World) (h : NodeC w d c) (hk : NodeOk d) (hs : smallB d = true) :
    Calls Try.prog 25 #[.int .i64 i, .agg c] w (TextP (ltF i d) w) := by
  have HNB := Lib.hid (nbytes_any d c _ (h.below ((Below.refl w.heap.size w).alloc (Nat.le_refl _) (.cells c 46)) (Nat.le_refl _)) hk hs)
  have hlen := nodeB_len hs
  have hF : ltF i d = if i < 0 ∨ 65535 < i then ([], 1) else if rightB d = false ∨ d.kind = 2 then ([], 3) else ([1] ++ beN 4 i.toNat ++ nodeB d, 0) := rfl
  obtain ⟨a1, c1, a2, c2, a3, c3, a4, c4, a5, c5, b1, e1, b2, e2, b3, e3, rfl, -⟩ := h
  obtain ⟨m1, hm1⟩ : ∃ b, b = d.leaf.box.length := ⟨_, rfl⟩
  obtain ⟨m2, hm2⟩ : ∃ b, b = d.leaf.sign.length := ⟨_, rfl⟩
  obtain ⟨m3, hm3⟩ : ∃ b, b = d.leaf.ident.length := ⟨_, rfl⟩
  obtain ⟨m4, hm4⟩ : ∃ b, b = d.leaf.par.length := ⟨_, rfl⟩
  obtain ⟨m5, hm5⟩ : ∃ b, b = d.leaf.sig.length := ⟨_, rfl⟩
  obtain ⟨m6, hm6⟩ : ∃ b, b = d.par.box.length := ⟨_, rfl⟩
  obtain ⟨m7, hm7⟩ : ∃ b, b = d.par.hash.length := ⟨_, rfl⟩
  obtain ⟨m8, hm8⟩ : ∃ b, b = d.par.late.length := ⟨_, rfl⟩
  obtain ⟨kd, hkd⟩ : ∃ b, b = d.kind := ⟨_, rfl⟩
  obtain ⟨src, hsrc⟩ : ∃ b, b = d.leaf.source := ⟨_, rfl⟩
  obtain ⟨NB, hNB⟩ : ∃ b, b = nodeB d := ⟨_, rfl⟩
  obtain ⟨rb, hrb⟩ : ∃ b, b = rightB d := ⟨_, rfl⟩
  rw [← hm1, ← hm2, ← hm3, ← hm4, ← hm5, ← hm6, ← hm7, ← hm8, ← hkd, ← hsrc] at HNB ⊢
  unfold NBytesP at HNB
  rw [← hNB, ← hrb] at HNB
  rw [← hNB] at hlen
  simp only [← hNB, ← hrb, ← hkd] at hF
  rw [hF]
  have hb0 := (Below.refl w.heap.size w).alloc (Nat.le_refl _) (.cells #[.int .u8 (kd : Nat), .slice a1 m1 c1, .slice a2 m2 c2, .slice a3 m3 c3, .int .u8 (src : Nat), .slice a4 m4 c4, .slice a5 m5 c5, .slice b1 m6 e1, .slice b2 m7 e2, .slice b3 m8 e3] 46)
  have HB0 := Lib.hid hb0
  clear hF hk hs hm1 hm2 hm3 hm4 hm5 hm6 hm7 hm8 hkd hsrc hNB hrb hb0
  by_cases k0 : i < 0
  · rw [if_pos (.inl k0)]
    have HE := Lib.hid (textP_off 1 w _ HB0.out)
    go_enter Try.func25, Try.ntmps25
    go_wp2_with fail
    go_ret2
    exact HE.out
  · by_cases k1 : 65535 < i
    · rw [if_pos (.inr k1)]
      have HE := Lib.hid (textP_off 1 w _ HB0.out)
      have k2 : 65536 ≤ i := by omega
      have k3 : 0 ≤ i := by omega
      clear k0 k1
      go_enter Try.func25, Try.ntmps25
      go_wp2_with fail
      go_ret2
      exact HE.out
    · rw [if_neg (by omega)]
      have k2 : i < 65536 := by omega
      have k3 : 0 ≤ i := by omega
      clear k0 k1
      cases rb with
      | false =>
        rw [if_pos (.inl rfl)]
        simp only [Bool.false_eq_true, if_false] at HNB
        go_enter Try.func25, Try.ntmps25
        go_wp2_with fail
        refine HNB.out.mono ?_
        rintro e w1 ⟨hb1, v1, rfl, hown⟩
        have hbk := (Blk.new w 46 _).below hb1 (by simp)
        have x0 := hbk.cell 0
        simp only [List.getElem?_toArray, List.getElem?_cons_zero] at x0
        have hz := hb1.size
        simp only [World.alloc] at hz
        have hgx : w.heap.size < w1.heap.size := by simp at hz; omega
        have HB1 := Lib.hid (((Below.refl w.heap.size w).alloc (Nat.le_refl _) (.cells #[.int .u8 (kd : Nat), .slice a1 m1 c1, .slice a2 m2 c2, .slice a3 m3 c3, .int .u8 (src : Nat), .slice a4 m4 c4, .slice a5 m5 c5, .slice b1 m6 e1, .slice b2 m7 e2, .slice b3 m8 e3] 46)).trans (hb1.mono (by simp)))
        clear hbk hb1 hz
        have HE := Lib.hid (textP_off 3 w _ HB1.out)
        clear hown
        go_wp2_with fail
        go_ret2
        exact HE.out
      | true =>
        simp only [if_true] at HNB
        by_cases k4 : kd = 2
        · have t4 : ((kd : Int) == 2) = true := by rw [beq_iff_eq]; omega
          rw [if_pos (.inr k4)]
          clear k4
          go_enter Try.func25, Try.ntmps25
          go_wp2_with fail
          refine HNB.out.mono ?_
          rintro e w1 ⟨hb1, v1, rfl, hown⟩
          have hbk := (Blk.new w 46 _).below hb1 (by simp)
          have x0 := hbk.cell 0
          simp only [List.getElem?_toArray, List.getElem?_cons_zero] at x0
          have hz := hb1.size
          simp only [World.alloc] at hz
          have hgx : w.heap.size < w1.heap.size := by simp at hz; omega
          have HB1 := Lib.hid (((Below.refl w.heap.size w).alloc (Nat.le_refl _) (.cells #[.int .u8 (kd : Nat), .slice a1 m1 c1, .slice a2 m2 c2, .slice a3 m3 c3, .int .u8 (src : Nat), .slice a4 m4 c4, .slice a5 m5 c5, .slice b1 m6 e1, .slice b2 m7 e2, .slice b3 m8 e3] 46)).trans (hb1.mono (by simp)))
          clear hbk hb1 hz
          have HE := Lib.hid (textP_off 3 w _ HB1.out)
          clear hown
          go_wp2_with fail
          go_ret2
          exact HE.out
        · rw [if_neg (by simp [k4])]
          have t4 : ((kd : Int) == 2) = false := by rw [beq_eq_false_iff_ne]; omega
          have PN : ∀ (N : Nat) (W : World), Rd W (.slice (some ⟨N, 0, none⟩) 1 1) (bvs [1]) → Calls Try.prog 63 #[.slice (some ⟨N, 0, none⟩) 1 1, .int .i64 4, .int .u64 i] W fun e w' => ∃ v', e = .returned v' ∧ Own w' W.heap.size 5 v' (bvs ([1] ++ beN 4 i.toNat)) ∧ Below W.heap.size W w' := by
            intro N W hr
            have := putNum_on (.slice (some ⟨N, 0, none⟩) 1 1) [1] 4 i.toNat W hr (by simp) rfl (by omega)
            rw [Int.toNat_of_nonneg k3] at this
            exact this
          have HPN0 := Lib.hid PN
          obtain ⟨BN, hBN⟩ : ∃ b, b = beN 4 i.toNat := ⟨_, rfl⟩
          have hbl : BN.length = 4 := by rw [hBN, beN_len]
          rw [← hBN] at HPN0 ⊢
          have HBL := Lib.hid hbl
          clear k4 PN hBN hbl
          go_enter Try.func25, Try.ntmps25
          go_wp2_with fail
          refine HNB.out.mono ?_
          rintro e w1 ⟨hb1, v1, rfl, hown⟩
          have hbk := (Blk.new w 46 _).below hb1 (by simp)
          have x0 := hbk.cell 0
          simp only [List.getElem?_toArray, List.getElem?_cons_zero] at x0
          have hz := hb1.size
          simp only [World.alloc] at hz
          have hgx : w.heap.size < w1.heap.size := by simp at hz; omega
          have HB1 := Lib.hid (((Below.refl w.heap.size w).alloc (Nat.le_refl _) (.cells #[.int .u8 (kd : Nat), .slice a1 m1 c1, .slice a2 m2 c2, .slice a3 m3 c3, .int .u8 (src : Nat), .slice a4 m4 c4, .slice a5 m5 c5, .slice b1 m6 e1, .slice b2 m7 e2, .slice b3 m8 e3] 46)).trans (hb1.mono (by simp)))
          clear hbk hb1 hz
          have HO := Lib.hid hown
          have HPN := Lib.hid (HPN0.out w1.heap.size _ (lit_rd (w := w1) (cs := #[.int .u8 1]) (L := [1]) rfl rfl (by simp)))
          clear hown
          go_wp2_with fail
          refine HPN.out.mono ?_
          rintro e w2 ⟨v2, rfl, hown2, hb2⟩
          have hbt := (HB1.out.alloc HB1.out.size (.cells #[.int .u8 1] 5)).trans (hb2.mono (by simp; omega))
          have HB2 := Lib.hid hbt
          have HO1 := Lib.hid (((HO.out.alloc (.cells #[.int .u8 1] 5)).below hb2 (Nat.le_refl _)).rd)
          have HO2 := Lib.hid (hown2.mono (show w.heap.size ≤ _ by simp; omega))
          have hz2 := hbt.size
          clear hown2 hb2 hbt
          go_wp2_with (at_builtin; refine wpList_app rfl (.tmp 29) (.tmp 30) 29 rfl w.heap.size 5 _ 1 bytesE _ _ rfl HO2.out _ (bvs NB) rfl HO1.out (bvs_one _) ?c1 ?c2 ?_)
          case c1 => rw [bvs_len, bvs_len, List.length_append, HBL.out]; simp only [List.length_cons, List.length_nil]; omega
          case c2 => exact hz2
          rintro v3 w3 hown3 - hb3
          have HO3 := Lib.hid hown3
          have HB3 := Lib.hid (HB2.out.trans hb3)
          clear hown3 hb3
          go_wp2_with fail
          go_ret2
          refine ⟨HB3.out, _, rfl, ?_⟩
          have := HO3.out
          rw [← bvs_append] at this
          exact this
set_option maxRecDepth 100000 in
set_option maxHeartbeats 4000000 in
theorem parentText_any (d : NodeD) (c : Array Value) (vl vr : Value) (l r : List Nat) (w : World) (h : NodeC w d c) (hk : NodeOk d) (hs : smallB d = true) (hl : Rd w vl (bvs l)) (hr : Rd w vr (bvs r)) :
    Calls Try.prog 27 #[.agg c, vl, vr] w (TextP (ptF d l r) w) := by
  have HNB := Lib.hid (nbytes_any d c _ (h.below ((Below.refl w.heap.size w).alloc (Nat.le_refl _) (.cells c 46)) (Nat.le_refl _)) hk hs)
  have hlen := nodeB_len hs
  have hF : ptF d l r = if rightB d = false ∨ d.kind = 1 then ([], 3) else if l.length ≠ 32 ∨ r.length ≠ 32 then ([], 1) else ([2] ++ nodeB d ++ vecB l ++ vecB r, 0) := rfl
  obtain ⟨a1, c1, a2, c2, a3, c3, a4, c4, a5, c5, b1, e1, b2, e2, b3, e3, rfl, -⟩ := h
  obtain ⟨m1, hm1⟩ : ∃ b, b = d.leaf.box.length := ⟨_, rfl⟩
  obtain ⟨m2, hm2⟩ : ∃ b, b = d.leaf.sign.length := ⟨_, rfl⟩
  obtain ⟨m3, hm3⟩ : ∃ b, b = d.leaf.ident.length := ⟨_, rfl⟩
  obtain ⟨m4, hm4⟩ : ∃ b, b = d.leaf.par.length := ⟨_, rfl⟩
  obtain ⟨m5, hm5⟩ : ∃ b, b = d.leaf.sig.length := ⟨_, rfl⟩
  obtain ⟨m6, hm6⟩ : ∃ b, b = d.par.box.length := ⟨_, rfl⟩
  obtain ⟨m7, hm7⟩ : ∃ b, b = d.par.hash.length := ⟨_, rfl⟩
  obtain ⟨m8, hm8⟩ : ∃ b, b = d.par.late.length := ⟨_, rfl⟩
  obtain ⟨kd, hkd⟩ : ∃ b, b = d.kind := ⟨_, rfl⟩
  obtain ⟨src, hsrc⟩ : ∃ b, b = d.leaf.source := ⟨_, rfl⟩
  obtain ⟨NB, hNB⟩ : ∃ b, b = nodeB d := ⟨_, rfl⟩
  obtain ⟨rb, hrb⟩ : ∃ b, b = rightB d := ⟨_, rfl⟩
  rw [← hm1, ← hm2, ← hm3, ← hm4, ← hm5, ← hm6, ← hm7, ← hm8, ← hkd, ← hsrc] at HNB ⊢
  unfold NBytesP at HNB
  rw [← hNB, ← hrb] at HNB
  rw [← hNB] at hlen
  simp only [← hNB, ← hrb, ← hkd] at hF
  rw [hF]
  have hb0 := (Below.refl w.heap.size w).alloc (Nat.le_refl _) (.cells #[.int .u8 (kd : Nat), .slice a1 m1 c1, .slice a2 m2 c2, .slice a3 m3 c3, .int .u8 (src : Nat), .slice a4 m4 c4, .slice a5 m5 c5, .slice b1 m6 e1, .slice b2 m7 e2, .slice b3 m8 e3] 46)
  have HB0 := Lib.hid hb0
  obtain ⟨al, cl, rfl, -⟩ := id hl
  obtain ⟨ar, cr, rfl, -⟩ := id hr
  rw [bvs_len] at hl hr ⊢
  rw [bvs_len]
  obtain ⟨nl, hnl⟩ : ∃ n, n = l.length := ⟨_, rfl⟩
  obtain ⟨nr, hnr⟩ : ∃ n, n = r.length := ⟨_, rfl⟩
  rw [← hnl] at hl ⊢
  rw [← hnr] at hr ⊢
  have HL := Lib.hid hl
  have HR := Lib.hid hr
  have HN := Lib.hid (show nl = l.length ∧ nr = r.length from ⟨hnl, hnr⟩)
  clear hF hk hs hm1 hm2 hm3 hm4 hm5 hm6 hm7 hm8 hkd hsrc hNB hrb hb0 hl hr hnl hnr
  cases rb with
  | false =>
    rw [if_pos (.inl rfl)]
    simp only [Bool.false_eq_true, if_false] at HNB
    go_enter Try.func27, Try.ntmps27
    go_wp2_with fail
    refine HNB.out.mono ?_
    rintro e w1 ⟨hb1, v1, rfl, hown⟩
    have hbk := (Blk.new w 46 _).below hb1 (by simp)
    have x0 := hbk.cell 0
    simp only [List.getElem?_toArray, List.getElem?_cons_zero] at x0
    have hz := hb1.size
    simp only [World.alloc] at hz
    have hgx : w.heap.size < w1.heap.size := by simp at hz; omega
    have HB1 := Lib.hid (((Below.refl w.heap.size w).alloc (Nat.le_refl _) (.cells #[.int .u8 (kd : Nat), .slice a1 m1 c1, .slice a2 m2 c2, .slice a3 m3 c3, .int .u8 (src : Nat), .slice a4 m4 c4, .slice a5 m5 c5, .slice b1 m6 e1, .slice b2 m7 e2, .slice b3 m8 e3] 46)).trans (hb1.mono (by simp)))
    clear hbk hb1 hz
    have HE := Lib.hid (textP_off 3 w _ HB1.out)
    clear hown
    go_wp2_with fail
    go_ret2
    exact HE.out
  | true =>
    simp only [if_true] at HNB
    by_cases k4 : kd = 1
    · have t4 : ((kd : Int) == 1) = true := by rw [beq_iff_eq]; omega
      rw [if_pos (.inr k4)]
      clear k4
      go_enter Try.func27, Try.ntmps27
      go_wp2_with fail
      refine HNB.out.mono ?_
      rintro e w1 ⟨hb1, v1, rfl, hown⟩
      have hbk := (Blk.new w 46 _).below hb1 (by simp)
      have x0 := hbk.cell 0
      simp only [List.getElem?_toArray, List.getElem?_cons_zero] at x0
      have hz := hb1.size
      simp only [World.alloc] at hz
      have hgx : w.heap.size < w1.heap.size := by simp at hz; omega
      have HB1 := Lib.hid (((Below.refl w.heap.size w).alloc (Nat.le_refl _) (.cells #[.int .u8 (kd : Nat), .slice a1 m1 c1, .slice a2 m2 c2, .slice a3 m3 c3, .int .u8 (src : Nat), .slice a4 m4 c4, .slice a5 m5 c5, .slice b1 m6 e1, .slice b2 m7 e2, .slice b3 m8 e3] 46)).trans (hb1.mono (by simp)))
      clear hbk hb1 hz
      have HE := Lib.hid (textP_off 3 w _ HB1.out)
      clear hown
      go_wp2_with fail
      go_ret2
      exact HE.out
    · rw [if_neg (by simp [k4])]
      have t4 : ((kd : Int) == 1) = false := by rw [beq_eq_false_iff_ne]; omega
      clear k4
      by_cases k5 : nl = 32
      · have t5 : ((nl : Int) != 32) = false := by rw [bne_eq_false_iff_eq]; omega
        by_cases k6 : nr = 32
        · have t6 : ((nr : Int) != 32) = false := by rw [bne_eq_false_iff_eq]; omega
          rw [if_neg (by omega)]
          have HN2 := Lib.hid (show l.length = 32 ∧ r.length = 32 from ⟨by rw [← HN.out.1]; exact k5, by rw [← HN.out.2]; exact k6⟩)
          clear k5 k6
          go_enter Try.func27, Try.ntmps27
          go_wp2_with fail
          refine HNB.out.mono ?_
          rintro e w1 ⟨hb1, v1, rfl, hown⟩
          have hbk := (Blk.new w 46 _).below hb1 (by simp)
          have x0 := hbk.cell 0
          simp only [List.getElem?_toArray, List.getElem?_cons_zero] at x0
          have hz := hb1.size
          simp only [World.alloc] at hz
          have hgx : w.heap.size < w1.heap.size := by simp at hz; omega
          have HB1 := Lib.hid (((Below.refl w.heap.size w).alloc (Nat.le_refl _) (.cells #[.int .u8 (kd : Nat), .slice a1 m1 c1, .slice a2 m2 c2, .slice a3 m3 c3, .int .u8 (src : Nat), .slice a4 m4 c4, .slice a5 m5 c5, .slice b1 m6 e1, .slice b2 m7 e2, .slice b3 m8 e3] 46)).trans (hb1.mono (by simp)))
          clear hbk hb1 hz
          have HO := Lib.hid hown
          have HL1 := Lib.hid (HL.out.below HB1.out (Nat.le_refl _))
          have HR1 := Lib.hid (HR.out.below HB1.out (Nat.le_refl _))
          have hz1 := HB1.out.size
          clear hown
          go_wp2_with (at_builtin; refine wpList_app rfl (.tmp 32) (.tmp 33) 29 rfl w.heap.size 5 _ 1 bytesE _ (bvs [2]) rfl (Own.full (w := w1) (B := w.heap.size) (e := 5) (cs := #[.int .u8 2]) rfl hz1 (by unfold maxLen; simp) (n := 1) rfl) _ (bvs NB) rfl (HO.out.rd.alloc _) (bvs_one _) ?c1 ?c2 ?_)
          case c1 => rw [bvs_len, bvs_len]; simp only [List.length_cons, List.length_nil]; omega
          case c2 => simp; omega
          rintro v3 w3 hown3 - hb3
          rw [← bvs_append] at hown3
          have hbt := (HB1.out.alloc hz1 (.cells #[.int .u8 2] 5)).trans hb3
          have HB3 := Lib.hid hbt
          have hz3 := hbt.size
          have HP1 := Lib.hid (putVec_any v3 _ _ l w3 hown3.rd (HL.out.below hbt (Nat.le_refl _)) (by rw [List.length_append]; simp only [List.length_cons, List.length_nil]; omega) (by have := HN2.out; omega))
          clear hown3 hb3 hbt
          go_wp2_with fail
          refine HP1.out.mono ?_
          rintro e w4 ⟨v4, rfl, hown4, hb4⟩
          have hbt4 := HB3.out.trans (hb4.mono hz3)
          have HB4 := Lib.hid hbt4
          have hz4 := hbt4.size
          have hvl := vecB_len l (by have := HN2.out; omega)
          have HP2 := Lib.hid (putVec_any v4 _ _ r w4 hown4.rd (HR.out.below hbt4 (Nat.le_refl _)) (by have := HN2.out; rw [List.length_append, List.length_append]; simp only [List.length_cons, List.length_nil]; omega) (by have := HN2.out; omega))
          clear hown4 hb4 hbt4 hvl
          go_wp2_with fail
          refine HP2.out.mono ?_
          rintro e w5 ⟨v5, rfl, hown5, hb5⟩
          have HO5 := Lib.hid (hown5.mono hz4)
          have HB5 := Lib.hid (HB4.out.trans (hb5.mono hz4))
          clear hown5 hb5
          go_wp2_with fail
          go_ret2
          exact ⟨HB5.out, _, rfl, HO5.out⟩
        · have t6 : ((nr : Int) != 32) = true := by rw [bne_iff_ne]; omega
          rw [if_pos (.inr k6)]
          clear k5 k6
          go_enter Try.func27, Try.ntmps27
          go_wp2_with fail
          refine HNB.out.mono ?_
          rintro e w1 ⟨hb1, v1, rfl, hown⟩
          have hbk := (Blk.new w 46 _).below hb1 (by simp)
          have x0 := hbk.cell 0
          simp only [List.getElem?_toArray, List.getElem?_cons_zero] at x0
          have hz := hb1.size
          simp only [World.alloc] at hz
          have hgx : w.heap.size < w1.heap.size := by simp at hz; omega
          have HB1 := Lib.hid (((Below.refl w.heap.size w).alloc (Nat.le_refl _) (.cells #[.int .u8 (kd : Nat), .slice a1 m1 c1, .slice a2 m2 c2, .slice a3 m3 c3, .int .u8 (src : Nat), .slice a4 m4 c4, .slice a5 m5 c5, .slice b1 m6 e1, .slice b2 m7 e2, .slice b3 m8 e3] 46)).trans (hb1.mono (by simp)))
          clear hbk hb1 hz
          have HE := Lib.hid (textP_off 1 w _ HB1.out)
          clear hown
          go_wp2_with fail
          go_ret2
          exact HE.out
      · have t5 : ((nl : Int) != 32) = true := by rw [bne_iff_ne]; omega
        rw [if_pos (.inl k5)]
        clear k5
        go_enter Try.func27, Try.ntmps27
        go_wp2_with fail
        refine HNB.out.mono ?_
        rintro e w1 ⟨hb1, v1, rfl, hown⟩
        have hbk := (Blk.new w 46 _).below hb1 (by simp)
        have x0 := hbk.cell 0
        simp only [List.getElem?_toArray, List.getElem?_cons_zero] at x0
        have hz := hb1.size
        simp only [World.alloc] at hz
        have hgx : w.heap.size < w1.heap.size := by simp at hz; omega
        have HB1 := Lib.hid (((Below.refl w.heap.size w).alloc (Nat.le_refl _) (.cells #[.int .u8 (kd : Nat), .slice a1 m1 c1, .slice a2 m2 c2, .slice a3 m3 c3, .int .u8 (src : Nat), .slice a4 m4 c4, .slice a5 m5 c5, .slice b1 m6 e1, .slice b2 m7 e2, .slice b3 m8 e3] 46)).trans (hb1.mono (by simp)))
        clear hbk hb1 hz
        have HE := Lib.hid (textP_off 1 w _ HB1.out)
        clear hown
        go_wp2_with fail
        go_ret2
        exact HE.out
end Go.Proofs.Ytohldijomcljkaa
/- Plain: the steps of the digest. -/
namespace Go.Proofs.Ytohldijomcljkaa
namespace ShaM
open WireM
def rot (x n : Nat) : Nat := x / 2 ^ n + x % 2 ^ n * 2 ^ (32 - n)
def chN (e f g : Nat) : Nat := (e &&& f) ^^^ ((4294967295 - e) &&& g)
def majN (a b c : Nat) : Nat := ((a &&& b) ^^^ (a &&& c)) ^^^ (b &&& c)
def s0N (x : Nat) : Nat := (rot x 7 ^^^ rot x 18) ^^^ (x / 8)
def s1N (x : Nat) : Nat := (rot x 17 ^^^ rot x 19) ^^^ (x / 1024)
def S0N (x : Nat) : Nat := (rot x 2 ^^^ rot x 13) ^^^ rot x 22
def S1N (x : Nat) : Nat := (rot x 6 ^^^ rot x 11) ^^^ rot x 25
theorem rot_lt {x n : Nat} (hx : x < 4294967296) (hn : n ≤ 32) : rot x n < 4294967296 := by
  have e : (4294967296 : Nat) = 2 ^ n * 2 ^ (32 - n) := by rw [← Nat.pow_add, show n + (32 - n) = 32 by omega]
  have hp : 0 < 2 ^ n := Nat.pos_of_ne_zero (by simp)
  have hq : 0 < 2 ^ (32 - n) := Nat.pos_of_ne_zero (by simp)
  have h1 : x / 2 ^ n < 2 ^ (32 - n) := by rw [Nat.div_lt_iff_lt_mul hp, Nat.mul_comm, ← e]; exact hx
  have h2 := Nat.mod_lt x hp
  unfold rot
  rw [e]
  have h3 : (x % 2 ^ n + 1) * 2 ^ (32 - n) ≤ 2 ^ n * 2 ^ (32 - n) := Nat.mul_le_mul_right _ h2
  rw [Nat.add_mul] at h3
  omega
theorem rot_or {x n : Nat} (hx : x < 4294967296) (hn : n ≤ 32) : (x * 2 ^ (32 - n)) % 4294967296 ||| x / 2 ^ n = rot x n := by
  have e : (4294967296 : Nat) = 2 ^ n * 2 ^ (32 - n) := by rw [← Nat.pow_add, show n + (32 - n) = 32 by omega]
  have hp : 0 < 2 ^ n := Nat.pos_of_ne_zero (by simp)
  have h1 : x / 2 ^ n < 2 ^ (32 - n) := by rw [Nat.div_lt_iff_lt_mul hp, Nat.mul_comm, ← e]; exact hx
  have h2 : (x * 2 ^ (32 - n)) % 4294967296 = x % 2 ^ n * 2 ^ (32 - n) := by rw [e, Nat.mul_mod_mul_right]
  have h3 := Nat.shiftLeft_add_eq_or_of_lt (a := x % 2 ^ n) (b := x / 2 ^ n) (i := 32 - n) h1
  rw [Nat.shiftLeft_eq] at h3
  rw [h2, ← h3, rot, Nat.add_comm]
theorem rot_zero (x : Nat) : rot x 0 = x := by simp [rot, Nat.mod_one]
theorem rot_succ {x n : Nat} (hx : x < 4294967296) (hn : n < 32) : rot x (n + 1) = rot x n / 2 + rot x n % 2 * 2147483648 := by
  have e1 : (2147483648 : Nat) = 2 ^ n * 2 ^ (31 - n) := by rw [← Nat.pow_add, show n + (31 - n) = 31 by omega]
  have e2 : 2 ^ (32 - n) = 2 * 2 ^ (31 - n) := by rw [show 32 - n = (31 - n) + 1 by omega, Nat.pow_succ]; omega
  have e3 : 2 ^ (n + 1) = 2 ^ n * 2 := Nat.pow_succ 2 n
  have hp : 0 < 2 ^ n := Nat.pos_of_ne_zero (by simp)
  have d1 : x / 2 ^ (n + 1) = x / 2 ^ n / 2 := by rw [e3, Nat.div_div_eq_div_mul]
  have m1 : x % 2 ^ (n + 1) = x % 2 ^ n + 2 ^ n * (x / 2 ^ n % 2) := by rw [e3, Nat.mod_mul]
  unfold rot
  rw [d1, m1, e2, show 32 - (n + 1) = 31 - n by omega, e1]
  generalize 2 ^ (31 - n) = p
  generalize x / 2 ^ n = q
  generalize x % 2 ^ n = r
  generalize 2 ^ n = s
  have k1 : (q + r * (2 * p)) / 2 = q / 2 + r * p := by
    rw [show r * (2 * p) = 2 * (r * p) by rw [Nat.mul_left_comm], Nat.add_mul_div_left _ _ (by omega)]
  have k2 : (q + r * (2 * p)) % 2 = q % 2 := by
    rw [show r * (2 * p) = 2 * (r * p) by rw [Nat.mul_left_comm], Nat.add_mul_mod_self_left]
  rw [k1, k2, Nat.add_mul]
  rw [show s * (q % 2) * p = q % 2 * (s * p) by rw [Nat.mul_comm s, Nat.mul_assoc]]
  omega
theorem and_lt32 {a b : Nat} (h : a < 4294967296) : a &&& b < 4294967296 := Nat.lt_of_le_of_lt Nat.and_le_left h
theorem xor_lt32 {a b : Nat} (ha : a < 4294967296) (hb : b < 4294967296) : a ^^^ b < 4294967296 := Nat.xor_lt_two_pow (n := 32) ha hb
theorem chN_lt {e f g : Nat} (he : e < 4294967296) : chN e f g < 4294967296 := xor_lt32 (and_lt32 he) (and_lt32 (by omega))
theorem majN_lt {a b c : Nat} (ha : a < 4294967296) (hb : b < 4294967296) : majN a b c < 4294967296 := xor_lt32 (xor_lt32 (and_lt32 ha) (and_lt32 ha)) (and_lt32 hb)
theorem S0N_lt {x : Nat} (hx : x < 4294967296) : S0N x < 4294967296 := xor_lt32 (xor_lt32 (rot_lt hx (by omega)) (rot_lt hx (by omega))) (rot_lt hx (by omega))
theorem S1N_lt {x : Nat} (hx : x < 4294967296) : S1N x < 4294967296 := xor_lt32 (xor_lt32 (rot_lt hx (by omega)) (rot_lt hx (by omega))) (rot_lt hx (by omega))
theorem s0N_lt {x : Nat} (hx : x < 4294967296) : s0N x < 4294967296 := xor_lt32 (xor_lt32 (rot_lt hx (by omega)) (rot_lt hx (by omega))) (by omega)
theorem s1N_lt {x : Nat} (hx : x < 4294967296) : s1N x < 4294967296 := xor_lt32 (xor_lt32 (rot_lt hx (by omega)) (rot_lt hx (by omega))) (by omega)
-- bit by bit
theorem tb_mod (x i : Nat) : x / 2 ^ i % 2 = (x.testBit i).toNat := by rw [Nat.testBit_eq_decide_div_mod_eq]; rcases Nat.mod_two_eq_zero_or_one (x / 2 ^ i) with h | h <;> simp [h]
theorem not_bit {e i : Nat} (he : e < 4294967296) (hi : i < 32) : (4294967295 - e).testBit i = !(e.testBit i) := by
  have := Nat.testBit_two_pow_sub_succ (n := 32) (x := e) he i
  rw [show (2 : Nat) ^ 32 - (e + 1) = 4294967295 - e by omega] at this
  rw [this, decide_eq_true hi, Bool.true_and]
theorem chN_bit {e f g i : Nat} (he : e < 4294967296) (hi : i < 32) : chN e f g / 2 ^ i % 2 = if e / 2 ^ i % 2 = 1 then f / 2 ^ i % 2 else g / 2 ^ i % 2 := by
  rw [tb_mod, tb_mod, tb_mod, tb_mod, chN, Nat.testBit_xor, Nat.testBit_and, Nat.testBit_and, not_bit he hi]
  cases e.testBit i <;> cases f.testBit i <;> cases g.testBit i <;> rfl
theorem majN_bit (a b c i : Nat) : majN a b c / 2 ^ i % 2 = if 2 ≤ a / 2 ^ i % 2 + b / 2 ^ i % 2 + c / 2 ^ i % 2 then 1 else 0 := by
  rw [tb_mod, tb_mod, tb_mod, tb_mod, majN, Nat.testBit_xor, Nat.testBit_xor, Nat.testBit_and, Nat.testBit_and, Nat.testBit_and]
  cases a.testBit i <;> cases b.testBit i <;> cases c.testBit i <;> rfl
theorem mod_succ (x i : Nat) : x % 2 ^ (i + 1) = x % 2 ^ i + x / 2 ^ i % 2 * 2 ^ i := by rw [Nat.pow_succ, Nat.mod_mul, Nat.mul_comm (2 ^ i)]
theorem mod_full {x : Nat} (h : x < 4294967296) : x % 2 ^ 32 = x := Nat.mod_eq_of_lt h
-- the words of a block
def wNext (B l : List Nat) (t : Nat) : Nat :=
  if t < 16 then ((B.getD (4 * t) 0 * 256 + B.getD (4 * t + 1) 0) * 256 + B.getD (4 * t + 2) 0) * 256 + B.getD (4 * t + 3) 0
  else (s1N (l.getD (t - 2) 0) + l.getD (t - 7) 0 + s0N (l.getD (t - 15) 0) + l.getD (t - 16) 0) % 4294967296
def wL (B : List Nat) : Nat → List Nat
  | 0 => []
  | t + 1 => wL B t ++ [wNext B (wL B t) t]
theorem wL_len (B : List Nat) (t : Nat) : (wL B t).length = t := by
  induction t with
  | zero => rfl
  | succ t ih => rw [wL, List.length_append, ih]; rfl
theorem wNext_lt {B l : List Nat} (hB : ∀ x ∈ B, x < 256) (t : Nat) : wNext B l t < 4294967296 := by
  have g : ∀ i, B.getD i 0 < 256 := by
    intro i
    rw [List.getD_eq_getElem?_getD]
    by_cases h : i < B.length
    · rw [List.getElem?_eq_getElem h]; exact hB _ (List.getElem_mem h)
    · rw [List.getElem?_eq_none (by omega)]; decide
  unfold wNext
  split
  · have h0 := g (4 * t); have h1 := g (4 * t + 1); have h2 := g (4 * t + 2); have h3 := g (4 * t + 3); omega
  · omega
theorem wL_lt {B : List Nat} (hB : ∀ x ∈ B, x < 256) : ∀ t, ∀ x ∈ wL B t, x < 4294967296 := by
  intro t
  induction t with
  | zero => intro x hx; cases hx
  | succ t ih =>
    intro x hx
    rw [wL, List.mem_append] at hx
    rcases hx with hx | hx
    · exact ih x hx
    · simp at hx; rw [hx]; exact wNext_lt hB t
-- one round
def rnd (k w : Nat) (v : List Nat) : List Nat :=
  let t1 := v.getD 7 0 + S1N (v.getD 4 0) + chN (v.getD 4 0) (v.getD 5 0) (v.getD 6 0) + k + w
  let t2 := S0N (v.getD 0 0) + majN (v.getD 0 0) (v.getD 1 0) (v.getD 2 0)
  [(t1 + t2) % 4294967296, v.getD 0 0, v.getD 1 0, v.getD 2 0, (v.getD 3 0 + t1) % 4294967296, v.getD 4 0, v.getD 5 0, v.getD 6 0]
def KL : List Nat := [1116352408, 1899447441, 3049323471, 3921009573, 961987163, 1508970993, 2453635748, 2870763221, 3624381080, 310598401, 607225278, 1426881987, 1925078388, 2162078206, 2614888103, 3248222580, 3835390401, 4022224774, 264347078, 604807628, 770255983, 1249150122, 1555081692, 1996064986, 2554220882, 2821834349, 2952996808, 3210313671, 3336571891, 3584528711, 113926993, 338241895, 666307205, 773529912, 1294757372, 1396182291, 1695183700, 1986661051, 2177026350, 2456956037, 2730485921, 2820302411, 3259730800, 3345764771, 3516065817, 3600352804, 4094571909, 275423344, 430227734, 506948616, 659060556, 883997877, 958139571, 1322822218, 1537002063, 1747873779, 1955562222, 2024104815, 2227730452, 2361852424, 2428436474, 2756734187, 3204031479, 3329325298]
def HL0 : List Nat := [1779033703, 3144134277, 1013904242, 2773480762, 1359893119, 2600822924, 528734635, 1541459225]
def rndsN (W v : List Nat) : Nat → List Nat
  | 0 => v
  | t + 1 => rnd (KL.getD t 0) (W.getD t 0) (rndsN W v t)
/-- a block goes into a state -/
def stepN (h B : List Nat) : List Nat := (List.range 8).map fun i => (h.getD i 0 + (rndsN (wL B 64) h 64).getD i 0) % 4294967296
/-- what is digested: the bytes and their tail -/
def tailL (n : Nat) : List Nat := 128 :: (List.replicate ((119 - n % 64) % 64) 0 ++ beN 8 (8 * n))
def padL (b : List Nat) : List Nat := b ++ tailL b.length
def blocksN (m : List Nat) (h : List Nat) : Nat → List Nat
  | 0 => h
  | i + 1 => stepN (blocksN m h i) ((m.drop (64 * i)).take 64)
/-- the digest -/
def shaF (b : List Nat) : List Nat := ((blocksN (padL b) HL0 ((padL b).length / 64)).map (beN 4)).flatten
theorem KL_len : KL.length = 64 := by decide
theorem HL0_len : HL0.length = 8 := by decide
theorem KL_lt : ∀ x ∈ KL, x < 4294967296 := by decide
theorem HL0_lt : ∀ x ∈ HL0, x < 4294967296 := by decide
theorem rnd_len (k w : Nat) (v : List Nat) : (rnd k w v).length = 8 := rfl
theorem stepN_len (h B : List Nat) : (stepN h B).length = 8 := by simp [stepN]
theorem stepN_lt (h B : List Nat) : ∀ x ∈ stepN h B, x < 4294967296 := by
  intro x hx
  obtain ⟨i, _, rfl⟩ := List.mem_map.1 hx
  omega
theorem getD_lt32 {l : List Nat} (h : ∀ x ∈ l, x < 4294967296) (i : Nat) : l.getD i 0 < 4294967296 := by
  rw [List.getD_eq_getElem?_getD]
  by_cases hi : i < l.length
  · rw [List.getElem?_eq_getElem hi]; exact h _ (List.getElem_mem hi)
  · rw [List.getElem?_eq_none (by omega)]; decide
theorem rnd_lt {k w : Nat} {v : List Nat} (hv : ∀ x ∈ v, x < 4294967296) : ∀ x ∈ rnd k w v, x < 4294967296 := by
  have g := getD_lt32 hv
  intro x hx
  simp only [rnd, List.mem_cons, List.not_mem_nil, or_false] at hx
  rcases hx with rfl | rfl | rfl | rfl | rfl | rfl | rfl | rfl <;> first | exact g _ | omega
theorem rndsN_ok {W v : List Nat} (hl : v.length = 8) (hv : ∀ x ∈ v, x < 4294967296) : ∀ t, (rndsN W v t).length = 8 ∧ ∀ x ∈ rndsN W v t, x < 4294967296 := by
  intro t
  induction t with
  | zero => exact ⟨hl, hv⟩
  | succ t ih => exact ⟨rfl, rnd_lt ih.2⟩
theorem blocksN_ok (m : List Nat) {h : List Nat} (hl : h.length = 8) (hh : ∀ x ∈ h, x < 4294967296) : ∀ i, (blocksN m h i).length = 8 ∧ ∀ x ∈ blocksN m h i, x < 4294967296 := by
  intro i
  induction i with
  | zero => exact ⟨hl, hh⟩
  | succ i ih => exact ⟨stepN_len _ _, stepN_lt _ _⟩
theorem padL_len (b : List Nat) : (padL b).length % 64 = 0 := by
  simp only [padL, tailL, List.length_append, List.length_cons, List.length_replicate, beN_len]
  omega
end ShaM
end Go.Proofs.Ytohldijomcljkaa
/- Walks: bits.RotateLeft32, sha.right. -/
namespace Go.Proofs.Ytohldijomcljkaa
open Go.RowKit ShaM
set_option linter.unusedVariables false
theorem and31 (n : Nat) (h1 : 1 ≤ n) (h2 : n ≤ 31) : bits .and .u64 ((18446744073709551616 - n : Nat) : Int) 31 = ((32 - n : Nat) : Int) := by
  show IntKind.u64.wrap ((BitVec.ofInt 64 ((18446744073709551616 - n : Nat) : Int) &&& BitVec.ofInt 64 ((31 : Nat) : Int)).toNat : Int) = _
  rw [BitVec.toNat_and, BitVec.ofInt_natCast, BitVec.ofInt_natCast, BitVec.toNat_ofNat, BitVec.toNat_ofNat, Nat.mod_eq_of_lt (show 18446744073709551616 - n < 2 ^ 64 by omega), Nat.mod_eq_of_lt (show 31 < 2 ^ 64 by decide), IntKind.wrap_u64]
  have := Nat.and_two_pow_sub_one_eq_mod (18446744073709551616 - n) 5
  simp only [Nat.reducePow, Nat.reduceSub] at this
  rw [this]
  omega
theorem or32 (a b : Nat) (ha : a < 4294967296) (hb : b < 4294967296) : bits .or .u32 (a : Int) (b : Int) = ((a ||| b : Nat) : Int) := by
  have h2 : a ||| b < 2 ^ 32 := Nat.or_lt_two_pow (by omega) (by omega)
  show IntKind.u32.wrap ((BitVec.ofInt 32 (a : Int) ||| BitVec.ofInt 32 (b : Int)).toNat : Int) = _
  rw [BitVec.toNat_or, BitVec.ofInt_natCast, BitVec.ofInt_natCast, BitVec.toNat_ofNat, BitVec.toNat_ofNat, Nat.mod_eq_of_lt (show a < 2 ^ 32 by omega), Nat.mod_eq_of_lt (show b < 2 ^ 32 by omega), IntKind.wrap_u32]
  omega
theorem xor32 (a b : Nat) (ha : a < 4294967296) (hb : b < 4294967296) : bits .xor .u32 (a : Int) (b : Int) = ((a ^^^ b : Nat) : Int) := by
  have h2 : a ^^^ b < 2 ^ 32 := Nat.xor_lt_two_pow (by omega) (by omega)
  show IntKind.u32.wrap ((BitVec.ofInt 32 (a : Int) ^^^ BitVec.ofInt 32 (b : Int)).toNat : Int) = _
  rw [BitVec.toNat_xor, BitVec.ofInt_natCast, BitVec.ofInt_natCast, BitVec.toNat_ofNat, BitVec.toNat_ofNat, Nat.mod_eq_of_lt (show a < 2 ^ 32 by omega), Nat.mod_eq_of_lt (show b < 2 ^ 32 by omega), IntKind.wrap_u32]
  omega
theorem and32 (a b : Nat) (ha : a < 4294967296) (hb : b < 4294967296) : bits .and .u32 (a : Int) (b : Int) = ((a &&& b : Nat) : Int) := by
  have h2 : a &&& b < 2 ^ 32 := Nat.lt_of_le_of_lt Nat.and_le_left ha
  show IntKind.u32.wrap ((BitVec.ofInt 32 (a : Int) &&& BitVec.ofInt 32 (b : Int)).toNat : Int) = _
  rw [BitVec.toNat_and, BitVec.ofInt_natCast, BitVec.ofInt_natCast, BitVec.toNat_ofNat, BitVec.toNat_ofNat, Nat.mod_eq_of_lt (show a < 2 ^ 32 by omega), Nat.mod_eq_of_lt (show b < 2 ^ 32 by omega), IntKind.wrap_u32]
  omega
set_option maxRecDepth 100000 in
theorem rotl_any (x n : Nat) (hx : x < 4294967296) (h1 : 1 ≤ n) (h2 : n ≤ 31) (w : World) :
    Calls Try.prog 159 #[.int .u32 (x : Nat), .int .i64 (-(n : Int))] w fun e w' => e = .returned (.int .u32 (rot x n : Nat)) ∧ w' = w := by
  obtain ⟨m, hm⟩ : ∃ m, m = 18446744073709551616 - n := ⟨_, rfl⟩
  obtain ⟨s, hs⟩ : ∃ s, s = 32 - n := ⟨_, rfl⟩
  have e1 : IntKind.u64.wrap (-(n : Int)) = (m : Int) := by rw [IntKind.wrap_u64]; omega
  have e2 := and31 n h1 h2
  rw [← hm, ← hs] at e2
  have e3 : (32 : Int) - (s : Int) = (n : Int) := by omega
  have hs32 : s < 32 := by omega
  have HS := Lib.hid hs
  clear hm hs
  go_enter Try.func159, Try.ntmps159
  go_wp2_with fail
  go_ret
  refine ⟨?_, rfl⟩
  have c1 : (x : Int) * 2 ^ s % 4294967296 = ((x * 2 ^ s % 4294967296 : Nat) : Int) := by rw [Int.natCast_emod, Int.natCast_mul, Int.natCast_pow]; rfl
  have c2 : (x : Int) / 2 ^ n = ((x / 2 ^ n : Nat) : Int) := by rw [Int.natCast_ediv, Int.natCast_pow]; rfl
  have c3 : x / 2 ^ n < 4294967296 := Nat.lt_of_le_of_lt (Nat.div_le_self _ _) hx
  show Ending.returned (.int .u32 (bits BinOp.or IntKind.u32 ((x : Int) * 2 ^ s % 4294967296) ((x : Int) / 2 ^ n))) = _
  rw [c1, c2, or32 _ _ (Nat.mod_lt _ (by omega)) c3, HS.out, rot_or hx (by omega)]
set_option maxRecDepth 100000 in
theorem sright_any (x n : Nat) (hx : x < 4294967296) (h1 : 1 ≤ n) (h2 : n ≤ 31) (w : World) :
    Calls Try.prog 158 #[.int .u32 (x : Nat), .int .i64 (n : Nat)] w fun e w' => e = .returned (.int .u32 (rot x n : Nat)) ∧ w' = w := by
  have R := Lib.hid (rotl_any x n hx h1 h2 w)
  go_enter Try.func158, Try.ntmps158
  go_wp2_with fail
  refine (R.out).mono ?_
  rintro e w' ⟨rfl, rfl⟩
  go_wp2_with fail
  go_ret
  exact ⟨rfl, rfl⟩
end Go.Proofs.Ytohldijomcljkaa
