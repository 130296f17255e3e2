/- Walks: the law TreeAdds. -/
import Derived.Test.YtlcmodbjbdfloaaZTreeAdds41
import Derived.Test.YtlcmodbjbdfloaaZTreeAdds36
import Derived.Test.YtlcmodbjbdfloaaZTreeAdds42
import Derived.Test.YtlcmodbjbdfloaaZTreeAdds23
import Derived.Test.YtlcmodbjbdfloaaZTreeAdds43
namespace Go.Proofs.Ytlcmodbjbdfloaa
open Go.RowKit WalkM WireM
set_option linter.unusedVariables false
theorem sameLB_refl (d : LeafD) : sameLB d d = true := by simp [sameLB]
theorem sameNB_refl (d : NodeD) : sameNB d d = true := by simp [sameNB, sameLB_refl]
theorem sameT_refl (t : List NodeD) : sameT t t = true := sameT_yes rfl fun i _ => sameNB_refl _
set_option maxRecDepth 100000 in
set_option maxHeartbeats 4000000 in
theorem smallLeaf_any (d : LeafD) (c : Array Value) (w : World) (h : LeafC w d c) :
    Calls Try.prog 9 #[.agg c] w fun e w' => e = .returned (.bool (smallB ⟨0, d, noParD⟩)) ∧ Below w.heap.size w w' := by
  have SM := fun (c : Array Value) (W : World) (hw : NodeC W ⟨0, d, noParD⟩ c) => small_nodeC ⟨0, d, noParD⟩ c W hw
  obtain ⟨a1, c1, a2, c2, a3, c3, a4, c4, a5, c5, rfl, h1, h2, h3, h4, h5⟩ := h
  have NC := fun (W : World) (hw : Below w.heap.size w W) => (show NodeC W ⟨0, d, noParD⟩ #[.int .u8 0, .slice a1 d.box.length c1, .slice a2 d.sign.length c2, .slice a3 d.ident.length c3, .int .u8 (d.source : Nat), .slice a4 d.par.length c4, .slice a5 d.sig.length c5, .slice none 0 0, .slice none 0 0, .slice none 0 0] from
    ⟨a1, c1, a2, c2, a3, c3, a4, c4, a5, c5, none, 0, none, 0, none, 0, rfl, h1.below hw (Nat.le_refl _), h2.below hw (Nat.le_refl _), h3.below hw (Nat.le_refl _), h4.below hw (Nat.le_refl _), h5.below hw (Nat.le_refl _), (Own.nil W 0 5).rd, (Own.nil W 0 5).rd, (Own.nil W 0 3).rd⟩)
  obtain ⟨R, hR⟩ : ∃ R, R = smallB ⟨0, d, noParD⟩ := ⟨_, rfl⟩
  rw [← hR] at SM ⊢
  obtain ⟨l1, hl1⟩ : ∃ x, x = d.box.length := ⟨_, rfl⟩
  obtain ⟨l2, hl2⟩ : ∃ x, x = d.sign.length := ⟨_, rfl⟩
  obtain ⟨l3, hl3⟩ : ∃ x, x = d.ident.length := ⟨_, rfl⟩
  obtain ⟨l4, hl4⟩ : ∃ x, x = d.par.length := ⟨_, rfl⟩
  obtain ⟨l5, hl5⟩ : ∃ x, x = d.sig.length := ⟨_, rfl⟩
  obtain ⟨s, hsr⟩ : ∃ s, s = d.source := ⟨_, rfl⟩
  rw [← hl1, ← hl2, ← hl3, ← hl4, ← hl5, ← hsr] at NC ⊢
  have HSM := Lib.hid SM
  have HNC := Lib.hid NC
  have HBA := Lib.hid ((Below.refl w.heap.size w).alloc (Nat.le_refl _) (.cells #[.slice a1 l1 c1, .slice a2 l2 c2, .slice a3 l3 c3, .int .u8 (s : Nat), .slice a4 l4 c4, .slice a5 l5 c5] 25))
  clear SM NC h1 h2 h3 h4 h5 hl1 hl2 hl3 hl4 hl5 hsr hR
  go_enter Try.func9, Try.ntmps9
  go_wp2_with fail
  refine (HSM.out _ _ (HNC.out _ ?_)).mono ?_
  · first | exact HBA.out | exact Below.refl _ _
  rintro e w2 ⟨rfl, hb⟩
  go_wp2_with fail
  go_ret
  exact ⟨rfl, by first | exact hb | exact HBA.out.trans (hb.mono HBA.out.size)⟩
theorem leafOk_small {d : LeafD} (h : leafOkB d = true) : SmallL d := by
  unfold leafOkB rlB at h
  have := of_decide_eq_true h
  unfold SmallL
  omega
theorem insL_bd {L : List Int} {x : Int} {a b : Int} (h : ∀ u ∈ L, a ≤ u ∧ u ≤ b) (hx : a ≤ x ∧ x ≤ b) : ∀ u ∈ insL L x, a ≤ u ∧ u ≤ b := by
  intro u hu
  unfold insL at hu
  simp only [List.mem_append, List.mem_filter, List.mem_singleton] at hu
  rcases hu with (⟨h1, _⟩ | rfl) | ⟨h1, _⟩
  · exact h u h1
  · exact hx
  · exact h u h1
theorem held_ok {d : LeafD} (h : LeafOk d) : NodeOk (heldD d) := by
  constructor <;> first | exact h.source | exact h.box | exact h.sign | exact h.ident | exact h.par | exact h.sig | simp [heldD, noParD]
theorem addF_ok {t : List NodeD} {l : LeafD} (hok : TreeOk t) (hl : LeafOk l) {i m : Nat} (hi : i ≤ 65536) : TreeOk (listT m (addF t l i)) := by
  refine listT_ok fun x _ => ?_
  unfold addF
  split
  · exact held_ok hl
  · split
    · have h := hok.nd x
      constructor <;> first | exact h.kind | exact h.source | exact h.box | exact h.sign | exact h.ident | exact h.lpar | exact h.par | exact h.sig | exact h.pbox | exact h.hash | exact insL_bd h.late ⟨by omega, by omega⟩ | exact insL_bd h.late (by omega)
    · exact hok.nd x
/-- what follows is printed -/
theorem rrightLeafT_any (d : LeafD) (c : Array Value) (w : World) (h : LeafC w d c) :
    Calls Try.prog 12 #[.agg c] w fun e w' => e = .returned (.bool (leafOkB d)) ∧ Below w.heap.size w w' := by
  obtain ⟨a1, c1, a2, c2, a3, c3, a4, c4, a5, c5, rfl, -⟩ := h
  exact rrightLeaf_any a1 a2 a3 a4 a5 _ _ _ _ _ c1 c2 c3 c4 c5 d.source w
set_option maxRecDepth 100000 in
set_option maxHeartbeats 8000000 in
theorem tadd_no (v : Value) (c : Array Value) (t : List NodeD) (l : LeafD) (w : World) (h : TreeR w v t) (hl : LeafC w l c) (hm : medT t = true) (hok : TreeOk t) (hr : rightT t = false) :
    Calls Try.prog 10 #[v, .agg c] w fun e w' => e = .returned (.tuple #[.slice none 0 0, .int .i64 0, .int .u8 12]) ∧ Below w.heap.size w w' := by
  have TR := fun (W : World) (hw : Below w.heap.size w W) => tright_med v t W (h.below hw (Nat.le_refl _)) hm hok
  rw [hr] at TR
  obtain ⟨a, n, c0, rfl⟩ : ∃ a n c, v = .slice a n c := by obtain ⟨a, c, e, _⟩ := h.sl; exact ⟨_, _, _, e⟩
  obtain ⟨a1, c1, a2, c2, a3, c3, a4, c4, a5, c5, rfl, -⟩ := hl
  obtain ⟨l1, hl1⟩ : ∃ x, x = l.box.length := ⟨_, rfl⟩
  obtain ⟨l2, hl2⟩ : ∃ x, x = l.sign.length := ⟨_, rfl⟩
  obtain ⟨l3, hl3⟩ : ∃ x, x = l.ident.length := ⟨_, rfl⟩
  obtain ⟨l4, hl4⟩ : ∃ x, x = l.par.length := ⟨_, rfl⟩
  obtain ⟨l5, hl5⟩ : ∃ x, x = l.sig.length := ⟨_, rfl⟩
  obtain ⟨s, hsr⟩ : ∃ s, s = l.source := ⟨_, rfl⟩
  rw [← hl1, ← hl2, ← hl3, ← hl4, ← hl5, ← hsr]
  have HTR := Lib.hid TR
  clear TR hl1 hl2 hl3 hl4 hl5 hsr h hm hok hr
  go_enter Try.func10, Try.ntmps10
  go_wp2_with fail
  have HBK0 := Lib.hid (Blk.new w 25 #[.slice a1 l1 c1, .slice a2 l2 c2, .slice a3 l3 c3, .int .u8 (s : Nat), .slice a4 l4 c4, .slice a5 l5 c5])
  have HB0 := Lib.hid ((Below.refl w.heap.size w).alloc (Nat.le_refl _) (.cells #[.slice a1 l1 c1, .slice a2 l2 c2, .slice a3 l3 c3, .int .u8 (s : Nat), .slice a4 l4 c4, .slice a5 l5 c5] 25))
  generalize hw0 : w.alloc (.cells #[.slice a1 l1 c1, .slice a2 l2 c2, .slice a3 l3 c3, .int .u8 (s : Nat), .slice a4 l4 c4, .slice a5 l5 c5] 25) = w0 at HBK0 HB0 ⊢
  clear hw0
  go_wp2_with fail
  refine (HTR.out w0 HB0.out).mono ?_
  rintro e w1 ⟨rfl, hb⟩
  have HB1 := Lib.hid (HB0.out.trans (hb.mono HB0.out.size))
  have HBK1 := Lib.hid (HBK0.out.below hb HBK0.out.lt)
  clear hb
  go_wp2_with fail
  go_ret3
  exact ⟨rfl, HB1.out⟩
set_option maxRecDepth 100000 in
set_option maxHeartbeats 8000000 in
theorem tadd_form (v : Value) (c : Array Value) (t : List NodeD) (l : LeafD) (w : World) (h : TreeR w v t) (hl : LeafC w l c) (hm : medT t = true) (hok : TreeOk t) (hr : rightT t = true) (hls : SmallL l) (hsrc : l.source < 256) (hf : leafOkB l = false) :
    Calls Try.prog 10 #[v, .agg c] w fun e w' => e = .returned (.tuple #[.slice none 0 0, .int .i64 0, .int .u8 3]) ∧ Below w.heap.size w w' := by
  have TR := fun (W : World) (hw : Below w.heap.size w W) => tright_med v t W (h.below hw (Nat.le_refl _)) hm hok
  have RL := fun (W : World) (hw : Below w.heap.size w W) => rightLeafT_any l c W (hl.below hw (Nat.le_refl _)) hls hsrc
  rw [hr] at TR
  rw [hf] at RL
  obtain ⟨a, n, c0, rfl⟩ : ∃ a n c, v = .slice a n c := by obtain ⟨a, c, e, _⟩ := h.sl; exact ⟨_, _, _, e⟩
  obtain ⟨a1, c1, a2, c2, a3, c3, a4, c4, a5, c5, rfl, -⟩ := hl
  obtain ⟨l1, hl1⟩ : ∃ x, x = l.box.length := ⟨_, rfl⟩
  obtain ⟨l2, hl2⟩ : ∃ x, x = l.sign.length := ⟨_, rfl⟩
  obtain ⟨l3, hl3⟩ : ∃ x, x = l.ident.length := ⟨_, rfl⟩
  obtain ⟨l4, hl4⟩ : ∃ x, x = l.par.length := ⟨_, rfl⟩
  obtain ⟨l5, hl5⟩ : ∃ x, x = l.sig.length := ⟨_, rfl⟩
  obtain ⟨s, hsr⟩ : ∃ s, s = l.source := ⟨_, rfl⟩
  rw [← hl1, ← hl2, ← hl3, ← hl4, ← hl5, ← hsr] at RL ⊢
  have HTR := Lib.hid TR
  have HRL := Lib.hid RL
  clear TR RL hl1 hl2 hl3 hl4 hl5 hsr h hm hok hr hls hsrc hf
  go_enter Try.func10, Try.ntmps10
  go_wp2_with fail
  have HBK0 := Lib.hid (Blk.new w 25 #[.slice a1 l1 c1, .slice a2 l2 c2, .slice a3 l3 c3, .int .u8 (s : Nat), .slice a4 l4 c4, .slice a5 l5 c5])
  have HB0 := Lib.hid ((Below.refl w.heap.size w).alloc (Nat.le_refl _) (.cells #[.slice a1 l1 c1, .slice a2 l2 c2, .slice a3 l3 c3, .int .u8 (s : Nat), .slice a4 l4 c4, .slice a5 l5 c5] 25))
  generalize hw0 : w.alloc (.cells #[.slice a1 l1 c1, .slice a2 l2 c2, .slice a3 l3 c3, .int .u8 (s : Nat), .slice a4 l4 c4, .slice a5 l5 c5] 25) = w0 at HBK0 HB0 ⊢
  clear hw0
  go_wp2_with fail
  refine (HTR.out w0 HB0.out).mono ?_
  rintro e w1 ⟨rfl, hb⟩
  have HB1 := Lib.hid (HB0.out.trans (hb.mono HB0.out.size))
  have HBK1 := Lib.hid (HBK0.out.below hb HBK0.out.lt)
  go_wp2_with (first | (refine wpList_load_at rfl 25 (.tmp 3) rfl w.heap.size rfl 25 #[.slice a1 l1 c1, .slice a2 l2 c2, .slice a3 l3 c3, .int .u8 (s : Nat), .slice a4 l4 c4, .slice a5 l5 c5] (0, 0) _ HBK1.out Try.underlying25 rfl (by kernel_rfl) ?_) | (refine wpList_wanted rfl ?_; refine wpList_load_at rfl 25 (.tmp 3) rfl w.heap.size rfl 25 #[.slice a1 l1 c1, .slice a2 l2 c2, .slice a3 l3 c3, .int .u8 (s : Nat), .slice a4 l4 c4, .slice a5 l5 c5] (0, 0) _ HBK1.out Try.underlying25 rfl (by kernel_rfl) ?_))
  refine (HRL.out w1 HB1.out).mono ?_
  rintro e w2 ⟨rfl, hb⟩
  have HB2 := Lib.hid (HB1.out.trans (hb.mono HB1.out.size))
  have HBK2 := Lib.hid (HBK1.out.below hb HBK1.out.lt)
  clear hb
  go_wp2_with fail
  go_ret3
  exact ⟨rfl, HB2.out⟩
set_option maxRecDepth 100000 in
set_option maxHeartbeats 8000000 in
theorem tadds_big {w : World} (v : Value) (c : Array Value) (t : List NodeD) (l : LeafD) (h : TreeR w v t) (hl : LeafC w l c) (hok : TreeOk t) (hlk : LeafOk l) (hs : smallT t = false) :
    Calls Try.prog 3 #[v, .agg c] w fun e w' => e = .returned (.bool true) ∧ Below w.heap.size w w' := by
  have AL := fun (W : World) (hw : Below w.heap.size w W) => alive17 W
  have SM := fun (W : World) (hw : Below w.heap.size w W) => tsmall_any v t W (h.below hw (Nat.le_refl _))
  rw [hs] at SM
  obtain ⟨a, n, c0, rfl⟩ : ∃ a n c, v = .slice a n c := by obtain ⟨a, c, e, _⟩ := h.sl; exact ⟨_, _, _, e⟩
  obtain ⟨a1, c1, a2, c2, a3, c3, a4, c4, a5, c5, rfl, -⟩ := hl
  obtain ⟨l1, hl1⟩ : ∃ x, x = l.box.length := ⟨_, rfl⟩
  obtain ⟨l2, hl2⟩ : ∃ x, x = l.sign.length := ⟨_, rfl⟩
  obtain ⟨l3, hl3⟩ : ∃ x, x = l.ident.length := ⟨_, rfl⟩
  obtain ⟨l4, hl4⟩ : ∃ x, x = l.par.length := ⟨_, rfl⟩
  obtain ⟨l5, hl5⟩ : ∃ x, x = l.sig.length := ⟨_, rfl⟩
  obtain ⟨s, hsr⟩ : ∃ s, s = l.source := ⟨_, rfl⟩
  rw [← hl1, ← hl2, ← hl3, ← hl4, ← hl5, ← hsr]
  have HAL := Lib.hid AL
  have HSM := Lib.hid SM
  clear AL SM hl1 hl2 hl3 hl4 hl5 hsr h hok hlk hs
  go_enter Try.func3, Try.ntmps3
  go_wp2_with fail
  have HBK0 := Lib.hid (Blk.new w 25 #[.slice a1 l1 c1, .slice a2 l2 c2, .slice a3 l3 c3, .int .u8 (s : Nat), .slice a4 l4 c4, .slice a5 l5 c5])
  have HB0 := Lib.hid ((Below.refl w.heap.size w).alloc (Nat.le_refl _) (.cells #[.slice a1 l1 c1, .slice a2 l2 c2, .slice a3 l3 c3, .int .u8 (s : Nat), .slice a4 l4 c4, .slice a5 l5 c5] 25))
  generalize hw0 : w.alloc (.cells #[.slice a1 l1 c1, .slice a2 l2 c2, .slice a3 l3 c3, .int .u8 (s : Nat), .slice a4 l4 c4, .slice a5 l5 c5] 25) = w0 at HBK0 HB0 ⊢
  clear hw0
  go_wp2_with fail
  refine (HAL.out w0 HB0.out).mono ?_
  rintro e w1 ⟨rfl, hb⟩
  have HB1 := Lib.hid (HB0.out.trans (hb.mono HB0.out.size))
  have HBK1 := Lib.hid (HBK0.out.below hb HBK0.out.lt)
  go_wp2_with fail
  refine (HSM.out w1 HB1.out).mono ?_
  rintro e w2 ⟨rfl, hb⟩
  have HB2 := Lib.hid (HB1.out.trans (hb.mono HB1.out.size))
  have HBK2 := Lib.hid (HBK1.out.below hb HBK1.out.lt)
  clear hb
  go_wp2_with fail
  go_ret
  exact ⟨rfl, HB2.out⟩
set_option maxRecDepth 100000 in
set_option maxHeartbeats 8000000 in
theorem tadds_bigL {w : World} (v : Value) (c : Array Value) (t : List NodeD) (l : LeafD) (h : TreeR w v t) (hl : LeafC w l c) (hok : TreeOk t) (hlk : LeafOk l) (hs : smallT t = true) (hsl : smallB ⟨0, l, noParD⟩ = false) :
    Calls Try.prog 3 #[v, .agg c] w fun e w' => e = .returned (.bool true) ∧ Below w.heap.size w w' := by
  have AL := fun (W : World) (hw : Below w.heap.size w W) => alive17 W
  have SM := fun (W : World) (hw : Below w.heap.size w W) => tsmall_any v t W (h.below hw (Nat.le_refl _))
  have SL := fun (W : World) (hw : Below w.heap.size w W) => smallLeaf_any l c W (hl.below hw (Nat.le_refl _))
  rw [hs] at SM
  rw [hsl] at SL
  obtain ⟨a, n, c0, rfl⟩ : ∃ a n c, v = .slice a n c := by obtain ⟨a, c, e, _⟩ := h.sl; exact ⟨_, _, _, e⟩
  obtain ⟨a1, c1, a2, c2, a3, c3, a4, c4, a5, c5, rfl, -⟩ := hl
  obtain ⟨l1, hl1⟩ : ∃ x, x = l.box.length := ⟨_, rfl⟩
  obtain ⟨l2, hl2⟩ : ∃ x, x = l.sign.length := ⟨_, rfl⟩
  obtain ⟨l3, hl3⟩ : ∃ x, x = l.ident.length := ⟨_, rfl⟩
  obtain ⟨l4, hl4⟩ : ∃ x, x = l.par.length := ⟨_, rfl⟩
  obtain ⟨l5, hl5⟩ : ∃ x, x = l.sig.length := ⟨_, rfl⟩
  obtain ⟨s, hsr⟩ : ∃ s, s = l.source := ⟨_, rfl⟩
  rw [← hl1, ← hl2, ← hl3, ← hl4, ← hl5, ← hsr] at SL ⊢
  have HAL := Lib.hid AL
  have HSM := Lib.hid SM
  have HSL := Lib.hid SL
  clear AL SM SL hl1 hl2 hl3 hl4 hl5 hsr h hok hlk hs hsl
  go_enter Try.func3, Try.ntmps3
  go_wp2_with fail
  have HBK0 := Lib.hid (Blk.new w 25 #[.slice a1 l1 c1, .slice a2 l2 c2, .slice a3 l3 c3, .int .u8 (s : Nat), .slice a4 l4 c4, .slice a5 l5 c5])
  have HB0 := Lib.hid ((Below.refl w.heap.size w).alloc (Nat.le_refl _) (.cells #[.slice a1 l1 c1, .slice a2 l2 c2, .slice a3 l3 c3, .int .u8 (s : Nat), .slice a4 l4 c4, .slice a5 l5 c5] 25))
  generalize hw0 : w.alloc (.cells #[.slice a1 l1 c1, .slice a2 l2 c2, .slice a3 l3 c3, .int .u8 (s : Nat), .slice a4 l4 c4, .slice a5 l5 c5] 25) = w0 at HBK0 HB0 ⊢
  clear hw0
  go_wp2_with fail
  refine (HAL.out w0 HB0.out).mono ?_
  rintro e w1 ⟨rfl, hb⟩
  have HB1 := Lib.hid (HB0.out.trans (hb.mono HB0.out.size))
  have HBK1 := Lib.hid (HBK0.out.below hb HBK0.out.lt)
  go_wp2_with fail
  refine (HSM.out w1 HB1.out).mono ?_
  rintro e w2 ⟨rfl, hb⟩
  have HB2 := Lib.hid (HB1.out.trans (hb.mono HB1.out.size))
  have HBK2 := Lib.hid (HBK1.out.below hb HBK1.out.lt)
  go_wp2_with (first | (refine wpList_load_at rfl 25 (.tmp 3) rfl w.heap.size rfl 25 #[.slice a1 l1 c1, .slice a2 l2 c2, .slice a3 l3 c3, .int .u8 (s : Nat), .slice a4 l4 c4, .slice a5 l5 c5] (0, 0) _ HBK2.out Try.underlying25 rfl (by kernel_rfl) ?_) | (refine wpList_wanted rfl ?_; refine wpList_load_at rfl 25 (.tmp 3) rfl w.heap.size rfl 25 #[.slice a1 l1 c1, .slice a2 l2 c2, .slice a3 l3 c3, .int .u8 (s : Nat), .slice a4 l4 c4, .slice a5 l5 c5] (0, 0) _ HBK2.out Try.underlying25 rfl (by kernel_rfl) ?_))
  refine (HSL.out w2 HB2.out).mono ?_
  rintro e w3 ⟨rfl, hb⟩
  have HB3 := Lib.hid (HB2.out.trans (hb.mono HB2.out.size))
  have HBK3 := Lib.hid (HBK2.out.below hb HBK2.out.lt)
  clear hb
  go_wp2_with fail
  go_ret
  exact ⟨rfl, HB3.out⟩
set_option maxRecDepth 100000 in
set_option maxHeartbeats 8000000 in
theorem tadds_no {w : World} (v : Value) (c : Array Value) (t : List NodeD) (l : LeafD) (h : TreeR w v t) (hl : LeafC w l c) (hok : TreeOk t) (hlk : LeafOk l) (hs : smallT t = true) (hsl : smallB ⟨0, l, noParD⟩ = true) (hr : rightT t = false) :
    Calls Try.prog 3 #[v, .agg c] w fun e w' => e = .returned (.bool true) ∧ Below w.heap.size w w' := by
  have hm := smallT_med hs
  have hls : SmallL l := by have := of_decide_eq_true hsl; unfold SmallL; simp only at this; omega
  have hsrc := hlk.source
  have AL := fun (W : World) (hw : Below w.heap.size w W) => alive17 W
  have SM := fun (W : World) (hw : Below w.heap.size w W) => tsmall_any v t W (h.below hw (Nat.le_refl _))
  have SL := fun (W : World) (hw : Below w.heap.size w W) => smallLeaf_any l c W (hl.below hw (Nat.le_refl _))
  have RR := fun (W : World) (hw : Below w.heap.size w W) => rtright_any v t W (h.below hw (Nat.le_refl _)) hs hok
  have AD := fun (W : World) (hw : Below w.heap.size w W) => tadd_no v c t l W (h.below hw (Nat.le_refl _)) (hl.below hw (Nat.le_refl _)) hm hok hr
  rw [hs] at SM
  rw [hsl] at SL
  rw [hr] at RR
  obtain ⟨a, n, c0, rfl⟩ : ∃ a n c, v = .slice a n c := by obtain ⟨a, c, e, _⟩ := h.sl; exact ⟨_, _, _, e⟩
  obtain ⟨a1, c1, a2, c2, a3, c3, a4, c4, a5, c5, rfl, -⟩ := hl
  obtain ⟨l1, hl1⟩ : ∃ x, x = l.box.length := ⟨_, rfl⟩
  obtain ⟨l2, hl2⟩ : ∃ x, x = l.sign.length := ⟨_, rfl⟩
  obtain ⟨l3, hl3⟩ : ∃ x, x = l.ident.length := ⟨_, rfl⟩
  obtain ⟨l4, hl4⟩ : ∃ x, x = l.par.length := ⟨_, rfl⟩
  obtain ⟨l5, hl5⟩ : ∃ x, x = l.sig.length := ⟨_, rfl⟩
  obtain ⟨s, hsr⟩ : ∃ s, s = l.source := ⟨_, rfl⟩
  rw [← hl1, ← hl2, ← hl3, ← hl4, ← hl5, ← hsr] at SL AD ⊢
  have HAL := Lib.hid AL
  have HSM := Lib.hid SM
  have HSL := Lib.hid SL
  have HAD := Lib.hid AD
  have HRR := Lib.hid RR
  clear AL SM SL AD RR hl1 hl2 hl3 hl4 hl5 hsr h hok hlk hs hsl hr hm hls hsrc
  go_enter Try.func3, Try.ntmps3
  go_wp2_with fail
  have HBK0 := Lib.hid (Blk.new w 25 #[.slice a1 l1 c1, .slice a2 l2 c2, .slice a3 l3 c3, .int .u8 (s : Nat), .slice a4 l4 c4, .slice a5 l5 c5])
  have HB0 := Lib.hid ((Below.refl w.heap.size w).alloc (Nat.le_refl _) (.cells #[.slice a1 l1 c1, .slice a2 l2 c2, .slice a3 l3 c3, .int .u8 (s : Nat), .slice a4 l4 c4, .slice a5 l5 c5] 25))
  generalize hw0 : w.alloc (.cells #[.slice a1 l1 c1, .slice a2 l2 c2, .slice a3 l3 c3, .int .u8 (s : Nat), .slice a4 l4 c4, .slice a5 l5 c5] 25) = w0 at HBK0 HB0 ⊢
  clear hw0
  go_wp2_with fail
  refine (HAL.out w0 HB0.out).mono ?_
  rintro e w1 ⟨rfl, hb⟩
  have HB1 := Lib.hid (HB0.out.trans (hb.mono HB0.out.size))
  have HBK1 := Lib.hid (HBK0.out.below hb HBK0.out.lt)
  go_wp2_with fail
  refine (HSM.out w1 HB1.out).mono ?_
  rintro e w2 ⟨rfl, hb⟩
  have HB2 := Lib.hid (HB1.out.trans (hb.mono HB1.out.size))
  have HBK2 := Lib.hid (HBK1.out.below hb HBK1.out.lt)
  go_wp2_with (first | (refine wpList_load_at rfl 25 (.tmp 3) rfl w.heap.size rfl 25 #[.slice a1 l1 c1, .slice a2 l2 c2, .slice a3 l3 c3, .int .u8 (s : Nat), .slice a4 l4 c4, .slice a5 l5 c5] (0, 0) _ HBK2.out Try.underlying25 rfl (by kernel_rfl) ?_) | (refine wpList_wanted rfl ?_; refine wpList_load_at rfl 25 (.tmp 3) rfl w.heap.size rfl 25 #[.slice a1 l1 c1, .slice a2 l2 c2, .slice a3 l3 c3, .int .u8 (s : Nat), .slice a4 l4 c4, .slice a5 l5 c5] (0, 0) _ HBK2.out Try.underlying25 rfl (by kernel_rfl) ?_))
  refine (HSL.out w2 HB2.out).mono ?_
  rintro e w3 ⟨rfl, hb⟩
  have HB3 := Lib.hid (HB2.out.trans (hb.mono HB2.out.size))
  have HBK3 := Lib.hid (HBK2.out.below hb HBK2.out.lt)
  go_wp2_with (first | (refine wpList_load_at rfl 25 (.tmp 3) rfl w.heap.size rfl 25 #[.slice a1 l1 c1, .slice a2 l2 c2, .slice a3 l3 c3, .int .u8 (s : Nat), .slice a4 l4 c4, .slice a5 l5 c5] (0, 0) _ HBK3.out Try.underlying25 rfl (by kernel_rfl) ?_) | (refine wpList_wanted rfl ?_; refine wpList_load_at rfl 25 (.tmp 3) rfl w.heap.size rfl 25 #[.slice a1 l1 c1, .slice a2 l2 c2, .slice a3 l3 c3, .int .u8 (s : Nat), .slice a4 l4 c4, .slice a5 l5 c5] (0, 0) _ HBK3.out Try.underlying25 rfl (by kernel_rfl) ?_))
  refine (HAD.out w3 HB3.out).mono ?_
  rintro e w4 ⟨rfl, hb⟩
  have HB4 := Lib.hid (HB3.out.trans (hb.mono HB3.out.size))
  have HBK4 := Lib.hid (HBK3.out.below hb HBK3.out.lt)
  go_wp2_with fail
  refine (HRR.out w4 HB4.out).mono ?_
  rintro e w5 ⟨rfl, hb⟩
  have HB5 := Lib.hid (HB4.out.trans (hb.mono HB4.out.size))
  have HBK5 := Lib.hid (HBK4.out.below hb HBK4.out.lt)
  clear hb
  go_wp2_with fail
  go_ret
  exact ⟨rfl, HB5.out⟩
set_option maxRecDepth 100000 in
set_option maxHeartbeats 8000000 in
theorem tadds_form {w : World} (v : Value) (c : Array Value) (t : List NodeD) (l : LeafD) (h : TreeR w v t) (hl : LeafC w l c) (hok : TreeOk t) (hlk : LeafOk l) (hs : smallT t = true) (hsl : smallB ⟨0, l, noParD⟩ = true) (hr : rightT t = true) (hf : leafOkB l = false) :
    Calls Try.prog 3 #[v, .agg c] w fun e w' => e = .returned (.bool true) ∧ Below w.heap.size w w' := by
  have hm := smallT_med hs
  have hls : SmallL l := by have := of_decide_eq_true hsl; unfold SmallL; simp only at this; omega
  have hsrc := hlk.source
  have AL := fun (W : World) (hw : Below w.heap.size w W) => alive17 W
  have SM := fun (W : World) (hw : Below w.heap.size w W) => tsmall_any v t W (h.below hw (Nat.le_refl _))
  have SL := fun (W : World) (hw : Below w.heap.size w W) => smallLeaf_any l c W (hl.below hw (Nat.le_refl _))
  have RR := fun (W : World) (hw : Below w.heap.size w W) => rtright_any v t W (h.below hw (Nat.le_refl _)) hs hok
  have RRL := fun (W : World) (hw : Below w.heap.size w W) => rrightLeafT_any l c W (hl.below hw (Nat.le_refl _))
  have AD := fun (W : World) (hw : Below w.heap.size w W) => tadd_form v c t l W (h.below hw (Nat.le_refl _)) (hl.below hw (Nat.le_refl _)) hm hok hr hls hsrc hf
  rw [hs] at SM
  rw [hsl] at SL
  rw [hr] at RR
  rw [hf] at RRL
  obtain ⟨a, n, c0, rfl⟩ : ∃ a n c, v = .slice a n c := by obtain ⟨a, c, e, _⟩ := h.sl; exact ⟨_, _, _, e⟩
  obtain ⟨a1, c1, a2, c2, a3, c3, a4, c4, a5, c5, rfl, -⟩ := hl
  obtain ⟨l1, hl1⟩ : ∃ x, x = l.box.length := ⟨_, rfl⟩
  obtain ⟨l2, hl2⟩ : ∃ x, x = l.sign.length := ⟨_, rfl⟩
  obtain ⟨l3, hl3⟩ : ∃ x, x = l.ident.length := ⟨_, rfl⟩
  obtain ⟨l4, hl4⟩ : ∃ x, x = l.par.length := ⟨_, rfl⟩
  obtain ⟨l5, hl5⟩ : ∃ x, x = l.sig.length := ⟨_, rfl⟩
  obtain ⟨s, hsr⟩ : ∃ s, s = l.source := ⟨_, rfl⟩
  rw [← hl1, ← hl2, ← hl3, ← hl4, ← hl5, ← hsr] at SL AD RRL ⊢
  have HAL := Lib.hid AL
  have HSM := Lib.hid SM
  have HSL := Lib.hid SL
  have HAD := Lib.hid AD
  have HRR := Lib.hid RR
  have HRRL := Lib.hid RRL
  clear AL SM SL AD RR RRL hl1 hl2 hl3 hl4 hl5 hsr h hok hlk hs hsl hr hm hls hsrc hf
  go_enter Try.func3, Try.ntmps3
  go_wp2_with fail
  have HBK0 := Lib.hid (Blk.new w 25 #[.slice a1 l1 c1, .slice a2 l2 c2, .slice a3 l3 c3, .int .u8 (s : Nat), .slice a4 l4 c4, .slice a5 l5 c5])
  have HB0 := Lib.hid ((Below.refl w.heap.size w).alloc (Nat.le_refl _) (.cells #[.slice a1 l1 c1, .slice a2 l2 c2, .slice a3 l3 c3, .int .u8 (s : Nat), .slice a4 l4 c4, .slice a5 l5 c5] 25))
  generalize hw0 : w.alloc (.cells #[.slice a1 l1 c1, .slice a2 l2 c2, .slice a3 l3 c3, .int .u8 (s : Nat), .slice a4 l4 c4, .slice a5 l5 c5] 25) = w0 at HBK0 HB0 ⊢
  clear hw0
  go_wp2_with fail
  refine (HAL.out w0 HB0.out).mono ?_
  rintro e w1 ⟨rfl, hb⟩
  have HB1 := Lib.hid (HB0.out.trans (hb.mono HB0.out.size))
  have HBK1 := Lib.hid (HBK0.out.below hb HBK0.out.lt)
  go_wp2_with fail
  refine (HSM.out w1 HB1.out).mono ?_
  rintro e w2 ⟨rfl, hb⟩
  have HB2 := Lib.hid (HB1.out.trans (hb.mono HB1.out.size))
  have HBK2 := Lib.hid (HBK1.out.below hb HBK1.out.lt)
  go_wp2_with (first | (refine wpList_load_at rfl 25 (.tmp 3) rfl w.heap.size rfl 25 #[.slice a1 l1 c1, .slice a2 l2 c2, .slice a3 l3 c3, .int .u8 (s : Nat), .slice a4 l4 c4, .slice a5 l5 c5] (0, 0) _ HBK2.out Try.underlying25 rfl (by kernel_rfl) ?_) | (refine wpList_wanted rfl ?_; refine wpList_load_at rfl 25 (.tmp 3) rfl w.heap.size rfl 25 #[.slice a1 l1 c1, .slice a2 l2 c2, .slice a3 l3 c3, .int .u8 (s : Nat), .slice a4 l4 c4, .slice a5 l5 c5] (0, 0) _ HBK2.out Try.underlying25 rfl (by kernel_rfl) ?_))
  refine (HSL.out w2 HB2.out).mono ?_
  rintro e w3 ⟨rfl, hb⟩
  have HB3 := Lib.hid (HB2.out.trans (hb.mono HB2.out.size))
  have HBK3 := Lib.hid (HBK2.out.below hb HBK2.out.lt)
  go_wp2_with (first | (refine wpList_load_at rfl 25 (.tmp 3) rfl w.heap.size rfl 25 #[.slice a1 l1 c1, .slice a2 l2 c2, .slice a3 l3 c3, .int .u8 (s : Nat), .slice a4 l4 c4, .slice a5 l5 c5] (0, 0) _ HBK3.out Try.underlying25 rfl (by kernel_rfl) ?_) | (refine wpList_wanted rfl ?_; refine wpList_load_at rfl 25 (.tmp 3) rfl w.heap.size rfl 25 #[.slice a1 l1 c1, .slice a2 l2 c2, .slice a3 l3 c3, .int .u8 (s : Nat), .slice a4 l4 c4, .slice a5 l5 c5] (0, 0) _ HBK3.out Try.underlying25 rfl (by kernel_rfl) ?_))
  refine (HAD.out w3 HB3.out).mono ?_
  rintro e w4 ⟨rfl, hb⟩
  have HB4 := Lib.hid (HB3.out.trans (hb.mono HB3.out.size))
  have HBK4 := Lib.hid (HBK3.out.below hb HBK3.out.lt)
  go_wp2_with fail
  refine (HRR.out w4 HB4.out).mono ?_
  rintro e w5 ⟨rfl, hb⟩
  have HB5 := Lib.hid (HB4.out.trans (hb.mono HB4.out.size))
  have HBK5 := Lib.hid (HBK4.out.below hb HBK4.out.lt)
  go_wp2_with (first | (refine wpList_load_at rfl 25 (.tmp 3) rfl w.heap.size rfl 25 #[.slice a1 l1 c1, .slice a2 l2 c2, .slice a3 l3 c3, .int .u8 (s : Nat), .slice a4 l4 c4, .slice a5 l5 c5] (0, 0) _ HBK5.out Try.underlying25 rfl (by kernel_rfl) ?_) | (refine wpList_wanted rfl ?_; refine wpList_load_at rfl 25 (.tmp 3) rfl w.heap.size rfl 25 #[.slice a1 l1 c1, .slice a2 l2 c2, .slice a3 l3 c3, .int .u8 (s : Nat), .slice a4 l4 c4, .slice a5 l5 c5] (0, 0) _ HBK5.out Try.underlying25 rfl (by kernel_rfl) ?_))
  refine (HRRL.out w5 HB5.out).mono ?_
  rintro e w6 ⟨rfl, hb⟩
  have HB6 := Lib.hid (HB5.out.trans (hb.mono HB5.out.size))
  have HBK6 := Lib.hid (HBK5.out.below hb HBK5.out.lt)
  clear hb
  go_wp2_with fail
  go_ret
  exact ⟨rfl, HB6.out⟩
set_option maxRecDepth 100000 in
set_option maxHeartbeats 8000000 in
theorem tadds_room {w : World} (v : Value) (c : Array Value) (t : List NodeD) (l : LeafD) (h : TreeR w v t) (hl : LeafC w l c) (hok : TreeOk t) (hlk : LeafOk l) (hs : smallT t = true) (hsl : smallB ⟨0, l, noParD⟩ = true) (hr : rightT t = true) (hf : leafOkB l = true) (d i : Nat) (hd : d ≤ 14) (hlen : t.length + 1 = 2 * 2 ^ d) (hfl : freeLeaf t (2 ^ d) i) (hi : i < 2 ^ d) :
    Calls Try.prog 3 #[v, .agg c] w fun e w' => e = .returned (.bool true) ∧ Below w.heap.size w w' := by
  have hm := smallT_med hs
  have hls : SmallL l := by have := of_decide_eq_true hsl; unfold SmallL; simp only at this; omega
  have hsrc := hlk.source
  have AL := fun (W : World) (hw : Below w.heap.size w W) => alive17 W
  have SM := fun (W : World) (hw : Below w.heap.size w W) => tsmall_any v t W (h.below hw (Nat.le_refl _))
  have SL := fun (W : World) (hw : Below w.heap.size w W) => smallLeaf_any l c W (hl.below hw (Nat.le_refl _))
  have RR := fun (W : World) (hw : Below w.heap.size w W) => rtright_any v t W (h.below hw (Nat.le_refl _)) hs hok
  have RRL := fun (W : World) (hw : Below w.heap.size w W) => rrightLeafT_any l c W (hl.below hw (Nat.le_refl _))
  have h17 := two_pow_le (show d + 1 ≤ 16 by omega)
  have e2 : 2 ^ (d + 1) = 2 * 2 ^ d := by rw [Nat.pow_succ]; omega
  have h1 : ∀ j, j < i → (nd t (2 * j)).kind ≠ 0 := fun j hj => by rw [hfl.2.1 j hj]; decide
  have h2 : (nd t (2 * i)).kind = 0 := free_zero hr (hfl.2.2 hi)
  have AD := fun (W : World) (hw : Below w.heap.size w W) => add_room v c t l d i W (h.below hw (Nat.le_refl _)) (hl.below hw (Nat.le_refl _)) hm hok hr hls hsrc hf hlen hfl hi (by omega)
  have RA := fun (W : World) (hw : Below w.heap.size w W) => radd_room v c t l d i W (h.below hw (Nat.le_refl _)) (hl.below hw (Nat.le_refl _)) hm hok hlen h1 hi h2 (by omega)
  have oka : TreeOk (listT (2 * 2 ^ d - 1) (addF t l i)) := addF_ok hok hlk (by omega)
  have SA := fun (W : World) (x y : Value) (hx : TreeR W x (listT (2 * 2 ^ d - 1) (addF t l i))) (hy : TreeR W y (listT (2 * 2 ^ d - 1) (addF t l i))) => tsame_any x y _ _ W hx hy oka oka (by rw [listT_len]; omega)
  rw [sameT_refl] at SA
  obtain ⟨TT, hTT⟩ : ∃ T, T = listT (2 * 2 ^ d - 1) (addF t l i) := ⟨_, rfl⟩
  rw [← hTT] at AD RA SA oka
  rw [hs] at SM
  rw [hsl] at SL
  rw [hr] at RR
  rw [hf] at RRL
  obtain ⟨a, n, c0, rfl⟩ : ∃ a n c, v = .slice a n c := by obtain ⟨a, c, e, _⟩ := h.sl; exact ⟨_, _, _, e⟩
  obtain ⟨a1, c1, a2, c2, a3, c3, a4, c4, a5, c5, rfl, -⟩ := hl
  obtain ⟨l1, hl1⟩ : ∃ x, x = l.box.length := ⟨_, rfl⟩
  obtain ⟨l2, hl2⟩ : ∃ x, x = l.sign.length := ⟨_, rfl⟩
  obtain ⟨l3, hl3⟩ : ∃ x, x = l.ident.length := ⟨_, rfl⟩
  obtain ⟨l4, hl4⟩ : ∃ x, x = l.par.length := ⟨_, rfl⟩
  obtain ⟨l5, hl5⟩ : ∃ x, x = l.sig.length := ⟨_, rfl⟩
  obtain ⟨s, hsr⟩ : ∃ s, s = l.source := ⟨_, rfl⟩
  rw [← hl1, ← hl2, ← hl3, ← hl4, ← hl5, ← hsr] at SL AD RRL RA ⊢
  have HAL := Lib.hid AL
  have HSM := Lib.hid SM
  have HSL := Lib.hid SL
  have HAD := Lib.hid AD
  have HRR := Lib.hid RR
  have HRRL := Lib.hid RRL
  have HRA := Lib.hid RA
  have HSA := Lib.hid SA
  clear AL SM SL AD RR RRL RA SA hl1 hl2 hl3 hl4 hl5 hsr h hok hlk hs hsl hr hm hls hsrc hf hlen hfl h17 e2 h1 oka hTT hd h2 hi
  go_enter Try.func3, Try.ntmps3
  go_wp2_with fail
  have HBK0 := Lib.hid (Blk.new w 25 #[.slice a1 l1 c1, .slice a2 l2 c2, .slice a3 l3 c3, .int .u8 (s : Nat), .slice a4 l4 c4, .slice a5 l5 c5])
  have HB0 := Lib.hid ((Below.refl w.heap.size w).alloc (Nat.le_refl _) (.cells #[.slice a1 l1 c1, .slice a2 l2 c2, .slice a3 l3 c3, .int .u8 (s : Nat), .slice a4 l4 c4, .slice a5 l5 c5] 25))
  generalize hw0 : w.alloc (.cells #[.slice a1 l1 c1, .slice a2 l2 c2, .slice a3 l3 c3, .int .u8 (s : Nat), .slice a4 l4 c4, .slice a5 l5 c5] 25) = w0 at HBK0 HB0 ⊢
  clear hw0
  go_wp2_with fail
  refine (HAL.out w0 HB0.out).mono ?_
  rintro e w1 ⟨rfl, hb⟩
  have HB1 := Lib.hid (HB0.out.trans (hb.mono HB0.out.size))
  have HBK1 := Lib.hid (HBK0.out.below hb HBK0.out.lt)
  go_wp2_with fail
  refine (HSM.out w1 HB1.out).mono ?_
  rintro e w2 ⟨rfl, hb⟩
  have HB2 := Lib.hid (HB1.out.trans (hb.mono HB1.out.size))
  have HBK2 := Lib.hid (HBK1.out.below hb HBK1.out.lt)
  go_wp2_with (first | (refine wpList_load_at rfl 25 (.tmp 3) rfl w.heap.size rfl 25 #[.slice a1 l1 c1, .slice a2 l2 c2, .slice a3 l3 c3, .int .u8 (s : Nat), .slice a4 l4 c4, .slice a5 l5 c5] (0, 0) _ HBK2.out Try.underlying25 rfl (by kernel_rfl) ?_) | (refine wpList_wanted rfl ?_; refine wpList_load_at rfl 25 (.tmp 3) rfl w.heap.size rfl 25 #[.slice a1 l1 c1, .slice a2 l2 c2, .slice a3 l3 c3, .int .u8 (s : Nat), .slice a4 l4 c4, .slice a5 l5 c5] (0, 0) _ HBK2.out Try.underlying25 rfl (by kernel_rfl) ?_))
  refine (HSL.out w2 HB2.out).mono ?_
  rintro e w3 ⟨rfl, hb⟩
  have HB3 := Lib.hid (HB2.out.trans (hb.mono HB2.out.size))
  have HBK3 := Lib.hid (HBK2.out.below hb HBK2.out.lt)
  go_wp2_with (first | (refine wpList_load_at rfl 25 (.tmp 3) rfl w.heap.size rfl 25 #[.slice a1 l1 c1, .slice a2 l2 c2, .slice a3 l3 c3, .int .u8 (s : Nat), .slice a4 l4 c4, .slice a5 l5 c5] (0, 0) _ HBK3.out Try.underlying25 rfl (by kernel_rfl) ?_) | (refine wpList_wanted rfl ?_; refine wpList_load_at rfl 25 (.tmp 3) rfl w.heap.size rfl 25 #[.slice a1 l1 c1, .slice a2 l2 c2, .slice a3 l3 c3, .int .u8 (s : Nat), .slice a4 l4 c4, .slice a5 l5 c5] (0, 0) _ HBK3.out Try.underlying25 rfl (by kernel_rfl) ?_))
  refine (HAD.out w3 HB3.out).mono ?_
  rintro e w4 ⟨v1, rfl, hto, hb⟩
  have HB4 := Lib.hid (HB3.out.trans (hb.mono HB3.out.size))
  have HBK4 := Lib.hid (HBK3.out.below hb HBK3.out.lt)
  have HT := Lib.hid hto.r
  obtain ⟨u1, u2, u3, rfl⟩ : ∃ a n c, v1 = .slice a n c := by obtain ⟨a, c, e, _⟩ := hto.r.sl; exact ⟨_, _, _, e⟩
  clear hto
  go_wp2_with fail
  refine (HRR.out w4 HB4.out).mono ?_
  rintro e w5 ⟨rfl, hb⟩
  have HB5 := Lib.hid (HB4.out.trans (hb.mono HB4.out.size))
  have HT5 := Lib.hid (HT.out.below hb (Nat.le_refl _))
  have HBK5 := Lib.hid (HBK4.out.below hb HBK4.out.lt)
  go_wp2_with (first | (refine wpList_load_at rfl 25 (.tmp 3) rfl w.heap.size rfl 25 #[.slice a1 l1 c1, .slice a2 l2 c2, .slice a3 l3 c3, .int .u8 (s : Nat), .slice a4 l4 c4, .slice a5 l5 c5] (0, 0) _ HBK5.out Try.underlying25 rfl (by kernel_rfl) ?_) | (refine wpList_wanted rfl ?_; refine wpList_load_at rfl 25 (.tmp 3) rfl w.heap.size rfl 25 #[.slice a1 l1 c1, .slice a2 l2 c2, .slice a3 l3 c3, .int .u8 (s : Nat), .slice a4 l4 c4, .slice a5 l5 c5] (0, 0) _ HBK5.out Try.underlying25 rfl (by kernel_rfl) ?_))
  refine (HRRL.out w5 HB5.out).mono ?_
  rintro e w6 ⟨rfl, hb⟩
  have HB6 := Lib.hid (HB5.out.trans (hb.mono HB5.out.size))
  have HT6 := Lib.hid (HT5.out.below hb (Nat.le_refl _))
  have HBK6 := Lib.hid (HBK5.out.below hb HBK5.out.lt)
  go_wp2_with (first | (refine wpList_load_at rfl 25 (.tmp 3) rfl w.heap.size rfl 25 #[.slice a1 l1 c1, .slice a2 l2 c2, .slice a3 l3 c3, .int .u8 (s : Nat), .slice a4 l4 c4, .slice a5 l5 c5] (0, 0) _ HBK6.out Try.underlying25 rfl (by kernel_rfl) ?_) | (refine wpList_wanted rfl ?_; refine wpList_load_at rfl 25 (.tmp 3) rfl w.heap.size rfl 25 #[.slice a1 l1 c1, .slice a2 l2 c2, .slice a3 l3 c3, .int .u8 (s : Nat), .slice a4 l4 c4, .slice a5 l5 c5] (0, 0) _ HBK6.out Try.underlying25 rfl (by kernel_rfl) ?_))
  refine (HRA.out w6 HB6.out).mono ?_
  rintro e w7 ⟨v2, rfl, hto, hb⟩
  have HB7 := Lib.hid (HB6.out.trans (hb.mono HB6.out.size))
  have HT7 := Lib.hid (HT6.out.below hb (Nat.le_refl _))
  have HSS := Lib.hid (HSA.out w7 _ _ HT7.out hto)
  obtain ⟨u4, u5, u6, rfl⟩ : ∃ a n c, v2 = .slice a n c := by obtain ⟨a, c, e, _⟩ := hto.sl; exact ⟨_, _, _, e⟩
  clear hto hb
  go_wp2_with fail
  refine (HSS.out).mono ?_
  rintro e w8 ⟨rfl, hb⟩
  have HB8 := Lib.hid (HB7.out.trans (hb.mono HB7.out.size))
  clear hb
  go_wp2_with fail
  go_ret
  exact ⟨rfl, HB8.out⟩
set_option maxRecDepth 100000 in
set_option maxHeartbeats 8000000 in
theorem tadds_full {w : World} (v : Value) (c : Array Value) (t : List NodeD) (l : LeafD) (h : TreeR w v t) (hl : LeafC w l c) (hok : TreeOk t) (hlk : LeafOk l) (hs : smallT t = true) (hsl : smallB ⟨0, l, noParD⟩ = true) (hr : rightT t = true) (hf : leafOkB l = true) (d : Nat) (hd : d ≤ 14) (hlen : t.length + 1 = 2 * 2 ^ d) (hfl : freeLeaf t (2 ^ d) (2 ^ d)) :
    Calls Try.prog 3 #[v, .agg c] w fun e w' => e = .returned (.bool true) ∧ Below w.heap.size w w' := by
  have hm := smallT_med hs
  have hls : SmallL l := by have := of_decide_eq_true hsl; unfold SmallL; simp only at this; omega
  have hsrc := hlk.source
  have AL := fun (W : World) (hw : Below w.heap.size w W) => alive17 W
  have SM := fun (W : World) (hw : Below w.heap.size w W) => tsmall_any v t W (h.below hw (Nat.le_refl _))
  have SL := fun (W : World) (hw : Below w.heap.size w W) => smallLeaf_any l c W (hl.below hw (Nat.le_refl _))
  have RR := fun (W : World) (hw : Below w.heap.size w W) => rtright_any v t W (h.below hw (Nat.le_refl _)) hs hok
  have RRL := fun (W : World) (hw : Below w.heap.size w W) => rrightLeafT_any l c W (hl.below hw (Nat.le_refl _))
  have h17 := two_pow_le (show d + 1 ≤ 16 by omega)
  have e2 : 2 ^ (d + 1) = 2 * 2 ^ d := by rw [Nat.pow_succ]; omega
  have h1 : ∀ j, j < (2 ^ d) → (nd t (2 * j)).kind ≠ 0 := fun j hj => by rw [hfl.2.1 j hj]; decide
  have AD := fun (W : World) (hw : Below w.heap.size w W) => add_full v c t l d W (h.below hw (Nat.le_refl _)) (hl.below hw (Nat.le_refl _)) hm hok hr hls hsrc hf hlen hfl (by omega)
  have RA := fun (W : World) (hw : Below w.heap.size w W) => radd_full v c t l d W (h.below hw (Nat.le_refl _)) (hl.below hw (Nat.le_refl _)) hm hok hlen h1 (by omega)
  have oka : TreeOk (listT (2 * 2 ^ (d + 1) - 1) (addF t l (2 ^ d))) := addF_ok hok hlk (by omega)
  have SA := fun (W : World) (x y : Value) (hx : TreeR W x (listT (2 * 2 ^ (d + 1) - 1) (addF t l (2 ^ d)))) (hy : TreeR W y (listT (2 * 2 ^ (d + 1) - 1) (addF t l (2 ^ d)))) => tsame_any x y _ _ W hx hy oka oka (by rw [listT_len]; omega)
  rw [sameT_refl] at SA
  obtain ⟨TT, hTT⟩ : ∃ T, T = listT (2 * 2 ^ (d + 1) - 1) (addF t l (2 ^ d)) := ⟨_, rfl⟩
  rw [← hTT] at AD RA SA oka
  obtain ⟨K, hK⟩ : ∃ K, K = 2 ^ d := ⟨_, rfl⟩
  rw [← hK] at AD RA
  rw [hs] at SM
  rw [hsl] at SL
  rw [hr] at RR
  rw [hf] at RRL
  obtain ⟨a, n, c0, rfl⟩ : ∃ a n c, v = .slice a n c := by obtain ⟨a, c, e, _⟩ := h.sl; exact ⟨_, _, _, e⟩
  obtain ⟨a1, c1, a2, c2, a3, c3, a4, c4, a5, c5, rfl, -⟩ := hl
  obtain ⟨l1, hl1⟩ : ∃ x, x = l.box.length := ⟨_, rfl⟩
  obtain ⟨l2, hl2⟩ : ∃ x, x = l.sign.length := ⟨_, rfl⟩
  obtain ⟨l3, hl3⟩ : ∃ x, x = l.ident.length := ⟨_, rfl⟩
  obtain ⟨l4, hl4⟩ : ∃ x, x = l.par.length := ⟨_, rfl⟩
  obtain ⟨l5, hl5⟩ : ∃ x, x = l.sig.length := ⟨_, rfl⟩
  obtain ⟨s, hsr⟩ : ∃ s, s = l.source := ⟨_, rfl⟩
  rw [← hl1, ← hl2, ← hl3, ← hl4, ← hl5, ← hsr] at SL AD RRL RA ⊢
  have HAL := Lib.hid AL
  have HSM := Lib.hid SM
  have HSL := Lib.hid SL
  have HAD := Lib.hid AD
  have HRR := Lib.hid RR
  have HRRL := Lib.hid RRL
  have HRA := Lib.hid RA
  have HSA := Lib.hid SA
  clear AL SM SL AD RR RRL RA SA hl1 hl2 hl3 hl4 hl5 hsr h hok hlk hs hsl hr hm hls hsrc hf hlen hfl h17 e2 h1 oka hTT hd hK
  go_enter Try.func3, Try.ntmps3
  go_wp2_with fail
  have HBK0 := Lib.hid (Blk.new w 25 #[.slice a1 l1 c1, .slice a2 l2 c2, .slice a3 l3 c3, .int .u8 (s : Nat), .slice a4 l4 c4, .slice a5 l5 c5])
  have HB0 := Lib.hid ((Below.refl w.heap.size w).alloc (Nat.le_refl _) (.cells #[.slice a1 l1 c1, .slice a2 l2 c2, .slice a3 l3 c3, .int .u8 (s : Nat), .slice a4 l4 c4, .slice a5 l5 c5] 25))
  generalize hw0 : w.alloc (.cells #[.slice a1 l1 c1, .slice a2 l2 c2, .slice a3 l3 c3, .int .u8 (s : Nat), .slice a4 l4 c4, .slice a5 l5 c5] 25) = w0 at HBK0 HB0 ⊢
  clear hw0
  go_wp2_with fail
  refine (HAL.out w0 HB0.out).mono ?_
  rintro e w1 ⟨rfl, hb⟩
  have HB1 := Lib.hid (HB0.out.trans (hb.mono HB0.out.size))
  have HBK1 := Lib.hid (HBK0.out.below hb HBK0.out.lt)
  go_wp2_with fail
  refine (HSM.out w1 HB1.out).mono ?_
  rintro e w2 ⟨rfl, hb⟩
  have HB2 := Lib.hid (HB1.out.trans (hb.mono HB1.out.size))
  have HBK2 := Lib.hid (HBK1.out.below hb HBK1.out.lt)
  go_wp2_with (first | (refine wpList_load_at rfl 25 (.tmp 3) rfl w.heap.size rfl 25 #[.slice a1 l1 c1, .slice a2 l2 c2, .slice a3 l3 c3, .int .u8 (s : Nat), .slice a4 l4 c4, .slice a5 l5 c5] (0, 0) _ HBK2.out Try.underlying25 rfl (by kernel_rfl) ?_) | (refine wpList_wanted rfl ?_; refine wpList_load_at rfl 25 (.tmp 3) rfl w.heap.size rfl 25 #[.slice a1 l1 c1, .slice a2 l2 c2, .slice a3 l3 c3, .int .u8 (s : Nat), .slice a4 l4 c4, .slice a5 l5 c5] (0, 0) _ HBK2.out Try.underlying25 rfl (by kernel_rfl) ?_))
  refine (HSL.out w2 HB2.out).mono ?_
  rintro e w3 ⟨rfl, hb⟩
  have HB3 := Lib.hid (HB2.out.trans (hb.mono HB2.out.size))
  have HBK3 := Lib.hid (HBK2.out.below hb HBK2.out.lt)
  go_wp2_with (first | (refine wpList_load_at rfl 25 (.tmp 3) rfl w.heap.size rfl 25 #[.slice a1 l1 c1, .slice a2 l2 c2, .slice a3 l3 c3, .int .u8 (s : Nat), .slice a4 l4 c4, .slice a5 l5 c5] (0, 0) _ HBK3.out Try.underlying25 rfl (by kernel_rfl) ?_) | (refine wpList_wanted rfl ?_; refine wpList_load_at rfl 25 (.tmp 3) rfl w.heap.size rfl 25 #[.slice a1 l1 c1, .slice a2 l2 c2, .slice a3 l3 c3, .int .u8 (s : Nat), .slice a4 l4 c4, .slice a5 l5 c5] (0, 0) _ HBK3.out Try.underlying25 rfl (by kernel_rfl) ?_))
  refine (HAD.out w3 HB3.out).mono ?_
  rintro e w4 ⟨v1, rfl, hto, hb⟩
  have HB4 := Lib.hid (HB3.out.trans (hb.mono HB3.out.size))
  have HBK4 := Lib.hid (HBK3.out.below hb HBK3.out.lt)
  have HT := Lib.hid hto.r
  obtain ⟨u1, u2, u3, rfl⟩ : ∃ a n c, v1 = .slice a n c := by obtain ⟨a, c, e, _⟩ := hto.r.sl; exact ⟨_, _, _, e⟩
  clear hto
  go_wp2_with fail
  refine (HRR.out w4 HB4.out).mono ?_
  rintro e w5 ⟨rfl, hb⟩
  have HB5 := Lib.hid (HB4.out.trans (hb.mono HB4.out.size))
  have HT5 := Lib.hid (HT.out.below hb (Nat.le_refl _))
  have HBK5 := Lib.hid (HBK4.out.below hb HBK4.out.lt)
  go_wp2_with (first | (refine wpList_load_at rfl 25 (.tmp 3) rfl w.heap.size rfl 25 #[.slice a1 l1 c1, .slice a2 l2 c2, .slice a3 l3 c3, .int .u8 (s : Nat), .slice a4 l4 c4, .slice a5 l5 c5] (0, 0) _ HBK5.out Try.underlying25 rfl (by kernel_rfl) ?_) | (refine wpList_wanted rfl ?_; refine wpList_load_at rfl 25 (.tmp 3) rfl w.heap.size rfl 25 #[.slice a1 l1 c1, .slice a2 l2 c2, .slice a3 l3 c3, .int .u8 (s : Nat), .slice a4 l4 c4, .slice a5 l5 c5] (0, 0) _ HBK5.out Try.underlying25 rfl (by kernel_rfl) ?_))
  refine (HRRL.out w5 HB5.out).mono ?_
  rintro e w6 ⟨rfl, hb⟩
  have HB6 := Lib.hid (HB5.out.trans (hb.mono HB5.out.size))
  have HT6 := Lib.hid (HT5.out.below hb (Nat.le_refl _))
  have HBK6 := Lib.hid (HBK5.out.below hb HBK5.out.lt)
  go_wp2_with (first | (refine wpList_load_at rfl 25 (.tmp 3) rfl w.heap.size rfl 25 #[.slice a1 l1 c1, .slice a2 l2 c2, .slice a3 l3 c3, .int .u8 (s : Nat), .slice a4 l4 c4, .slice a5 l5 c5] (0, 0) _ HBK6.out Try.underlying25 rfl (by kernel_rfl) ?_) | (refine wpList_wanted rfl ?_; refine wpList_load_at rfl 25 (.tmp 3) rfl w.heap.size rfl 25 #[.slice a1 l1 c1, .slice a2 l2 c2, .slice a3 l3 c3, .int .u8 (s : Nat), .slice a4 l4 c4, .slice a5 l5 c5] (0, 0) _ HBK6.out Try.underlying25 rfl (by kernel_rfl) ?_))
  refine (HRA.out w6 HB6.out).mono ?_
  rintro e w7 ⟨v2, rfl, hto, hb⟩
  have HB7 := Lib.hid (HB6.out.trans (hb.mono HB6.out.size))
  have HT7 := Lib.hid (HT6.out.below hb (Nat.le_refl _))
  have HSS := Lib.hid (HSA.out w7 _ _ HT7.out hto)
  obtain ⟨u4, u5, u6, rfl⟩ : ∃ a n c, v2 = .slice a n c := by obtain ⟨a, c, e, _⟩ := hto.sl; exact ⟨_, _, _, e⟩
  clear hto hb
  go_wp2_with fail
  refine (HSS.out).mono ?_
  rintro e w8 ⟨rfl, hb⟩
  have HB8 := Lib.hid (HB7.out.trans (hb.mono HB7.out.size))
  clear hb
  go_wp2_with fail
  go_ret
  exact ⟨rfl, HB8.out⟩
theorem treeAdds_walk {w : World} (v : Value) (t : List NodeD) (u : Value) (l : LeafD) (hop : TreeR w v t ∧ TreeOk t) (hlc : ∃ c, u = .agg c ∧ LeafC w l c ∧ LeafOk l) :
    Calls Try.prog 3 #[v, u] w fun e w' => e = .returned (.bool true) ∧ Below w.heap.size w w' := by
  obtain ⟨h, hok⟩ := hop
  obtain ⟨c, rfl, hl, hlk⟩ := hlc
  cases hs : smallT t with
  | false => exact tadds_big v c t l h hl hok hlk hs
  | true =>
    cases hsl : smallB ⟨0, l, noParD⟩ with
    | false => exact tadds_bigL v c t l h hl hok hlk hs hsl
    | true =>
      cases hr : rightT t with
      | false => exact tadds_no v c t l h hl hok hlk hs hsl hr
      | true =>
        cases hf : leafOkB l with
        | false => exact tadds_form v c t l h hl hok hlk hs hsl hr hf
        | true =>
          have hr' := hr
          rw [rightT, Bool.and_eq_true] at hr'
          obtain ⟨d, hd, hN, hlen⟩ := leavesN_pos (of_decide_eq_true hr'.1)
          have hl40 := smallT_len hs
          have hd5 : d ≤ 14 := by
            rcases Nat.lt_or_ge 14 d with h | h
            · have := Nat.pow_le_pow_right (show 0 < 2 by omega) (show 14 ≤ d by omega)
              omega
            · exact h
          obtain ⟨i, hfl⟩ := freeLeaf_is t (2 ^ d)
          rcases Nat.lt_or_ge i (2 ^ d) with hi | hi
          · exact tadds_room v c t l h hl hok hlk hs hsl hr hf d i hd5 hlen hfl hi
          · obtain rfl : i = 2 ^ d := by have := hfl.1; omega
            exact tadds_full v c t l h hl hok hlk hs hsl hr hf d hd5 hlen hfl
end Go.Proofs.Ytlcmodbjbdfloaa
