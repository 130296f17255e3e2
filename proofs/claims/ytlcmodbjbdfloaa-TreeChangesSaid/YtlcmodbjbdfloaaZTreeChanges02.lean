/- Walks: the law TreeChanges. -/
import Derived.Test.YtlcmodbjbdfloaaZTreeChanges01
import Derived.Test.YtlcmodbjbdfloaaZTreeAdds36
import Derived.Test.YtlcmodbjbdfloaaZTreeAdds42
namespace Go.Proofs.Ytlcmodbjbdfloaa
open Go.RowKit WalkM WireM
set_option linter.unusedVariables false
set_option maxRecDepth 100000 in
set_option maxHeartbeats 16000000 in
theorem tchg_big {w : World} (v : Value) (c : Array Value) (t : List NodeD) (l : LeafD) (i : Int) (h : TreeR w v t) (hl : LeafC w l c) (hok : TreeOk t) (hlk : LeafOk l) (hs : smallT t = false) :
    Calls Try.prog 4 #[v, .int .i64 i, .agg c] w fun e w' => e = .returned (.bool true) ∧ Below w.heap.size w w' := by
  have TB := fun (W : World) (hw : Below w.heap.size w W) => h.below hw (Nat.le_refl _)
  have LB := fun (W : World) (hw : Below w.heap.size w W) => hl.below hw (Nat.le_refl _)
  have AL := fun (W : World) (hw : Below w.heap.size w W) => alive17 W
  have SM := fun (W : World) (hw : Below w.heap.size w W) => tsmall_any v t W (TB W hw)
  rw [hs] at SM
  obtain ⟨a, c0, rfl, hc0, hc1⟩ := h.sl
  obtain ⟨n, hn⟩ : ∃ n, n = t.length := ⟨_, rfl⟩
  simp only [← hn] at SM ⊢
  obtain ⟨a1, c1, a2, c2, a3, c3, a4, c4, a5, c5, rfl, -⟩ := hl
  obtain ⟨l1, hl1⟩ : ∃ x, x = l.box.length := ⟨_, rfl⟩
  obtain ⟨l2, hl2⟩ : ∃ x, x = l.sign.length := ⟨_, rfl⟩
  obtain ⟨l3, hl3⟩ : ∃ x, x = l.ident.length := ⟨_, rfl⟩
  obtain ⟨l4, hl4⟩ : ∃ x, x = l.par.length := ⟨_, rfl⟩
  obtain ⟨l5, hl5⟩ : ∃ x, x = l.sig.length := ⟨_, rfl⟩
  obtain ⟨s, hsr⟩ : ∃ s, s = l.source := ⟨_, rfl⟩
  simp only [← hl1, ← hl2, ← hl3, ← hl4, ← hl5, ← hsr]
  have HAL := Lib.hid AL
  have HSM := Lib.hid SM
  clear TB LB AL SM hl1 hl2 hl3 hl4 hl5 hsr h hok hlk hn hs
  go_enter Try.func4, Try.ntmps4
  go_wp2_with fail
  have HBK0 := Lib.hid (Blk.new w 25 #[.slice a1 l1 c1, .slice a2 l2 c2, .slice a3 l3 c3, .int .u8 (s : Nat), .slice a4 l4 c4, .slice a5 l5 c5])
  have HB0 := Lib.hid ((Below.refl w.heap.size w).alloc (Nat.le_refl _) (.cells #[.slice a1 l1 c1, .slice a2 l2 c2, .slice a3 l3 c3, .int .u8 (s : Nat), .slice a4 l4 c4, .slice a5 l5 c5] 25))
  generalize hw0 : w.alloc (.cells #[.slice a1 l1 c1, .slice a2 l2 c2, .slice a3 l3 c3, .int .u8 (s : Nat), .slice a4 l4 c4, .slice a5 l5 c5] 25) = w0 at HBK0 HB0 ⊢
  clear hw0
  go_wp2_with fail
  refine (HAL.out w0 HB0.out).mono ?_
  rintro e w1 ⟨rfl, hb⟩
  have HB1 := Lib.hid (HB0.out.trans (hb.mono HB0.out.size))
  have HBK1 := Lib.hid (HBK0.out.below hb HBK0.out.lt)
  clear hb
  go_wp2_with fail
  refine (HSM.out w1 HB1.out).mono ?_
  rintro e w2 ⟨rfl, hb⟩
  have HB2 := Lib.hid (HB1.out.trans (hb.mono HB1.out.size))
  have HBK2 := Lib.hid (HBK1.out.below hb HBK1.out.lt)
  clear hb
  go_wp2_with fail
  go_ret
  exact ⟨rfl, HB2.out⟩
set_option maxRecDepth 100000 in
set_option maxHeartbeats 16000000 in
theorem tchg_bigL {w : World} (v : Value) (c : Array Value) (t : List NodeD) (l : LeafD) (i : Int) (h : TreeR w v t) (hl : LeafC w l c) (hok : TreeOk t) (hlk : LeafOk l) (hs : smallT t = true) (hsl : smallB ⟨0, l, noParD⟩ = false) :
    Calls Try.prog 4 #[v, .int .i64 i, .agg c] w fun e w' => e = .returned (.bool true) ∧ Below w.heap.size w w' := by
  have TB := fun (W : World) (hw : Below w.heap.size w W) => h.below hw (Nat.le_refl _)
  have LB := fun (W : World) (hw : Below w.heap.size w W) => hl.below hw (Nat.le_refl _)
  have AL := fun (W : World) (hw : Below w.heap.size w W) => alive17 W
  have SM := fun (W : World) (hw : Below w.heap.size w W) => tsmall_any v t W (TB W hw)
  have SL := fun (W : World) (hw : Below w.heap.size w W) => smallLeaf_any l c W (LB W hw)
  rw [hs] at SM
  rw [hsl] at SL
  obtain ⟨a, c0, rfl, hc0, hc1⟩ := h.sl
  obtain ⟨n, hn⟩ : ∃ n, n = t.length := ⟨_, rfl⟩
  simp only [← hn] at SM ⊢
  obtain ⟨a1, c1, a2, c2, a3, c3, a4, c4, a5, c5, rfl, -⟩ := hl
  obtain ⟨l1, hl1⟩ : ∃ x, x = l.box.length := ⟨_, rfl⟩
  obtain ⟨l2, hl2⟩ : ∃ x, x = l.sign.length := ⟨_, rfl⟩
  obtain ⟨l3, hl3⟩ : ∃ x, x = l.ident.length := ⟨_, rfl⟩
  obtain ⟨l4, hl4⟩ : ∃ x, x = l.par.length := ⟨_, rfl⟩
  obtain ⟨l5, hl5⟩ : ∃ x, x = l.sig.length := ⟨_, rfl⟩
  obtain ⟨s, hsr⟩ : ∃ s, s = l.source := ⟨_, rfl⟩
  simp only [← hl1, ← hl2, ← hl3, ← hl4, ← hl5, ← hsr] at SL ⊢
  have HAL := Lib.hid AL
  have HSM := Lib.hid SM
  have HSL := Lib.hid SL
  clear TB LB AL SM SL hl1 hl2 hl3 hl4 hl5 hsr h hok hlk hn hs hsl
  go_enter Try.func4, Try.ntmps4
  go_wp2_with fail
  have HBK0 := Lib.hid (Blk.new w 25 #[.slice a1 l1 c1, .slice a2 l2 c2, .slice a3 l3 c3, .int .u8 (s : Nat), .slice a4 l4 c4, .slice a5 l5 c5])
  have HB0 := Lib.hid ((Below.refl w.heap.size w).alloc (Nat.le_refl _) (.cells #[.slice a1 l1 c1, .slice a2 l2 c2, .slice a3 l3 c3, .int .u8 (s : Nat), .slice a4 l4 c4, .slice a5 l5 c5] 25))
  generalize hw0 : w.alloc (.cells #[.slice a1 l1 c1, .slice a2 l2 c2, .slice a3 l3 c3, .int .u8 (s : Nat), .slice a4 l4 c4, .slice a5 l5 c5] 25) = w0 at HBK0 HB0 ⊢
  clear hw0
  go_wp2_with fail
  refine (HAL.out w0 HB0.out).mono ?_
  rintro e w1 ⟨rfl, hb⟩
  have HB1 := Lib.hid (HB0.out.trans (hb.mono HB0.out.size))
  have HBK1 := Lib.hid (HBK0.out.below hb HBK0.out.lt)
  clear hb
  go_wp2_with fail
  refine (HSM.out w1 HB1.out).mono ?_
  rintro e w2 ⟨rfl, hb⟩
  have HB2 := Lib.hid (HB1.out.trans (hb.mono HB1.out.size))
  have HBK2 := Lib.hid (HBK1.out.below hb HBK1.out.lt)
  clear hb
  go_wp2_with (first | (refine wpList_load_at rfl 25 (.tmp 5) rfl w.heap.size rfl 25 #[.slice a1 l1 c1, .slice a2 l2 c2, .slice a3 l3 c3, .int .u8 (s : Nat), .slice a4 l4 c4, .slice a5 l5 c5] (0, 0) _ HBK2.out Try.underlying25 rfl (by kernel_rfl) ?_) | (refine wpList_wanted rfl ?_; refine wpList_load_at rfl 25 (.tmp 5) rfl w.heap.size rfl 25 #[.slice a1 l1 c1, .slice a2 l2 c2, .slice a3 l3 c3, .int .u8 (s : Nat), .slice a4 l4 c4, .slice a5 l5 c5] (0, 0) _ HBK2.out Try.underlying25 rfl (by kernel_rfl) ?_))
  refine (HSL.out w2 HB2.out).mono ?_
  rintro e w3 ⟨rfl, hb⟩
  have HB3 := Lib.hid (HB2.out.trans (hb.mono HB2.out.size))
  have HBK3 := Lib.hid (HBK2.out.below hb HBK2.out.lt)
  clear hb
  go_wp2_with fail
  go_ret
  exact ⟨rfl, HB3.out⟩
set_option maxRecDepth 100000 in
set_option maxHeartbeats 16000000 in
theorem tchg_no {w : World} (v : Value) (c : Array Value) (t : List NodeD) (l : LeafD) (i : Int) (h : TreeR w v t) (hl : LeafC w l c) (hok : TreeOk t) (hlk : LeafOk l) (hs : smallT t = true) (hsl : smallB ⟨0, l, noParD⟩ = true) (hr : rightT t = false) :
    Calls Try.prog 4 #[v, .int .i64 i, .agg c] w fun e w' => e = .returned (.bool true) ∧ Below w.heap.size w w' := by
  have hm := smallT_med hs
  have hls : SmallL l := by have := of_decide_eq_true hsl; unfold SmallL; simp only at this; omega
  have hsrc := hlk.source
  have TB := fun (W : World) (hw : Below w.heap.size w W) => h.below hw (Nat.le_refl _)
  have LB := fun (W : World) (hw : Below w.heap.size w W) => hl.below hw (Nat.le_refl _)
  have AL := fun (W : World) (hw : Below w.heap.size w W) => alive17 W
  have SM := fun (W : World) (hw : Below w.heap.size w W) => tsmall_any v t W (TB W hw)
  have SL := fun (W : World) (hw : Below w.heap.size w W) => smallLeaf_any l c W (LB W hw)
  have UP := fun (W : World) (hw : Below w.heap.size w W) => tupd_no v c t l i W (TB W hw) (LB W hw) hm hok hr
  have RM := fun (W : World) (hw : Below w.heap.size w W) => trem_no v t i W (TB W hw) hm hok hr
  have RR := fun (W : World) (hw : Below w.heap.size w W) => rtright_any v t W (TB W hw) hs hok
  rw [hs] at SM
  rw [hsl] at SL
  rw [hr] at RR
  obtain ⟨a, c0, rfl, hc0, hc1⟩ := h.sl
  obtain ⟨n, hn⟩ : ∃ n, n = t.length := ⟨_, rfl⟩
  simp only [← hn] at SM UP RM RR ⊢
  obtain ⟨a1, c1, a2, c2, a3, c3, a4, c4, a5, c5, rfl, -⟩ := hl
  obtain ⟨l1, hl1⟩ : ∃ x, x = l.box.length := ⟨_, rfl⟩
  obtain ⟨l2, hl2⟩ : ∃ x, x = l.sign.length := ⟨_, rfl⟩
  obtain ⟨l3, hl3⟩ : ∃ x, x = l.ident.length := ⟨_, rfl⟩
  obtain ⟨l4, hl4⟩ : ∃ x, x = l.par.length := ⟨_, rfl⟩
  obtain ⟨l5, hl5⟩ : ∃ x, x = l.sig.length := ⟨_, rfl⟩
  obtain ⟨s, hsr⟩ : ∃ s, s = l.source := ⟨_, rfl⟩
  simp only [← hl1, ← hl2, ← hl3, ← hl4, ← hl5, ← hsr] at SL UP ⊢
  have HAL := Lib.hid AL
  have HSM := Lib.hid SM
  have HSL := Lib.hid SL
  have HUP := Lib.hid UP
  have HRM := Lib.hid RM
  have HRR := Lib.hid RR
  clear TB LB AL SM SL UP RM RR hl1 hl2 hl3 hl4 hl5 hsr h hok hlk hn hs hsl hr hm hls hsrc
  go_enter Try.func4, Try.ntmps4
  go_wp2_with fail
  have HBK0 := Lib.hid (Blk.new w 25 #[.slice a1 l1 c1, .slice a2 l2 c2, .slice a3 l3 c3, .int .u8 (s : Nat), .slice a4 l4 c4, .slice a5 l5 c5])
  have HB0 := Lib.hid ((Below.refl w.heap.size w).alloc (Nat.le_refl _) (.cells #[.slice a1 l1 c1, .slice a2 l2 c2, .slice a3 l3 c3, .int .u8 (s : Nat), .slice a4 l4 c4, .slice a5 l5 c5] 25))
  generalize hw0 : w.alloc (.cells #[.slice a1 l1 c1, .slice a2 l2 c2, .slice a3 l3 c3, .int .u8 (s : Nat), .slice a4 l4 c4, .slice a5 l5 c5] 25) = w0 at HBK0 HB0 ⊢
  clear hw0
  go_wp2_with fail
  refine (HAL.out w0 HB0.out).mono ?_
  rintro e w1 ⟨rfl, hb⟩
  have HB1 := Lib.hid (HB0.out.trans (hb.mono HB0.out.size))
  have HBK1 := Lib.hid (HBK0.out.below hb HBK0.out.lt)
  clear hb
  go_wp2_with fail
  refine (HSM.out w1 HB1.out).mono ?_
  rintro e w2 ⟨rfl, hb⟩
  have HB2 := Lib.hid (HB1.out.trans (hb.mono HB1.out.size))
  have HBK2 := Lib.hid (HBK1.out.below hb HBK1.out.lt)
  clear hb
  go_wp2_with (first | (refine wpList_load_at rfl 25 (.tmp 5) rfl w.heap.size rfl 25 #[.slice a1 l1 c1, .slice a2 l2 c2, .slice a3 l3 c3, .int .u8 (s : Nat), .slice a4 l4 c4, .slice a5 l5 c5] (0, 0) _ HBK2.out Try.underlying25 rfl (by kernel_rfl) ?_) | (refine wpList_wanted rfl ?_; refine wpList_load_at rfl 25 (.tmp 5) rfl w.heap.size rfl 25 #[.slice a1 l1 c1, .slice a2 l2 c2, .slice a3 l3 c3, .int .u8 (s : Nat), .slice a4 l4 c4, .slice a5 l5 c5] (0, 0) _ HBK2.out Try.underlying25 rfl (by kernel_rfl) ?_))
  refine (HSL.out w2 HB2.out).mono ?_
  rintro e w3 ⟨rfl, hb⟩
  have HB3 := Lib.hid (HB2.out.trans (hb.mono HB2.out.size))
  have HBK3 := Lib.hid (HBK2.out.below hb HBK2.out.lt)
  clear hb
  go_wp2_with (first | (refine wpList_load_at rfl 25 (.tmp 5) rfl w.heap.size rfl 25 #[.slice a1 l1 c1, .slice a2 l2 c2, .slice a3 l3 c3, .int .u8 (s : Nat), .slice a4 l4 c4, .slice a5 l5 c5] (0, 0) _ HBK3.out Try.underlying25 rfl (by kernel_rfl) ?_) | (refine wpList_wanted rfl ?_; refine wpList_load_at rfl 25 (.tmp 5) rfl w.heap.size rfl 25 #[.slice a1 l1 c1, .slice a2 l2 c2, .slice a3 l3 c3, .int .u8 (s : Nat), .slice a4 l4 c4, .slice a5 l5 c5] (0, 0) _ HBK3.out Try.underlying25 rfl (by kernel_rfl) ?_))
  refine (HUP.out w3 HB3.out).mono ?_
  rintro e w4 ⟨rfl, hb⟩
  have HB4 := Lib.hid (HB3.out.trans (hb.mono HB3.out.size))
  have HBK4 := Lib.hid (HBK3.out.below hb HBK3.out.lt)
  clear hb
  go_wp2_with fail
  refine (HRM.out w4 HB4.out).mono ?_
  rintro e w5 ⟨rfl, hb⟩
  have HB5 := Lib.hid (HB4.out.trans (hb.mono HB4.out.size))
  have HBK5 := Lib.hid (HBK4.out.below hb HBK4.out.lt)
  clear hb
  go_wp2_with fail
  refine (HRR.out w5 HB5.out).mono ?_
  rintro e w6 ⟨rfl, hb⟩
  have HB6 := Lib.hid (HB5.out.trans (hb.mono HB5.out.size))
  have HBK6 := Lib.hid (HBK5.out.below hb HBK5.out.lt)
  clear hb
  go_wp2_with fail
  go_ret
  exact ⟨rfl, HB6.out⟩
set_option maxRecDepth 100000 in
set_option maxHeartbeats 16000000 in
theorem tchg_bad_no {w : World} (v : Value) (c : Array Value) (t : List NodeD) (l : LeafD) (i : Int) (h : TreeR w v t) (hl : LeafC w l c) (hok : TreeOk t) (hlk : LeafOk l) (hs : smallT t = true) (hsl : smallB ⟨0, l, noParD⟩ = true) (hr : rightT t = true) (d : Nat) (hd : d ≤ 9) (hlen : t.length + 1 = 2 * 2 ^ d) (hf : leafOkB l = false) (hib : -9223372036854775808 ≤ i ∧ i ≤ 9223372036854775807) (hi : i ∉ rmemL t (2 ^ d))  :
    Calls Try.prog 4 #[v, .int .i64 i, .agg c] w fun e w' => e = .returned (.bool true) ∧ Below w.heap.size w w' := by
  have hm := smallT_med hs
  have hls : SmallL l := by have := of_decide_eq_true hsl; unfold SmallL; simp only at this; omega
  have hsrc := hlk.source
  have hl40 := smallT_len hs
  have hpd : 2 ^ d ≤ 32 := by omega
  have hl2d : t.length = 2 * (2 ^ d - 1) + 1 := by have := pow_pos' d; omega
  have hN : leavesN t.length = (2 ^ d - 1) + 1 := by rw [leavesN_pow (d := d) (by omega) hlen]; have := pow_pos' d; omega
  have hN2 : 2 ^ d - 1 + 1 = 2 ^ d := by have := pow_pos' d; omega
  obtain ⟨hh, hhe⟩ : ∃ hh, hh = 2 ^ d - 1 := ⟨_, rfl⟩
  rw [← hhe] at hl2d hN hN2
  rw [← hN2] at hi
  have TB := fun (W : World) (hw : Below w.heap.size w W) => h.below hw (Nat.le_refl _)
  have LB := fun (W : World) (hw : Below w.heap.size w W) => hl.below hw (Nat.le_refl _)
  have AL := fun (W : World) (hw : Below w.heap.size w W) => alive17 W
  have SM := fun (W : World) (hw : Below w.heap.size w W) => tsmall_any v t W (TB W hw)
  have SL := fun (W : World) (hw : Below w.heap.size w W) => smallLeaf_any l c W (LB W hw)
  have UP := fun (W : World) (hw : Below w.heap.size w W) => tupd_form v c t l i W (TB W hw) (LB W hw) hm hok hr hls hsrc hf
  have RM := fun (W : World) (hw : Below w.heap.size w W) => trem_none v t i hh W (TB W hw) hm hok hr hl2d hN hib hi
  have RR := fun (W : World) (hw : Below w.heap.size w W) => rtright_any v t W (TB W hw) hs hok
  have IS := fun (W : World) (hw : Below w.heap.size w W) => ris_any v t hh i W (TB W hw) hok hl2d (by omega)
  have RRL := fun (W : World) (hw : Below w.heap.size w W) => rrightLeafT_any l c W (LB W hw)
  rw [hs] at SM
  rw [hsl] at SL
  rw [hr] at RR
  rw [hf] at RRL
  rw [decide_eq_false hi] at IS
  obtain ⟨a, c0, rfl, hc0, hc1⟩ := h.sl
  obtain ⟨n, hn⟩ : ∃ n, n = t.length := ⟨_, rfl⟩
  simp only [← hn] at SM UP RM RR IS ⊢
  obtain ⟨a1, c1, a2, c2, a3, c3, a4, c4, a5, c5, rfl, -⟩ := hl
  obtain ⟨l1, hl1⟩ : ∃ x, x = l.box.length := ⟨_, rfl⟩
  obtain ⟨l2, hl2⟩ : ∃ x, x = l.sign.length := ⟨_, rfl⟩
  obtain ⟨l3, hl3⟩ : ∃ x, x = l.ident.length := ⟨_, rfl⟩
  obtain ⟨l4, hl4⟩ : ∃ x, x = l.par.length := ⟨_, rfl⟩
  obtain ⟨l5, hl5⟩ : ∃ x, x = l.sig.length := ⟨_, rfl⟩
  obtain ⟨s, hsr⟩ : ∃ s, s = l.source := ⟨_, rfl⟩
  simp only [← hl1, ← hl2, ← hl3, ← hl4, ← hl5, ← hsr] at SL UP RRL ⊢
  have HAL := Lib.hid AL
  have HSM := Lib.hid SM
  have HSL := Lib.hid SL
  have HUP := Lib.hid UP
  have HRM := Lib.hid RM
  have HRR := Lib.hid RR
  have HIS := Lib.hid IS
  have HRRL := Lib.hid RRL
  clear TB LB AL SM SL UP RM RR IS RRL hl1 hl2 hl3 hl4 hl5 hsr h hok hlk hn hs hsl hr hm hls hsrc hd hlen hl40 hpd hl2d hN hN2 hhe hf hi 
  go_enter Try.func4, Try.ntmps4
  go_wp2_with fail
  have HBK0 := Lib.hid (Blk.new w 25 #[.slice a1 l1 c1, .slice a2 l2 c2, .slice a3 l3 c3, .int .u8 (s : Nat), .slice a4 l4 c4, .slice a5 l5 c5])
  have HB0 := Lib.hid ((Below.refl w.heap.size w).alloc (Nat.le_refl _) (.cells #[.slice a1 l1 c1, .slice a2 l2 c2, .slice a3 l3 c3, .int .u8 (s : Nat), .slice a4 l4 c4, .slice a5 l5 c5] 25))
  generalize hw0 : w.alloc (.cells #[.slice a1 l1 c1, .slice a2 l2 c2, .slice a3 l3 c3, .int .u8 (s : Nat), .slice a4 l4 c4, .slice a5 l5 c5] 25) = w0 at HBK0 HB0 ⊢
  clear hw0
  go_wp2_with fail
  refine (HAL.out w0 HB0.out).mono ?_
  rintro e w1 ⟨rfl, hb⟩
  have HB1 := Lib.hid (HB0.out.trans (hb.mono HB0.out.size))
  have HBK1 := Lib.hid (HBK0.out.below hb HBK0.out.lt)
  clear hb
  go_wp2_with fail
  refine (HSM.out w1 HB1.out).mono ?_
  rintro e w2 ⟨rfl, hb⟩
  have HB2 := Lib.hid (HB1.out.trans (hb.mono HB1.out.size))
  have HBK2 := Lib.hid (HBK1.out.below hb HBK1.out.lt)
  clear hb
  go_wp2_with (first | (refine wpList_load_at rfl 25 (.tmp 5) rfl w.heap.size rfl 25 #[.slice a1 l1 c1, .slice a2 l2 c2, .slice a3 l3 c3, .int .u8 (s : Nat), .slice a4 l4 c4, .slice a5 l5 c5] (0, 0) _ HBK2.out Try.underlying25 rfl (by kernel_rfl) ?_) | (refine wpList_wanted rfl ?_; refine wpList_load_at rfl 25 (.tmp 5) rfl w.heap.size rfl 25 #[.slice a1 l1 c1, .slice a2 l2 c2, .slice a3 l3 c3, .int .u8 (s : Nat), .slice a4 l4 c4, .slice a5 l5 c5] (0, 0) _ HBK2.out Try.underlying25 rfl (by kernel_rfl) ?_))
  refine (HSL.out w2 HB2.out).mono ?_
  rintro e w3 ⟨rfl, hb⟩
  have HB3 := Lib.hid (HB2.out.trans (hb.mono HB2.out.size))
  have HBK3 := Lib.hid (HBK2.out.below hb HBK2.out.lt)
  clear hb
  go_wp2_with (first | (refine wpList_load_at rfl 25 (.tmp 5) rfl w.heap.size rfl 25 #[.slice a1 l1 c1, .slice a2 l2 c2, .slice a3 l3 c3, .int .u8 (s : Nat), .slice a4 l4 c4, .slice a5 l5 c5] (0, 0) _ HBK3.out Try.underlying25 rfl (by kernel_rfl) ?_) | (refine wpList_wanted rfl ?_; refine wpList_load_at rfl 25 (.tmp 5) rfl w.heap.size rfl 25 #[.slice a1 l1 c1, .slice a2 l2 c2, .slice a3 l3 c3, .int .u8 (s : Nat), .slice a4 l4 c4, .slice a5 l5 c5] (0, 0) _ HBK3.out Try.underlying25 rfl (by kernel_rfl) ?_))
  refine (HUP.out w3 HB3.out).mono ?_
  rintro e w4 ⟨rfl, hb⟩
  have HB4 := Lib.hid (HB3.out.trans (hb.mono HB3.out.size))
  have HBK4 := Lib.hid (HBK3.out.below hb HBK3.out.lt)
  clear hb
  go_wp2_with fail
  refine (HRM.out w4 HB4.out).mono ?_
  rintro e w5 ⟨rfl, hb⟩
  have HB5 := Lib.hid (HB4.out.trans (hb.mono HB4.out.size))
  have HBK5 := Lib.hid (HBK4.out.below hb HBK4.out.lt)
  clear hb
  go_wp2_with fail
  refine (HRR.out w5 HB5.out).mono ?_
  rintro e w6 ⟨rfl, hb⟩
  have HB6 := Lib.hid (HB5.out.trans (hb.mono HB5.out.size))
  have HBK6 := Lib.hid (HBK5.out.below hb HBK5.out.lt)
  clear hb
  go_wp2_with fail
  refine (HIS.out w6 HB6.out).mono ?_
  rintro e w7 ⟨rfl, hb⟩
  have HB7 := Lib.hid (HB6.out.trans (hb.mono HB6.out.size))
  have HBK7 := Lib.hid (HBK6.out.below hb HBK6.out.lt)
  clear hb
  go_wp2_with (first | (refine wpList_load_at rfl 25 (.tmp 5) rfl w.heap.size rfl 25 #[.slice a1 l1 c1, .slice a2 l2 c2, .slice a3 l3 c3, .int .u8 (s : Nat), .slice a4 l4 c4, .slice a5 l5 c5] (0, 0) _ HBK7.out Try.underlying25 rfl (by kernel_rfl) ?_) | (refine wpList_wanted rfl ?_; refine wpList_load_at rfl 25 (.tmp 5) rfl w.heap.size rfl 25 #[.slice a1 l1 c1, .slice a2 l2 c2, .slice a3 l3 c3, .int .u8 (s : Nat), .slice a4 l4 c4, .slice a5 l5 c5] (0, 0) _ HBK7.out Try.underlying25 rfl (by kernel_rfl) ?_))
  refine (HRRL.out w7 HB7.out).mono ?_
  rintro e w8 ⟨rfl, hb⟩
  have HB8 := Lib.hid (HB7.out.trans (hb.mono HB7.out.size))
  have HBK8 := Lib.hid (HBK7.out.below hb HBK7.out.lt)
  clear hb
  go_wp2_with fail
  go_ret
  exact ⟨rfl, HB8.out⟩
set_option maxRecDepth 100000 in
set_option maxHeartbeats 16000000 in
theorem tchg_bad_one {w : World} (v : Value) (c : Array Value) (t : List NodeD) (l : LeafD) (i : Nat) (h : TreeR w v t) (hl : LeafC w l c) (hok : TreeOk t) (hlk : LeafOk l) (hs : smallT t = true) (hsl : smallB ⟨0, l, noParD⟩ = true) (hr : rightT t = true) (d : Nat) (hd : d ≤ 9) (hlen : t.length + 1 = 2 * 2 ^ d) (hf : leafOkB l = false) (hi : i < 2 ^ d) (hk : (nd t (2 * i)).kind = 1) (h1 : (rmemL t (2 ^ d)).length = 1)  :
    Calls Try.prog 4 #[v, .int .i64 (i : Nat), .agg c] w fun e w' => e = .returned (.bool true) ∧ Below w.heap.size w w' := by
  have hm := smallT_med hs
  have hls : SmallL l := by have := of_decide_eq_true hsl; unfold SmallL; simp only at this; omega
  have hsrc := hlk.source
  have hl40 := smallT_len hs
  have hpd : 2 ^ d ≤ 32 := by omega
  have hl2d : t.length = 2 * (2 ^ d - 1) + 1 := by have := pow_pos' d; omega
  have hN : leavesN t.length = (2 ^ d - 1) + 1 := by rw [leavesN_pow (d := d) (by omega) hlen]; have := pow_pos' d; omega
  have hN2 : 2 ^ d - 1 + 1 = 2 ^ d := by have := pow_pos' d; omega
  obtain ⟨hh, hhe⟩ : ∃ hh, hh = 2 ^ d - 1 := ⟨_, rfl⟩
  rw [← hhe] at hl2d hN hN2
  have hmm : (memL t t.length).length = (rmemL t (2 ^ d)).length := by rw [hl2d, mem_eq (rightT_placed hr) hh (by omega), hN2]
  have TB := fun (W : World) (hw : Below w.heap.size w W) => h.below hw (Nat.le_refl _)
  have LB := fun (W : World) (hw : Below w.heap.size w W) => hl.below hw (Nat.le_refl _)
  have AL := fun (W : World) (hw : Below w.heap.size w W) => alive17 W
  have SM := fun (W : World) (hw : Below w.heap.size w W) => tsmall_any v t W (TB W hw)
  have SL := fun (W : World) (hw : Below w.heap.size w W) => smallLeaf_any l c W (LB W hw)
  have UP := fun (W : World) (hw : Below w.heap.size w W) => tupd_form v c t l (i : Nat) W (TB W hw) (LB W hw) hm hok hr hls hsrc hf
  have RM := fun (W : World) (hw : Below w.heap.size w W) => trem_last v t i d W (TB W hw) hm hok hr hlen (by omega) hi hk (by rw [hmm]; exact h1)
  have RR := fun (W : World) (hw : Below w.heap.size w W) => rtright_any v t W (TB W hw) hs hok
  have IS := fun (W : World) (hw : Below w.heap.size w W) => ris_any v t hh (i : Nat) W (TB W hw) hok hl2d (by omega)
  have RRL := fun (W : World) (hw : Below w.heap.size w W) => rrightLeafT_any l c W (LB W hw)
  have ME := fun (W : World) (hw : Below w.heap.size w W) => rmembers_any v t hh W (TB W hw) hok hl2d (by omega)
  rw [hs] at SM
  rw [hsl] at SL
  rw [hr] at RR
  rw [hf] at RRL
  rw [hN2, decide_eq_true ((mem_iff t (2 ^ d) i).2 ⟨hi, hk⟩)] at IS
  rw [hN2] at ME
  obtain ⟨RLL, hRLL⟩ : ∃ R, R = rmemL t (2 ^ d) := ⟨_, rfl⟩
  rw [← hRLL] at ME h1
  obtain ⟨a, c0, rfl, hc0, hc1⟩ := h.sl
  obtain ⟨n, hn⟩ : ∃ n, n = t.length := ⟨_, rfl⟩
  simp only [← hn] at SM UP RM RR IS ME ⊢
  obtain ⟨a1, c1, a2, c2, a3, c3, a4, c4, a5, c5, rfl, -⟩ := hl
  obtain ⟨l1, hl1⟩ : ∃ x, x = l.box.length := ⟨_, rfl⟩
  obtain ⟨l2, hl2⟩ : ∃ x, x = l.sign.length := ⟨_, rfl⟩
  obtain ⟨l3, hl3⟩ : ∃ x, x = l.ident.length := ⟨_, rfl⟩
  obtain ⟨l4, hl4⟩ : ∃ x, x = l.par.length := ⟨_, rfl⟩
  obtain ⟨l5, hl5⟩ : ∃ x, x = l.sig.length := ⟨_, rfl⟩
  obtain ⟨s, hsr⟩ : ∃ s, s = l.source := ⟨_, rfl⟩
  simp only [← hl1, ← hl2, ← hl3, ← hl4, ← hl5, ← hsr] at SL UP RRL ⊢
  have HAL := Lib.hid AL
  have HSM := Lib.hid SM
  have HSL := Lib.hid SL
  have HUP := Lib.hid UP
  have HRM := Lib.hid RM
  have HRR := Lib.hid RR
  have HIS := Lib.hid IS
  have HRRL := Lib.hid RRL
  have HME := Lib.hid ME
  have HH1 := Lib.hid h1
  clear TB LB AL SM SL UP RM RR IS RRL ME hl1 hl2 hl3 hl4 hl5 hsr h hok hlk hn hs hsl hr hm hls hsrc hd hlen hl40 hpd hl2d hN hN2 hhe hf hi hk h1 hmm hRLL 
  go_enter Try.func4, Try.ntmps4
  go_wp2_with fail
  have HBK0 := Lib.hid (Blk.new w 25 #[.slice a1 l1 c1, .slice a2 l2 c2, .slice a3 l3 c3, .int .u8 (s : Nat), .slice a4 l4 c4, .slice a5 l5 c5])
  have HB0 := Lib.hid ((Below.refl w.heap.size w).alloc (Nat.le_refl _) (.cells #[.slice a1 l1 c1, .slice a2 l2 c2, .slice a3 l3 c3, .int .u8 (s : Nat), .slice a4 l4 c4, .slice a5 l5 c5] 25))
  generalize hw0 : w.alloc (.cells #[.slice a1 l1 c1, .slice a2 l2 c2, .slice a3 l3 c3, .int .u8 (s : Nat), .slice a4 l4 c4, .slice a5 l5 c5] 25) = w0 at HBK0 HB0 ⊢
  clear hw0
  go_wp2_with fail
  refine (HAL.out w0 HB0.out).mono ?_
  rintro e w1 ⟨rfl, hb⟩
  have HB1 := Lib.hid (HB0.out.trans (hb.mono HB0.out.size))
  have HBK1 := Lib.hid (HBK0.out.below hb HBK0.out.lt)
  clear hb
  go_wp2_with fail
  refine (HSM.out w1 HB1.out).mono ?_
  rintro e w2 ⟨rfl, hb⟩
  have HB2 := Lib.hid (HB1.out.trans (hb.mono HB1.out.size))
  have HBK2 := Lib.hid (HBK1.out.below hb HBK1.out.lt)
  clear hb
  go_wp2_with (first | (refine wpList_load_at rfl 25 (.tmp 5) rfl w.heap.size rfl 25 #[.slice a1 l1 c1, .slice a2 l2 c2, .slice a3 l3 c3, .int .u8 (s : Nat), .slice a4 l4 c4, .slice a5 l5 c5] (0, 0) _ HBK2.out Try.underlying25 rfl (by kernel_rfl) ?_) | (refine wpList_wanted rfl ?_; refine wpList_load_at rfl 25 (.tmp 5) rfl w.heap.size rfl 25 #[.slice a1 l1 c1, .slice a2 l2 c2, .slice a3 l3 c3, .int .u8 (s : Nat), .slice a4 l4 c4, .slice a5 l5 c5] (0, 0) _ HBK2.out Try.underlying25 rfl (by kernel_rfl) ?_))
  refine (HSL.out w2 HB2.out).mono ?_
  rintro e w3 ⟨rfl, hb⟩
  have HB3 := Lib.hid (HB2.out.trans (hb.mono HB2.out.size))
  have HBK3 := Lib.hid (HBK2.out.below hb HBK2.out.lt)
  clear hb
  go_wp2_with (first | (refine wpList_load_at rfl 25 (.tmp 5) rfl w.heap.size rfl 25 #[.slice a1 l1 c1, .slice a2 l2 c2, .slice a3 l3 c3, .int .u8 (s : Nat), .slice a4 l4 c4, .slice a5 l5 c5] (0, 0) _ HBK3.out Try.underlying25 rfl (by kernel_rfl) ?_) | (refine wpList_wanted rfl ?_; refine wpList_load_at rfl 25 (.tmp 5) rfl w.heap.size rfl 25 #[.slice a1 l1 c1, .slice a2 l2 c2, .slice a3 l3 c3, .int .u8 (s : Nat), .slice a4 l4 c4, .slice a5 l5 c5] (0, 0) _ HBK3.out Try.underlying25 rfl (by kernel_rfl) ?_))
  refine (HUP.out w3 HB3.out).mono ?_
  rintro e w4 ⟨rfl, hb⟩
  have HB4 := Lib.hid (HB3.out.trans (hb.mono HB3.out.size))
  have HBK4 := Lib.hid (HBK3.out.below hb HBK3.out.lt)
  clear hb
  go_wp2_with fail
  refine (HRM.out w4 HB4.out).mono ?_
  rintro e w5 ⟨rfl, hb⟩
  have HB5 := Lib.hid (HB4.out.trans (hb.mono HB4.out.size))
  have HBK5 := Lib.hid (HBK4.out.below hb HBK4.out.lt)
  clear hb
  go_wp2_with fail
  refine (HRR.out w5 HB5.out).mono ?_
  rintro e w6 ⟨rfl, hb⟩
  have HB6 := Lib.hid (HB5.out.trans (hb.mono HB5.out.size))
  have HBK6 := Lib.hid (HBK5.out.below hb HBK5.out.lt)
  clear hb
  go_wp2_with fail
  refine (HIS.out w6 HB6.out).mono ?_
  rintro e w7 ⟨rfl, hb⟩
  have HB7 := Lib.hid (HB6.out.trans (hb.mono HB6.out.size))
  have HBK7 := Lib.hid (HBK6.out.below hb HBK6.out.lt)
  clear hb
  go_wp2_with (first | (refine wpList_load_at rfl 25 (.tmp 5) rfl w.heap.size rfl 25 #[.slice a1 l1 c1, .slice a2 l2 c2, .slice a3 l3 c3, .int .u8 (s : Nat), .slice a4 l4 c4, .slice a5 l5 c5] (0, 0) _ HBK7.out Try.underlying25 rfl (by kernel_rfl) ?_) | (refine wpList_wanted rfl ?_; refine wpList_load_at rfl 25 (.tmp 5) rfl w.heap.size rfl 25 #[.slice a1 l1 c1, .slice a2 l2 c2, .slice a3 l3 c3, .int .u8 (s : Nat), .slice a4 l4 c4, .slice a5 l5 c5] (0, 0) _ HBK7.out Try.underlying25 rfl (by kernel_rfl) ?_))
  refine (HRRL.out w7 HB7.out).mono ?_
  rintro e w8 ⟨rfl, hb⟩
  have HB8 := Lib.hid (HB7.out.trans (hb.mono HB7.out.size))
  have HBK8 := Lib.hid (HBK7.out.below hb HBK7.out.lt)
  clear hb
  go_wp2_with fail
  refine (HME.out w8 HB8.out).mono ?_
  rintro e w9 ⟨vm, rfl, hom, hb⟩
  have HB9 := Lib.hid (HB8.out.trans (hb.mono HB8.out.size))
  have HBK9 := Lib.hid (HBK8.out.below hb HBK8.out.lt)
  obtain ⟨ma, mc, rfl⟩ : ∃ a c, vm = .slice a 1 c := by obtain ⟨a, c, e, _⟩ := hom.rd; rw [ivs_len', HH1.out] at e; exact ⟨a, c, e⟩
  clear hom
  clear hb
  go_wp2_with fail
  go_ret
  exact ⟨rfl, HB9.out⟩
set_option maxRecDepth 100000 in
set_option maxHeartbeats 16000000 in
theorem tchg_bad_more {w : World} (v : Value) (c : Array Value) (t : List NodeD) (l : LeafD) (i : Nat) (h : TreeR w v t) (hl : LeafC w l c) (hok : TreeOk t) (hlk : LeafOk l) (hs : smallT t = true) (hsl : smallB ⟨0, l, noParD⟩ = true) (hr : rightT t = true) (d : Nat) (hd : d ≤ 9) (hlen : t.length + 1 = 2 * 2 ^ d) (hf : leafOkB l = false) (hi : i < 2 ^ d) (hk : (nd t (2 * i)).kind = 1) (h1 : (rmemL t (2 ^ d)).length ≠ 1)  :
    Calls Try.prog 4 #[v, .int .i64 (i : Nat), .agg c] w fun e w' => e = .returned (.bool true) ∧ Below w.heap.size w w' := by
  have hm := smallT_med hs
  have hls : SmallL l := by have := of_decide_eq_true hsl; unfold SmallL; simp only at this; omega
  have hsrc := hlk.source
  have hl40 := smallT_len hs
  have hpd : 2 ^ d ≤ 32 := by omega
  have hl2d : t.length = 2 * (2 ^ d - 1) + 1 := by have := pow_pos' d; omega
  have hN : leavesN t.length = (2 ^ d - 1) + 1 := by rw [leavesN_pow (d := d) (by omega) hlen]; have := pow_pos' d; omega
  have hN2 : 2 ^ d - 1 + 1 = 2 ^ d := by have := pow_pos' d; omega
  obtain ⟨hh, hhe⟩ : ∃ hh, hh = 2 ^ d - 1 := ⟨_, rfl⟩
  rw [← hhe] at hl2d hN hN2
  have hmm : (memL t t.length).length = (rmemL t (2 ^ d)).length := by rw [hl2d, mem_eq (rightT_placed hr) hh (by omega), hN2]
  have TB := fun (W : World) (hw : Below w.heap.size w W) => h.below hw (Nat.le_refl _)
  have LB := fun (W : World) (hw : Below w.heap.size w W) => hl.below hw (Nat.le_refl _)
  have AL := fun (W : World) (hw : Below w.heap.size w W) => alive17 W
  have SM := fun (W : World) (hw : Below w.heap.size w W) => tsmall_any v t W (TB W hw)
  have SL := fun (W : World) (hw : Below w.heap.size w W) => smallLeaf_any l c W (LB W hw)
  have UP := fun (W : World) (hw : Below w.heap.size w W) => tupd_form v c t l (i : Nat) W (TB W hw) (LB W hw) hm hok hr hls hsrc hf
  have RM := fun (W : World) (hw : Below w.heap.size w W) => trem_yes v t i d W (TB W hw) hm hok hr hlen (by omega) hi hk (by rw [hmm]; exact h1)
  have RR := fun (W : World) (hw : Below w.heap.size w W) => rtright_any v t W (TB W hw) hs hok
  have IS := fun (W : World) (hw : Below w.heap.size w W) => ris_any v t hh (i : Nat) W (TB W hw) hok hl2d (by omega)
  have RRL := fun (W : World) (hw : Below w.heap.size w W) => rrightLeafT_any l c W (LB W hw)
  have ME := fun (W : World) (hw : Below w.heap.size w W) => rmembers_any v t hh W (TB W hw) hok hl2d (by omega)
  have SV := fun (W : World) (hw : Below w.heap.size w W) => rset_any v t noNodeD #[.int .u8 0, .slice none 0 0, .slice none 0 0, .slice none 0 0, .int .u8 0, .slice none 0 0, .slice none 0 0, .slice none 0 0, .slice none 0 0, .slice none 0 0] i d W (TB W hw) (noNode_c W) hm hlen (by omega) hi
  have CU := fun (W : World) (x : Value) (hx : TreeR W x (listT t.length (setF t i noNodeD))) => cut_set hr hok hd hlen hi hk h1 x W hx
  have SAV := fun (W : World) (x y : Value) (hx : TreeR W x (listT (2 * 2 ^ cutK (setF t i noNodeD) d - 1) (setF t i noNodeD))) (hy : TreeR W y (listT (2 * 2 ^ cutK (setF t i noNodeD) d - 1) (setF t i noNodeD))) => tsame_any x y _ _ W hx hy (setF_ok hok i noNode_ok _) (setF_ok hok i noNode_ok _) (by rw [listT_len]; have h5 : 2 ^ cutK (setF t i noNodeD) d ≤ 2 ^ d := Nat.pow_le_pow_right (by omega) (cutK_le _ d); omega)
  rw [hs] at SM
  rw [hsl] at SL
  rw [hr] at RR
  rw [hf] at RRL
  rw [hN2, decide_eq_true ((mem_iff t (2 ^ d) i).2 ⟨hi, hk⟩)] at IS
  rw [hN2] at ME
  obtain ⟨RLL, hRLL⟩ : ∃ R, R = rmemL t (2 ^ d) := ⟨_, rfl⟩
  rw [← hRLL] at ME h1
  obtain ⟨OV, hOV⟩ : ∃ T, T = listT (2 * 2 ^ cutK (setF t i noNodeD) d - 1) (setF t i noNodeD) := ⟨_, rfl⟩
  obtain ⟨OW, hOW⟩ : ∃ T, T = listT t.length (setF t i noNodeD) := ⟨_, rfl⟩
  rw [sameT_refl] at SAV
  simp only [← hOV] at RM CU SAV
  simp only [← hOW] at SV CU
  obtain ⟨a, c0, rfl, hc0, hc1⟩ := h.sl
  obtain ⟨n, hn⟩ : ∃ n, n = t.length := ⟨_, rfl⟩
  simp only [← hn] at SM UP RM RR IS ME SV CU ⊢
  obtain ⟨a1, c1, a2, c2, a3, c3, a4, c4, a5, c5, rfl, -⟩ := hl
  obtain ⟨l1, hl1⟩ : ∃ x, x = l.box.length := ⟨_, rfl⟩
  obtain ⟨l2, hl2⟩ : ∃ x, x = l.sign.length := ⟨_, rfl⟩
  obtain ⟨l3, hl3⟩ : ∃ x, x = l.ident.length := ⟨_, rfl⟩
  obtain ⟨l4, hl4⟩ : ∃ x, x = l.par.length := ⟨_, rfl⟩
  obtain ⟨l5, hl5⟩ : ∃ x, x = l.sig.length := ⟨_, rfl⟩
  obtain ⟨s, hsr⟩ : ∃ s, s = l.source := ⟨_, rfl⟩
  simp only [← hl1, ← hl2, ← hl3, ← hl4, ← hl5, ← hsr] at SL UP RRL ⊢
  have HAL := Lib.hid AL
  have HSM := Lib.hid SM
  have HSL := Lib.hid SL
  have HUP := Lib.hid UP
  have HRM := Lib.hid RM
  have HRR := Lib.hid RR
  have HIS := Lib.hid IS
  have HRRL := Lib.hid RRL
  have HME := Lib.hid ME
  have HSV := Lib.hid SV
  have HCU := Lib.hid CU
  have HSAV := Lib.hid SAV
  obtain ⟨ml, hml⟩ : ∃ k, k = RLL.length := ⟨_, rfl⟩
  rw [← hml] at h1
  have hm1 : ((ml : Int) == 1) = false := by rw [beq_eq_false_iff_ne]; omega
  have HML := Lib.hid hml
  clear hml TB LB AL SM SL UP RM RR IS RRL ME SV CU SAV hl1 hl2 hl3 hl4 hl5 hsr h hok hlk hn hs hsl hr hm hls hsrc hd hlen hl40 hpd hl2d hN hN2 hhe hf hi hk h1 hmm hRLL hOV hOW 
  go_enter Try.func4, Try.ntmps4
  go_wp2_with fail
  have HBK0 := Lib.hid (Blk.new w 25 #[.slice a1 l1 c1, .slice a2 l2 c2, .slice a3 l3 c3, .int .u8 (s : Nat), .slice a4 l4 c4, .slice a5 l5 c5])
  have HB0 := Lib.hid ((Below.refl w.heap.size w).alloc (Nat.le_refl _) (.cells #[.slice a1 l1 c1, .slice a2 l2 c2, .slice a3 l3 c3, .int .u8 (s : Nat), .slice a4 l4 c4, .slice a5 l5 c5] 25))
  generalize hw0 : w.alloc (.cells #[.slice a1 l1 c1, .slice a2 l2 c2, .slice a3 l3 c3, .int .u8 (s : Nat), .slice a4 l4 c4, .slice a5 l5 c5] 25) = w0 at HBK0 HB0 ⊢
  clear hw0
  go_wp2_with fail
  refine (HAL.out w0 HB0.out).mono ?_
  rintro e w1 ⟨rfl, hb⟩
  have HB1 := Lib.hid (HB0.out.trans (hb.mono HB0.out.size))
  have HBK1 := Lib.hid (HBK0.out.below hb HBK0.out.lt)
  clear hb
  go_wp2_with fail
  refine (HSM.out w1 HB1.out).mono ?_
  rintro e w2 ⟨rfl, hb⟩
  have HB2 := Lib.hid (HB1.out.trans (hb.mono HB1.out.size))
  have HBK2 := Lib.hid (HBK1.out.below hb HBK1.out.lt)
  clear hb
  go_wp2_with (first | (refine wpList_load_at rfl 25 (.tmp 5) rfl w.heap.size rfl 25 #[.slice a1 l1 c1, .slice a2 l2 c2, .slice a3 l3 c3, .int .u8 (s : Nat), .slice a4 l4 c4, .slice a5 l5 c5] (0, 0) _ HBK2.out Try.underlying25 rfl (by kernel_rfl) ?_) | (refine wpList_wanted rfl ?_; refine wpList_load_at rfl 25 (.tmp 5) rfl w.heap.size rfl 25 #[.slice a1 l1 c1, .slice a2 l2 c2, .slice a3 l3 c3, .int .u8 (s : Nat), .slice a4 l4 c4, .slice a5 l5 c5] (0, 0) _ HBK2.out Try.underlying25 rfl (by kernel_rfl) ?_))
  refine (HSL.out w2 HB2.out).mono ?_
  rintro e w3 ⟨rfl, hb⟩
  have HB3 := Lib.hid (HB2.out.trans (hb.mono HB2.out.size))
  have HBK3 := Lib.hid (HBK2.out.below hb HBK2.out.lt)
  clear hb
  go_wp2_with (first | (refine wpList_load_at rfl 25 (.tmp 5) rfl w.heap.size rfl 25 #[.slice a1 l1 c1, .slice a2 l2 c2, .slice a3 l3 c3, .int .u8 (s : Nat), .slice a4 l4 c4, .slice a5 l5 c5] (0, 0) _ HBK3.out Try.underlying25 rfl (by kernel_rfl) ?_) | (refine wpList_wanted rfl ?_; refine wpList_load_at rfl 25 (.tmp 5) rfl w.heap.size rfl 25 #[.slice a1 l1 c1, .slice a2 l2 c2, .slice a3 l3 c3, .int .u8 (s : Nat), .slice a4 l4 c4, .slice a5 l5 c5] (0, 0) _ HBK3.out Try.underlying25 rfl (by kernel_rfl) ?_))
  refine (HUP.out w3 HB3.out).mono ?_
  rintro e w4 ⟨rfl, hb⟩
  have HB4 := Lib.hid (HB3.out.trans (hb.mono HB3.out.size))
  have HBK4 := Lib.hid (HBK3.out.below hb HBK3.out.lt)
  clear hb
  go_wp2_with fail
  refine (HRM.out w4 HB4.out).mono ?_
  rintro e w5 ⟨vv, rfl, hto, hb⟩
  have HB5 := Lib.hid (HB4.out.trans (hb.mono HB4.out.size))
  have HBK5 := Lib.hid (HBK4.out.below hb HBK4.out.lt)
  have HTv_5 := Lib.hid (hto)
  obtain ⟨xv, yv, zv, rfl⟩ : ∃ a n c, vv = .slice a n c := by obtain ⟨a, c, e, _⟩ := (hto).sl; exact ⟨_, _, _, e⟩
  clear hto
  clear hb
  go_wp2_with fail
  refine (HRR.out w5 HB5.out).mono ?_
  rintro e w6 ⟨rfl, hb⟩
  have HB6 := Lib.hid (HB5.out.trans (hb.mono HB5.out.size))
  have HBK6 := Lib.hid (HBK5.out.below hb HBK5.out.lt)
  have HTv_6 := Lib.hid (HTv_5.out.below hb (Nat.le_refl _))
  clear hb
  go_wp2_with fail
  refine (HIS.out w6 HB6.out).mono ?_
  rintro e w7 ⟨rfl, hb⟩
  have HB7 := Lib.hid (HB6.out.trans (hb.mono HB6.out.size))
  have HBK7 := Lib.hid (HBK6.out.below hb HBK6.out.lt)
  have HTv_7 := Lib.hid (HTv_6.out.below hb (Nat.le_refl _))
  clear hb
  go_wp2_with (first | (refine wpList_load_at rfl 25 (.tmp 5) rfl w.heap.size rfl 25 #[.slice a1 l1 c1, .slice a2 l2 c2, .slice a3 l3 c3, .int .u8 (s : Nat), .slice a4 l4 c4, .slice a5 l5 c5] (0, 0) _ HBK7.out Try.underlying25 rfl (by kernel_rfl) ?_) | (refine wpList_wanted rfl ?_; refine wpList_load_at rfl 25 (.tmp 5) rfl w.heap.size rfl 25 #[.slice a1 l1 c1, .slice a2 l2 c2, .slice a3 l3 c3, .int .u8 (s : Nat), .slice a4 l4 c4, .slice a5 l5 c5] (0, 0) _ HBK7.out Try.underlying25 rfl (by kernel_rfl) ?_))
  refine (HRRL.out w7 HB7.out).mono ?_
  rintro e w8 ⟨rfl, hb⟩
  have HB8 := Lib.hid (HB7.out.trans (hb.mono HB7.out.size))
  have HBK8 := Lib.hid (HBK7.out.below hb HBK7.out.lt)
  have HTv_8 := Lib.hid (HTv_7.out.below hb (Nat.le_refl _))
  clear hb
  go_wp2_with fail
  refine (HME.out w8 HB8.out).mono ?_
  rintro e w9 ⟨vm, rfl, hom, hb⟩
  have HB9 := Lib.hid (HB8.out.trans (hb.mono HB8.out.size))
  have HBK9 := Lib.hid (HBK8.out.below hb HBK8.out.lt)
  have HTv_9 := Lib.hid (HTv_8.out.below hb (Nat.le_refl _))
  obtain ⟨ma, mc, rfl⟩ : ∃ a c, vm = .slice a ml c := by obtain ⟨a, c, e, _⟩ := hom.rd; rw [ivs_len', ← HML.out] at e; exact ⟨a, c, e⟩
  clear hom
  clear hb
  go_wp2_with fail
  refine (HSV.out w9 HB9.out).mono ?_
  rintro e w10 ⟨vp, rfl, hto, hb⟩
  have HB10 := Lib.hid (HB9.out.trans (hb.mono HB9.out.size))
  have HBK10 := Lib.hid (HBK9.out.below hb HBK9.out.lt)
  have HTv_10 := Lib.hid (HTv_9.out.below hb (Nat.le_refl _))
  have HTp_10 := Lib.hid (hto)
  obtain ⟨xp, yp, zp, rfl⟩ : ∃ a n c, vp = .slice a n c := by obtain ⟨a, c, e, _⟩ := (hto).sl; exact ⟨_, _, _, e⟩
  clear hto
  clear hb
  go_wp2_with fail
  refine (HCU.out w10 _ HTp_10.out).mono ?_
  rintro e w11 ⟨vq, rfl, hto, hb⟩
  have HB11 := Lib.hid (HB10.out.trans (hb.mono HB10.out.size))
  have HBK11 := Lib.hid (HBK10.out.below hb HBK10.out.lt)
  have HTv_11 := Lib.hid (HTv_10.out.below hb (Nat.le_refl _))
  have HTp_11 := Lib.hid (HTp_10.out.below hb (Nat.le_refl _))
  have HTq_11 := Lib.hid (hto)
  obtain ⟨xq, yq, zq, rfl⟩ : ∃ a n c, vq = .slice a n c := by obtain ⟨a, c, e, _⟩ := (hto).sl; exact ⟨_, _, _, e⟩
  clear hto hb
  go_wp2_with fail
  refine (HSAV.out w11 _ _ HTv_11.out HTq_11.out).mono ?_
  rintro e w12 ⟨rfl, hb⟩
  have HB12 := Lib.hid (HB11.out.trans (hb.mono HB11.out.size))
  have HBK12 := Lib.hid (HBK11.out.below hb HBK11.out.lt)
  have HTv_12 := Lib.hid (HTv_11.out.below hb (Nat.le_refl _))
  have HTp_12 := Lib.hid (HTp_11.out.below hb (Nat.le_refl _))
  have HTq_12 := Lib.hid (HTq_11.out.below hb (Nat.le_refl _))
  clear hb
  go_wp2_with fail
  go_ret
  exact ⟨rfl, HB12.out⟩
set_option maxRecDepth 100000 in
set_option maxHeartbeats 16000000 in
theorem tchg_ok_no {w : World} (v : Value) (c : Array Value) (t : List NodeD) (l : LeafD) (i : Int) (h : TreeR w v t) (hl : LeafC w l c) (hok : TreeOk t) (hlk : LeafOk l) (hs : smallT t = true) (hsl : smallB ⟨0, l, noParD⟩ = true) (hr : rightT t = true) (d : Nat) (hd : d ≤ 9) (hlen : t.length + 1 = 2 * 2 ^ d) (hf : leafOkB l = true) (hib : -9223372036854775808 ≤ i ∧ i ≤ 9223372036854775807) (hi : i ∉ rmemL t (2 ^ d))  :
    Calls Try.prog 4 #[v, .int .i64 i, .agg c] w fun e w' => e = .returned (.bool true) ∧ Below w.heap.size w w' := by
  have hm := smallT_med hs
  have hls : SmallL l := by have := of_decide_eq_true hsl; unfold SmallL; simp only at this; omega
  have hsrc := hlk.source
  have hl40 := smallT_len hs
  have hpd : 2 ^ d ≤ 32 := by omega
  have hl2d : t.length = 2 * (2 ^ d - 1) + 1 := by have := pow_pos' d; omega
  have hN : leavesN t.length = (2 ^ d - 1) + 1 := by rw [leavesN_pow (d := d) (by omega) hlen]; have := pow_pos' d; omega
  have hN2 : 2 ^ d - 1 + 1 = 2 ^ d := by have := pow_pos' d; omega
  obtain ⟨hh, hhe⟩ : ∃ hh, hh = 2 ^ d - 1 := ⟨_, rfl⟩
  rw [← hhe] at hl2d hN hN2
  rw [← hN2] at hi
  have TB := fun (W : World) (hw : Below w.heap.size w W) => h.below hw (Nat.le_refl _)
  have LB := fun (W : World) (hw : Below w.heap.size w W) => hl.below hw (Nat.le_refl _)
  have AL := fun (W : World) (hw : Below w.heap.size w W) => alive17 W
  have SM := fun (W : World) (hw : Below w.heap.size w W) => tsmall_any v t W (TB W hw)
  have SL := fun (W : World) (hw : Below w.heap.size w W) => smallLeaf_any l c W (LB W hw)
  have UP := fun (W : World) (hw : Below w.heap.size w W) => tupd_none v c t l i hh W (TB W hw) (LB W hw) hm hok hr hls hsrc hf hl2d hN hib hi
  have RM := fun (W : World) (hw : Below w.heap.size w W) => trem_none v t i hh W (TB W hw) hm hok hr hl2d hN hib hi
  have RR := fun (W : World) (hw : Below w.heap.size w W) => rtright_any v t W (TB W hw) hs hok
  have IS := fun (W : World) (hw : Below w.heap.size w W) => ris_any v t hh i W (TB W hw) hok hl2d (by omega)
  have RRL := fun (W : World) (hw : Below w.heap.size w W) => rrightLeafT_any l c W (LB W hw)
  rw [hs] at SM
  rw [hsl] at SL
  rw [hr] at RR
  rw [hf] at RRL
  rw [decide_eq_false hi] at IS
  obtain ⟨a, c0, rfl, hc0, hc1⟩ := h.sl
  obtain ⟨n, hn⟩ : ∃ n, n = t.length := ⟨_, rfl⟩
  simp only [← hn] at SM UP RM RR IS ⊢
  obtain ⟨a1, c1, a2, c2, a3, c3, a4, c4, a5, c5, rfl, -⟩ := hl
  obtain ⟨l1, hl1⟩ : ∃ x, x = l.box.length := ⟨_, rfl⟩
  obtain ⟨l2, hl2⟩ : ∃ x, x = l.sign.length := ⟨_, rfl⟩
  obtain ⟨l3, hl3⟩ : ∃ x, x = l.ident.length := ⟨_, rfl⟩
  obtain ⟨l4, hl4⟩ : ∃ x, x = l.par.length := ⟨_, rfl⟩
  obtain ⟨l5, hl5⟩ : ∃ x, x = l.sig.length := ⟨_, rfl⟩
  obtain ⟨s, hsr⟩ : ∃ s, s = l.source := ⟨_, rfl⟩
  simp only [← hl1, ← hl2, ← hl3, ← hl4, ← hl5, ← hsr] at SL UP RRL ⊢
  have HAL := Lib.hid AL
  have HSM := Lib.hid SM
  have HSL := Lib.hid SL
  have HUP := Lib.hid UP
  have HRM := Lib.hid RM
  have HRR := Lib.hid RR
  have HIS := Lib.hid IS
  have HRRL := Lib.hid RRL
  clear TB LB AL SM SL UP RM RR IS RRL hl1 hl2 hl3 hl4 hl5 hsr h hok hlk hn hs hsl hr hm hls hsrc hd hlen hl40 hpd hl2d hN hN2 hhe hf hi 
  go_enter Try.func4, Try.ntmps4
  go_wp2_with fail
  have HBK0 := Lib.hid (Blk.new w 25 #[.slice a1 l1 c1, .slice a2 l2 c2, .slice a3 l3 c3, .int .u8 (s : Nat), .slice a4 l4 c4, .slice a5 l5 c5])
  have HB0 := Lib.hid ((Below.refl w.heap.size w).alloc (Nat.le_refl _) (.cells #[.slice a1 l1 c1, .slice a2 l2 c2, .slice a3 l3 c3, .int .u8 (s : Nat), .slice a4 l4 c4, .slice a5 l5 c5] 25))
  generalize hw0 : w.alloc (.cells #[.slice a1 l1 c1, .slice a2 l2 c2, .slice a3 l3 c3, .int .u8 (s : Nat), .slice a4 l4 c4, .slice a5 l5 c5] 25) = w0 at HBK0 HB0 ⊢
  clear hw0
  go_wp2_with fail
  refine (HAL.out w0 HB0.out).mono ?_
  rintro e w1 ⟨rfl, hb⟩
  have HB1 := Lib.hid (HB0.out.trans (hb.mono HB0.out.size))
  have HBK1 := Lib.hid (HBK0.out.below hb HBK0.out.lt)
  clear hb
  go_wp2_with fail
  refine (HSM.out w1 HB1.out).mono ?_
  rintro e w2 ⟨rfl, hb⟩
  have HB2 := Lib.hid (HB1.out.trans (hb.mono HB1.out.size))
  have HBK2 := Lib.hid (HBK1.out.below hb HBK1.out.lt)
  clear hb
  go_wp2_with (first | (refine wpList_load_at rfl 25 (.tmp 5) rfl w.heap.size rfl 25 #[.slice a1 l1 c1, .slice a2 l2 c2, .slice a3 l3 c3, .int .u8 (s : Nat), .slice a4 l4 c4, .slice a5 l5 c5] (0, 0) _ HBK2.out Try.underlying25 rfl (by kernel_rfl) ?_) | (refine wpList_wanted rfl ?_; refine wpList_load_at rfl 25 (.tmp 5) rfl w.heap.size rfl 25 #[.slice a1 l1 c1, .slice a2 l2 c2, .slice a3 l3 c3, .int .u8 (s : Nat), .slice a4 l4 c4, .slice a5 l5 c5] (0, 0) _ HBK2.out Try.underlying25 rfl (by kernel_rfl) ?_))
  refine (HSL.out w2 HB2.out).mono ?_
  rintro e w3 ⟨rfl, hb⟩
  have HB3 := Lib.hid (HB2.out.trans (hb.mono HB2.out.size))
  have HBK3 := Lib.hid (HBK2.out.below hb HBK2.out.lt)
  clear hb
  go_wp2_with (first | (refine wpList_load_at rfl 25 (.tmp 5) rfl w.heap.size rfl 25 #[.slice a1 l1 c1, .slice a2 l2 c2, .slice a3 l3 c3, .int .u8 (s : Nat), .slice a4 l4 c4, .slice a5 l5 c5] (0, 0) _ HBK3.out Try.underlying25 rfl (by kernel_rfl) ?_) | (refine wpList_wanted rfl ?_; refine wpList_load_at rfl 25 (.tmp 5) rfl w.heap.size rfl 25 #[.slice a1 l1 c1, .slice a2 l2 c2, .slice a3 l3 c3, .int .u8 (s : Nat), .slice a4 l4 c4, .slice a5 l5 c5] (0, 0) _ HBK3.out Try.underlying25 rfl (by kernel_rfl) ?_))
  refine (HUP.out w3 HB3.out).mono ?_
  rintro e w4 ⟨rfl, hb⟩
  have HB4 := Lib.hid (HB3.out.trans (hb.mono HB3.out.size))
  have HBK4 := Lib.hid (HBK3.out.below hb HBK3.out.lt)
  clear hb
  go_wp2_with fail
  refine (HRM.out w4 HB4.out).mono ?_
  rintro e w5 ⟨rfl, hb⟩
  have HB5 := Lib.hid (HB4.out.trans (hb.mono HB4.out.size))
  have HBK5 := Lib.hid (HBK4.out.below hb HBK4.out.lt)
  clear hb
  go_wp2_with fail
  refine (HRR.out w5 HB5.out).mono ?_
  rintro e w6 ⟨rfl, hb⟩
  have HB6 := Lib.hid (HB5.out.trans (hb.mono HB5.out.size))
  have HBK6 := Lib.hid (HBK5.out.below hb HBK5.out.lt)
  clear hb
  go_wp2_with fail
  refine (HIS.out w6 HB6.out).mono ?_
  rintro e w7 ⟨rfl, hb⟩
  have HB7 := Lib.hid (HB6.out.trans (hb.mono HB6.out.size))
  have HBK7 := Lib.hid (HBK6.out.below hb HBK6.out.lt)
  clear hb
  go_wp2_with (first | (refine wpList_load_at rfl 25 (.tmp 5) rfl w.heap.size rfl 25 #[.slice a1 l1 c1, .slice a2 l2 c2, .slice a3 l3 c3, .int .u8 (s : Nat), .slice a4 l4 c4, .slice a5 l5 c5] (0, 0) _ HBK7.out Try.underlying25 rfl (by kernel_rfl) ?_) | (refine wpList_wanted rfl ?_; refine wpList_load_at rfl 25 (.tmp 5) rfl w.heap.size rfl 25 #[.slice a1 l1 c1, .slice a2 l2 c2, .slice a3 l3 c3, .int .u8 (s : Nat), .slice a4 l4 c4, .slice a5 l5 c5] (0, 0) _ HBK7.out Try.underlying25 rfl (by kernel_rfl) ?_))
  refine (HRRL.out w7 HB7.out).mono ?_
  rintro e w8 ⟨rfl, hb⟩
  have HB8 := Lib.hid (HB7.out.trans (hb.mono HB7.out.size))
  have HBK8 := Lib.hid (HBK7.out.below hb HBK7.out.lt)
  clear hb
  go_wp2_with fail
  go_ret
  exact ⟨rfl, HB8.out⟩
set_option maxRecDepth 100000 in
set_option maxHeartbeats 16000000 in
theorem tchg_ok_one {w : World} (v : Value) (c : Array Value) (t : List NodeD) (l : LeafD) (i : Nat) (h : TreeR w v t) (hl : LeafC w l c) (hok : TreeOk t) (hlk : LeafOk l) (hs : smallT t = true) (hsl : smallB ⟨0, l, noParD⟩ = true) (hr : rightT t = true) (d : Nat) (hd : d ≤ 9) (hlen : t.length + 1 = 2 * 2 ^ d) (hf : leafOkB l = true) (hi : i < 2 ^ d) (hk : (nd t (2 * i)).kind = 1) (h1 : (rmemL t (2 ^ d)).length = 1)  :
    Calls Try.prog 4 #[v, .int .i64 (i : Nat), .agg c] w fun e w' => e = .returned (.bool true) ∧ Below w.heap.size w w' := by
  have hm := smallT_med hs
  have hls : SmallL l := by have := of_decide_eq_true hsl; unfold SmallL; simp only at this; omega
  have hsrc := hlk.source
  have hl40 := smallT_len hs
  have hpd : 2 ^ d ≤ 32 := by omega
  have hl2d : t.length = 2 * (2 ^ d - 1) + 1 := by have := pow_pos' d; omega
  have hN : leavesN t.length = (2 ^ d - 1) + 1 := by rw [leavesN_pow (d := d) (by omega) hlen]; have := pow_pos' d; omega
  have hN2 : 2 ^ d - 1 + 1 = 2 ^ d := by have := pow_pos' d; omega
  obtain ⟨hh, hhe⟩ : ∃ hh, hh = 2 ^ d - 1 := ⟨_, rfl⟩
  rw [← hhe] at hl2d hN hN2
  have hmm : (memL t t.length).length = (rmemL t (2 ^ d)).length := by rw [hl2d, mem_eq (rightT_placed hr) hh (by omega), hN2]
  have LB := fun (W : World) (hw : Below w.heap.size w W) => hl.below hw (Nat.le_refl _)
  obtain ⟨a1, c1, a2, c2, a3, c3, a4, c4, a5, c5, rfl, hbc⟩ := held_c hl
  have TB := fun (W : World) (hw : Below w.heap.size w W) => h.below hw (Nat.le_refl _)
  have AL := fun (W : World) (hw : Below w.heap.size w W) => alive17 W
  have SM := fun (W : World) (hw : Below w.heap.size w W) => tsmall_any v t W (TB W hw)
  have SL := fun (W : World) (hw : Below w.heap.size w W) => smallLeaf_any l _ W (LB W hw)
  have UP := fun (W : World) (hw : Below w.heap.size w W) => tupd_yes v _ t l i d W (TB W hw) (LB W hw) hm hok hr hls hsrc hf hlen (by omega) hi hk
  have RM := fun (W : World) (hw : Below w.heap.size w W) => trem_last v t i d W (TB W hw) hm hok hr hlen (by omega) hi hk (by rw [hmm]; exact h1)
  have RR := fun (W : World) (hw : Below w.heap.size w W) => rtright_any v t W (TB W hw) hs hok
  have IS := fun (W : World) (hw : Below w.heap.size w W) => ris_any v t hh (i : Nat) W (TB W hw) hok hl2d (by omega)
  have RRL := fun (W : World) (hw : Below w.heap.size w W) => rrightLeafT_any l _ W (LB W hw)
  have SU := fun (W : World) (hw : Below w.heap.size w W) => rset_any v t (heldD l) _ i d W (TB W hw) (hbc.below hw (Nat.le_refl _)) hm hlen (by omega) hi
  have SAU := fun (W : World) (x y : Value) (hx : TreeR W x (listT t.length (setF t i (heldD l)))) (hy : TreeR W y (listT t.length (setF t i (heldD l)))) => tsame_any x y _ _ W hx hy (setF_ok hok i (held_ok hlk) _) (setF_ok hok i (held_ok hlk) _) (by rw [listT_len]; omega)
  have ME := fun (W : World) (hw : Below w.heap.size w W) => rmembers_any v t hh W (TB W hw) hok hl2d (by omega)
  rw [hs] at SM
  rw [hsl] at SL
  rw [hr] at RR
  rw [hf] at RRL
  rw [hN2, decide_eq_true ((mem_iff t (2 ^ d) i).2 ⟨hi, hk⟩)] at IS
  rw [hN2] at ME
  obtain ⟨RLL, hRLL⟩ : ∃ R, R = rmemL t (2 ^ d) := ⟨_, rfl⟩
  rw [← hRLL] at ME h1
  obtain ⟨OU, hOU⟩ : ∃ T, T = listT t.length (setF t i (heldD l)) := ⟨_, rfl⟩
  rw [sameT_refl] at SAU
  simp only [← hOU] at UP SU SAU
  obtain ⟨a, c0, rfl, hc0, hc1⟩ := h.sl
  obtain ⟨n, hn⟩ : ∃ n, n = t.length := ⟨_, rfl⟩
  simp only [← hn] at SM UP RM RR IS SU ME ⊢
  obtain ⟨l1, hl1⟩ : ∃ x, x = l.box.length := ⟨_, rfl⟩
  obtain ⟨l2, hl2⟩ : ∃ x, x = l.sign.length := ⟨_, rfl⟩
  obtain ⟨l3, hl3⟩ : ∃ x, x = l.ident.length := ⟨_, rfl⟩
  obtain ⟨l4, hl4⟩ : ∃ x, x = l.par.length := ⟨_, rfl⟩
  obtain ⟨l5, hl5⟩ : ∃ x, x = l.sig.length := ⟨_, rfl⟩
  obtain ⟨s, hsr⟩ : ∃ s, s = l.source := ⟨_, rfl⟩
  simp only [← hl1, ← hl2, ← hl3, ← hl4, ← hl5, ← hsr] at SL UP RRL SU ⊢
  have HAL := Lib.hid AL
  have HSM := Lib.hid SM
  have HSL := Lib.hid SL
  have HUP := Lib.hid UP
  have HRM := Lib.hid RM
  have HRR := Lib.hid RR
  have HIS := Lib.hid IS
  have HRRL := Lib.hid RRL
  have HSU := Lib.hid SU
  have HSAU := Lib.hid SAU
  have HME := Lib.hid ME
  have HH1 := Lib.hid h1
  clear TB LB AL SM SL UP RM RR IS RRL SU SAU ME hl1 hl2 hl3 hl4 hl5 hsr h hok hlk hn hs hsl hr hm hls hsrc hd hlen hl40 hpd hl2d hN hN2 hhe hf hi hk h1 hmm hRLL hOU hbc hl 
  go_enter Try.func4, Try.ntmps4
  go_wp2_with fail
  have HBK0 := Lib.hid (Blk.new w 25 #[.slice a1 l1 c1, .slice a2 l2 c2, .slice a3 l3 c3, .int .u8 (s : Nat), .slice a4 l4 c4, .slice a5 l5 c5])
  have HB0 := Lib.hid ((Below.refl w.heap.size w).alloc (Nat.le_refl _) (.cells #[.slice a1 l1 c1, .slice a2 l2 c2, .slice a3 l3 c3, .int .u8 (s : Nat), .slice a4 l4 c4, .slice a5 l5 c5] 25))
  generalize hw0 : w.alloc (.cells #[.slice a1 l1 c1, .slice a2 l2 c2, .slice a3 l3 c3, .int .u8 (s : Nat), .slice a4 l4 c4, .slice a5 l5 c5] 25) = w0 at HBK0 HB0 ⊢
  clear hw0
  go_wp2_with fail
  refine (HAL.out w0 HB0.out).mono ?_
  rintro e w1 ⟨rfl, hb⟩
  have HB1 := Lib.hid (HB0.out.trans (hb.mono HB0.out.size))
  have HBK1 := Lib.hid (HBK0.out.below hb HBK0.out.lt)
  clear hb
  go_wp2_with fail
  refine (HSM.out w1 HB1.out).mono ?_
  rintro e w2 ⟨rfl, hb⟩
  have HB2 := Lib.hid (HB1.out.trans (hb.mono HB1.out.size))
  have HBK2 := Lib.hid (HBK1.out.below hb HBK1.out.lt)
  clear hb
  go_wp2_with (first | (refine wpList_load_at rfl 25 (.tmp 5) rfl w.heap.size rfl 25 #[.slice a1 l1 c1, .slice a2 l2 c2, .slice a3 l3 c3, .int .u8 (s : Nat), .slice a4 l4 c4, .slice a5 l5 c5] (0, 0) _ HBK2.out Try.underlying25 rfl (by kernel_rfl) ?_) | (refine wpList_wanted rfl ?_; refine wpList_load_at rfl 25 (.tmp 5) rfl w.heap.size rfl 25 #[.slice a1 l1 c1, .slice a2 l2 c2, .slice a3 l3 c3, .int .u8 (s : Nat), .slice a4 l4 c4, .slice a5 l5 c5] (0, 0) _ HBK2.out Try.underlying25 rfl (by kernel_rfl) ?_))
  refine (HSL.out w2 HB2.out).mono ?_
  rintro e w3 ⟨rfl, hb⟩
  have HB3 := Lib.hid (HB2.out.trans (hb.mono HB2.out.size))
  have HBK3 := Lib.hid (HBK2.out.below hb HBK2.out.lt)
  clear hb
  go_wp2_with (first | (refine wpList_load_at rfl 25 (.tmp 5) rfl w.heap.size rfl 25 #[.slice a1 l1 c1, .slice a2 l2 c2, .slice a3 l3 c3, .int .u8 (s : Nat), .slice a4 l4 c4, .slice a5 l5 c5] (0, 0) _ HBK3.out Try.underlying25 rfl (by kernel_rfl) ?_) | (refine wpList_wanted rfl ?_; refine wpList_load_at rfl 25 (.tmp 5) rfl w.heap.size rfl 25 #[.slice a1 l1 c1, .slice a2 l2 c2, .slice a3 l3 c3, .int .u8 (s : Nat), .slice a4 l4 c4, .slice a5 l5 c5] (0, 0) _ HBK3.out Try.underlying25 rfl (by kernel_rfl) ?_))
  refine (HUP.out w3 HB3.out).mono ?_
  rintro e w4 ⟨vu, rfl, hto, hb⟩
  have HB4 := Lib.hid (HB3.out.trans (hb.mono HB3.out.size))
  have HBK4 := Lib.hid (HBK3.out.below hb HBK3.out.lt)
  have HTu_4 := Lib.hid (hto.r)
  obtain ⟨xu, yu, zu, rfl⟩ : ∃ a n c, vu = .slice a n c := by obtain ⟨a, c, e, _⟩ := (hto.r).sl; exact ⟨_, _, _, e⟩
  clear hto
  clear hb
  go_wp2_with fail
  refine (HRM.out w4 HB4.out).mono ?_
  rintro e w5 ⟨rfl, hb⟩
  have HB5 := Lib.hid (HB4.out.trans (hb.mono HB4.out.size))
  have HBK5 := Lib.hid (HBK4.out.below hb HBK4.out.lt)
  have HTu_5 := Lib.hid (HTu_4.out.below hb (Nat.le_refl _))
  clear hb
  go_wp2_with fail
  refine (HRR.out w5 HB5.out).mono ?_
  rintro e w6 ⟨rfl, hb⟩
  have HB6 := Lib.hid (HB5.out.trans (hb.mono HB5.out.size))
  have HBK6 := Lib.hid (HBK5.out.below hb HBK5.out.lt)
  have HTu_6 := Lib.hid (HTu_5.out.below hb (Nat.le_refl _))
  clear hb
  go_wp2_with fail
  refine (HIS.out w6 HB6.out).mono ?_
  rintro e w7 ⟨rfl, hb⟩
  have HB7 := Lib.hid (HB6.out.trans (hb.mono HB6.out.size))
  have HBK7 := Lib.hid (HBK6.out.below hb HBK6.out.lt)
  have HTu_7 := Lib.hid (HTu_6.out.below hb (Nat.le_refl _))
  clear hb
  go_wp2_with (first | (refine wpList_load_at rfl 25 (.tmp 5) rfl w.heap.size rfl 25 #[.slice a1 l1 c1, .slice a2 l2 c2, .slice a3 l3 c3, .int .u8 (s : Nat), .slice a4 l4 c4, .slice a5 l5 c5] (0, 0) _ HBK7.out Try.underlying25 rfl (by kernel_rfl) ?_) | (refine wpList_wanted rfl ?_; refine wpList_load_at rfl 25 (.tmp 5) rfl w.heap.size rfl 25 #[.slice a1 l1 c1, .slice a2 l2 c2, .slice a3 l3 c3, .int .u8 (s : Nat), .slice a4 l4 c4, .slice a5 l5 c5] (0, 0) _ HBK7.out Try.underlying25 rfl (by kernel_rfl) ?_))
  refine (HRRL.out w7 HB7.out).mono ?_
  rintro e w8 ⟨rfl, hb⟩
  have HB8 := Lib.hid (HB7.out.trans (hb.mono HB7.out.size))
  have HBK8 := Lib.hid (HBK7.out.below hb HBK7.out.lt)
  have HTu_8 := Lib.hid (HTu_7.out.below hb (Nat.le_refl _))
  clear hb
  go_wp2_with (first | (refine wpList_load_at rfl 25 (.tmp 5) rfl w.heap.size rfl 25 #[.slice a1 l1 c1, .slice a2 l2 c2, .slice a3 l3 c3, .int .u8 (s : Nat), .slice a4 l4 c4, .slice a5 l5 c5] (0, 0) _ HBK8.out Try.underlying25 rfl (by kernel_rfl) ?_) | (refine wpList_wanted rfl ?_; refine wpList_load_at rfl 25 (.tmp 5) rfl w.heap.size rfl 25 #[.slice a1 l1 c1, .slice a2 l2 c2, .slice a3 l3 c3, .int .u8 (s : Nat), .slice a4 l4 c4, .slice a5 l5 c5] (0, 0) _ HBK8.out Try.underlying25 rfl (by kernel_rfl) ?_))
  refine (HSU.out w8 HB8.out).mono ?_
  rintro e w9 ⟨vs, rfl, hto, hb⟩
  have HB9 := Lib.hid (HB8.out.trans (hb.mono HB8.out.size))
  have HBK9 := Lib.hid (HBK8.out.below hb HBK8.out.lt)
  have HTu_9 := Lib.hid (HTu_8.out.below hb (Nat.le_refl _))
  have HTs_9 := Lib.hid (hto)
  obtain ⟨xs, ys, zs, rfl⟩ : ∃ a n c, vs = .slice a n c := by obtain ⟨a, c, e, _⟩ := (hto).sl; exact ⟨_, _, _, e⟩
  clear hto
  clear hb
  go_wp2_with fail
  refine (HSAU.out w9 _ _ HTu_9.out HTs_9.out).mono ?_
  rintro e w10 ⟨rfl, hb⟩
  have HB10 := Lib.hid (HB9.out.trans (hb.mono HB9.out.size))
  have HBK10 := Lib.hid (HBK9.out.below hb HBK9.out.lt)
  have HTu_10 := Lib.hid (HTu_9.out.below hb (Nat.le_refl _))
  have HTs_10 := Lib.hid (HTs_9.out.below hb (Nat.le_refl _))
  clear hb
  go_wp2_with fail
  refine (HME.out w10 HB10.out).mono ?_
  rintro e w11 ⟨vm, rfl, hom, hb⟩
  have HB11 := Lib.hid (HB10.out.trans (hb.mono HB10.out.size))
  have HBK11 := Lib.hid (HBK10.out.below hb HBK10.out.lt)
  have HTu_11 := Lib.hid (HTu_10.out.below hb (Nat.le_refl _))
  have HTs_11 := Lib.hid (HTs_10.out.below hb (Nat.le_refl _))
  obtain ⟨ma, mc, rfl⟩ : ∃ a c, vm = .slice a 1 c := by obtain ⟨a, c, e, _⟩ := hom.rd; rw [ivs_len', HH1.out] at e; exact ⟨a, c, e⟩
  clear hom
  clear hb
  go_wp2_with fail
  go_ret
  exact ⟨rfl, HB11.out⟩
set_option maxRecDepth 100000 in
set_option maxHeartbeats 16000000 in
theorem tchg_ok_more {w : World} (v : Value) (c : Array Value) (t : List NodeD) (l : LeafD) (i : Nat) (h : TreeR w v t) (hl : LeafC w l c) (hok : TreeOk t) (hlk : LeafOk l) (hs : smallT t = true) (hsl : smallB ⟨0, l, noParD⟩ = true) (hr : rightT t = true) (d : Nat) (hd : d ≤ 9) (hlen : t.length + 1 = 2 * 2 ^ d) (hf : leafOkB l = true) (hi : i < 2 ^ d) (hk : (nd t (2 * i)).kind = 1) (h1 : (rmemL t (2 ^ d)).length ≠ 1)  :
    Calls Try.prog 4 #[v, .int .i64 (i : Nat), .agg c] w fun e w' => e = .returned (.bool true) ∧ Below w.heap.size w w' := by
  have hm := smallT_med hs
  have hls : SmallL l := by have := of_decide_eq_true hsl; unfold SmallL; simp only at this; omega
  have hsrc := hlk.source
  have hl40 := smallT_len hs
  have hpd : 2 ^ d ≤ 32 := by omega
  have hl2d : t.length = 2 * (2 ^ d - 1) + 1 := by have := pow_pos' d; omega
  have hN : leavesN t.length = (2 ^ d - 1) + 1 := by rw [leavesN_pow (d := d) (by omega) hlen]; have := pow_pos' d; omega
  have hN2 : 2 ^ d - 1 + 1 = 2 ^ d := by have := pow_pos' d; omega
  obtain ⟨hh, hhe⟩ : ∃ hh, hh = 2 ^ d - 1 := ⟨_, rfl⟩
  rw [← hhe] at hl2d hN hN2
  have hmm : (memL t t.length).length = (rmemL t (2 ^ d)).length := by rw [hl2d, mem_eq (rightT_placed hr) hh (by omega), hN2]
  have LB := fun (W : World) (hw : Below w.heap.size w W) => hl.below hw (Nat.le_refl _)
  obtain ⟨a1, c1, a2, c2, a3, c3, a4, c4, a5, c5, rfl, hbc⟩ := held_c hl
  have TB := fun (W : World) (hw : Below w.heap.size w W) => h.below hw (Nat.le_refl _)
  have AL := fun (W : World) (hw : Below w.heap.size w W) => alive17 W
  have SM := fun (W : World) (hw : Below w.heap.size w W) => tsmall_any v t W (TB W hw)
  have SL := fun (W : World) (hw : Below w.heap.size w W) => smallLeaf_any l _ W (LB W hw)
  have UP := fun (W : World) (hw : Below w.heap.size w W) => tupd_yes v _ t l i d W (TB W hw) (LB W hw) hm hok hr hls hsrc hf hlen (by omega) hi hk
  have RM := fun (W : World) (hw : Below w.heap.size w W) => trem_yes v t i d W (TB W hw) hm hok hr hlen (by omega) hi hk (by rw [hmm]; exact h1)
  have RR := fun (W : World) (hw : Below w.heap.size w W) => rtright_any v t W (TB W hw) hs hok
  have IS := fun (W : World) (hw : Below w.heap.size w W) => ris_any v t hh (i : Nat) W (TB W hw) hok hl2d (by omega)
  have RRL := fun (W : World) (hw : Below w.heap.size w W) => rrightLeafT_any l _ W (LB W hw)
  have SU := fun (W : World) (hw : Below w.heap.size w W) => rset_any v t (heldD l) _ i d W (TB W hw) (hbc.below hw (Nat.le_refl _)) hm hlen (by omega) hi
  have SAU := fun (W : World) (x y : Value) (hx : TreeR W x (listT t.length (setF t i (heldD l)))) (hy : TreeR W y (listT t.length (setF t i (heldD l)))) => tsame_any x y _ _ W hx hy (setF_ok hok i (held_ok hlk) _) (setF_ok hok i (held_ok hlk) _) (by rw [listT_len]; omega)
  have ME := fun (W : World) (hw : Below w.heap.size w W) => rmembers_any v t hh W (TB W hw) hok hl2d (by omega)
  have SV := fun (W : World) (hw : Below w.heap.size w W) => rset_any v t noNodeD #[.int .u8 0, .slice none 0 0, .slice none 0 0, .slice none 0 0, .int .u8 0, .slice none 0 0, .slice none 0 0, .slice none 0 0, .slice none 0 0, .slice none 0 0] i d W (TB W hw) (noNode_c W) hm hlen (by omega) hi
  have CU := fun (W : World) (x : Value) (hx : TreeR W x (listT t.length (setF t i noNodeD))) => cut_set hr hok hd hlen hi hk h1 x W hx
  have SAV := fun (W : World) (x y : Value) (hx : TreeR W x (listT (2 * 2 ^ cutK (setF t i noNodeD) d - 1) (setF t i noNodeD))) (hy : TreeR W y (listT (2 * 2 ^ cutK (setF t i noNodeD) d - 1) (setF t i noNodeD))) => tsame_any x y _ _ W hx hy (setF_ok hok i noNode_ok _) (setF_ok hok i noNode_ok _) (by rw [listT_len]; have h5 : 2 ^ cutK (setF t i noNodeD) d ≤ 2 ^ d := Nat.pow_le_pow_right (by omega) (cutK_le _ d); omega)
  rw [hs] at SM
  rw [hsl] at SL
  rw [hr] at RR
  rw [hf] at RRL
  rw [hN2, decide_eq_true ((mem_iff t (2 ^ d) i).2 ⟨hi, hk⟩)] at IS
  rw [hN2] at ME
  obtain ⟨RLL, hRLL⟩ : ∃ R, R = rmemL t (2 ^ d) := ⟨_, rfl⟩
  rw [← hRLL] at ME h1
  obtain ⟨OU, hOU⟩ : ∃ T, T = listT t.length (setF t i (heldD l)) := ⟨_, rfl⟩
  rw [sameT_refl] at SAU
  simp only [← hOU] at UP SU SAU
  obtain ⟨OV, hOV⟩ : ∃ T, T = listT (2 * 2 ^ cutK (setF t i noNodeD) d - 1) (setF t i noNodeD) := ⟨_, rfl⟩
  obtain ⟨OW, hOW⟩ : ∃ T, T = listT t.length (setF t i noNodeD) := ⟨_, rfl⟩
  rw [sameT_refl] at SAV
  simp only [← hOV] at RM CU SAV
  simp only [← hOW] at SV CU
  obtain ⟨a, c0, rfl, hc0, hc1⟩ := h.sl
  obtain ⟨n, hn⟩ : ∃ n, n = t.length := ⟨_, rfl⟩
  simp only [← hn] at SM UP RM RR IS SU ME SV CU ⊢
  obtain ⟨l1, hl1⟩ : ∃ x, x = l.box.length := ⟨_, rfl⟩
  obtain ⟨l2, hl2⟩ : ∃ x, x = l.sign.length := ⟨_, rfl⟩
  obtain ⟨l3, hl3⟩ : ∃ x, x = l.ident.length := ⟨_, rfl⟩
  obtain ⟨l4, hl4⟩ : ∃ x, x = l.par.length := ⟨_, rfl⟩
  obtain ⟨l5, hl5⟩ : ∃ x, x = l.sig.length := ⟨_, rfl⟩
  obtain ⟨s, hsr⟩ : ∃ s, s = l.source := ⟨_, rfl⟩
  simp only [← hl1, ← hl2, ← hl3, ← hl4, ← hl5, ← hsr] at SL UP RRL SU ⊢
  have HAL := Lib.hid AL
  have HSM := Lib.hid SM
  have HSL := Lib.hid SL
  have HUP := Lib.hid UP
  have HRM := Lib.hid RM
  have HRR := Lib.hid RR
  have HIS := Lib.hid IS
  have HRRL := Lib.hid RRL
  have HSU := Lib.hid SU
  have HSAU := Lib.hid SAU
  have HME := Lib.hid ME
  have HSV := Lib.hid SV
  have HCU := Lib.hid CU
  have HSAV := Lib.hid SAV
  obtain ⟨ml, hml⟩ : ∃ k, k = RLL.length := ⟨_, rfl⟩
  rw [← hml] at h1
  have hm1 : ((ml : Int) == 1) = false := by rw [beq_eq_false_iff_ne]; omega
  have HML := Lib.hid hml
  clear hml TB LB AL SM SL UP RM RR IS RRL SU SAU ME SV CU SAV hl1 hl2 hl3 hl4 hl5 hsr h hok hlk hn hs hsl hr hm hls hsrc hd hlen hl40 hpd hl2d hN hN2 hhe hf hi hk h1 hmm hRLL hOU hOV hOW hbc hl 
  go_enter Try.func4, Try.ntmps4
  go_wp2_with fail
  have HBK0 := Lib.hid (Blk.new w 25 #[.slice a1 l1 c1, .slice a2 l2 c2, .slice a3 l3 c3, .int .u8 (s : Nat), .slice a4 l4 c4, .slice a5 l5 c5])
  have HB0 := Lib.hid ((Below.refl w.heap.size w).alloc (Nat.le_refl _) (.cells #[.slice a1 l1 c1, .slice a2 l2 c2, .slice a3 l3 c3, .int .u8 (s : Nat), .slice a4 l4 c4, .slice a5 l5 c5] 25))
  generalize hw0 : w.alloc (.cells #[.slice a1 l1 c1, .slice a2 l2 c2, .slice a3 l3 c3, .int .u8 (s : Nat), .slice a4 l4 c4, .slice a5 l5 c5] 25) = w0 at HBK0 HB0 ⊢
  clear hw0
  go_wp2_with fail
  refine (HAL.out w0 HB0.out).mono ?_
  rintro e w1 ⟨rfl, hb⟩
  have HB1 := Lib.hid (HB0.out.trans (hb.mono HB0.out.size))
  have HBK1 := Lib.hid (HBK0.out.below hb HBK0.out.lt)
  clear hb
  go_wp2_with fail
  refine (HSM.out w1 HB1.out).mono ?_
  rintro e w2 ⟨rfl, hb⟩
  have HB2 := Lib.hid (HB1.out.trans (hb.mono HB1.out.size))
  have HBK2 := Lib.hid (HBK1.out.below hb HBK1.out.lt)
  clear hb
  go_wp2_with (first | (refine wpList_load_at rfl 25 (.tmp 5) rfl w.heap.size rfl 25 #[.slice a1 l1 c1, .slice a2 l2 c2, .slice a3 l3 c3, .int .u8 (s : Nat), .slice a4 l4 c4, .slice a5 l5 c5] (0, 0) _ HBK2.out Try.underlying25 rfl (by kernel_rfl) ?_) | (refine wpList_wanted rfl ?_; refine wpList_load_at rfl 25 (.tmp 5) rfl w.heap.size rfl 25 #[.slice a1 l1 c1, .slice a2 l2 c2, .slice a3 l3 c3, .int .u8 (s : Nat), .slice a4 l4 c4, .slice a5 l5 c5] (0, 0) _ HBK2.out Try.underlying25 rfl (by kernel_rfl) ?_))
  refine (HSL.out w2 HB2.out).mono ?_
  rintro e w3 ⟨rfl, hb⟩
  have HB3 := Lib.hid (HB2.out.trans (hb.mono HB2.out.size))
  have HBK3 := Lib.hid (HBK2.out.below hb HBK2.out.lt)
  clear hb
  go_wp2_with (first | (refine wpList_load_at rfl 25 (.tmp 5) rfl w.heap.size rfl 25 #[.slice a1 l1 c1, .slice a2 l2 c2, .slice a3 l3 c3, .int .u8 (s : Nat), .slice a4 l4 c4, .slice a5 l5 c5] (0, 0) _ HBK3.out Try.underlying25 rfl (by kernel_rfl) ?_) | (refine wpList_wanted rfl ?_; refine wpList_load_at rfl 25 (.tmp 5) rfl w.heap.size rfl 25 #[.slice a1 l1 c1, .slice a2 l2 c2, .slice a3 l3 c3, .int .u8 (s : Nat), .slice a4 l4 c4, .slice a5 l5 c5] (0, 0) _ HBK3.out Try.underlying25 rfl (by kernel_rfl) ?_))
  refine (HUP.out w3 HB3.out).mono ?_
  rintro e w4 ⟨vu, rfl, hto, hb⟩
  have HB4 := Lib.hid (HB3.out.trans (hb.mono HB3.out.size))
  have HBK4 := Lib.hid (HBK3.out.below hb HBK3.out.lt)
  have HTu_4 := Lib.hid (hto.r)
  obtain ⟨xu, yu, zu, rfl⟩ : ∃ a n c, vu = .slice a n c := by obtain ⟨a, c, e, _⟩ := (hto.r).sl; exact ⟨_, _, _, e⟩
  clear hto
  clear hb
  go_wp2_with fail
  refine (HRM.out w4 HB4.out).mono ?_
  rintro e w5 ⟨vv, rfl, hto, hb⟩
  have HB5 := Lib.hid (HB4.out.trans (hb.mono HB4.out.size))
  have HBK5 := Lib.hid (HBK4.out.below hb HBK4.out.lt)
  have HTu_5 := Lib.hid (HTu_4.out.below hb (Nat.le_refl _))
  have HTv_5 := Lib.hid (hto)
  obtain ⟨xv, yv, zv, rfl⟩ : ∃ a n c, vv = .slice a n c := by obtain ⟨a, c, e, _⟩ := (hto).sl; exact ⟨_, _, _, e⟩
  clear hto
  clear hb
  go_wp2_with fail
  refine (HRR.out w5 HB5.out).mono ?_
  rintro e w6 ⟨rfl, hb⟩
  have HB6 := Lib.hid (HB5.out.trans (hb.mono HB5.out.size))
  have HBK6 := Lib.hid (HBK5.out.below hb HBK5.out.lt)
  have HTu_6 := Lib.hid (HTu_5.out.below hb (Nat.le_refl _))
  have HTv_6 := Lib.hid (HTv_5.out.below hb (Nat.le_refl _))
  clear hb
  go_wp2_with fail
  refine (HIS.out w6 HB6.out).mono ?_
  rintro e w7 ⟨rfl, hb⟩
  have HB7 := Lib.hid (HB6.out.trans (hb.mono HB6.out.size))
  have HBK7 := Lib.hid (HBK6.out.below hb HBK6.out.lt)
  have HTu_7 := Lib.hid (HTu_6.out.below hb (Nat.le_refl _))
  have HTv_7 := Lib.hid (HTv_6.out.below hb (Nat.le_refl _))
  clear hb
  go_wp2_with (first | (refine wpList_load_at rfl 25 (.tmp 5) rfl w.heap.size rfl 25 #[.slice a1 l1 c1, .slice a2 l2 c2, .slice a3 l3 c3, .int .u8 (s : Nat), .slice a4 l4 c4, .slice a5 l5 c5] (0, 0) _ HBK7.out Try.underlying25 rfl (by kernel_rfl) ?_) | (refine wpList_wanted rfl ?_; refine wpList_load_at rfl 25 (.tmp 5) rfl w.heap.size rfl 25 #[.slice a1 l1 c1, .slice a2 l2 c2, .slice a3 l3 c3, .int .u8 (s : Nat), .slice a4 l4 c4, .slice a5 l5 c5] (0, 0) _ HBK7.out Try.underlying25 rfl (by kernel_rfl) ?_))
  refine (HRRL.out w7 HB7.out).mono ?_
  rintro e w8 ⟨rfl, hb⟩
  have HB8 := Lib.hid (HB7.out.trans (hb.mono HB7.out.size))
  have HBK8 := Lib.hid (HBK7.out.below hb HBK7.out.lt)
  have HTu_8 := Lib.hid (HTu_7.out.below hb (Nat.le_refl _))
  have HTv_8 := Lib.hid (HTv_7.out.below hb (Nat.le_refl _))
  clear hb
  go_wp2_with (first | (refine wpList_load_at rfl 25 (.tmp 5) rfl w.heap.size rfl 25 #[.slice a1 l1 c1, .slice a2 l2 c2, .slice a3 l3 c3, .int .u8 (s : Nat), .slice a4 l4 c4, .slice a5 l5 c5] (0, 0) _ HBK8.out Try.underlying25 rfl (by kernel_rfl) ?_) | (refine wpList_wanted rfl ?_; refine wpList_load_at rfl 25 (.tmp 5) rfl w.heap.size rfl 25 #[.slice a1 l1 c1, .slice a2 l2 c2, .slice a3 l3 c3, .int .u8 (s : Nat), .slice a4 l4 c4, .slice a5 l5 c5] (0, 0) _ HBK8.out Try.underlying25 rfl (by kernel_rfl) ?_))
  refine (HSU.out w8 HB8.out).mono ?_
  rintro e w9 ⟨vs, rfl, hto, hb⟩
  have HB9 := Lib.hid (HB8.out.trans (hb.mono HB8.out.size))
  have HBK9 := Lib.hid (HBK8.out.below hb HBK8.out.lt)
  have HTu_9 := Lib.hid (HTu_8.out.below hb (Nat.le_refl _))
  have HTv_9 := Lib.hid (HTv_8.out.below hb (Nat.le_refl _))
  have HTs_9 := Lib.hid (hto)
  obtain ⟨xs, ys, zs, rfl⟩ : ∃ a n c, vs = .slice a n c := by obtain ⟨a, c, e, _⟩ := (hto).sl; exact ⟨_, _, _, e⟩
  clear hto
  clear hb
  go_wp2_with fail
  refine (HSAU.out w9 _ _ HTu_9.out HTs_9.out).mono ?_
  rintro e w10 ⟨rfl, hb⟩
  have HB10 := Lib.hid (HB9.out.trans (hb.mono HB9.out.size))
  have HBK10 := Lib.hid (HBK9.out.below hb HBK9.out.lt)
  have HTu_10 := Lib.hid (HTu_9.out.below hb (Nat.le_refl _))
  have HTv_10 := Lib.hid (HTv_9.out.below hb (Nat.le_refl _))
  have HTs_10 := Lib.hid (HTs_9.out.below hb (Nat.le_refl _))
  clear hb
  go_wp2_with fail
  refine (HME.out w10 HB10.out).mono ?_
  rintro e w11 ⟨vm, rfl, hom, hb⟩
  have HB11 := Lib.hid (HB10.out.trans (hb.mono HB10.out.size))
  have HBK11 := Lib.hid (HBK10.out.below hb HBK10.out.lt)
  have HTu_11 := Lib.hid (HTu_10.out.below hb (Nat.le_refl _))
  have HTv_11 := Lib.hid (HTv_10.out.below hb (Nat.le_refl _))
  have HTs_11 := Lib.hid (HTs_10.out.below hb (Nat.le_refl _))
  obtain ⟨ma, mc, rfl⟩ : ∃ a c, vm = .slice a ml c := by obtain ⟨a, c, e, _⟩ := hom.rd; rw [ivs_len', ← HML.out] at e; exact ⟨a, c, e⟩
  clear hom
  clear hb
  go_wp2_with fail
  refine (HSV.out w11 HB11.out).mono ?_
  rintro e w12 ⟨vp, rfl, hto, hb⟩
  have HB12 := Lib.hid (HB11.out.trans (hb.mono HB11.out.size))
  have HBK12 := Lib.hid (HBK11.out.below hb HBK11.out.lt)
  have HTu_12 := Lib.hid (HTu_11.out.below hb (Nat.le_refl _))
  have HTv_12 := Lib.hid (HTv_11.out.below hb (Nat.le_refl _))
  have HTs_12 := Lib.hid (HTs_11.out.below hb (Nat.le_refl _))
  have HTp_12 := Lib.hid (hto)
  obtain ⟨xp, yp, zp, rfl⟩ : ∃ a n c, vp = .slice a n c := by obtain ⟨a, c, e, _⟩ := (hto).sl; exact ⟨_, _, _, e⟩
  clear hto
  clear hb
  go_wp2_with fail
  refine (HCU.out w12 _ HTp_12.out).mono ?_
  rintro e w13 ⟨vq, rfl, hto, hb⟩
  have HB13 := Lib.hid (HB12.out.trans (hb.mono HB12.out.size))
  have HBK13 := Lib.hid (HBK12.out.below hb HBK12.out.lt)
  have HTu_13 := Lib.hid (HTu_12.out.below hb (Nat.le_refl _))
  have HTv_13 := Lib.hid (HTv_12.out.below hb (Nat.le_refl _))
  have HTs_13 := Lib.hid (HTs_12.out.below hb (Nat.le_refl _))
  have HTp_13 := Lib.hid (HTp_12.out.below hb (Nat.le_refl _))
  have HTq_13 := Lib.hid (hto)
  obtain ⟨xq, yq, zq, rfl⟩ : ∃ a n c, vq = .slice a n c := by obtain ⟨a, c, e, _⟩ := (hto).sl; exact ⟨_, _, _, e⟩
  clear hto hb
  go_wp2_with fail
  refine (HSAV.out w13 _ _ HTv_13.out HTq_13.out).mono ?_
  rintro e w14 ⟨rfl, hb⟩
  have HB14 := Lib.hid (HB13.out.trans (hb.mono HB13.out.size))
  have HBK14 := Lib.hid (HBK13.out.below hb HBK13.out.lt)
  have HTu_14 := Lib.hid (HTu_13.out.below hb (Nat.le_refl _))
  have HTv_14 := Lib.hid (HTv_13.out.below hb (Nat.le_refl _))
  have HTs_14 := Lib.hid (HTs_13.out.below hb (Nat.le_refl _))
  have HTp_14 := Lib.hid (HTp_13.out.below hb (Nat.le_refl _))
  have HTq_14 := Lib.hid (HTq_13.out.below hb (Nat.le_refl _))
  clear hb
  go_wp2_with fail
  go_ret
  exact ⟨rfl, HB14.out⟩
theorem treeChanges_walk {w : World} (v : Value) (t : List NodeD) (i : Int) (u : Value) (l : LeafD) (hop : TreeR w v t ∧ TreeOk t) (hib : -9223372036854775808 ≤ i ∧ i ≤ 9223372036854775807) (hlc : ∃ c, u = .agg c ∧ LeafC w l c ∧ LeafOk l) :
    Calls Try.prog 4 #[v, .int .i64 i, u] w fun e w' => e = .returned (.bool true) ∧ Below w.heap.size w w' := by
  obtain ⟨h, hok⟩ := hop
  obtain ⟨c, rfl, hl, hlk⟩ := hlc
  cases hs : smallT t with
  | false => exact tchg_big v c t l i h hl hok hlk hs
  | true =>
    cases hsl : smallB ⟨0, l, noParD⟩ with
    | false => exact tchg_bigL v c t l i h hl hok hlk hs hsl
    | true =>
      cases hr : rightT t with
      | false => exact tchg_no v c t l i h hl hok hlk hs hsl hr
      | true =>
        have hr' := hr
        rw [rightT, Bool.and_eq_true] at hr'
        obtain ⟨d, hd, hN, hlen⟩ := leavesN_pos (of_decide_eq_true hr'.1)
        have hl40 := smallT_len hs
        have hd5 : d ≤ 9 := by
          rcases Nat.lt_or_ge 9 d with h | h
          · have := Nat.pow_le_pow_right (show 0 < 2 by omega) (show 9 ≤ d by omega)
            omega
          · exact h
        by_cases hi : i ∈ rmemL t (2 ^ d)
        · obtain ⟨m, rfl⟩ : ∃ m : Nat, i = (m : Int) := by
            rcases Int.lt_or_le i 0 with hh | hh
            · exact absurd hi (mem_neg t _ hh)
            · exact ⟨i.toNat, by omega⟩
          obtain ⟨hm1, hm2⟩ := (mem_iff t _ m).1 hi
          by_cases h1 : (rmemL t (2 ^ d)).length = 1
          · cases hf : leafOkB l with
            | false => exact tchg_bad_one v c t l m h hl hok hlk hs hsl hr d hd5 hlen hf hm1 hm2 h1
            | true => exact tchg_ok_one v c t l m h hl hok hlk hs hsl hr d hd5 hlen hf hm1 hm2 h1
          · cases hf : leafOkB l with
            | false => exact tchg_bad_more v c t l m h hl hok hlk hs hsl hr d hd5 hlen hf hm1 hm2 h1
            | true => exact tchg_ok_more v c t l m h hl hok hlk hs hsl hr d hd5 hlen hf hm1 hm2 h1
        · cases hf : leafOkB l with
          | false => exact tchg_bad_no v c t l i h hl hok hlk hs hsl hr d hd5 hlen hf hib hi
          | true => exact tchg_ok_no v c t l i h hl hok hlk hs hsl hr d hd5 hlen hf hib hi
end Go.Proofs.Ytlcmodbjbdfloaa
