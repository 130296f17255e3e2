/- Walks: the law's is, alive. -/
import Derived.Test.YtkihcngllhjabaaScExact
import Derived.Test.YtkihcngllhjabaaScMul
import Derived.Test.YtkihcngllhjabaaBigOf
namespace Go.Proofs.Ytkihcngllhjabaa
open Go.RowKit ScM
set_option linter.unusedVariables false
theorem P32 : P256 = 256 ^ 32 := by decide
theorem leN_inj {x n : Nat} (hx : x < P256) (hn : n < P256) : decide (leN 32 x = leN 32 n) = decide (x = n) := by
  by_cases h : x = n
  · subst h; simp
  · rw [decide_eq_false h, decide_eq_false]
    intro e
    apply h
    rw [← leV_leN 32 x (by rw [← P32]; exact hx), ← leV_leN 32 n (by rw [← P32]; exact hn), e]
set_option maxRecDepth 100000 in
set_option maxHeartbeats 2000000 in
theorem is_any (x n : Nat) (v : Value) (w : World) (h : Rd w v (dvs (BigM.big n))) (hx : x < P256) (hn : n < P256) :
    Calls Try.prog 26 #[.agg (w4 x), v] w fun e w' => e = .returned (.bool (decide (x = n))) ∧ Below w.heap.size w w' := by
  have hv : ∃ a b c, v = .slice a b c := by obtain ⟨a, c, e, _⟩ := h; exact ⟨a, _, c, e⟩
  obtain ⟨a, b, c, rfl⟩ := hv
  have hlen : (BigM.big n).length < 100000 := big_len_of (k := 18) (Nat.lt_of_lt_of_le hn (by decide)) (by omega)
  have HI := leN_inj hx hn
  have SB := fun w => sbytes_any x w
  obtain ⟨r, hr⟩ : ∃ r, r = decide (x = n) := ⟨_, rfl⟩
  rw [← hr] at HI ⊢
  have HRD := Lib.hid h
  have HLEN := Lib.hid hlen
  have HINJ := Lib.hid HI
  have HSB := Lib.hid SB
  have K1 := Lib.hid (Blk.new w 27 (w4 x))
  have K3 := Lib.hid ((Below.refl w.heap.size w).alloc (Nat.le_refl _) (.cells (w4 x) 27))
  clear h hlen HI SB hr hx hn
  go_enter Try.func26, Try.ntmps26
  go_wp2_with (refine wpList_load_at rfl 27 (.tmp 2) rfl w.heap.size rfl 27 (w4 x) (0, 0) _ K1.out Try.underlying27 rfl (by kernel_rfl) ?_)
  refine (HSB.out _).mono ?_
  rintro e w1 ⟨v1, rfl, hown1, hb1⟩
  have HO1 := Lib.hid hown1
  have HB1 := Lib.hid (K3.out.trans (hb1.mono K3.out.size))
  have BB := bbytes_any (.slice a b c) n 32 w1 (HRD.out.below HB1.out (Nat.le_refl _)) HLEN.out (by omega)
  have HBB : Hid (Calls Try.prog 69 #[.slice a b c, .int .i64 32] w1 fun e w' => ∃ v2, e = .returned v2 ∧ Own w' w1.heap.size 5 v2 (bvs (leN 32 n)) ∧ Below w1.heap.size w1 w') := Lib.hid BB
  clear hown1 hb1 BB
  go_wp2_with fail
  refine (HBB.out).mono ?_
  rintro e w2 ⟨v2, rfl, hown2, hb2⟩
  have SM := same_any v1 v2 (leN 32 x) (leN 32 n) w2 ((HO1.out.below hb2 (Nat.le_refl _)).rd) hown2.rd (leN_lt _ _) (leN_lt _ _)
  rw [HINJ.out] at SM
  have HSM := Lib.hid SM
  have HB2 := Lib.hid (HB1.out.trans (hb2.mono HB1.out.size))
  clear hown2 hb2 SM
  go_wp2_with fail
  refine (HSM.out).mono ?_
  rintro e w3 ⟨rfl, n3, rfl⟩
  go_wp2_with fail
  go_ret
  exact ⟨rfl, below_drewN' HB2.out _⟩
set_option maxRecDepth 100000 in
set_option maxHeartbeats 4000000 in
theorem salive_any (w : World) :
    Calls Try.prog 10 #[] w fun e w' => e = .returned (.bool true) ∧ Below w.heap.size w w' := by
  have O1 : Calls Try.prog 18 #[.slice (some ⟨w.heap.size, 0, none⟩) 1 1] (w.alloc (.cells #[.int .u8 1] 5)) fun e w' => e = .returned (.agg (w4 1)) ∧ Below (w.heap.size + 1) (w.alloc (.cells #[.int .u8 1] 5)) w' := by
    have := sof_any (.slice (some ⟨w.heap.size, 0, none⟩) 1 1) [1] (w.alloc (.cells #[.int .u8 1] 5)) ((Own.full (B := w.heap.size) (cs := #[.int .u8 1]) rfl (Nat.le_refl _) (by unfold maxLen; simp) rfl).rd) (by simp)
    have e : leV (([1] : List Nat).take 64) % L = 1 := by decide
    have e2 : (w.alloc (.cells #[.int .u8 1] 5)).heap.size = w.heap.size + 1 := by simp
    rw [e, e2] at this
    exact this
  have N1 := fun w => sneg_any 1 w (by decide)
  have e1 : (L - 1) % L = L - 1 := by decide
  rw [e1] at N1
  have B1 := fun w => sbytes_any (L - 1) w
  have eb : leN 32 (L - 1) = [236, 211, 245, 92, 26, 99, 18, 88, 214, 156, 247, 162, 222, 249, 222, 20, 0, 0, 0, 0, 0, 0, 0, 0, 0, 0, 0, 0, 0, 0, 0, 16] := by decide
  rw [eb] at B1
  have O2 := fun w => sof_any (.slice none 0 0) [] w (Own.nil w 0 5).rd (by simp)
  have e0 : leV (([] : List Nat).take 64) % L = 0 := by decide
  rw [e0] at O2
  have S2 := fun w => ssame_any 0 0 w (by decide) (by decide)
  have hz0 : w4 0 = #[.int .u64 0, .int .u64 0, .int .u64 0, .int .u64 0] := by kernel_rfl
  rw [decide_eq_true rfl, hz0] at S2
  rw [hz0] at O2
  have HO1 := Lib.hid O1
  have HN1 := Lib.hid N1
  have HB1 := Lib.hid B1
  have HO2 := Lib.hid O2
  have HS2 := Lib.hid S2
  clear O1 N1 e1 B1 eb O2 e0 S2 hz0
  go_enter Try.func10, Try.ntmps10
  go_wp2_with fail
  refine (HO1.out).mono ?_
  rintro e w1 ⟨rfl, hb1⟩
  have HX1 := Lib.hid (((Below.refl w.heap.size w).alloc (Nat.le_refl _) (.cells #[.int .u8 1] 5)).trans (hb1.mono (by omega)))
  clear hb1
  go_wp2_with fail
  refine (HN1.out _).mono ?_
  rintro e w2 ⟨rfl, hb2⟩
  have HX2 := Lib.hid (HX1.out.trans (hb2.mono HX1.out.size))
  clear hb2
  go_wp2_with fail
  refine (HB1.out _).mono ?_
  rintro e w3 ⟨v3, rfl, hown, hb3⟩
  obtain ⟨g, cap, cur, rfl, hg, hgl, hh, hn, hm, hcs, htk, hc, -⟩ := hown.out (by simp [bvs])
  have c0 := hc 0 (.int .u8 236) rfl
  have c31 := hc 31 (.int .u8 16) rfl
  have hn' : 32 ≤ cap := hn
  have hl32 : (bvs [236, 211, 245, 92, 26, 99, 18, 88, 214, 156, 247, 162, 222, 249, 222, 20, 0, 0, 0, 0, 0, 0, 0, 0, 0, 0, 0, 0, 0, 0, 0, 16]).length = 32 := rfl
  rw [hl32]
  have HX3 := Lib.hid (HX2.out.trans (hb3.mono HX2.out.size))
  clear hb3 hh hn hm hcs htk hc hown hl32
  go_wp2_with fail
  refine (HO2.out _).mono ?_
  rintro e w4' ⟨rfl, hb4⟩
  have HX4 := Lib.hid (HX3.out.trans (hb4.mono HX3.out.size))
  clear hb4
  go_wp2_with fail
  refine (HS2.out _).mono ?_
  rintro e w5 ⟨rfl, hb5⟩
  have HX5 := Lib.hid (HX4.out.trans (hb5.mono HX4.out.size))
  clear hb5
  go_wp2_with fail
  go_ret
  exact ⟨rfl, HX5.out⟩
end Go.Proofs.Ytkihcngllhjabaa
