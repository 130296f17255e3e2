/- Walks: the law TreeRight. -/
import Derived.Test.YtohldijomcljkaaZTreeRight01
import Derived.Test.YtohldijomcljkaaZTreeResolves38
import Derived.Test.YtohldijomcljkaaZTreeResolves37
namespace Go.Proofs.Ytohldijomcljkaa
open Go.RowKit WalkM WireM
set_option linter.unusedVariables false
theorem wrap_in17 {a : Int} (h : -9223372036854775808 ≤ a ∧ a ≤ 9223372036854775807) : wrap64 a = a := by unfold wrap64; omega
theorem sameLB_self (d : LeafD) : sameLB d d = true := by simp [sameLB]
theorem zero_leaf (w : World) : LeafC w noLeafD #[.slice none 0 0, .slice none 0 0, .slice none 0 0, .int .u8 0, .slice none 0 0, .slice none 0 0] := ⟨none, 0, none, 0, none, 0, none, 0, none, 0, rfl, (Own.nil w 0 5).rd, (Own.nil w 0 5).rd, (Own.nil w 0 5).rd, (Own.nil w 0 5).rd, (Own.nil w 0 5).rd⟩
theorem zero_leaf_ok : LeafOk noLeafD := by constructor <;> simp [noLeafD]
theorem sameI_self' (u u' : Value) (L : List Int) (W : World) (hu : Rd W u (ivs .i64 L)) (hu' : Rd W u' (ivs .i64 L)) : Calls Try.prog 38 #[u, u'] W fun e w' => e = .returned (.bool true) ∧ ∃ n, w' = W.drewN n := by
  have := sameI_any u u' L L W hu hu'
  rw [decide_eq_true rfl] at this
  exact this
set_option maxRecDepth 100000 in
set_option maxHeartbeats 8000000 in
theorem tr_small {w : World} (v : Value) (t : List NodeD) (i : Int) (h : TreeR w v t) (hs : smallT t = false) :
    Calls Try.prog 10 #[v, .int .i64 i] w fun e w' => e = .returned (.bool true) ∧ Below w.heap.size w w' := by
  have HAL := Lib.hid (alive17 w)
  have SM := fun (W : World) (hw : Below w.heap.size w W) => tsmall_any v t W (h.below hw (Nat.le_refl _))
  have TB := fun (W : World) (hw : Below w.heap.size w W) => h.below hw (Nat.le_refl _)
  rw [hs] at SM
  have HSM := Lib.hid SM
  obtain ⟨a, n, c', rfl⟩ : ∃ a n c, v = .slice a n c := by obtain ⟨a, c, e, _⟩ := h.sl; exact ⟨_, _, _, e⟩
  clear SM TB h hs
  go_enter Try.func10, Try.ntmps10
  go_wp2_with fail
  refine (HAL.out).mono ?_
  rintro e w1 ⟨rfl, hb⟩
  have Hw1 := Lib.hid hb
  clear hb
  go_wp2_with fail
  refine (HSM.out w1 Hw1.out).mono ?_
  rintro e w2 ⟨rfl, hb⟩
  have Hw2 := Lib.hid (Hw1.out.trans (hb.mono Hw1.out.size))
  clear hb
  go_wp2_with fail
  go_ret
  exact ⟨rfl, Hw2.out⟩
set_option maxRecDepth 100000 in
set_option maxHeartbeats 8000000 in
theorem tr_no {w : World} (v : Value) (t : List NodeD) (i : Int) (h : TreeR w v t) (hok : TreeOk t) (hs : smallT t = true) (hr : rightT t = false) :
    Calls Try.prog 10 #[v, .int .i64 i] w fun e w' => e = .returned (.bool true) ∧ Below w.heap.size w w' := by
  have HAL := Lib.hid (alive17 w)
  have SM := fun (W : World) (hw : Below w.heap.size w W) => tsmall_any v t W (h.below hw (Nat.le_refl _))
  have TB := fun (W : World) (hw : Below w.heap.size w W) => h.below hw (Nat.le_refl _)
  rw [hs] at SM
  have HSM := Lib.hid SM
  have RR := fun (W : World) (hw : Below w.heap.size w W) => rtright_any _ t W (TB W hw) hs hok
  rw [hr] at RR
  have HRR := Lib.hid RR
  have TR := fun (W : World) (hw : Below w.heap.size w W) => tright_any _ t W (TB W hw) hs hok
  rw [hr] at TR
  have HTR := Lib.hid TR
  have SLZ := fun (W : World) => rsameLeaf_any noLeafD noLeafD #[.slice none 0 0, .slice none 0 0, .slice none 0 0, .int .u8 0, .slice none 0 0, .slice none 0 0] #[.slice none 0 0, .slice none 0 0, .slice none 0 0, .int .u8 0, .slice none 0 0, .slice none 0 0] W (zero_leaf W) (zero_leaf W) zero_leaf_ok zero_leaf_ok
  rw [sameLB_self] at SLZ
  have HSLZ := Lib.hid SLZ
  have HLF := Lib.hid (fun (W : World) (hw : Below w.heap.size w W) => tleaf_no v t i W (TB W hw) hs hok hr)
  have HME := Lib.hid (fun (W : World) (hw : Below w.heap.size w W) => tmembers_no v t W (TB W hw) hs hok hr)
  obtain ⟨a, n, c', rfl⟩ : ∃ a n c, v = .slice a n c := by obtain ⟨a, c, e, _⟩ := h.sl; exact ⟨_, _, _, e⟩
  clear SM TB RR TR SLZ h hok hs hr
  go_enter Try.func10, Try.ntmps10
  go_wp2_with fail
  refine (HAL.out).mono ?_
  rintro e w1 ⟨rfl, hb⟩
  have Hw1 := Lib.hid hb
  clear hb
  go_wp2_with fail
  refine (HSM.out w1 Hw1.out).mono ?_
  rintro e w2 ⟨rfl, hb⟩
  have Hw2 := Lib.hid (Hw1.out.trans (hb.mono Hw1.out.size))
  clear hb
  go_wp2_with fail
  refine (HRR.out w2 Hw2.out).mono ?_
  rintro e w3 ⟨rfl, hb⟩
  have Hw3 := Lib.hid (Hw2.out.trans (hb.mono Hw2.out.size))
  clear hb
  go_wp2_with fail
  refine (HLF.out w3 Hw3.out).mono ?_
  rintro e w4 ⟨rfl, hb⟩
  have Hw4 := Lib.hid (Hw3.out.trans (hb.mono Hw3.out.size))
  clear hb
  have HBK := Lib.hid (Blk.new w4 42 #[.slice none 0 0, .slice none 0 0, .slice none 0 0, .int .u8 0, .slice none 0 0, .slice none 0 0])
  have Hw5 := Lib.hid (Hw4.out.alloc Hw4.out.size (.cells #[.slice none 0 0, .slice none 0 0, .slice none 0 0, .int .u8 0, .slice none 0 0, .slice none 0 0] 42))
  go_wp2_with fail
  generalize hwz : w4.alloc (.cells #[.slice none 0 0, .slice none 0 0, .slice none 0 0, .int .u8 0, .slice none 0 0, .slice none 0 0] 42) = w5 at HBK Hw5 ⊢
  generalize hgl : w4.heap.size = gl at HBK ⊢
  clear hwz hgl
  refine (HTR.out w5 Hw5.out).mono ?_
  rintro e w6 ⟨rfl, hb⟩
  have Hw6 := Lib.hid (Hw5.out.trans (hb.mono Hw5.out.size))
  have HBK6 := Lib.hid (HBK.out.below hb HBK.out.lt)
  clear hb
  go_wp2_with fail
  refine (HME.out w6 Hw6.out).mono ?_
  rintro e w7 ⟨rfl, hb⟩
  have Hw7 := Lib.hid (Hw6.out.trans (hb.mono Hw6.out.size))
  have HBK7 := Lib.hid (HBK6.out.below hb HBK6.out.lt)
  clear hb
  go_wp2_with (first | (refine wpList_load_at rfl 42 (.tmp 6) rfl gl rfl 42 #[.slice none 0 0, .slice none 0 0, .slice none 0 0, .int .u8 0, .slice none 0 0, .slice none 0 0] (0, 0) _ HBK7.out Try.underlying42 rfl (by kernel_rfl) ?_) | (refine wpList_wanted rfl ?_; refine wpList_load_at rfl 42 (.tmp 6) rfl gl rfl 42 #[.slice none 0 0, .slice none 0 0, .slice none 0 0, .int .u8 0, .slice none 0 0, .slice none 0 0] (0, 0) _ HBK7.out Try.underlying42 rfl (by kernel_rfl) ?_))
  refine (HSLZ.out w7).mono ?_
  rintro e w8 ⟨rfl, hb⟩
  have Hw8 := Lib.hid (Hw7.out.trans (hb.mono Hw7.out.size))
  clear hb
  go_wp2_with fail
  go_ret
  exact ⟨rfl, Hw8.out⟩
set_option maxRecDepth 100000 in
set_option maxHeartbeats 8000000 in
theorem tr_none {w : World} (v : Value) (t : List NodeD) (i : Int) (hh : Nat) (h : TreeR w v t) (hok : TreeOk t) (hs : smallT t = true) (hr : rightT t = true) (hlen : t.length = 2 * hh + 1) (hN : leavesN t.length = hh + 1) (hib : -9223372036854775808 ≤ i ∧ i ≤ 9223372036854775807) (hi : i ∉ rmemL t (hh + 1)) :
    Calls Try.prog 10 #[v, .int .i64 i] w fun e w' => e = .returned (.bool true) ∧ Below w.heap.size w w' := by
  have HAL := Lib.hid (alive17 w)
  have SM := fun (W : World) (hw : Below w.heap.size w W) => tsmall_any v t W (h.below hw (Nat.le_refl _))
  have TB := fun (W : World) (hw : Below w.heap.size w W) => h.below hw (Nat.le_refl _)
  rw [hs] at SM
  have HSM := Lib.hid SM
  have RR := fun (W : World) (hw : Below w.heap.size w W) => rtright_any _ t W (TB W hw) hs hok
  rw [hr] at RR
  have HRR := Lib.hid RR
  have TR := fun (W : World) (hw : Below w.heap.size w W) => tright_any _ t W (TB W hw) hs hok
  rw [hr] at TR
  have HTR := Lib.hid TR
  have SLZ := fun (W : World) => rsameLeaf_any noLeafD noLeafD #[.slice none 0 0, .slice none 0 0, .slice none 0 0, .int .u8 0, .slice none 0 0, .slice none 0 0] #[.slice none 0 0, .slice none 0 0, .slice none 0 0, .int .u8 0, .slice none 0 0, .slice none 0 0] W (zero_leaf W) (zero_leaf W) zero_leaf_ok zero_leaf_ok
  rw [sameLB_self] at SLZ
  have HSLZ := Lib.hid SLZ
  have hl40 := smallT_len hs
  have ME := fun (W : World) (hw : Below w.heap.size w W) => tmembers_yes v t W (TB W hw) hs hok hr
  rw [show memL t t.length = rmemL t (hh + 1) by rw [hlen]; exact mem_eq (right_placedT hr) hh (by omega)] at ME
  have RM := fun (W : World) (hw : Below w.heap.size w W) => rmembers_any v t hh W (TB W hw) hok hlen (by omega)
  have IS := fun (W : World) (hw : Below w.heap.size w W) => ris_any v t hh i W (TB W hw) hok hlen (by omega)
  rw [decide_eq_false hi] at IS
  have HIS := Lib.hid IS
  have HLF := Lib.hid (fun (W : World) (hw : Below w.heap.size w W) => tleaf_none v t hh i W (TB W hw) hs hok hr hlen hN hib hi)
  obtain ⟨M, hM⟩ : ∃ M, M = rmemL t (hh + 1) := ⟨_, rfl⟩
  rw [← hM] at ME RM
  have HME := Lib.hid ME
  have HRM := Lib.hid RM
  obtain ⟨ta, n0, rfl, hc, hc2⟩ := h.sl
  obtain ⟨n, hn⟩ : ∃ n, n = t.length := ⟨_, rfl⟩
  rw [← hn] at HSM HRR HTR HME HRM HIS HLF ⊢
  clear SM TB RR TR SLZ ME RM IS h hok hs hr hlen hN hi hM hn hc hl40
  go_enter Try.func10, Try.ntmps10
  go_wp2_with fail
  refine (HAL.out).mono ?_
  rintro e w1 ⟨rfl, hb⟩
  have Hw1 := Lib.hid hb
  clear hb
  go_wp2_with fail
  refine (HSM.out w1 Hw1.out).mono ?_
  rintro e w2 ⟨rfl, hb⟩
  have Hw2 := Lib.hid (Hw1.out.trans (hb.mono Hw1.out.size))
  clear hb
  go_wp2_with fail
  refine (HRR.out w2 Hw2.out).mono ?_
  rintro e w3 ⟨rfl, hb⟩
  have Hw3 := Lib.hid (Hw2.out.trans (hb.mono Hw2.out.size))
  clear hb
  go_wp2_with fail
  refine (HLF.out w3 Hw3.out).mono ?_
  rintro e w4 ⟨rfl, hb⟩
  have Hw4 := Lib.hid (Hw3.out.trans (hb.mono Hw3.out.size))
  clear hb
  have HBK := Lib.hid (Blk.new w4 42 #[.slice none 0 0, .slice none 0 0, .slice none 0 0, .int .u8 0, .slice none 0 0, .slice none 0 0])
  have Hw5 := Lib.hid (Hw4.out.alloc Hw4.out.size (.cells #[.slice none 0 0, .slice none 0 0, .slice none 0 0, .int .u8 0, .slice none 0 0, .slice none 0 0] 42))
  go_wp2_with fail
  generalize hwz : w4.alloc (.cells #[.slice none 0 0, .slice none 0 0, .slice none 0 0, .int .u8 0, .slice none 0 0, .slice none 0 0] 42) = w5 at HBK Hw5 ⊢
  generalize hgl : w4.heap.size = gl at HBK ⊢
  clear hwz hgl
  refine (HTR.out w5 Hw5.out).mono ?_
  rintro e w6 ⟨rfl, hb⟩
  have Hw6 := Lib.hid (Hw5.out.trans (hb.mono Hw5.out.size))
  have HBK6 := Lib.hid (HBK.out.below hb HBK.out.lt)
  clear hb HBK
  go_wp2_with fail
  refine (HME.out w6 Hw6.out).mono ?_
  rintro e w7 ⟨v7, rfl, hown, hb⟩
  have Hw7 := Lib.hid (Hw6.out.trans (hb.mono Hw6.out.size))
  have HBK7 := Lib.hid (HBK6.out.below hb HBK6.out.lt)
  have HM7 := Lib.hid hown.rd
  obtain ⟨p1, p2, p3, rfl⟩ := slOf hown
  clear hb hown HBK6
  go_wp2_with fail
  refine (HRM.out w7 Hw7.out).mono ?_
  rintro e w8 ⟨v8, rfl, hown, hb⟩
  have Hw8 := Lib.hid (Hw7.out.trans (hb.mono Hw7.out.size))
  have HBK8 := Lib.hid (HBK7.out.below hb HBK7.out.lt)
  have HM8 := Lib.hid (HM7.out.below hb (Nat.le_refl _))
  have HN8 := Lib.hid hown.rd
  obtain ⟨q1, q2, q3, rfl⟩ := slOf hown
  clear hb hown HBK7
  go_wp2_with fail
  refine (sameI_self' _ _ M w8 HM8.out HN8.out).mono ?_
  rintro e w9 ⟨rfl, n9, rfl⟩
  have hb := below_drewN' (Below.refl w8.heap.size w8) n9
  have Hw9 := Lib.hid (Hw8.out.trans (hb.mono Hw8.out.size))
  have HBK9 := Lib.hid (HBK8.out.below hb HBK8.out.lt)
  generalize hwy : w8.drewN n9 = wy at Hw9 HBK9 ⊢
  clear hb hwy HBK8 HM7 HM8 HN8
  go_wp2_with fail
  refine (HIS.out wy Hw9.out).mono ?_
  rintro e wr ⟨rfl, hb⟩
  have HwR := Lib.hid (Hw9.out.trans (hb.mono Hw9.out.size))
  have HBKr := HBK9.out.below hb HBK9.out.lt
  clear hb HBK9
  have HBK := Lib.hid HBKr
  obtain ⟨CS, hCS⟩ : ∃ C, C = (#[.slice none 0 0, .slice none 0 0, .slice none 0 0, .int .u8 0, .slice none 0 0, .slice none 0 0] : Array Value) := ⟨_, rfl⟩
  have HSL := Lib.hid (fun (W : World) (hw : Below wr.heap.size wr W) => (show Calls Try.prog 44 #[.agg CS, .agg #[.slice none 0 0, .slice none 0 0, .slice none 0 0, .int .u8 0, .slice none 0 0, .slice none 0 0]] W fun e w' => e = .returned (.bool true) ∧ Below W.heap.size W w' from by rw [hCS]; exact HSLZ.out W))
  have HIN := Lib.hid (show (Try.prog.info? 42).map (·.size) = some CS.size by rw [hCS]; kernel_rfl)
  rw [← hCS] at HBK
  clear HBKr hCS
  go_wp2_with fail
  refine wp_region_rel [fun v _ => v = .bool false, fun v _ => v = .bool true, fun v _ => v = .bool true, fun v _ => v = .agg CS, fun v _ => v = .agg #[.slice none 0 0, .slice none 0 0, .slice none 0 0, .int .u8 0, .slice none 0 0, .slice none 0 0], fun v _ => v = .bool true, fun v _ => v = .bool true, fun v _ => v = .bool true, fun v _ => v = undef, fun v _ => v = undef, fun v _ => v = undef, fun v _ => v = undef, fun v _ => v = undef, fun v _ => v = undef, fun v _ => v = undef, fun v _ => v = undef, fun v _ => v = undef, fun v _ => v = undef, fun v _ => v = undef, fun v _ => v = .bool true, fun v _ => v = .bool true]
    [true, true, true, true, true, true, true, true, true, true, true, true, true, true, true, true, true, true, true, true, true] (fun x => Below wr.heap.size wr x) (fun x y => Below x.heap.size x y) none (by kernel_rfl) ?_ (⟨rfl, rfl, rfl, Nat.le_refl _, fun _ _ => rfl⟩) (fun x y _ h => h) (fun x y hx hs => hx.trans (hs.mono hx.size)) (by kernel_rfl) (by kernel_rfl) ?_ ?_
  · exact keepsR_n (fun _ _ _ h _ _ => h) (keepsR_n (fun _ _ _ h _ _ => h) (keepsR_n (fun _ _ _ h _ _ => h) (keepsR_n (fun _ _ _ h _ _ => h) (keepsR_n (fun _ _ _ h _ _ => h) (keepsR_n (fun _ _ _ h _ _ => h) (keepsR_n (fun _ _ _ h _ _ => h) (keepsR_n (fun _ _ _ h _ _ => h) (keepsR_n (fun _ _ _ h _ _ => h) (keepsR_n (fun _ _ _ h _ _ => h) (keepsR_n (fun _ _ _ h _ _ => h) (keepsR_n (fun _ _ _ h _ _ => h) (keepsR_n (fun _ _ _ h _ _ => h) (keepsR_n (fun _ _ _ h _ _ => h) (keepsR_n (fun _ _ _ h _ _ => h) (keepsR_n (fun _ _ _ h _ _ => h) (keepsR_n (fun _ _ _ h _ _ => h) (keepsR_n (fun _ _ _ h _ _ => h) (keepsR_n (fun _ _ _ h _ _ => h) (keepsR_n (fun _ _ _ h _ _ => h) (keepsR_n (fun _ _ _ h _ _ => h) (keepsR_nil)))))))))))))))))))))
  · refine .cons (owed7_go ?_) (.cons (owed7_go ?_) (.cons (owed7_go ?_) (.cons (owed7_go ?_) (.cons (owed7_go ?_) (.cons (owed7_go ?_) (.cons (owed7_go ?_) (.cons (owed7_go ?_) (.cons (owed7_off rfl rfl rfl ?_) (.cons (owed7_off rfl rfl rfl ?_) (.cons (owed7_off rfl rfl rfl ?_) (.cons (owed7_off rfl rfl rfl ?_) (.cons (owed7_off rfl rfl rfl ?_) (.cons (owed7_off rfl rfl rfl ?_) (.cons (owed7_off rfl rfl rfl ?_) (.cons (owed7_off rfl rfl rfl ?_) (.cons (owed7_off rfl rfl rfl ?_) (.cons (owed7_off rfl rfl rfl ?_) (.cons (owed7_off rfl rfl rfl ?_) (.cons (owed7_go ?_) (.cons (owed7_go ?_) (.nil)))))))))))))))))))))
    · intro a wx hbx hq ho hf
      have hbx : Below wr.heap.size wr wx := hbx
      have hbq : Below wr.heap.size wr wx := hq (by kernel_rfl)
      clear hq
      refine ⟨rfl, ?_⟩
      intro K hK
      have e0 : a.tmps[7]?.getD undef = .bool false := ho 7 (by kernel_rfl)
      go_simp
      exact hK _ _ rfl (stepR_no rfl (Below.refl _ _))
    · intro a wx hbx hq ho hf
      have hbx : Below wr.heap.size wr wx := hbx
      have hbq : Below wr.heap.size wr wx := hq (by kernel_rfl)
      clear hq
      refine ⟨rfl, ?_⟩
      intro K hK
      have e0 : a.tmps[53]?.getD undef = .bool false := hf.1
      go_simp
      exact hK _ _ rfl (stepR_no rfl (Below.refl _ _))
    · intro a wx hbx hq ho hf
      have hbx : Below wr.heap.size wr wx := hbx
      have hbq : Below wr.heap.size wr wx := hq (by kernel_rfl)
      clear hq
      refine ⟨rfl, ?_⟩
      intro K hK
      have e0 : a.tmps[54]?.getD undef = .bool true := hf.1
      go_simp
      exact hK _ _ rfl (stepR_no rfl (Below.refl _ _))
    · intro a wx hbx hq ho hf
      have hbx : Below wr.heap.size wr wx := hbx
      have hbq : Below wr.heap.size wr wx := hq (by kernel_rfl)
      clear hq
      refine ⟨wanted_slot (j := 2) (b := true) (s := 55) rfl rfl rfl (hf.1), ?_⟩
      intro K hK
      have e0 : a.tmps[6]?.getD undef = .pointer (some ⟨gl, 0, none⟩) := ho 6 (by kernel_rfl)
      exact wp_load_row 42 (.tmp 6) rfl _ (evs e0) _ _ (0, 0) _ (HBK.out.below hbx HBK.out.lt) Try.underlying42 rfl (HIN.out) (hK _ _ rfl (stepR_no rfl (Below.refl _ _)))
    · intro a wx hbx hq ho hf
      have hbx : Below wr.heap.size wr wx := hbx
      have hbq : Below wr.heap.size wr wx := hq (by kernel_rfl)
      clear hq
      refine ⟨wanted_slot (j := 2) (b := true) (s := 55) rfl rfl rfl (hf.1), ?_⟩
      intro K hK
      
      go_simp
      exact hK _ _ rfl (stepR_no rfl (Below.refl _ _))
    · intro a wx hbx hq ho hf
      have hbx : Below wr.heap.size wr wx := hbx
      have hbq : Below wr.heap.size wr wx := hq (by kernel_rfl)
      clear hq
      refine ⟨wanted_slot (j := 2) (b := true) (s := 55) rfl rfl rfl (hf.2.2.1), ?_⟩
      intro K hK
      have e0 : a.tmps[56]?.getD undef = .agg CS := hf.1
      have e1 : a.tmps[57]?.getD undef = .agg #[.slice none 0 0, .slice none 0 0, .slice none 0 0, .int .u8 0, .slice none 0 0, .slice none 0 0] := hf.2.1
      go_simp
      refine (HSL.out wx hbx).mono ?_
      rintro e w2 ⟨rfl, hb2⟩
      exact hK _ _ rfl (stepR_no rfl hb2)
    · intro a wx hbx hq ho hf
      have hbx : Below wr.heap.size wr wx := hbx
      have hbq : Below wr.heap.size wr wx := hq (by kernel_rfl)
      clear hq
      refine ⟨rfl, ?_⟩
      intro K hK
      have e0 : a.tmps[55]?.getD undef = .bool true := hf.1
      have e1 : a.tmps[58]?.getD undef = .bool true := hf.2.1
      go_simp
      exact hK _ _ rfl (stepR_no rfl (Below.refl _ _))
    · intro a wx hbx hq ho hf
      have hbx : Below wr.heap.size wr wx := hbx
      have hbq : Below wr.heap.size wr wx := hq (by kernel_rfl)
      clear hq
      refine ⟨rfl, ?_⟩
      intro K hK
      have e0 : a.tmps[59]?.getD undef = .bool true := hf.1
      go_simp
      exact hK _ _ rfl (stepR_no rfl (Below.refl _ _))
    · intro a wx hf
      exact wanted_off7 (j := 7) (b := false) (s := 60) rfl rfl rfl (hf.1) (by first | (simp; done) | (simp [undef]; done) | (intro h; cases h))
    · intro a wx hf
      exact wanted_off7 (j := 7) (b := false) (s := 60) rfl rfl rfl (hf.2.1) (by first | (simp; done) | (simp [undef]; done) | (intro h; cases h))
    · intro a wx hf
      exact wanted_off7 (j := 9) (b := true) (s := 62) rfl rfl rfl (hf.1) (by first | (simp; done) | (simp [undef]; done) | (intro h; cases h))
    · intro a wx hf
      exact wanted_off7 (j := 9) (b := true) (s := 62) rfl rfl rfl (hf.1) (by first | (simp; done) | (simp [undef]; done) | (intro h; cases h))
    · intro a wx hf
      exact wanted_off7 (j := 9) (b := true) (s := 62) rfl rfl rfl (hf.1) (by first | (simp; done) | (simp [undef]; done) | (intro h; cases h))
    · intro a wx hf
      exact wanted_off7 (j := 9) (b := true) (s := 62) rfl rfl rfl (hf.2.1) (by first | (simp; done) | (simp [undef]; done) | (intro h; cases h))
    · intro a wx hf
      exact wanted_off7 (j := 9) (b := true) (s := 62) rfl rfl rfl (hf.2.2.1) (by first | (simp; done) | (simp [undef]; done) | (intro h; cases h))
    · intro a wx hf
      exact wanted_off7 (j := 9) (b := true) (s := 62) rfl rfl rfl (hf.2.1) (by first | (simp; done) | (simp [undef]; done) | (intro h; cases h))
    · intro a wx hf
      exact wanted_off7 (j := 9) (b := true) (s := 62) rfl rfl rfl (hf.2.1) (by first | (simp; done) | (simp [undef]; done) | (intro h; cases h))
    · intro a wx hf
      exact wanted_off7 (j := 9) (b := true) (s := 62) rfl rfl rfl (hf.2.2.1) (by first | (simp; done) | (simp [undef]; done) | (intro h; cases h))
    · intro a wx hf
      exact wanted_off7 (j := 7) (b := false) (s := 60) rfl rfl rfl (hf.2.2.1) (by first | (simp; done) | (simp [undef]; done) | (intro h; cases h))
    · intro a wx hbx hq ho hf
      have hbx : Below wr.heap.size wr wx := hbx
      have hbq : Below wr.heap.size wr wx := hq (by kernel_rfl)
      clear hq
      refine ⟨rfl, ?_⟩
      intro K hK
      have e0 : a.tmps[60]?.getD undef = .bool true := hf.1
      go_simp
      exact hK _ _ rfl (stepR_no rfl (Below.refl _ _))
    · intro a wx hbx hq ho hf
      have hbx : Below wr.heap.size wr wx := hbx
      have hbq : Below wr.heap.size wr wx := hq (by kernel_rfl)
      clear hq
      refine ⟨rfl, ?_⟩
      intro K hK
      have e0 : a.tmps[72]?.getD undef = .bool true := hf.1
      go_simp
      exact hK _ _ rfl (stepR_no rfl (Below.refl _ _))
  · rintro f w9 hb9 hfin
    have hb9 : Below wr.heap.size wr w9 := hb9
    have S4 : f 4 = .bool true := hfin.2.2.2.2.2.2.2.2.2.2.2.2.2.2.2.2.2.2.2.2.1
    clear hfin
    simp only [frameOf, dstsOf, zipF, List.filterMap_cons, List.filterMap_nil, List.contains_cons, List.contains_nil, Nat.reduceBEq, Nat.reduceAdd, Bool.or_false, Bool.or_true, cond_true, cond_false]
    rw [S4]
    clear S4
    have HB9 := HwR.out.trans (hb9.mono HwR.out.size)
    go_wp2_with fail
    go_ret
    exact ⟨rfl, HB9⟩
set_option maxRecDepth 100000 in
set_option maxHeartbeats 8000000 in
theorem tr_yes {w : World} (v : Value) (t : List NodeD) (m : Nat) (hh : Nat) (h : TreeR w v t) (hok : TreeOk t) (hs : smallT t = true) (hr : rightT t = true) (hlen : t.length = 2 * hh + 1) (hN : leavesN t.length = hh + 1) (hi : ((m : Nat) : Int) ∈ rmemL t (hh + 1)) :
    Calls Try.prog 10 #[v, .int .i64 (m : Nat)] w fun e w' => e = .returned (.bool true) ∧ Below w.heap.size w w' := by
  have HAL := Lib.hid (alive17 w)
  have SM := fun (W : World) (hw : Below w.heap.size w W) => tsmall_any v t W (h.below hw (Nat.le_refl _))
  have TB := fun (W : World) (hw : Below w.heap.size w W) => h.below hw (Nat.le_refl _)
  rw [hs] at SM
  have HSM := Lib.hid SM
  have RR := fun (W : World) (hw : Below w.heap.size w W) => rtright_any _ t W (TB W hw) hs hok
  rw [hr] at RR
  have HRR := Lib.hid RR
  have TR := fun (W : World) (hw : Below w.heap.size w W) => tright_any _ t W (TB W hw) hs hok
  rw [hr] at TR
  have HTR := Lib.hid TR
  have SLZ := fun (W : World) => rsameLeaf_any noLeafD noLeafD #[.slice none 0 0, .slice none 0 0, .slice none 0 0, .int .u8 0, .slice none 0 0, .slice none 0 0] #[.slice none 0 0, .slice none 0 0, .slice none 0 0, .int .u8 0, .slice none 0 0, .slice none 0 0] W (zero_leaf W) (zero_leaf W) zero_leaf_ok zero_leaf_ok
  rw [sameLB_self] at SLZ
  have HSLZ := Lib.hid SLZ
  have hl40 := smallT_len hs
  have ME := fun (W : World) (hw : Below w.heap.size w W) => tmembers_yes v t W (TB W hw) hs hok hr
  rw [show memL t t.length = rmemL t (hh + 1) by rw [hlen]; exact mem_eq (right_placedT hr) hh (by omega)] at ME
  have RM := fun (W : World) (hw : Below w.heap.size w W) => rmembers_any v t hh W (TB W hw) hok hlen (by omega)
  have IS := fun (W : World) (hw : Below w.heap.size w W) => ris_any v t hh (m : Int) W (TB W hw) hok hlen (by omega)
  rw [decide_eq_true hi] at IS
  have HIS := Lib.hid IS
  have hmh := ((mem_iff t (hh + 1) m).1 hi).1
  have hmn : 2 * m < t.length := by omega
  have HLF := Lib.hid (fun (W : World) (hw : Below w.heap.size w W) => tleaf_yes v t hh m W (TB W hw) hs hok hr hlen hN hi)
  obtain ⟨M, hM⟩ : ∃ M, M = rmemL t (hh + 1) := ⟨_, rfl⟩
  rw [← hM] at ME RM
  have HME := Lib.hid ME
  have HRM := Lib.hid RM
  obtain ⟨ta, n0, rfl, hc, hc2⟩ := h.sl
  obtain ⟨b, off, cs, rfl, hbl, hnc, hra⟩ := h.node hmn
  obtain ⟨CT, hlcT, hcT, hsub⟩ := hnc.leaf
  have HLT := Lib.hid hlcT
  have HR60 := Lib.hid (show w.rangeAt b (off + 2 * m * 10 + 1) CT.toList from by
    intro j u hu
    have := hra (j + 1) u (hsub j u hu)
    rw [show off + 2 * m * 10 + (j + 1) = off + 2 * m * 10 + 1 + j by omega] at this
    exact this)
  have HI6 := Lib.hid (show (Try.prog.info? 42).map (·.size) = some CT.toList.length by rw [Array.length_toList, hcT]; kernel_rfl)
  have HOKL := Lib.hid (hok.nd (2 * m)).leaf
  obtain ⟨D, hD⟩ : ∃ D, D = nd t (2 * m) := ⟨_, rfl⟩
  rw [← hD] at HLF HLT HOKL
  obtain ⟨n, hn⟩ : ∃ n, n = t.length := ⟨_, rfl⟩
  rw [← hn] at HSM HRR HTR HME HRM HIS HLF hmn hl40 ⊢
  have hw : wrap64 (2 * (m : Int)) = 2 * (m : Int) := wrap_in17 (by omega)
  have hm2 : (2 * (m : Int)).toNat = 2 * m := by omega
  have hmI : 2 * (m : Int) < (n : Int) := by omega
  have hm100 : m ≤ 100 := by omega
  clear SM TB RR TR SLZ ME RM IS h hok hs hr hlen hN hi hM hn hc hl40 hmh hnc hra hsub hlcT hcT hD
  go_enter Try.func10, Try.ntmps10
  go_wp2_with fail
  refine (HAL.out).mono ?_
  rintro e w1 ⟨rfl, hb⟩
  have Hw1 := Lib.hid hb
  clear hb
  go_wp2_with fail
  refine (HSM.out w1 Hw1.out).mono ?_
  rintro e w2 ⟨rfl, hb⟩
  have Hw2 := Lib.hid (Hw1.out.trans (hb.mono Hw1.out.size))
  clear hb
  go_wp2_with fail
  refine (HRR.out w2 Hw2.out).mono ?_
  rintro e w3 ⟨rfl, hb⟩
  have Hw3 := Lib.hid (Hw2.out.trans (hb.mono Hw2.out.size))
  clear hb
  go_wp2_with fail
  refine (HLF.out w3 Hw3.out).mono ?_
  rintro e w4 ⟨c6, rfl, hlc, hb⟩
  have Hw4 := Lib.hid (Hw3.out.trans (hb.mono Hw3.out.size))
  clear hb
  obtain ⟨a1, c1, a2, c2, a3, c3, a4, c4, a5, c5, rfl, g1, g2, g3, g4, g5⟩ := hlc
  have HLC := Lib.hid (show LeafC w4 D.leaf #[.slice a1 D.leaf.box.length c1, .slice a2 D.leaf.sign.length c2, .slice a3 D.leaf.ident.length c3, .int .u8 (D.leaf.source : Nat), .slice a4 D.leaf.par.length c4, .slice a5 D.leaf.sig.length c5] from ⟨a1, c1, a2, c2, a3, c3, a4, c4, a5, c5, rfl, g1, g2, g3, g4, g5⟩)
  clear g1 g2 g3 g4 g5
  obtain ⟨l1, hl1⟩ : ∃ l, l = D.leaf.box.length := ⟨_, rfl⟩
  obtain ⟨l2, hl2⟩ : ∃ l, l = D.leaf.sign.length := ⟨_, rfl⟩
  obtain ⟨l3, hl3⟩ : ∃ l, l = D.leaf.ident.length := ⟨_, rfl⟩
  obtain ⟨l4, hl4⟩ : ∃ l, l = D.leaf.par.length := ⟨_, rfl⟩
  obtain ⟨l5, hl5⟩ : ∃ l, l = D.leaf.sig.length := ⟨_, rfl⟩
  obtain ⟨s, hsr⟩ : ∃ s, s = D.leaf.source := ⟨_, rfl⟩
  rw [← hl1, ← hl2, ← hl3, ← hl4, ← hl5, ← hsr] at HLC ⊢
  clear hl1 hl2 hl3 hl4 hl5 hsr
  have HBK := Lib.hid (Blk.new w4 42 #[.slice a1 l1 c1, .slice a2 l2 c2, .slice a3 l3 c3, .int .u8 (s : Nat), .slice a4 l4 c4, .slice a5 l5 c5])
  have H4A := Lib.hid ((Below.refl w4.heap.size w4).alloc (Nat.le_refl _) (.cells #[.slice a1 l1 c1, .slice a2 l2 c2, .slice a3 l3 c3, .int .u8 (s : Nat), .slice a4 l4 c4, .slice a5 l5 c5] 42))
  have Hw5 := Lib.hid (Hw4.out.alloc Hw4.out.size (.cells #[.slice a1 l1 c1, .slice a2 l2 c2, .slice a3 l3 c3, .int .u8 (s : Nat), .slice a4 l4 c4, .slice a5 l5 c5] 42))
  go_wp2_with fail
  generalize hwz : w4.alloc (.cells #[.slice a1 l1 c1, .slice a2 l2 c2, .slice a3 l3 c3, .int .u8 (s : Nat), .slice a4 l4 c4, .slice a5 l5 c5] 42) = w5 at HBK Hw5 H4A ⊢
  have HLC := Lib.hid (HLC.out.below H4A.out (Nat.le_refl _))
  generalize hgl : w4.heap.size = gl at HBK ⊢
  clear hwz hgl
  refine (HTR.out w5 Hw5.out).mono ?_
  rintro e w6 ⟨rfl, hb⟩
  have H46 := Lib.hid (HLC.out.below hb (Nat.le_refl _))
  have Hw6 := Lib.hid (Hw5.out.trans (hb.mono Hw5.out.size))
  have HBK6 := Lib.hid (HBK.out.below hb HBK.out.lt)
  clear hb HBK
  go_wp2_with fail
  refine (HME.out w6 Hw6.out).mono ?_
  rintro e w7 ⟨v7, rfl, hown, hb⟩
  have Hw7 := Lib.hid (Hw6.out.trans (hb.mono Hw6.out.size))
  have HBK7 := Lib.hid (HBK6.out.below hb HBK6.out.lt)
  have HM7 := Lib.hid hown.rd
  have H47 := Lib.hid (H46.out.below hb (Nat.le_refl _))
  obtain ⟨p1, p2, p3, rfl⟩ := slOf hown
  clear hb hown HBK6
  go_wp2_with fail
  refine (HRM.out w7 Hw7.out).mono ?_
  rintro e w8 ⟨v8, rfl, hown, hb⟩
  have Hw8 := Lib.hid (Hw7.out.trans (hb.mono Hw7.out.size))
  have HBK8 := Lib.hid (HBK7.out.below hb HBK7.out.lt)
  have HM8 := Lib.hid (HM7.out.below hb (Nat.le_refl _))
  have HN8 := Lib.hid hown.rd
  have H48 := Lib.hid (H47.out.below hb (Nat.le_refl _))
  obtain ⟨q1, q2, q3, rfl⟩ := slOf hown
  clear hb hown HBK7
  go_wp2_with fail
  refine (sameI_self' _ _ M w8 HM8.out HN8.out).mono ?_
  rintro e w9 ⟨rfl, n9, rfl⟩
  have hb := below_drewN' (Below.refl w8.heap.size w8) n9
  have Hw9 := Lib.hid (Hw8.out.trans (hb.mono Hw8.out.size))
  have HBK9 := Lib.hid (HBK8.out.below hb HBK8.out.lt)
  have H49 := Lib.hid (H48.out.below hb (Nat.le_refl _))
  generalize hwy : w8.drewN n9 = wy at Hw9 HBK9 H49 ⊢
  clear hb hwy HBK8 HM7 HM8 HN8
  go_wp2_with fail
  refine (HIS.out wy Hw9.out).mono ?_
  rintro e wr ⟨rfl, hb⟩
  have HwR := Lib.hid (Hw9.out.trans (hb.mono Hw9.out.size))
  have HBKr := HBK9.out.below hb HBK9.out.lt
  have H4r := Lib.hid (H49.out.below hb (Nat.le_refl _))
  clear hb HBK9
  have HBK := Lib.hid HBKr
  have HLCr := Lib.hid H4r.out
  obtain ⟨CS, hCS⟩ : ∃ C, C = (#[.slice a1 l1 c1, .slice a2 l2 c2, .slice a3 l3 c3, .int .u8 (s : Nat), .slice a4 l4 c4, .slice a5 l5 c5] : Array Value) := ⟨_, rfl⟩
  rw [← hCS] at HBK HLCr
  have HIN := Lib.hid (show (Try.prog.info? 42).map (·.size) = some CS.size by rw [hCS]; kernel_rfl)
  have HSL := Lib.hid (fun (W : World) (hw : Below wr.heap.size wr W) => (show Calls Try.prog 44 #[.agg CS, .agg CT] W fun e w' => e = .returned (.bool true) ∧ Below W.heap.size W w' from by
    have := rsameLeaf_any D.leaf D.leaf CS CT W (HLCr.out.below hw (Nat.le_refl _)) (HLT.out.below (HwR.out.trans (hw.mono HwR.out.size)) (Nat.le_refl _)) HOKL.out HOKL.out
    rw [sameLB_self] at this
    exact this))
  have HR6 := Lib.hid (rangeAt_below HR60.out HwR.out hbl)
  have hblr : b < wr.heap.size := Nat.lt_of_lt_of_le hbl HwR.out.size
  clear HBKr hCS
  go_wp2_with fail
  refine wp_region_rel [fun v _ => v = .bool true, fun v _ => v = .bool false, fun v _ => v = .bool false, fun v _ => v = undef, fun v _ => v = undef, fun v _ => v = undef, fun v _ => v = .bool false, fun v _ => v = .bool false, fun v _ => v = .bool true, fun v _ => v = .bool true, fun v _ => v = .agg CS, fun v _ => v = .slice (some ⟨b, off, none⟩) n n0, fun v _ => v = .int .i64 (m : Nat), fun v _ => v = .int .i64 (2 * (m : Int)), fun v _ => v = .pointer (some ⟨b, off + 2 * m * 10, none⟩), fun v _ => v = .pointer (some ⟨b, off + 2 * m * 10 + 1, none⟩), fun v _ => v = .agg CT, fun v _ => v = .bool true, fun v _ => v = .bool true, fun v _ => v = .bool true, fun v _ => v = .bool true]
    [true, true, true, true, true, true, true, true, true, true, true, true, true, true, true, true, true, true, true, true, true] (fun x => Below wr.heap.size wr x) (fun x y => Below x.heap.size x y) none (by kernel_rfl) ?_ (⟨rfl, rfl, rfl, Nat.le_refl _, fun _ _ => rfl⟩) (fun x y _ h => h) (fun x y hx hs => hx.trans (hs.mono hx.size)) (by kernel_rfl) (by kernel_rfl) ?_ ?_
  · exact keepsR_n (fun _ _ _ h _ _ => h) (keepsR_n (fun _ _ _ h _ _ => h) (keepsR_n (fun _ _ _ h _ _ => h) (keepsR_n (fun _ _ _ h _ _ => h) (keepsR_n (fun _ _ _ h _ _ => h) (keepsR_n (fun _ _ _ h _ _ => h) (keepsR_n (fun _ _ _ h _ _ => h) (keepsR_n (fun _ _ _ h _ _ => h) (keepsR_n (fun _ _ _ h _ _ => h) (keepsR_n (fun _ _ _ h _ _ => h) (keepsR_n (fun _ _ _ h _ _ => h) (keepsR_n (fun _ _ _ h _ _ => h) (keepsR_n (fun _ _ _ h _ _ => h) (keepsR_n (fun _ _ _ h _ _ => h) (keepsR_n (fun _ _ _ h _ _ => h) (keepsR_n (fun _ _ _ h _ _ => h) (keepsR_n (fun _ _ _ h _ _ => h) (keepsR_n (fun _ _ _ h _ _ => h) (keepsR_n (fun _ _ _ h _ _ => h) (keepsR_n (fun _ _ _ h _ _ => h) (keepsR_n (fun _ _ _ h _ _ => h) (keepsR_nil)))))))))))))))))))))
  · refine .cons (owed7_go ?_) (.cons (owed7_go ?_) (.cons (owed7_go ?_) (.cons (owed7_off rfl rfl rfl ?_) (.cons (owed7_off rfl rfl rfl ?_) (.cons (owed7_off rfl rfl rfl ?_) (.cons (owed7_go ?_) (.cons (owed7_go ?_) (.cons (owed7_go ?_) (.cons (owed7_go ?_) (.cons (owed7_go ?_) (.cons (owed7_go ?_) (.cons (owed7_go ?_) (.cons (owed7_go ?_) (.cons (owed7_go ?_) (.cons (owed7_go ?_) (.cons (owed7_go ?_) (.cons (owed7_go ?_) (.cons (owed7_go ?_) (.cons (owed7_go ?_) (.cons (owed7_go ?_) (.nil)))))))))))))))))))))
    · intro a wx hbx hq ho hf
      have hbx : Below wr.heap.size wr wx := hbx
      have hbq : Below wr.heap.size wr wx := hq (by kernel_rfl)
      clear hq
      refine ⟨rfl, ?_⟩
      intro K hK
      have e0 : a.tmps[7]?.getD undef = .bool true := ho 7 (by kernel_rfl)
      go_simp
      exact hK _ _ rfl (stepR_no rfl (Below.refl _ _))
    · intro a wx hbx hq ho hf
      have hbx : Below wr.heap.size wr wx := hbx
      have hbq : Below wr.heap.size wr wx := hq (by kernel_rfl)
      clear hq
      refine ⟨rfl, ?_⟩
      intro K hK
      have e0 : a.tmps[53]?.getD undef = .bool true := hf.1
      go_simp
      exact hK _ _ rfl (stepR_no rfl (Below.refl _ _))
    · intro a wx hbx hq ho hf
      have hbx : Below wr.heap.size wr wx := hbx
      have hbq : Below wr.heap.size wr wx := hq (by kernel_rfl)
      clear hq
      refine ⟨rfl, ?_⟩
      intro K hK
      have e0 : a.tmps[54]?.getD undef = .bool false := hf.1
      go_simp
      exact hK _ _ rfl (stepR_no rfl (Below.refl _ _))
    · intro a wx hf
      exact wanted_off7 (j := 2) (b := true) (s := 55) rfl rfl rfl (hf.1) (by first | (simp; done) | (simp [undef]; done) | (intro h; cases h))
    · intro a wx hf
      exact wanted_off7 (j := 2) (b := true) (s := 55) rfl rfl rfl (hf.1) (by first | (simp; done) | (simp [undef]; done) | (intro h; cases h))
    · intro a wx hf
      exact wanted_off7 (j := 2) (b := true) (s := 55) rfl rfl rfl (hf.2.2.1) (by first | (simp; done) | (simp [undef]; done) | (intro h; cases h))
    · intro a wx hbx hq ho hf
      have hbx : Below wr.heap.size wr wx := hbx
      have hbq : Below wr.heap.size wr wx := hq (by kernel_rfl)
      clear hq
      refine ⟨rfl, ?_⟩
      intro K hK
      have e0 : a.tmps[55]?.getD undef = .bool false := hf.1
      go_simp
      exact hK _ _ rfl (stepR_no rfl (Below.refl _ _))
    · intro a wx hbx hq ho hf
      have hbx : Below wr.heap.size wr wx := hbx
      have hbq : Below wr.heap.size wr wx := hq (by kernel_rfl)
      clear hq
      refine ⟨rfl, ?_⟩
      intro K hK
      have e0 : a.tmps[59]?.getD undef = .bool false := hf.1
      go_simp
      exact hK _ _ rfl (stepR_no rfl (Below.refl _ _))
    · intro a wx hbx hq ho hf
      have hbx : Below wr.heap.size wr wx := hbx
      have hbq : Below wr.heap.size wr wx := hq (by kernel_rfl)
      clear hq
      refine ⟨wanted_slot (j := 7) (b := false) (s := 60) rfl rfl rfl (hf.1), ?_⟩
      intro K hK
      have e0 : a.tmps[7]?.getD undef = .bool true := ho 7 (by kernel_rfl)
      go_simp
      exact hK _ _ rfl (stepR_no rfl (Below.refl _ _))
    · intro a wx hbx hq ho hf
      have hbx : Below wr.heap.size wr wx := hbx
      have hbq : Below wr.heap.size wr wx := hq (by kernel_rfl)
      clear hq
      refine ⟨wanted_slot (j := 7) (b := false) (s := 60) rfl rfl rfl (hf.2.1), ?_⟩
      intro K hK
      have e0 : a.tmps[61]?.getD undef = .bool true := hf.1
      go_simp
      exact hK _ _ rfl (stepR_no rfl (Below.refl _ _))
    · intro a wx hbx hq ho hf
      have hbx : Below wr.heap.size wr wx := hbx
      have hbq : Below wr.heap.size wr wx := hq (by kernel_rfl)
      clear hq
      refine ⟨wanted_slot (j := 9) (b := true) (s := 62) rfl rfl rfl (hf.1), ?_⟩
      intro K hK
      have e0 : a.tmps[6]?.getD undef = .pointer (some ⟨gl, 0, none⟩) := ho 6 (by kernel_rfl)
      exact wp_load_row 42 (.tmp 6) rfl _ (evs e0) _ _ (0, 0) _ (HBK.out.below hbx HBK.out.lt) Try.underlying42 rfl (HIN.out) (hK _ _ rfl (stepR_no rfl (Below.refl _ _)))
    · intro a wx hbx hq ho hf
      have hbx : Below wr.heap.size wr wx := hbx
      have hbq : Below wr.heap.size wr wx := hq (by kernel_rfl)
      clear hq
      refine ⟨wanted_slot (j := 9) (b := true) (s := 62) rfl rfl rfl (hf.1), ?_⟩
      intro K hK
      have e0 : a.tmps[0]?.getD undef = .slice (some ⟨b, off, none⟩) n n0 := ho 0 (by kernel_rfl)
      go_simp
      exact hK _ _ rfl (stepR_no rfl (Below.refl _ _))
    · intro a wx hbx hq ho hf
      have hbx : Below wr.heap.size wr wx := hbx
      have hbq : Below wr.heap.size wr wx := hq (by kernel_rfl)
      clear hq
      refine ⟨wanted_slot (j := 9) (b := true) (s := 62) rfl rfl rfl (hf.1), ?_⟩
      intro K hK
      have e0 : a.tmps[1]?.getD undef = .int .i64 (m : Nat) := ho 1 (by kernel_rfl)
      go_simp
      exact hK _ _ rfl (stepR_no rfl (Below.refl _ _))
    · intro a wx hbx hq ho hf
      have hbx : Below wr.heap.size wr wx := hbx
      have hbq : Below wr.heap.size wr wx := hq (by kernel_rfl)
      clear hq
      refine ⟨wanted_slot (j := 9) (b := true) (s := 62) rfl rfl rfl (hf.2.1), ?_⟩
      intro K hK
      have e0 : a.tmps[65]?.getD undef = .int .i64 (m : Nat) := hf.1
      have gw1 : IntKind.i64.wrap ((2 * (m : Int))) = (2 * (m : Int)) := by rw [IntKind.wrap_i64]; omega
      have gw2 : 2 * (m : Int) = (2 * (m : Int)) := by omega
      have gw3 : IntKind.i64.wrap (2 * (m : Int)) = (2 * (m : Int)) := by rw [gw2]; exact gw1
      go_simp
      exact hK _ _ rfl (stepR_no rfl (Below.refl _ _))
    · intro a wx hbx hq ho hf
      have hbx : Below wr.heap.size wr wx := hbx
      have hbq : Below wr.heap.size wr wx := hq (by kernel_rfl)
      clear hq
      refine ⟨wanted_slot (j := 9) (b := true) (s := 62) rfl rfl rfl (hf.2.2.1), ?_⟩
      intro K hK
      have e0 : a.tmps[64]?.getD undef = .slice (some ⟨b, off, none⟩) n n0 := hf.1
      have e1 : a.tmps[66]?.getD undef = .int .i64 (2 * (m : Int)) := hf.2.1
      have hm9 := hm2
      go_simp
      exact hK _ _ rfl (stepR_no rfl (Below.refl _ _))
    · intro a wx hbx hq ho hf
      have hbx : Below wr.heap.size wr wx := hbx
      have hbq : Below wr.heap.size wr wx := hq (by kernel_rfl)
      clear hq
      refine ⟨wanted_slot (j := 9) (b := true) (s := 62) rfl rfl rfl (hf.2.1), ?_⟩
      intro K hK
      have e0 : a.tmps[67]?.getD undef = .pointer (some ⟨b, off + 2 * m * 10, none⟩) := hf.1
      go_simp
      exact hK _ _ rfl (stepR_no rfl (Below.refl _ _))
    · intro a wx hbx hq ho hf
      have hbx : Below wr.heap.size wr wx := hbx
      have hbq : Below wr.heap.size wr wx := hq (by kernel_rfl)
      clear hq
      refine ⟨wanted_slot (j := 9) (b := true) (s := 62) rfl rfl rfl (hf.2.1), ?_⟩
      intro K hK
      have e0 : a.tmps[68]?.getD undef = .pointer (some ⟨b, off + 2 * m * 10 + 1, none⟩) := hf.1
      exact wp_load_mid 42 (.tmp 68) rfl b (off + 2 * m * 10 + 1) (evs e0) _ _ (rangeAt_below HR6.out hbx hblr) Try.underlying42 rfl (HI6.out) (hK _ _ rfl (stepR_no rfl (Below.refl _ _)))
    · intro a wx hbx hq ho hf
      have hbx : Below wr.heap.size wr wx := hbx
      have hbq : Below wr.heap.size wr wx := hq (by kernel_rfl)
      clear hq
      refine ⟨wanted_slot (j := 9) (b := true) (s := 62) rfl rfl rfl (hf.2.2.1), ?_⟩
      intro K hK
      have e0 : a.tmps[63]?.getD undef = .agg CS := hf.1
      have e1 : a.tmps[69]?.getD undef = .agg CT := hf.2.1
      go_simp
      refine (HSL.out wx hbx).mono ?_
      rintro e w2 ⟨rfl, hb2⟩
      exact hK _ _ rfl (stepR_no rfl hb2)
    · intro a wx hbx hq ho hf
      have hbx : Below wr.heap.size wr wx := hbx
      have hbq : Below wr.heap.size wr wx := hq (by kernel_rfl)
      clear hq
      refine ⟨wanted_slot (j := 7) (b := false) (s := 60) rfl rfl rfl (hf.2.2.1), ?_⟩
      intro K hK
      have e0 : a.tmps[62]?.getD undef = .bool true := hf.1
      have e1 : a.tmps[70]?.getD undef = .bool true := hf.2.1
      go_simp
      exact hK _ _ rfl (stepR_no rfl (Below.refl _ _))
    · intro a wx hbx hq ho hf
      have hbx : Below wr.heap.size wr wx := hbx
      have hbq : Below wr.heap.size wr wx := hq (by kernel_rfl)
      clear hq
      refine ⟨rfl, ?_⟩
      intro K hK
      have e0 : a.tmps[60]?.getD undef = .bool false := hf.1
      have e1 : a.tmps[71]?.getD undef = .bool true := hf.2.1
      go_simp
      exact hK _ _ rfl (stepR_no rfl (Below.refl _ _))
    · intro a wx hbx hq ho hf
      have hbx : Below wr.heap.size wr wx := hbx
      have hbq : Below wr.heap.size wr wx := hq (by kernel_rfl)
      clear hq
      refine ⟨rfl, ?_⟩
      intro K hK
      have e0 : a.tmps[72]?.getD undef = .bool true := hf.1
      go_simp
      exact hK _ _ rfl (stepR_no rfl (Below.refl _ _))
  · rintro f w9 hb9 hfin
    have hb9 : Below wr.heap.size wr w9 := hb9
    have S4 : f 4 = .bool true := hfin.2.2.2.2.2.2.2.2.2.2.2.2.2.2.2.2.2.2.2.2.1
    clear hfin
    simp only [frameOf, dstsOf, zipF, List.filterMap_cons, List.filterMap_nil, List.contains_cons, List.contains_nil, Nat.reduceBEq, Nat.reduceAdd, Bool.or_false, Bool.or_true, cond_true, cond_false]
    rw [S4]
    clear S4
    have HB9 := HwR.out.trans (hb9.mono HwR.out.size)
    go_wp2_with fail
    go_ret
    exact ⟨rfl, HB9⟩
theorem treeRight_walk {w : World} (v : Value) (t : List NodeD) (i : Int) (hop : TreeR w v t ∧ TreeOk t) (hib : -9223372036854775808 ≤ i ∧ i ≤ 9223372036854775807) :
    Calls Try.prog 10 #[v, .int .i64 i] w fun e w' => e = .returned (.bool true) ∧ Below w.heap.size w w' := by
  obtain ⟨h, hok⟩ := hop
  cases hs : smallT t with
  | false => exact tr_small v t i h hs
  | true =>
    cases hr : rightT t with
    | false => exact tr_no v t i h hok hs hr
    | true =>
      obtain ⟨hh, hlen, hN⟩ := right_half hr
      by_cases hi : i ∈ rmemL t (hh + 1)
      · by_cases h0 : i < 0
        · exact absurd hi (mem_neg t (hh + 1) h0)
        · obtain ⟨m, rfl⟩ : ∃ m : Nat, i = (m : Int) := ⟨i.toNat, by omega⟩
          exact tr_yes v t m hh h hok hs hr hlen hN hi
      · exact tr_none v t i hh h hok hs hr hlen hN hib hi
end Go.Proofs.Ytohldijomcljkaa
