/- Walks: scalar's once, Neg, Add. -/
import Derived.Test.YtkihcngllhjabaaScAdd
import Derived.Test.YtkihcngllhjabaaOnceSt
namespace Go.Proofs.Ytkihcngllhjabaa
open Go.RowKit ScM
set_option linter.unusedVariables false
theorem evs {a : Act} {s : Nat} {v : Value} (h : a.tmps[s]?.getD undef = v) : a.eval (.tmp s) = v := by
  first
  | exact h
  | simpa [Act.eval, Array.getD_eq_getD_getElem?] using h
/-- a struct's value of known cells -/
theorem wpList_bld {P : Program} {w : World} {ops : Array Oper} {rest : List Oper} {o : Oper} {a : Act} {Q : Exit → Act → World → Prop} (hgd : o.guard = none) (t : TypeId) (ps : Array (Nat × Operand)) (ho : o.op = .build t ps)
    (cs : Array Value) (hf : P.built t (ps.map fun (i, x) => (i, a.eval x)).toList = some cs) (h : wpList P ops Q rest (a.put o.dst (.agg cs)) w) : wpList P ops Q (o :: rest) a w := by
  have k := wpList_build (P := P) (w := w) (ops := ops) (rest := rest) (a := a) (Q := Q) hgd t ps ho (by rw [hf]; rfl)
  rw [hf] at k
  exact k h
theorem L_lt : L < P256 := by unfold L P256; omega
theorem dif_lt (a b : Nat) : dif a b < P256 := Nat.mod_lt _ (by decide)
theorem sm_lt (a b : Nat) : sm a b < P256 := Nat.mod_lt _ (by decide)
theorem bor4 (a b : Nat) : bor a b 4 = if a < b then 1 else 0 := rfl
set_option maxRecDepth 100000 in
set_option maxHeartbeats 4000000 in
theorem sonce_any (x : Nat) (w : World) (hx : x < 2 * L) :
    Calls Try.prog 66 #[.agg (w4 x)] w fun e w' => e = .returned (.agg (w4 (x % L))) ∧ Below w.heap.size w w' := by
  have hxP : x < P256 := by have : 2 * L < P256 := by unfold L P256; omega
                            omega
  have OD := fun w => sorder_any w
  have SB := fun w => ssub_any x L w hxP L_lt
  rw [bor4] at SB
  obtain ⟨b, hb⟩ : ∃ b, b = if x < L then 1 else 0 := ⟨_, rfl⟩
  rw [← hb] at SB
  obtain ⟨d, hd⟩ : ∃ d, d = dif x L := ⟨_, rfl⟩
  rw [← hd] at SB
  have hr : x % L = if x < L then x else d := by
    rw [hd]; unfold dif L at *; split <;> omega
  rw [hr]
  clear hr hd
  have HOD := Lib.hid OD
  have HSB := Lib.hid SB
  obtain ⟨W1, hW1⟩ : ∃ W1, W1 = (w.alloc (.cells (w4 x) 25)).alloc (.cells #[.int .u64 0, .int .u64 0, .int .u64 0, .int .u64 0] 25) := ⟨_, rfl⟩
  obtain ⟨k1, k2, k3⟩ := blk2 w (w4 x) #[.int .u64 0, .int .u64 0, .int .u64 0, .int .u64 0] 25 25
  rw [← hW1] at k1 k2 k3
  have K1 := Lib.hid k1
  have K2 := Lib.hid k2
  have K3 := Lib.hid k3
  have HW1 := Lib.hid hW1
  have HBQ := Lib.hid hb
  clear k1 k2 k3 hW1 OD SB hx hxP hb
  go_enter Try.func66, Try.ntmps66
  go_wp2_with fail
  rw [← HW1.out]
  refine wp_region_store [fun v _ => v = .agg (w4 x), fun v _ => v = .agg (w4 L), fun v _ => v = .tuple #[.agg (w4 d), .int .u64 (b : Nat)], fun v _ => v = .tuple #[.agg (w4 d), .int .u64 (b : Nat)], fun v _ => v = .agg (w4 d), fun v _ => v = .int .u64 (b : Nat), fun v w' => ∃ g, v = .pointer (some ⟨g, 0, none⟩) ∧ W1.heap.size ≤ g ∧ Blk w' g 25 #[.int .u64 0, .int .u64 0, .int .u64 0, .int .u64 0], fun v w' => ∃ g, v = .pointer (some ⟨g, 0, none⟩) ∧ W1.heap.size ≤ g ∧ Blk w' g 25 (w4 d), fun v _ => v = .int .u64 (b : Nat)]
    [false, false, false, false, false, false, false, true, true] [true, true, true, true, true, true, true, false, true] [true, true, true, true, true, true, false, false, true]
    (by kernel_rfl) ?_ (by kernel_rfl) (by kernel_rfl) ?_ (by kernel_rfl) ?_ ?_
  · exact keeps_cons (fun _ _ _ h _ => h) (keeps_cons (fun _ _ _ h _ => h) (keeps_cons (fun _ _ _ h _ => h) (keeps_cons (fun _ _ _ h _ => h) (keeps_cons (fun _ _ _ h _ => h) (keeps_cons (fun _ _ _ h _ => h) (keeps_cons (fun v w1 w2 h hb => let ⟨g, e, h1, h2⟩ := h; ⟨g, e, h1, h2.below hb h2.lt⟩) (keeps_cons (fun v w1 w2 h hb => let ⟨g, e, h1, h2⟩ := h; ⟨g, e, h1, h2.below hb h2.lt⟩) (keeps_cons (fun _ _ _ h _ => h) (keeps_nil)))))))))
  · exact pures_t (fun _ _ _ h => h) (pures_t (fun _ _ _ h => h) (pures_t (fun _ _ _ h => h) (pures_t (fun _ _ _ h => h) (pures_t (fun _ _ _ h => h) (pures_t (fun _ _ _ h => h) (pures_f (pures_f (pures_t (fun _ _ _ h => h) (pures_nil)))))))))
  · refine .cons (owed3_go ?_) (.cons (owed3_go ?_) (.cons (owed3_go ?_) (.cons (owed3_go ?_) (.cons (owed3_go ?_) (.cons (owed3_go ?_) (.cons (owed3_go ?_) (.cons (owed3_go ?_) (.cons (owed3_go ?_) (.nil)))))))))
    · intro a wx hbx ho hf
      refine ⟨rfl, ?_⟩
      intro K hK
      have e0 : a.tmps[1]?.getD undef = .pointer (some ⟨w.heap.size, 0, none⟩) := ho 1 (by kernel_rfl)
      exact wp_load_row 25 (.tmp 1) rfl _ (evs e0) _ (w4 x) (0, 0) _ (K1.out.below hbx K1.out.lt) Try.underlying25 rfl (by kernel_rfl) (hK _ _ rfl (Below.refl _ _))
    · intro a wx hbx ho hf
      refine ⟨rfl, ?_⟩
      intro K hK
      go_simp
      refine (HOD.out wx).mono ?_
      rintro e w2 ⟨rfl, hb2⟩
      exact hK _ _ rfl hb2
    · intro a wx hbx ho hf
      refine ⟨rfl, ?_⟩
      intro K hK
      have e0 : a.tmps[6]?.getD undef = .agg (w4 x) := hf.1
      have e1 : a.tmps[7]?.getD undef = .agg (w4 L) := hf.2.1
      go_simp
      refine (HSB.out wx).mono ?_
      rintro e w2 ⟨rfl, hb2⟩
      exact hK _ _ rfl hb2
    · intro a wx hbx ho hf
      refine ⟨rfl, ?_⟩
      intro K hK
      have e0 : a.tmps[8]?.getD undef = .tuple #[.agg (w4 d), .int .u64 (b : Nat)] := hf.1
      go_simp
      exact hK _ _ rfl (Below.refl _ _)
    · intro a wx hbx ho hf
      refine ⟨rfl, ?_⟩
      intro K hK
      have e0 : a.tmps[5]?.getD undef = .tuple #[.agg (w4 d), .int .u64 (b : Nat)] := hf.1
      go_simp
      exact hK _ _ rfl (Below.refl _ _)
    · intro a wx hbx ho hf
      refine ⟨rfl, ?_⟩
      intro K hK
      have e0 : a.tmps[5]?.getD undef = .tuple #[.agg (w4 d), .int .u64 (b : Nat)] := hf.1
      go_simp
      exact hK _ _ rfl (Below.refl _ _)
    · intro a wx hbx ho hf
      refine ⟨rfl, ?_⟩
      intro K hK
      go_simp
      exact hK _ _ ⟨_, rfl, hbx.size, Blk.new wx _ _⟩ ((Below.refl _ _).alloc (Nat.le_refl _) _)
    · intro a wx hbx ho hf
      refine ⟨rfl, ?_⟩
      intro K hK
      obtain ⟨g, hg, hgW, hblk⟩ : ∃ g, a.tmps[3]?.getD undef = .pointer (some ⟨g, 0, none⟩) ∧ W1.heap.size ≤ g ∧ Blk wx g 25 #[.int .u64 0, .int .u64 0, .int .u64 0, .int .u64 0] := hf.1
      have ev2 : a.tmps[9]?.getD undef = .agg (w4 d) := hf.2.1
      refine wp_store_row 25 (.tmp 3) (.tmp 9) rfl g (w4 d) (evs hg) (evs ev2) _ _ hblk (by kernel_rfl) rfl (by rw [← Array.all_toList]; rfl) ?_
      exact hK _ _ ⟨g, hg, hgW, setRow_heap wx g _ _ _ _ hblk⟩ ⟨rfl, rfl, rfl, by simp, fun i hi => setRow_other wx g i _ (Nat.ne_of_lt (Nat.lt_of_lt_of_le hi hgW))⟩
    · intro a wx hbx ho hf
      refine ⟨rfl, ?_⟩
      intro K hK
      have e0 : a.tmps[10]?.getD undef = .int .u64 (b : Nat) := hf.1
      go_simp
      exact hK _ _ rfl (Below.refl _ _)
  · rintro f w9 hb9 hfin
    have hfe : f 4 = .int .u64 (b : Nat) := hfin.2.2.2.2.2.2.2.2.1
    obtain ⟨g, hg, hgW, hblk⟩ : ∃ g, f 3 = .pointer (some ⟨g, 0, none⟩) ∧ W1.heap.size ≤ g ∧ Blk w9 g 25 (w4 d) := hfin.2.2.2.2.2.2.2.1
    clear hfin
    simp only [frameOf, dstsOf, zipF, List.filterMap_cons, List.filterMap_nil, List.contains_cons, List.contains_nil, Nat.reduceBEq, Nat.reduceAdd, Bool.or_false, Bool.or_true, cond_true, cond_false]
    rw [hfe, hg]
    have J1 := Lib.hid (K1.out.below hb9 K1.out.lt)
    have J2 := Lib.hid (K2.out.below hb9 K2.out.lt)
    have JG := Lib.hid hblk
    have JB := Lib.hid (K3.out.trans (hb9.mono K3.out.size))
    clear hb9 hblk hfe hg hgW
    have hb := HBQ.out
    by_cases hxl : x < L
    · rw [if_pos hxl] at hb
      have HXL := Lib.hid hxl
      subst hb
      clear hxl
      go_wp2_with (first
        | (refine wpList_load_at rfl 25 (.tmp 1) rfl w.heap.size rfl 25 (w4 x) (0, 0) _ J1.out Try.underlying25 rfl (by kernel_rfl) ?_)
        | (refine wpList_store_blk rfl 25 (.tmp 2) (.tmp 14) rfl (w.heap.size + 1) (w4 x) rfl rfl _ _ J2.out (by kernel_rfl) rfl rfl ?_))
      rintro w2 hk2 hb2 - -
      have JK := Lib.hid hk2
      have JD := Lib.hid (JB.out.trans (hb2 _ (by omega)))
      clear hk2 hb2
      go_wp2_with fail
      exact bodyPost_ret (v := .agg (w4 x)) (results_row1 Try.results66 _ _ (w.heap.size + 1) _ _ _ rfl JK.out Try.underlying25 rfl (by kernel_rfl)) rfl ⟨by first | rfl | rw [if_pos HXL.out], JD.out⟩
    · rw [if_neg hxl] at hb
      have HXL := Lib.hid hxl
      subst hb
      clear hxl
      go_wp2_with (first
        | (refine wpList_load_at rfl 25 (.tmp 3) rfl g rfl 25 (w4 d) (0, 0) _ JG.out Try.underlying25 rfl (by kernel_rfl) ?_)
        | (refine wpList_store_blk rfl 25 (.tmp 2) (.tmp 13) rfl (w.heap.size + 1) (w4 d) rfl rfl _ _ J2.out (by kernel_rfl) rfl rfl ?_))
      rintro w2 hk2 hb2 - -
      have JK := Lib.hid hk2
      have JD := Lib.hid (JB.out.trans (hb2 _ (by omega)))
      clear hk2 hb2
      go_wp2_with fail
      exact bodyPost_ret (v := .agg (w4 d)) (results_row1 Try.results66 _ _ (w.heap.size + 1) _ _ _ rfl JK.out Try.underlying25 rfl (by kernel_rfl)) rfl ⟨by first | rfl | rw [if_neg HXL.out], JD.out⟩
set_option maxRecDepth 100000 in
set_option maxHeartbeats 4000000 in
theorem sneg_any (x : Nat) (w : World) (hx : x < L) :
    Calls Try.prog 21 #[.agg (w4 x)] w fun e w' => e = .returned (.agg (w4 ((L - x) % L))) ∧ Below w.heap.size w w' := by
  have hxP : x < P256 := Nat.lt_trans hx L_lt
  have OD := fun w => sorder_any w
  have SB := fun w => ssub_any L x w L_lt hxP
  have hd0 : dif L x = L - x := by unfold dif L at *; omega
  rw [hd0] at SB
  obtain ⟨b, hb⟩ : ∃ b, b = bor L x 4 := ⟨_, rfl⟩
  rw [← hb] at SB
  obtain ⟨d, hd⟩ : ∃ d, d = L - x := ⟨_, rfl⟩
  rw [← hd] at SB ⊢
  have ON := fun w => sonce_any d w (by unfold L at *; omega)
  obtain ⟨r, hr⟩ : ∃ r, r = d % L := ⟨_, rfl⟩
  rw [← hr] at ON ⊢
  have HOD := Lib.hid OD
  have HSB := Lib.hid SB
  have HON := Lib.hid ON
  obtain ⟨W1, hW1⟩ : ∃ W1, W1 = (w.alloc (.cells (w4 x) 27)).alloc (.cells #[.int .u64 0, .int .u64 0, .int .u64 0, .int .u64 0] 27) := ⟨_, rfl⟩
  obtain ⟨k1, k2, k3⟩ := blk2 w (w4 x) #[.int .u64 0, .int .u64 0, .int .u64 0, .int .u64 0] 27 27
  rw [← hW1] at k1 k2 k3
  have K1 := Lib.hid k1
  have K2 := Lib.hid k2
  have K3 := Lib.hid k3
  have HW1 := Lib.hid hW1
  clear k1 k2 k3 hW1 OD SB ON hx hxP hb hd0 hd hr
  go_enter Try.func21, Try.ntmps21
  go_wp2_with fail
  rw [← HW1.out]
  refine wp_region_store [fun v _ => v = .agg (w4 L), fun v _ => v = .pointer (some ⟨w.heap.size, 0, none⟩), fun v _ => v = .agg (w4 x), fun v _ => v = .tuple #[.agg (w4 d), .int .u64 (b : Nat)], fun v _ => v = .tuple #[.agg (w4 d), .int .u64 (b : Nat)], fun v _ => v = .agg (w4 d), fun v _ => v = .int .u64 (b : Nat), fun v w' => ∃ g, v = .pointer (some ⟨g, 0, none⟩) ∧ W1.heap.size ≤ g ∧ Blk w' g 25 #[.int .u64 0, .int .u64 0, .int .u64 0, .int .u64 0], fun v w' => ∃ g, v = .pointer (some ⟨g, 0, none⟩) ∧ W1.heap.size ≤ g ∧ Blk w' g 25 (w4 d), fun v _ => v = .int .u64 (b : Nat)]
    [false, false, false, false, false, false, false, false, true, true] [true, true, true, true, true, true, true, true, false, true] [true, true, true, true, true, true, true, false, false, true]
    (by kernel_rfl) ?_ (by kernel_rfl) (by kernel_rfl) ?_ (by kernel_rfl) ?_ ?_
  · exact keeps_cons (fun _ _ _ h _ => h) (keeps_cons (fun _ _ _ h _ => h) (keeps_cons (fun _ _ _ h _ => h) (keeps_cons (fun _ _ _ h _ => h) (keeps_cons (fun _ _ _ h _ => h) (keeps_cons (fun _ _ _ h _ => h) (keeps_cons (fun _ _ _ h _ => h) (keeps_cons (fun v w1 w2 h hb => let ⟨g, e, h1, h2⟩ := h; ⟨g, e, h1, h2.below hb h2.lt⟩) (keeps_cons (fun v w1 w2 h hb => let ⟨g, e, h1, h2⟩ := h; ⟨g, e, h1, h2.below hb h2.lt⟩) (keeps_cons (fun _ _ _ h _ => h) (keeps_nil))))))))))
  · exact pures_t (fun _ _ _ h => h) (pures_t (fun _ _ _ h => h) (pures_t (fun _ _ _ h => h) (pures_t (fun _ _ _ h => h) (pures_t (fun _ _ _ h => h) (pures_t (fun _ _ _ h => h) (pures_t (fun _ _ _ h => h) (pures_f (pures_f (pures_t (fun _ _ _ h => h) (pures_nil))))))))))
  · refine .cons (owed3_go ?_) (.cons (owed3_go ?_) (.cons (owed3_go ?_) (.cons (owed3_go ?_) (.cons (owed3_go ?_) (.cons (owed3_go ?_) (.cons (owed3_go ?_) (.cons (owed3_go ?_) (.cons (owed3_go ?_) (.cons (owed3_go ?_) (.nil))))))))))
    · intro a wx hbx ho hf
      refine ⟨rfl, ?_⟩
      intro K hK
      go_simp
      refine (HOD.out wx).mono ?_
      rintro e w2 ⟨rfl, hb2⟩
      exact hK _ _ rfl hb2
    · intro a wx hbx ho hf
      refine ⟨rfl, ?_⟩
      intro K hK
      have e0 : a.tmps[1]?.getD undef = .pointer (some ⟨w.heap.size, 0, none⟩) := ho 1 (by kernel_rfl)
      go_simp
      exact hK _ _ rfl (Below.refl _ _)
    · intro a wx hbx ho hf
      refine ⟨rfl, ?_⟩
      intro K hK
      have e0 : a.tmps[7]?.getD undef = .pointer (some ⟨w.heap.size, 0, none⟩) := hf.1
      exact wp_load_row 25 (.tmp 7) rfl _ (evs e0) _ (w4 x) (0, 0) _ (K1.out.below hbx K1.out.lt) Try.underlying25 rfl (by kernel_rfl) (hK _ _ rfl (Below.refl _ _))
    · intro a wx hbx ho hf
      refine ⟨rfl, ?_⟩
      intro K hK
      have e0 : a.tmps[6]?.getD undef = .agg (w4 L) := hf.1
      have e1 : a.tmps[8]?.getD undef = .agg (w4 x) := hf.2.1
      go_simp
      refine (HSB.out wx).mono ?_
      rintro e w2 ⟨rfl, hb2⟩
      exact hK _ _ rfl hb2
    · intro a wx hbx ho hf
      refine ⟨rfl, ?_⟩
      intro K hK
      have e0 : a.tmps[9]?.getD undef = .tuple #[.agg (w4 d), .int .u64 (b : Nat)] := hf.1
      go_simp
      exact hK _ _ rfl (Below.refl _ _)
    · intro a wx hbx ho hf
      refine ⟨rfl, ?_⟩
      intro K hK
      have e0 : a.tmps[5]?.getD undef = .tuple #[.agg (w4 d), .int .u64 (b : Nat)] := hf.1
      go_simp
      exact hK _ _ rfl (Below.refl _ _)
    · intro a wx hbx ho hf
      refine ⟨rfl, ?_⟩
      intro K hK
      have e0 : a.tmps[5]?.getD undef = .tuple #[.agg (w4 d), .int .u64 (b : Nat)] := hf.1
      go_simp
      exact hK _ _ rfl (Below.refl _ _)
    · intro a wx hbx ho hf
      refine ⟨rfl, ?_⟩
      intro K hK
      go_simp
      exact hK _ _ ⟨_, rfl, hbx.size, Blk.new wx _ _⟩ ((Below.refl _ _).alloc (Nat.le_refl _) _)
    · intro a wx hbx ho hf
      refine ⟨rfl, ?_⟩
      intro K hK
      obtain ⟨g, hg, hgW, hblk⟩ : ∃ g, a.tmps[3]?.getD undef = .pointer (some ⟨g, 0, none⟩) ∧ W1.heap.size ≤ g ∧ Blk wx g 25 #[.int .u64 0, .int .u64 0, .int .u64 0, .int .u64 0] := hf.1
      have ev2 : a.tmps[10]?.getD undef = .agg (w4 d) := hf.2.1
      refine wp_store_row 25 (.tmp 3) (.tmp 10) rfl g (w4 d) (evs hg) (evs ev2) _ _ hblk (by kernel_rfl) rfl (by rw [← Array.all_toList]; rfl) ?_
      exact hK _ _ ⟨g, hg, hgW, setRow_heap wx g _ _ _ _ hblk⟩ ⟨rfl, rfl, rfl, by simp, fun i hi => setRow_other wx g i _ (Nat.ne_of_lt (Nat.lt_of_lt_of_le hi hgW))⟩
    · intro a wx hbx ho hf
      refine ⟨rfl, ?_⟩
      intro K hK
      have e0 : a.tmps[11]?.getD undef = .int .u64 (b : Nat) := hf.1
      go_simp
      exact hK _ _ rfl (Below.refl _ _)
  · rintro f w9 hb9 hfin
    have hfe : f 4 = .int .u64 (b : Nat) := hfin.2.2.2.2.2.2.2.2.2.1
    obtain ⟨g, hg, hgW, hblk⟩ : ∃ g, f 3 = .pointer (some ⟨g, 0, none⟩) ∧ W1.heap.size ≤ g ∧ Blk w9 g 25 (w4 d) := hfin.2.2.2.2.2.2.2.2.1
    clear hfin
    simp only [frameOf, dstsOf, zipF, List.filterMap_cons, List.filterMap_nil, List.contains_cons, List.contains_nil, Nat.reduceBEq, Nat.reduceAdd, Bool.or_false, Bool.or_true, cond_true, cond_false]
    rw [hfe, hg]
    have J1 := Lib.hid (K1.out.below hb9 K1.out.lt)
    have J2 := Lib.hid (K2.out.below hb9 K2.out.lt)
    have JG := Lib.hid hblk
    have JB := Lib.hid (K3.out.trans (hb9.mono K3.out.size))
    clear hb9 hblk hfe hg hgW
    go_wp2_with (first
      | (refine wpList_load_at rfl 25 (.tmp 3) rfl g rfl 25 (w4 d) (0, 0) _ JG.out Try.underlying25 rfl (by kernel_rfl) ?_))
    refine (HON.out _).mono ?_
    rintro e w3 ⟨rfl, hb3⟩
    have JJ := Lib.hid (J2.out.below hb3 J2.out.lt)
    have JC := Lib.hid (JB.out.trans (hb3.mono JB.out.size))
    clear hb3
    go_wp2_with (first
      | (refine wpList_bld rfl 27 #[(0, .tmp 13)] rfl (w4 r) (by kernel_rfl) ?_)
      | (refine wpList_store_blk rfl 27 (.tmp 2) (.tmp 14) rfl (w.heap.size + 1) (w4 r) rfl rfl _ _ JJ.out (by kernel_rfl) rfl rfl ?_))
    rintro w2 hk2 hb2 - -
    have JK := Lib.hid hk2
    have JD := Lib.hid (JC.out.trans (hb2 _ (by omega)))
    clear hk2 hb2
    go_wp2_with fail
    exact bodyPost_ret (v := .agg (w4 r)) (results_row1 Try.results21 _ _ (w.heap.size + 1) _ _ _ rfl JK.out Try.underlying27 rfl (by kernel_rfl)) rfl ⟨rfl, JD.out⟩
end Go.Proofs.Ytkihcngllhjabaa
