/- Walks: alive of chapter 12. -/
import Derived.Test.YtfpjpakjlhidkaaGcmRefS
import Derived.Test.YtfpjpakjlhidkaaOnceSt
namespace Go.Proofs.Ytfpjpakjlhidkaa
open Go.RowKit AesM GcmM GcmB
set_option linter.unusedVariables false
def AL0 : List Nat := sealF (List.replicate 16 0) (List.replicate 12 0) [] []
theorem al0_take : (blk (List.replicate 16 0) (List.replicate 12 0 ++ beN 4 1)).take 4 = [88, 226, 252, 206] := by decide +kernel
set_option maxRecDepth 100000 in
theorem al0 : AL0.length = 16 ∧ AL0.getD 0 0 = 88 ∧ AL0.getD 1 0 = 226 ∧ AL0.getD 2 0 = 252 ∧ AL0.getD 3 0 = 206 := by
  have bz : ∀ n, ∀ x ∈ List.replicate n 0, x < 256 := by intro n x hx; rw [(List.mem_replicate.1 hx).2]; omega
  have hm := mk_lt (bz 16) (bz 12) (by simp) (by simp) 1
  have e : AL0 = mk (List.replicate 16 0) (List.replicate 12 0) 1 := by
    unfold AL0 sealF
    rw [show maskF (List.replicate 16 0) (List.replicate 12 0) [] = [] from rfl, List.nil_append, tagF]
    simp only [ghF, List.length_nil, Nat.zero_add, Nat.mul_zero, Nat.zero_mul, Nat.add_zero, show 15 / 16 = 0 from rfl, List.range_zero, List.foldl_nil, Nat.xor_zero, GcmM.gm_zero, Nat.zero_xor]
    have := beN_beV hm.2
    rw [hm.1] at this
    exact this
  have h4 := al0_take
  rw [show blk (List.replicate 16 0) (List.replicate 12 0 ++ beN 4 1) = AL0 by rw [e]; rfl] at h4
  have g : ∀ j, j < 4 → AL0.getD j 0 = (AL0.take 4).getD j 0 := by
    intro j hj
    rw [List.getD_eq_getElem?_getD, List.getD_eq_getElem?_getD, List.getElem?_take_of_lt hj]
  refine ⟨by rw [e]; exact hm.1, ?_, ?_, ?_, ?_⟩ <;> (rw [g _ (by omega), h4]; rfl)
def Z12 : Array Value := (bvs (List.replicate 12 0)).toArray
set_option maxRecDepth 100000 in
set_option maxHeartbeats 2000000 in
theorem alive12 (w : World) :
    Calls Try.prog 21 #[] w fun e w' => e = .returned (.bool true) ∧ Below w.heap.size w w' := by
  have hmk : ∀ w, (Instr.makeSlice 28 (.int .i64 16) (.int .i64 16)).run Try.prog w = .ok (.slice (some ⟨w.heap.size, 0, none⟩) 16 16) (w.alloc (.cells Z16 5)) := fun _ => by kernel_rfl
  have hmk2 : ∀ w, (Instr.makeSlice 28 (.int .i64 12) (.int .i64 12)).run Try.prog w = .ok (.slice (some ⟨w.heap.size, 0, none⟩) 12 12) (w.alloc (.cells Z12 5)) := fun _ => by kernel_rfl
  have OZ : ∀ W : World, Rd (W.alloc (.cells Z16 5)) (.slice (some ⟨W.heap.size, 0, none⟩) 16 16) (bvs (List.replicate 16 0)) := fun W => (Own.full (w := W) (B := W.heap.size) (e := 5) (cs := (bvs (List.replicate 16 0)).toArray) rfl (Nat.le_refl _) (by unfold maxLen; simp) (n := 16) (by simp)).rd
  have OZ2 : ∀ W : World, Rd (W.alloc (.cells Z12 5)) (.slice (some ⟨W.heap.size, 0, none⟩) 12 12) (bvs (List.replicate 12 0)) := fun W => (Own.full (w := W) (B := W.heap.size) (e := 5) (cs := (bvs (List.replicate 12 0)).toArray) rfl (Nat.le_refl _) (by unfold maxLen; simp) (n := 12) (by simp)).rd
  have bz : ∀ n, ∀ x ∈ List.replicate n 0, x < 256 := by intro n x hx; rw [(List.mem_replicate.1 hx).2]; omega
  have rn : ∀ W : World, Rd W (.slice none 0 0) (bvs []) := fun W => (Own.nil W 0 0).rd
  have SL := fun (W : World) (a b : Value) (h1 : Rd W a (bvs (List.replicate 16 0))) (h2 : Rd W b (bvs (List.replicate 12 0))) => gseal_on a b (.slice none 0 0) (.slice none 0 0) (List.replicate 16 0) (List.replicate 12 0) [] [] W h1 h2 (rn W) (rn W) (bz 16) (bz 12) (by simp) (by simp) (by simp) (by simp) (by simp) (by simp)
  have HZ16 := Lib.hid OZ
  have HZ12 := Lib.hid OZ2
  have HSL := Lib.hid SL
  have AL := Lib.hid al0
  clear OZ OZ2 bz rn SL
  go_enter Try.func21, Try.ntmps21
  go_wp2_with fail
  refine wp_region_store [fun v w' => Rd w' v (bvs (List.replicate 16 0)), fun v w' => Rd w' v (bvs (List.replicate 12 0)), fun v w' => ∃ u, v = .tuple #[u, .bool true] ∧ Rd w' u (bvs AL0), fun v w' => ∃ u, v = .tuple #[u, .bool true] ∧ Rd w' u (bvs AL0), fun v w' => Rd w' v (bvs AL0), fun v _ => v = .bool true, fun v w' => Rd w' v (bvs AL0), fun v _ => v = .bool true]
    [true, true, true, true, true, true, true, true] [true, true, true, true, true, true, true, true] [false, false, false, false, false, true, false, true]
    (by kernel_rfl) ?_ (by kernel_rfl) (by kernel_rfl) ?_ (by kernel_rfl) ?_ ?_
  · exact keeps_cons (fun v w1 w2 h hb => Rd.below h hb (Nat.le_refl _)) (keeps_cons (fun v w1 w2 h hb => Rd.below h hb (Nat.le_refl _)) (keeps_cons (fun v w1 w2 h hb => let ⟨u, e, r⟩ := h; ⟨u, e, Rd.below r hb (Nat.le_refl _)⟩) (keeps_cons (fun v w1 w2 h hb => let ⟨u, e, r⟩ := h; ⟨u, e, Rd.below r hb (Nat.le_refl _)⟩) (keeps_cons (fun v w1 w2 h hb => Rd.below h hb (Nat.le_refl _)) (keeps_cons (fun _ _ _ h _ => h) (keeps_cons (fun v w1 w2 h hb => Rd.below h hb (Nat.le_refl _)) (keeps_cons (fun _ _ _ h _ => h) (keeps_nil))))))))
  · exact pures_f (pures_f (pures_f (pures_f (pures_f (pures_t (fun _ _ _ h => h) (pures_f (pures_t (fun _ _ _ h => h) (pures_nil))))))))
  · refine .cons (owed3_go ?_) (.cons (owed3_go ?_) (.cons (owed3_go ?_) (.cons (owed3_go ?_) (.cons (owed3_go ?_) (.cons (owed3_go ?_) (.cons (owed3_go ?_) (.cons (owed3_go ?_) (.nil))))))))
    · intro a wx hbx ho hf
      refine ⟨rfl, ?_⟩
      intro K hK
      go_simp
      exact hK _ _ (HZ16.out wx) ((Below.refl _ _).alloc (Nat.le_refl _) _)
    · intro a wx hbx ho hf
      refine ⟨rfl, ?_⟩
      intro K hK
      go_simp
      exact hK _ _ (HZ12.out wx) ((Below.refl _ _).alloc (Nat.le_refl _) _)
    · intro a wx hbx ho hf
      refine ⟨rfl, ?_⟩
      intro K hK
      have o0 : Rd wx (a.tmps[4]?.getD undef) (bvs (List.replicate 16 0)) := hf.1
      obtain ⟨v0, hv0⟩ : ∃ v, v = a.tmps[4]?.getD undef := ⟨_, rfl⟩
      rw [← hv0] at o0
      have e0 := hv0.symm
      clear hv0
      have o1 : Rd wx (a.tmps[5]?.getD undef) (bvs (List.replicate 12 0)) := hf.2.1
      obtain ⟨v1, hv1⟩ : ∃ v, v = a.tmps[5]?.getD undef := ⟨_, rfl⟩
      rw [← hv1] at o1
      have e1 := hv1.symm
      clear hv1
      go_simp
      refine (HSL.out wx _ _ o0 o1).mono ?_
      rintro e w2 ⟨u, rfl, hown, hb2⟩
      exact hK _ _ ⟨u, rfl, hown.rd⟩ hb2
    · intro a wx hbx ho hf
      refine ⟨rfl, ?_⟩
      intro K hK
      have o0 : ∃ u, (a.tmps[6]?.getD undef) = .tuple #[u, .bool true] ∧ Rd wx u (bvs AL0) := hf.1
      obtain ⟨v0, hv0⟩ : ∃ v, v = a.tmps[6]?.getD undef := ⟨_, rfl⟩
      rw [← hv0] at o0
      have e0 := hv0.symm
      clear hv0
      go_simp
      exact hK _ _ o0 (Below.refl _ _)
    · intro a wx hbx ho hf
      refine ⟨rfl, ?_⟩
      intro K hK
      have o0 : ∃ u, (a.tmps[3]?.getD undef) = .tuple #[u, .bool true] ∧ Rd wx u (bvs AL0) := hf.1
      obtain ⟨v0, hv0⟩ : ∃ v, v = a.tmps[3]?.getD undef := ⟨_, rfl⟩
      rw [← hv0] at o0
      have e0 := hv0.symm
      clear hv0
      obtain ⟨u, rfl, hr⟩ := o0
      go_simp
      exact hK _ _ hr (Below.refl _ _)
    · intro a wx hbx ho hf
      refine ⟨rfl, ?_⟩
      intro K hK
      have o0 : ∃ u, (a.tmps[3]?.getD undef) = .tuple #[u, .bool true] ∧ Rd wx u (bvs AL0) := hf.1
      obtain ⟨v0, hv0⟩ : ∃ v, v = a.tmps[3]?.getD undef := ⟨_, rfl⟩
      rw [← hv0] at o0
      have e0 := hv0.symm
      clear hv0
      obtain ⟨u, rfl, hr⟩ := o0
      go_simp
      exact hK _ _ rfl (Below.refl _ _)
    · intro a wx hbx ho hf
      refine ⟨rfl, ?_⟩
      intro K hK
      have o0 : Rd wx (a.tmps[7]?.getD undef) (bvs AL0) := hf.1
      obtain ⟨v0, hv0⟩ : ∃ v, v = a.tmps[7]?.getD undef := ⟨_, rfl⟩
      rw [← hv0] at o0
      have e0 := hv0.symm
      clear hv0
      go_simp
      exact hK _ _ o0 (Below.refl _ _)
    · intro a wx hbx ho hf
      refine ⟨rfl, ?_⟩
      intro K hK
      have e0 : a.tmps[8]?.getD undef = .bool true := hf.1
      go_simp
      exact hK _ _ rfl (Below.refl _ _)
  · rintro f w9 hb9 hfin
    have h1 : Rd w9 (f 1) (bvs AL0) := hfin.2.2.2.2.2.2.1
    have h2 : f 2 = .bool true := hfin.2.2.2.2.2.2.2.1
    clear hfin
    simp only [frameOf, dstsOf, zipF, List.filterMap_cons, List.filterMap_nil, List.contains_cons, List.contains_nil, Nat.reduceBEq, Nat.reduceAdd, Bool.or_false, Bool.or_true, cond_true, cond_false]
    rw [h2]
    obtain ⟨u, hu⟩ : ∃ u, u = f 1 := ⟨_, rfl⟩
    rw [← hu] at h1 ⊢
    clear h2 hu
    have HA := AL.out
    obtain ⟨b, off, c, rfl⟩ : ∃ b off c, u = .slice (some ⟨b, off, none⟩) 16 c := by
      rcases h1.lt with q | ⟨b, off, c, e, q4⟩
      · exfalso
        have : (bvs AL0).length = 0 := by rw [q]; rfl
        rw [bvs_len] at this; omega
      · exact ⟨b, off, c, by rw [e, bvs_len, HA.1]⟩
    have G := fun (i : Nat) (x : Nat) (hi : i < 16) (hx : AL0.getD i 0 = x) => h1.get3 (bvs_getD (L := AL0) (i := i) (by omega))
    have cell : ∀ i x, i < 16 → AL0.getD i 0 = x → w9.cell? ⟨b, off + i, none⟩ = some (.int .u8 (x : Nat)) := by
      intro i x hi hx
      obtain ⟨b', off', e1, e2, e3⟩ := h1.get3 (bvs_getD (L := AL0) (i := i) (by omega))
      simp only [Option.some.injEq, Addr.mk.injEq, and_true] at e1
      obtain ⟨rfl, rfl⟩ := e1
      rw [e3, hx]
    have c0 : w9.cell? ⟨b, off, none⟩ = some (.int .u8 88) := cell 0 88 (by omega) HA.2.1
    have c1 : w9.cell? ⟨b, off + 1, none⟩ = some (.int .u8 226) := cell 1 226 (by omega) HA.2.2.1
    have c2 : w9.cell? ⟨b, off + 2, none⟩ = some (.int .u8 252) := cell 2 252 (by omega) HA.2.2.2.1
    have c3 : w9.cell? ⟨b, off + 3, none⟩ = some (.int .u8 206) := cell 3 206 (by omega) HA.2.2.2.2
    have HB9 := Lib.hid hb9
    clear G cell HA h1 hb9
    go_wp2_with fail
    go_ret
    exact ⟨rfl, HB9.out⟩
end Go.Proofs.Ytfpjpakjlhidkaa
