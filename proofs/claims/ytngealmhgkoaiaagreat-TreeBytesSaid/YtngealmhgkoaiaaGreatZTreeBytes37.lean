/- Walks: the tree of one member. -/
import Derived.Test.YtngealmhgkoaiaaGreatZTreeBytes25
import Derived.Laws.MakeOwn
import Derived.Laws.OwnMore
namespace Go.Proofs.YtngealmhgkoaiaaGreat
open Go.RowKit WireM
set_option linter.unusedVariables false
/-- the member -/
def oneD : NodeD := ⟨1, ⟨List.replicate 32 0, List.replicate 32 0, [1], 1, [], List.replicate 64 0⟩, noParD⟩
theorem make_bytes {n : Nat} {N : Int} (hN : N = (n : Int)) (hn : n ≤ 4000000) : ∀ w : World, (Instr.makeSlice 25 (.int .i64 N) (.int .i64 N)).run Tryz.prog w = .ok (.slice (some ⟨w.heap.size, 0, none⟩) n n) (w.alloc (.cells (madeCells (Value.int .u8 0).cells (n * 1)) 5)) := by
  intro w
  subst hN
  obtain ⟨i, hi, hz, hsz, hby⟩ : ∃ i, Tryz.prog.info? 5 = some i ∧ i.zero = some (.int .u8 0) ∧ i.size = 1 ∧ i.bytes = 1 := info_parts (by kernel_rfl)
  have hr := run_make (P := Tryz.prog) w 25 5 i (.int .u8 0) Tryz.underlying25 hi hz .i64 .i64 n n (by omega) (by omega) (by rw [hby]; omega) (by omega)
  simp only [Int.toNat_natCast, hsz] at hr
  exact hr
theorem made_own (w : World) (n : Nat) (hn : n ≤ 4000000 := by omega) : Own (w.alloc (.cells (madeCells (Value.int .u8 0).cells (n * 1)) 5)) w.heap.size 5 (.slice (some ⟨w.heap.size, 0, none⟩) n n) (bvs (List.replicate n 0)) := by
  have e : bvs (List.replicate n 0) = (madeCells (Value.int .u8 0).cells (n * 1)).toList := by
    rw [Nat.mul_one]
    have := toList_madeCells_one (.int .u8 0) n
    rw [show (Value.int .u8 0).cells = #[.int .u8 0] from rfl, this]
    simp [bvs]
  rw [e]
  exact Own.full (B := w.heap.size) rfl (Nat.le_refl _) (by unfold maxLen; simp [madeCells]; omega) (by simp [madeCells])
theorem one_tree {w : World} {B : Nat} {x1 x2 x3 x4 : Value} (k1 : Own w B 5 x1 (bvs (List.replicate 32 0))) (k2 : Own w B 5 x2 (bvs (List.replicate 32 0))) (k3 : Own w B 5 x3 (bvs [1])) (k4 : Own w B 5 x4 (bvs (List.replicate 64 0))) :
    TreeR (w.alloc (.cells #[.int .u8 1, x1, x2, x3, .int .u8 1, .slice none 0 0, x4, .slice none 0 0, .slice none 0 0, .slice none 0 0] 54)) (.slice (some ⟨w.heap.size, 0, none⟩) 1 1) [oneD] := by
  have hno : NodeO (w.alloc (.cells #[.int .u8 1, x1, x2, x3, .int .u8 1, .slice none 0 0, x4, .slice none 0 0, .slice none 0 0, .slice none 0 0] 54)) B oneD #[.int .u8 1, x1, x2, x3, .int .u8 1, .slice none 0 0, x4, .slice none 0 0, .slice none 0 0, .slice none 0 0] :=
    ⟨_, _, _, _, _, _, _, _, rfl, k1.alloc _, k2.alloc _, k3.alloc _, Own.nil _ _ _, k4.alloc _, Own.nil _ _ _, Own.nil _ _ _, Own.nil _ _ _⟩
  refine ⟨_, 1, rfl, Nat.le_refl _, by unfold maxLen; omega, fun i hi => ⟨w.heap.size, 0, #[.int .u8 1, x1, x2, x3, .int .u8 1, .slice none 0 0, x4, .slice none 0 0, .slice none 0 0, .slice none 0 0], rfl, by simp, ?_, ?_⟩⟩
  · have : i = 0 := by simpa using hi
    subst this
    exact hno.c
  · have : i = 0 := by simpa using hi
    subst this
    intro j u hu
    have := (Blk.new w 54 #[.int .u8 1, x1, x2, x3, .int .u8 1, .slice none 0 0, x4, .slice none 0 0, .slice none 0 0, .slice none 0 0]).cell j
    rw [show 0 + 0 * 10 + j = j by omega, this]
    simpa using hu
set_option maxRecDepth 100000 in
set_option maxHeartbeats 4000000 in
theorem one_any (w : World) : Calls Tryz.prog 63 #[] w fun e w' => ∃ v, e = .returned v ∧ TreeR w' v [oneD] ∧ Below w.heap.size w w' := by
  have HMK32 := Lib.hid (make_bytes (n := 32) (N := 32) rfl (by omega))
  have HMK64 := Lib.hid (make_bytes (n := 64) (N := 64) rfl (by omega))
  obtain ⟨Z32, hZ32⟩ : ∃ Z, Z = madeCells (Value.int .u8 0).cells (32 * 1) := ⟨_, rfl⟩
  obtain ⟨Z64, hZ64⟩ : ∃ Z, Z = madeCells (Value.int .u8 0).cells (64 * 1) := ⟨_, rfl⟩
  go_enter Tryz.func63, Tryz.ntmps63
  go_wp2_with fail
  refine wp_region_rel [fun v w' => Own w' w.heap.size 5 v (bvs (List.replicate 32 0)), fun v w' => Own w' w.heap.size 5 v (bvs (List.replicate 32 0)), fun v w' => Own w' w.heap.size 5 v (bvs [1]), fun v w' => Own w' w.heap.size 5 v (bvs (List.replicate 64 0)), fun v w' => ∃ x1 x2 x3 x4, v = .agg #[x1, x2, x3, .int .u8 1, .slice none 0 0, x4] ∧ Own w' w.heap.size 5 x1 (bvs (List.replicate 32 0)) ∧ Own w' w.heap.size 5 x2 (bvs (List.replicate 32 0)) ∧ Own w' w.heap.size 5 x3 (bvs [1]) ∧ Own w' w.heap.size 5 x4 (bvs (List.replicate 64 0)), fun v w' => ∃ x1 x2 x3 x4, v = .agg #[.int .u8 1, x1, x2, x3, .int .u8 1, .slice none 0 0, x4, .slice none 0 0, .slice none 0 0, .slice none 0 0] ∧ Own w' w.heap.size 5 x1 (bvs (List.replicate 32 0)) ∧ Own w' w.heap.size 5 x2 (bvs (List.replicate 32 0)) ∧ Own w' w.heap.size 5 x3 (bvs [1]) ∧ Own w' w.heap.size 5 x4 (bvs (List.replicate 64 0)), fun v w' => TreeR w' v [oneD], fun v w' => TreeR w' v [oneD]]
    [true, true, true, true, true, true, true, true] (fun x => Below w.heap.size w x) (fun x y => Below x.heap.size x y) none (by kernel_rfl) ?_ (⟨rfl, rfl, rfl, Nat.le_refl _, fun _ _ => rfl⟩) (fun x y _ h => h) (fun x y hx hs => hx.trans (hs.mono hx.size)) (by kernel_rfl) (by kernel_rfl) ?_ ?_
  · exact keepsR_n (fun v x y h _ hs => Own.below h hs (Nat.le_refl _)) (keepsR_n (fun v x y h _ hs => Own.below h hs (Nat.le_refl _)) (keepsR_n (fun v x y h _ hs => Own.below h hs (Nat.le_refl _)) (keepsR_n (fun v x y h _ hs => Own.below h hs (Nat.le_refl _)) (keepsR_n (fun v x y h _ hs => let ⟨x1, x2, x3, x4, e, k1, k2, k3, k4⟩ := h; ⟨x1, x2, x3, x4, e, k1.below hs (Nat.le_refl _), k2.below hs (Nat.le_refl _), k3.below hs (Nat.le_refl _), k4.below hs (Nat.le_refl _)⟩) (keepsR_n (fun v x y h _ hs => let ⟨x1, x2, x3, x4, e, k1, k2, k3, k4⟩ := h; ⟨x1, x2, x3, x4, e, k1.below hs (Nat.le_refl _), k2.below hs (Nat.le_refl _), k3.below hs (Nat.le_refl _), k4.below hs (Nat.le_refl _)⟩) (keepsR_n (fun v x y h _ hs => TreeR.below h hs (Nat.le_refl _)) (keepsR_n (fun v x y h _ hs => TreeR.below h hs (Nat.le_refl _)) (keepsR_nil))))))))
  · refine .cons (owed7_go ?_) (.cons (owed7_go ?_) (.cons (owed7_go ?_) (.cons (owed7_go ?_) (.cons (owed7_go ?_) (.cons (owed7_go ?_) (.cons (owed7_go ?_) (.cons (owed7_go ?_) (.nil))))))))
    · intro a wx hbx hq ho hf
      have hbx : Below w.heap.size w wx := hbx
      have hbq : Below w.heap.size w wx := hq (by kernel_rfl)
      clear hq
      refine ⟨rfl, ?_⟩
      intro K hK
      have HMK := HMK32.out
      go_simp
      exact hK _ _ ((made_own wx 32).mono hbx.size) (stepR_no rfl ((Below.refl _ _).alloc (Nat.le_refl _) _))
    · intro a wx hbx hq ho hf
      have hbx : Below w.heap.size w wx := hbx
      have hbq : Below w.heap.size w wx := hq (by kernel_rfl)
      clear hq
      refine ⟨rfl, ?_⟩
      intro K hK
      have HMK := HMK32.out
      go_simp
      exact hK _ _ ((made_own wx 32).mono hbx.size) (stepR_no rfl ((Below.refl _ _).alloc (Nat.le_refl _) _))
    · intro a wx hbx hq ho hf
      have hbx : Below w.heap.size w wx := hbx
      have hbq : Below w.heap.size w wx := hq (by kernel_rfl)
      clear hq
      refine ⟨rfl, ?_⟩
      intro K hK
      
      go_simp
      exact hK _ _ (Own.full (B := w.heap.size) (cs := #[.int .u8 1]) rfl (hbx.size) (by unfold maxLen; simp) rfl) (stepR_no rfl ((Below.refl _ _).alloc (Nat.le_refl _) _))
    · intro a wx hbx hq ho hf
      have hbx : Below w.heap.size w wx := hbx
      have hbq : Below w.heap.size w wx := hq (by kernel_rfl)
      clear hq
      refine ⟨rfl, ?_⟩
      intro K hK
      have HMK := HMK64.out
      go_simp
      exact hK _ _ ((made_own wx 64).mono hbx.size) (stepR_no rfl ((Below.refl _ _).alloc (Nat.le_refl _) _))
    · intro a wx hbx hq ho hf
      have hbx : Below w.heap.size w wx := hbx
      have hbq : Below w.heap.size w wx := hq (by kernel_rfl)
      clear hq
      refine ⟨rfl, ?_⟩
      intro K hK
      have o0 : Own wx w.heap.size 5 (a.tmps[1]?.getD undef) (bvs (List.replicate 32 0)) := hf.1
      obtain ⟨v0, hv0⟩ : ∃ v, v = a.tmps[1]?.getD undef := ⟨_, rfl⟩
      rw [← hv0] at o0
      have e0 := hv0.symm
      clear hv0
      have o1 : Own wx w.heap.size 5 (a.tmps[2]?.getD undef) (bvs (List.replicate 32 0)) := hf.2.1
      obtain ⟨v1, hv1⟩ : ∃ v, v = a.tmps[2]?.getD undef := ⟨_, rfl⟩
      rw [← hv1] at o1
      have e1 := hv1.symm
      clear hv1
      have o2 : Own wx w.heap.size 5 (a.tmps[3]?.getD undef) (bvs [1]) := hf.2.2.1
      obtain ⟨v2, hv2⟩ : ∃ v, v = a.tmps[3]?.getD undef := ⟨_, rfl⟩
      rw [← hv2] at o2
      have e2 := hv2.symm
      clear hv2
      have o3 : Own wx w.heap.size 5 (a.tmps[4]?.getD undef) (bvs (List.replicate 64 0)) := hf.2.2.2.1
      obtain ⟨v3, hv3⟩ : ∃ v, v = a.tmps[4]?.getD undef := ⟨_, rfl⟩
      rw [← hv3] at o3
      have e3 := hv3.symm
      clear hv3
      obtain ⟨a1, m1, d1, rfl⟩ := slOf' o0
      obtain ⟨a2, m2, d2, rfl⟩ := slOf' o1
      obtain ⟨a3, m3, d3, rfl⟩ := slOf' o2
      obtain ⟨a4, m4, d4, rfl⟩ := slOf' o3
      go_simp
      exact hK _ _ ⟨_, _, _, _, rfl, o0, o1, o2, o3⟩ (stepR_no rfl (Below.refl _ _))
    · intro a wx hbx hq ho hf
      have hbx : Below w.heap.size w wx := hbx
      have hbq : Below w.heap.size w wx := hq (by kernel_rfl)
      clear hq
      refine ⟨rfl, ?_⟩
      intro K hK
      have o0 : ∃ x1 x2 x3 x4, (a.tmps[5]?.getD undef) = .agg #[x1, x2, x3, .int .u8 1, .slice none 0 0, x4] ∧ Own wx w.heap.size 5 x1 (bvs (List.replicate 32 0)) ∧ Own wx w.heap.size 5 x2 (bvs (List.replicate 32 0)) ∧ Own wx w.heap.size 5 x3 (bvs [1]) ∧ Own wx w.heap.size 5 x4 (bvs (List.replicate 64 0)) := hf.1
      obtain ⟨v0, hv0⟩ : ∃ v, v = a.tmps[5]?.getD undef := ⟨_, rfl⟩
      rw [← hv0] at o0
      have e0 := hv0.symm
      clear hv0
      obtain ⟨x1, x2, x3, x4, rfl, k1, k2, k3, k4⟩ := o0
      obtain ⟨a1, m1, d1, rfl⟩ := slOf' k1
      obtain ⟨a2, m2, d2, rfl⟩ := slOf' k2
      obtain ⟨a3, m3, d3, rfl⟩ := slOf' k3
      obtain ⟨a4, m4, d4, rfl⟩ := slOf' k4
      go_simp
      exact hK _ _ ⟨_, _, _, _, rfl, k1, k2, k3, k4⟩ (stepR_no rfl (Below.refl _ _))
    · intro a wx hbx hq ho hf
      have hbx : Below w.heap.size w wx := hbx
      have hbq : Below w.heap.size w wx := hq (by kernel_rfl)
      clear hq
      refine ⟨rfl, ?_⟩
      intro K hK
      have o0 : ∃ x1 x2 x3 x4, (a.tmps[6]?.getD undef) = .agg #[.int .u8 1, x1, x2, x3, .int .u8 1, .slice none 0 0, x4, .slice none 0 0, .slice none 0 0, .slice none 0 0] ∧ Own wx w.heap.size 5 x1 (bvs (List.replicate 32 0)) ∧ Own wx w.heap.size 5 x2 (bvs (List.replicate 32 0)) ∧ Own wx w.heap.size 5 x3 (bvs [1]) ∧ Own wx w.heap.size 5 x4 (bvs (List.replicate 64 0)) := hf.1
      obtain ⟨v0, hv0⟩ : ∃ v, v = a.tmps[6]?.getD undef := ⟨_, rfl⟩
      rw [← hv0] at o0
      have e0 := hv0.symm
      clear hv0
      obtain ⟨x1, x2, x3, x4, rfl, k1, k2, k3, k4⟩ := o0
      have HT := one_tree k1 k2 k3 k4
      obtain ⟨a1, m1, d1, rfl⟩ := slOf' k1
      obtain ⟨a2, m2, d2, rfl⟩ := slOf' k2
      obtain ⟨a3, m3, d3, rfl⟩ := slOf' k3
      obtain ⟨a4, m4, d4, rfl⟩ := slOf' k4
      go_simp
      exact hK _ _ HT (stepR_no rfl ((Below.refl _ _).alloc (Nat.le_refl _) _))
    · intro a wx hbx hq ho hf
      have hbx : Below w.heap.size w wx := hbx
      have hbq : Below w.heap.size w wx := hq (by kernel_rfl)
      clear hq
      refine ⟨rfl, ?_⟩
      intro K hK
      have o0 : TreeR wx (a.tmps[7]?.getD undef) [oneD] := hf.1
      obtain ⟨v0, hv0⟩ : ∃ v, v = a.tmps[7]?.getD undef := ⟨_, rfl⟩
      rw [← hv0] at o0
      have e0 := hv0.symm
      clear hv0
      go_simp
      exact hK _ _ o0 (stepR_no rfl (Below.refl _ _))
  · rintro f w9 hb9 hfin
    have hb9 : Below w.heap.size w w9 := hb9
    have S0 : TreeR w9 (f 0) [oneD] := hfin.2.2.2.2.2.2.2.1
    clear hfin
    simp only [frameOf, dstsOf, zipF, List.filterMap_cons, List.filterMap_nil, List.contains_cons, List.contains_nil, Nat.reduceBEq, Nat.reduceAdd, Bool.or_false, Bool.or_true, cond_true]
    obtain ⟨u0, hu0⟩ : ∃ u, u = f 0 := ⟨_, rfl⟩
    rw [← hu0] at S0 ⊢
    clear hu0
    obtain ⟨u, hu⟩ : ∃ u, u = f 0 := ⟨_, rfl⟩
    go_wp2_with fail
    go_ret
    exact ⟨_, rfl, S0, hb9⟩
end Go.Proofs.YtngealmhgkoaiaaGreat
