/- Walks: the tree of one member. -/
import Derived.Test.YtngealmhgkoaiaaGreatZSliceRightB
import Derived.Test.YtngealmhgkoaiaaGreatZSliceRight20
import Derived.Laws.MakeOwn
import Derived.Laws.OwnMore
import Derived.Test.YtngealmhgkoaiaaGreatZSliceRight08
import Derived.Test.YtngealmhgkoaiaaGreatZSliceRight45
import Derived.Test.YtngealmhgkoaiaaGreatZSliceRight46
import Derived.Test.YtngealmhgkoaiaaGreatZSliceRight48
open List renaming replicate → cB, filterMap_cons → cR, filterMap_nil → cS, contains_cons → cT, contains_nil → cU, getElem?_toArray → bT, getElem?_cons_zero → bU, getElem?_cons_succ → bV, mem_cons → aE, mem_append → eL
open Bool renaming or_false → cV, or_true → cW
set_option linter.unusedVariables false
set_option maxRecDepth 100000
set_option maxHeartbeats 40000000
namespace Go.Proofs.YtngealmhgkoaiaaGreat
open Go.RowKit WireM
def Qb : NodeD := ⟨1, ⟨cB 32 0, cB 32 0, [1], 1, [], cB 64 0⟩, noParD⟩
theorem Oe {n : Nat} {N : Int} (hN : N = (n : Int)) (hn : n ≤ 4000000) : ∀ w : World, (Instr.makeSlice 25 (.int .i64 N) (.int .i64 N)).run Tryz.prog w = .ok (.slice (some ⟨w.heap.size, 0, none⟩) n n) (w.alloc (.cells (madeCells (Value.int .u8 0).cells (n * 1)) 5)) := by
 intro w; subst hN; obtain ⟨i, hi, hz, hsz, hby⟩ : ∃ i, Tryz.prog.info? 5 = some i ∧ i.zero = some (.int .u8 0) ∧ i.size = 1 ∧ i.bytes = 1 := info_parts (by kernel_rfl); have hr := run_make (P := Tryz.prog) w 25 5 i (.int .u8 0) Tryz.underlying25 hi hz .i64 .i64 n n (by omega) (by omega) (by rw [hby]; omega) (by omega); simp only [Int.toNat_natCast, hsz] at hr; exact hr
theorem Qa (w : World) (n : Nat) (hn : n ≤ 4000000 := by omega) : Own (w.alloc (.cells (madeCells (Value.int .u8 0).cells (n * 1)) 5)) w.heap.size 5 (.slice (some ⟨w.heap.size, 0, none⟩) n n) (bvs (cB n 0)) := by
 have e : bvs (cB n 0) = (madeCells (Value.int .u8 0).cells (n * 1)).toList := by
  rw [Nat.mul_one]; have := toList_madeCells_one (.int .u8 0) n; rw [show (Value.int .u8 0).cells = #[.int .u8 0] from rfl, this]; simp [bvs]
 rw [e]; exact Own.full (B := w.heap.size) rfl lR (by unfold maxLen; simp [madeCells]; omega) (by simp [madeCells])
theorem Zd2 {w : World} {B : Nat} {x1 x2 x3 x4 : Value} (k1 : Own w B 5 x1 (bvs (cB 32 0))) (k2 : Own w B 5 x2 (bvs (cB 32 0))) (k3 : Own w B 5 x3 (bvs [1])) (k4 : Own w B 5 x4 (bvs (cB 64 0))) :
  TreeR (w.alloc (.cells #[.int .u8 1, x1, x2, x3, .int .u8 1, .slice none 0 0, x4, .slice none 0 0, .slice none 0 0, .slice none 0 0] 54)) (.slice (some ⟨w.heap.size, 0, none⟩) 1 1) [Qb] := by
 have hno : NodeO (w.alloc (.cells #[.int .u8 1, x1, x2, x3, .int .u8 1, .slice none 0 0, x4, .slice none 0 0, .slice none 0 0, .slice none 0 0] 54)) B Qb #[.int .u8 1, x1, x2, x3, .int .u8 1, .slice none 0 0, x4, .slice none 0 0, .slice none 0 0, .slice none 0 0] :=
  ⟨_, _, _, _, _, _, _, _, rfl, k1.alloc _, k2.alloc _, k3.alloc _, Own.nil _ _ _, k4.alloc _, Own.nil _ _ _, Own.nil _ _ _, Own.nil _ _ _⟩
 refine ⟨_, 1, rfl, lR, by unfold maxLen; omega, fun i hi => ⟨w.heap.size, 0, #[.int .u8 1, x1, x2, x3, .int .u8 1, .slice none 0 0, x4, .slice none 0 0, .slice none 0 0, .slice none 0 0], rfl, by simp, ?_, ?_⟩⟩
 ·have : i = 0 := (by simpa using hi); subst this; exact hno.c
 ·have : i = 0 := (by simpa using hi); subst this; intro j u hu; have := (Blk.new w 54 #[.int .u8 1, x1, x2, x3, .int .u8 1, .slice none 0 0, x4, .slice none 0 0, .slice none 0 0, .slice none 0 0]).cell j; rw [show 0 + 0 * 10 + j = j by omega, this]; simpa using hu
end Go.Proofs.YtngealmhgkoaiaaGreat
namespace Go.Proofs.YtngealmhgkoaiaaGreat
open Go.RowKit WalkM WireM
theorem Uc : Ed [Qb] = true := by decide
theorem Wd : TreeOk [Qb] := by
 intro d hd; rw [List.mem_singleton] at hd; subst hd; refine ⟨by decide, by decide, ?_, ?_, ?_, ?_, ?_, ?_, ?_, ?_⟩ <;> decide
theorem Ud : Ff [Qb] = true := by decide +kernel
def Zf6 : SparseD := Zeo [Qb] (2 ^ 0) 0 [0] []
theorem Yc : Aj Zf6 false = true := by decide +kernel
theorem Yd : Bs Zf6 = true := by decide +kernel
theorem Zf3 : SparseOk Zf6 := by
 refine ⟨by unfold inI; decide, by unfold inI; decide, fun p hp => ?_, fun p hp => by cases hp⟩; have : p = (((0 : Nat) : Int), Qb) := (by simpa [Zf6, Zeo, nd] using hp); subst this; exact ⟨by unfold inI; decide, Wd Qb (by simp)⟩
theorem Zf4 (w : World) : Calls Tryz.prog 26 #[] w fun e w' => e = .returned (.bool true) ∧ Below w.heap.size w w' := by
 have HMK32 := Hd (Oe (n := 32) (N := 32) rfl (by omega)); have HMK64 := Hd (Oe (n := 64) (N := 64) rfl (by omega)); obtain ⟨Z32, hZ32⟩ := eX (madeCells (Value.int .u8 0).cells (32 * 1)); obtain ⟨Z64, hZ64⟩ := eX (madeCells (Value.int .u8 0).cells (64 * 1)); have HCUT := Hd fun (v : Value) (W : World) (hw : TreeR W v [Qb]) => Zbu v [Qb] 0 0 0 [0] [] W hw Uc Wd Ud rfl (by decide) (by omega) rfl (by decide +kernel) (by decide +kernel) (by decide +kernel) (by simp) (by simp) (by simp) (by simp) (by simp) (by simp) (fun x => by rw [Zbk]; omega); have HRT := Hd fun (v : Value) (W : World) (hw : SparseR W v Zf6) => Mj v Zf6 W hw Zf3 Yd; rw [Yc] at HRT; go_enter Tryz.func26, Tryz.ntmps26; go_wp2_with fail; refine Ec [fun v w' => Own w' w.heap.size 5 v (bvs (cB 32 0)), fun v w' => Own w' w.heap.size 5 v (bvs (cB 32 0)), fun v w' => Own w' w.heap.size 5 v (bvs [1]), fun v w' => Own w' w.heap.size 5 v (bvs (cB 64 0)), fun v w' => ∃ x1 x2 x3 x4, v = .agg #[x1, x2, x3, .int .u8 1, .slice none 0 0, x4] ∧ Own w' w.heap.size 5 x1 (bvs (cB 32 0)) ∧ Own w' w.heap.size 5 x2 (bvs (cB 32 0)) ∧ Own w' w.heap.size 5 x3 (bvs [1]) ∧ Own w' w.heap.size 5 x4 (bvs (cB 64 0)), fun v w' => ∃ x1 x2 x3 x4, v = .agg #[.int .u8 1, x1, x2, x3, .int .u8 1, .slice none 0 0, x4, .slice none 0 0, .slice none 0 0, .slice none 0 0] ∧ Own w' w.heap.size 5 x1 (bvs (cB 32 0)) ∧ Own w' w.heap.size 5 x2 (bvs (cB 32 0)) ∧ Own w' w.heap.size 5 x3 (bvs [1]) ∧ Own w' w.heap.size 5 x4 (bvs (cB 64 0)), fun v w' => TreeR w' v [Qb], fun v w' => TreeR w' v [Qb]] (by kernel_rfl) (by kernel_rfl) (by kernel_rfl) (Ap (fun v x y h _ hs => Own.below h hs lR) (Ap (fun v x y h _ hs => Own.below h hs lR) (Ap (fun v x y h _ hs => Own.below h hs lR) (Ap (fun v x y h _ hs => Own.below h hs lR) (Ap (fun v x y h _ hs => let ⟨x1, x2, x3, x4, e, k1, k2, k3, k4⟩ := h; ⟨x1, x2, x3, x4, e, k1.below hs lR, k2.below hs lR, k3.below hs lR, k4.below hs lR⟩) (Ap (fun v x y h _ hs => let ⟨x1, x2, x3, x4, e, k1, k2, k3, k4⟩ := h; ⟨x1, x2, x3, x4, e, k1.below hs lR, k2.below hs lR, k3.below hs lR, k4.below hs lR⟩) (Ap (fun v x y h _ hs => TreeR.below h hs lR) (Ap (fun v x y h _ hs => TreeR.below h hs lR) (Ag))))))))) ?_ ?_
 ·refine gB ?_ (gB ?_ (gB ?_ (gB ?_ (gB ?_ (gB ?_ (gB ?_ (gB ?_ .nil))))))); all_goals
   intro a wx hbx ho hf; refine ⟨rfl, ?_⟩; intro K hK; try have D0 := HMK32.out
   try have D1 := HMK64.out
   try (refine Hd ?_; go_simp; exact hK _ rfl)
  ·go_simp; exact hK _ _ ((Qa wx 32).mono hbx.size) (bR.alloc lR _)
  ·go_simp; exact hK _ _ ((Qa wx 32).mono hbx.size) (bR.alloc lR _)
  ·
   go_simp; exact hK _ _ (Own.full (B := w.heap.size) (cs := #[.int .u8 1]) rfl (hbx.size) (by unfold maxLen; simp) rfl) (bR.alloc lR _)
  ·go_simp; exact hK _ _ ((Qa wx 64).mono hbx.size) (bR.alloc lR _)
  ·have o0 : Own wx w.heap.size 5 (a.tmps[4]?.getD undef) (bvs (cB 32 0)) := hf.1; obtain ⟨v0, hv0⟩ := eX (a.tmps[4]?.getD undef); rw [← hv0] at o0; have e0 := hv0.symm; clear hv0; have o1 : Own wx w.heap.size 5 (a.tmps[5]?.getD undef) (bvs (cB 32 0)) := hf.2.1; obtain ⟨v1, hv1⟩ := eX (a.tmps[5]?.getD undef); rw [← hv1] at o1; have e1 := hv1.symm; clear hv1; have o2 : Own wx w.heap.size 5 (a.tmps[6]?.getD undef) (bvs [1]) := hf.2.2.1; obtain ⟨v2, hv2⟩ := eX (a.tmps[6]?.getD undef); rw [← hv2] at o2; have e2 := hv2.symm; clear hv2; have o3 : Own wx w.heap.size 5 (a.tmps[7]?.getD undef) (bvs (cB 64 0)) := hf.2.2.2.1; obtain ⟨v3, hv3⟩ := eX (a.tmps[7]?.getD undef); rw [← hv3] at o3; have e3 := hv3.symm; clear hv3; obtain ⟨a1, m1, d1, rfl⟩ := Cz o0; obtain ⟨a2, m2, d2, rfl⟩ := Cz o1; obtain ⟨a3, m3, d3, rfl⟩ := Cz o2; obtain ⟨a4, m4, d4, rfl⟩ := Cz o3; go_simp; exact hK _ _ ⟨_, _, _, _, rfl, o0, o1, o2, o3⟩ bR
  ·have o0 : ∃ x1 x2 x3 x4, (a.tmps[8]?.getD undef) = .agg #[x1, x2, x3, .int .u8 1, .slice none 0 0, x4] ∧ Own wx w.heap.size 5 x1 (bvs (cB 32 0)) ∧ Own wx w.heap.size 5 x2 (bvs (cB 32 0)) ∧ Own wx w.heap.size 5 x3 (bvs [1]) ∧ Own wx w.heap.size 5 x4 (bvs (cB 64 0)) := hf.1; obtain ⟨v0, hv0⟩ := eX (a.tmps[8]?.getD undef); rw [← hv0] at o0; have e0 := hv0.symm; clear hv0; obtain ⟨x1, x2, x3, x4, rfl, k1, k2, k3, k4⟩ := o0; obtain ⟨a1, m1, d1, rfl⟩ := Cz k1; obtain ⟨a2, m2, d2, rfl⟩ := Cz k2; obtain ⟨a3, m3, d3, rfl⟩ := Cz k3; obtain ⟨a4, m4, d4, rfl⟩ := Cz k4; go_simp; exact hK _ _ ⟨_, _, _, _, rfl, k1, k2, k3, k4⟩ bR
  ·have o0 : ∃ x1 x2 x3 x4, (a.tmps[9]?.getD undef) = .agg #[.int .u8 1, x1, x2, x3, .int .u8 1, .slice none 0 0, x4, .slice none 0 0, .slice none 0 0, .slice none 0 0] ∧ Own wx w.heap.size 5 x1 (bvs (cB 32 0)) ∧ Own wx w.heap.size 5 x2 (bvs (cB 32 0)) ∧ Own wx w.heap.size 5 x3 (bvs [1]) ∧ Own wx w.heap.size 5 x4 (bvs (cB 64 0)) := hf.1; obtain ⟨v0, hv0⟩ := eX (a.tmps[9]?.getD undef); rw [← hv0] at o0; have e0 := hv0.symm; clear hv0; obtain ⟨x1, x2, x3, x4, rfl, k1, k2, k3, k4⟩ := o0; have HT := Zd2 k1 k2 k3 k4; obtain ⟨a1, m1, d1, rfl⟩ := Cz k1; obtain ⟨a2, m2, d2, rfl⟩ := Cz k2; obtain ⟨a3, m3, d3, rfl⟩ := Cz k3; obtain ⟨a4, m4, d4, rfl⟩ := Cz k4; go_simp; exact hK _ _ HT (bR.alloc lR _)
  ·have o0 : TreeR wx (a.tmps[10]?.getD undef) [Qb] := hf.1; obtain ⟨v0, hv0⟩ := eX (a.tmps[10]?.getD undef); rw [← hv0] at o0; have e0 := hv0.symm; clear hv0; go_simp; exact hK _ _ o0 bR
 ·rintro f w9 hb9 hfin; have hb9 : Below w.heap.size w w9 := hb9; have S1 : TreeR w9 (f 1) [Qb] := hfin.2.2.2.2.2.2.2.1; clear hfin; simp only [Am, Ax, Ey, cR, cS, cT, cU, Nat.reduceBEq, Nat.reduceAdd, cV, cW, cond_true]; obtain ⟨u1, hu1⟩ := eX (f 1); rw [← hu1] at S1 ⊢; clear hu1; have HT9 := Hd S1; have HB9 := Hd hb9; clear S1 hb9; go_wp2_with fail; refine (HCUT.out _ _ HT9.out).mono ?_; rintro e w1 ⟨vr, rfl, hsp, hb1⟩; have HSP := Hd hsp; have HB1 := Hd (HB9.out.trans (hb1.mono HB9.out.size)); obtain ⟨o, g, rfl, ho, hg⟩ := hsp; obtain ⟨a1, c1, rfl, -⟩ := ho; obtain ⟨a2, c2, rfl, -⟩ := hg; have el : (Zeo [Qb] (2 ^ 0) 0 [0] []).leaves = 1 := rfl; have eo : (Zeo [Qb] (2 ^ 0) 0 [0] []).own = 0 := rfl; have e1 : (Zeo [Qb] (2 ^ 0) 0 [0] []).op.length = 1 := rfl; have e2 : (Zeo [Qb] (2 ^ 0) 0 [0] []).sh.length = 0 := rfl; rw [el, eo, e1, e2] at HSP ⊢; clear el eo e1 e2 hb1; have HA := Hd ((Below.refl w1.heap.size w1).alloc lR (.cells #[.int .i64 1, .int .i64 0, .slice a1 1 c1, .slice a2 0 c2] 37)); have HRX := Hd (HRT.out _ _ (HSP.out.below HA.out lR)); have HBA := Hd (HB1.out.trans (HA.out.mono HB1.out.size)); have hbk := Blk.new w1 37 #[.int .i64 1, .int .i64 0, .slice a1 1 c1, .slice a2 0 c2]; have d0 := hbk.cell 0; have d1 := hbk.cell 1; have d2 := hbk.cell 2; have d3 := hbk.cell 3; simp only [bT, bU, bV] at d0 d1 d2 d3; clear hbk; go_wp2_with fail; refine (HRX.out).mono ?_; rintro e w5 ⟨rfl, hb5⟩; have HB5 := Hd (HBA.out.trans (hb5.mono HBA.out.size)); clear hb5; go_wp2_with fail; go_ret; exact ⟨rfl, HB5.out⟩
end Go.Proofs.YtngealmhgkoaiaaGreat
namespace Go.Proofs.YtngealmhgkoaiaaGreat
open Go.RowKit Go.Maps WalkM ShaM WireM
theorem Zf5 {F : Int → Option NodeD} {H : Int → Option (List Nat)} (h : PieceOk F H) : ∀ k x, ∀ y ∈ Kg F H k x, y < 256 := by
 intro k
 induction k with
 | zero =>
  intro x y hy; cases e : F (x : Int) with
  | none =>
   rw [Fl e, aE] at hy; rcases hy with rfl | hy
   ·omega
   ·exact Py h x y hy
  | some d =>
   rw [Iu e, aE] at hy; rcases hy with rfl | hy
   ·omega
   ·exact Kr (h.ok _ _ e).1 (h.ok _ _ e).2.1 y hy
 | succ k ih =>
  intro x y hy; cases e : F (x : Int) with
  | none =>
   rw [Fl e, aE] at hy; rcases hy with rfl | hy
   ·omega
   ·exact Py h x y hy
  | some d =>
   rw [Iv e] at hy; simp only [eL, aE] at hy; rcases hy with (rfl | hy) | hy | hy
   ·omega
   ·exact Kr (h.ok _ _ e).1 (h.ok _ _ e).2.1 y hy
   ·exact ih _ y hy
   ·exact ih _ y hy
theorem Ye {s : SparseD} {m : Nat} (hm : m < 256) (h : PieceOk (Af s.op) (Ba s.sh)) : ∀ y ∈ Ex s m, y < 256 := by
 intro y hy; unfold Ex Si at hy; simp only [eL, aE, List.not_mem_nil, or_false] at hy; rcases hy with ((rfl | hy) | hy) | hy
 ·exact hm
 ·exact beN_lt _ _ y hy
 ·exact beN_lt _ _ y hy
 ·exact Zf5 h _ _ y hy
theorem We (L : List Nat) (hL : ∀ y ∈ L, y < 256) (a b : Value) (W : World) (h1 : Rd W a (bvs L)) (h2 : Rd W b (bvs L)) :
  Calls Tryz.prog 20 #[a, b] W fun e w' => e = .returned (.bool true) ∧ Below W.heap.size W w' := by
 refine (Uh a b L L W h1 h2 hL hL).mono ?_; rintro e w' ⟨rfl, n, rfl⟩; exact ⟨by rw [decide_eq_true rfl], Aa bR n⟩
theorem Ml {w : World} (v : Value) (s : SparseD) (hop : SparseR w v s ∧ SparseOk s) :
  Calls Tryz.prog 6 #[v] w fun e w' => e = .returned (.bool true) ∧ Below w.heap.size w w' := by
 obtain ⟨h, hok⟩ := hop; have HAL := Hd fun (W : World) => Zf4 W; have SM := fun (W : World) (hw : Below w.heap.size w W) => Ty v s W (h.below hw lR) hok; cases hs : Bs s with
 | false =>
  rw [hs] at SM; obtain ⟨o, g, rfl, -, -⟩ := h; obtain ⟨lv, hlv⟩ := eX s.leaves; obtain ⟨ow, how⟩ := eX s.own; rw [← hlv, ← how] at SM ⊢; have HSM := Hd SM; obtain ⟨p, hp⟩ := eX w.heap.size; have HPE := Hd hp; have HBA := Hd ((Below.refl w.heap.size w).alloc lR (.cells #[.int .i64 lv, .int .i64 ow, o, g] 37)); have HBK := Hd (Blk.new w 37 #[.int .i64 lv, .int .i64 ow, o, g]); clear SM hok hs hlv how hp; go_enter Tryz.func6, Tryz.ntmps6; go_wp2_with fail; refine (HAL.out _).mono ?_; rintro e w1 ⟨rfl, hb⟩; have HK1 := Hd (HBK.out.below hb HBK.out.lt); have HB1 := Hd (HBA.out.trans (hb.mono HBA.out.size)); rw [← HPE.out] at HK1 ⊢; clear hb; have k0 := HK1.out.cell 0; have k1 := HK1.out.cell 1; have k2 := HK1.out.cell 2; have k3 := HK1.out.cell 3; simp only [bT, bU, bV] at k0 k1 k2 k3; go_wp2_with fail; refine (HSM.out w1 HB1.out).mono ?_; rintro e w2 ⟨rfl, hb⟩; have HK2 := Hd (HK1.out.below hb HK1.out.lt); have HB2 := Hd (HB1.out.trans (hb.mono HB1.out.size)); clear hb k0 k1 k2 k3; have k0 := HK2.out.cell 0; have k1 := HK2.out.cell 1; have k2 := HK2.out.cell 2; have k3 := HK2.out.cell 3; simp only [bT, bU, bV] at k0 k1 k2 k3; go_wp2_with fail; go_ret; exact ⟨rfl, HB2.out⟩
 | true =>
  rw [hs] at SM; obtain ⟨hl1, hl2⟩ := Nz hs; have hl60 : ∀ p ∈ s.op, p.2.par.late.length ≤ 1000 := fun p hp => by
   have hsb : Bf p.2 = true := (by simp only [Bs, Bool.and_eq_true] at hs; exact List.all_eq_true.1 hs.1.2 p hp); have := of_decide_eq_true hsb; omega
  have SB := fun (W : World) (hw : Below w.heap.size w W) => Ua v s W (h.below hw lR) hok hs; have SH := fun (W : World) (hw : Below w.heap.size w W) => Ya v s W (h.below hw lR) hok hs; have SR := fun (W : World) (hw : Below w.heap.size w W) => Mj v s W (h.below hw lR) hok hs; have RR := fun (W : World) (hw : Below w.heap.size w W) => Rw v s W (h.below hw lR) hok (by omega) (by omega) hl60; have RB := fun (hr : Aj s false = true) (W : World) (hw : Below w.heap.size w W) => Sl v s false 1 W (h.below hw lR) hok hs hr; have RH := fun (hr : Aj s false = true) (W : World) (hw : Below w.heap.size w W) => Ub v s false W (h.below hw lR) hok hs hr; have PO := fun (hr : Aj s false = true) => (Dk hr hok hs).1; obtain ⟨o, g, rfl, -, -⟩ := h; obtain ⟨lv, hlv⟩ := eX s.leaves; obtain ⟨ow, how⟩ := eX s.own; rw [← hlv, ← how] at SM SB SH SR RR RB RH ⊢; obtain ⟨p, hp⟩ := eX w.heap.size; have HPE := Hd hp; have HBA := Hd ((Below.refl w.heap.size w).alloc lR (.cells #[.int .i64 lv, .int .i64 ow, o, g] 37)); have HBK := Hd (Blk.new w 37 #[.int .i64 lv, .int .i64 ow, o, g]); have HSM := Hd SM; cases hr : Aj s false with
  | false =>
   rw [hr] at SR RR; simp only [hr, Bool.false_eq_true, if_false] at SB SH; have HSB := Hd SB; have HSH := Hd SH; have HSR := Hd SR; have HRR := Hd RR; clear SM SB SH SR RR RB RH PO hok hs hlv how hp hr hl1 hl2 hl60; go_enter Tryz.func6, Tryz.ntmps6; go_wp2_with fail; refine (HAL.out _).mono ?_; rintro e w1 ⟨rfl, hb⟩; have HK1 := Hd (HBK.out.below hb HBK.out.lt); have HB1 := Hd (HBA.out.trans (hb.mono HBA.out.size)); rw [← HPE.out] at HK1 ⊢; clear hb; have k0 := HK1.out.cell 0; have k1 := HK1.out.cell 1; have k2 := HK1.out.cell 2; have k3 := HK1.out.cell 3; simp only [bT, bU, bV] at k0 k1 k2 k3; go_wp2_with fail; refine (HSM.out w1 HB1.out).mono ?_; rintro e w2 ⟨rfl, hb⟩; have HK2 := Hd (HK1.out.below hb HK1.out.lt); have HB2 := Hd (HB1.out.trans (hb.mono HB1.out.size)); clear hb k0 k1 k2 k3; have k0 := HK2.out.cell 0; have k1 := HK2.out.cell 1; have k2 := HK2.out.cell 2; have k3 := HK2.out.cell 3; simp only [bT, bU, bV] at k0 k1 k2 k3; go_wp2_with fail; refine (HSB.out w2 HB2.out).mono ?_; rintro e w3 ⟨rfl, hb⟩; have HK3 := Hd (HK2.out.below hb HK2.out.lt); have HB3 := Hd (HB2.out.trans (hb.mono HB2.out.size)); clear hb k0 k1 k2 k3; have k0 := HK3.out.cell 0; have k1 := HK3.out.cell 1; have k2 := HK3.out.cell 2; have k3 := HK3.out.cell 3; simp only [bT, bU, bV] at k0 k1 k2 k3; go_wp2_with fail; refine (HSH.out w3 HB3.out).mono ?_; rintro e w4 ⟨rfl, hb⟩; have HK4 := Hd (HK3.out.below hb HK3.out.lt); have HB4 := Hd (HB3.out.trans (hb.mono HB3.out.size)); clear hb k0 k1 k2 k3; have k0 := HK4.out.cell 0; have k1 := HK4.out.cell 1; have k2 := HK4.out.cell 2; have k3 := HK4.out.cell 3; simp only [bT, bU, bV] at k0 k1 k2 k3; go_wp2_with fail; clear k0 k1 k2 k3; refine Ec [eF (.agg #[.int .i64 lv, .int .i64 ow, o, g]), eF (.bool false), eF (.agg #[.int .i64 lv, .int .i64 ow, o, g]), eF (.bool false), eF (.bool false)] (by kernel_rfl) (by kernel_rfl) (by kernel_rfl) (kE (kE (kE (kE (kE Ag))))) ?_ ?_
   ·refine gB ?_ (gB ?_ (gB ?_ (gB ?_ (gQ ?_ .nil)))); all_goals
     intro a wx hbx ha hf; refine ⟨rfl, ?_⟩; intro K hK; try have Pf1 : a.tmps[1]?.getD undef = .pointer (some ⟨p, 0, none⟩) := ha 1 (by kernel_rfl)
     try have Ef0 := eqn hf.1
     try have Ef1 := eqn hf.2.1
     try (refine Hd ?_; go_simp; exact hK _ rfl)
    ·exact wp_load_row 37 (.tmp 1) rfl _ (evs Pf1) _ _ (0, 0) _ (HK4.out.below hbx HK4.out.lt) Tryz.underlying37 rfl (by kernel_rfl) (hK _ _ rfl bR)
    ·go_simp; refine (HSR.out wx (HB4.out.trans (hbx.mono HB4.out.size))).mono ?_; rintro e w7 ⟨rfl, hb7⟩; exact hK _ _ rfl hb7
    ·exact wp_load_row 37 (.tmp 1) rfl _ (evs Pf1) _ _ (0, 0) _ (HK4.out.below hbx HK4.out.lt) Tryz.underlying37 rfl (by kernel_rfl) (hK _ _ rfl bR)
    ·go_simp; refine (HRR.out wx (HB4.out.trans (hbx.mono HB4.out.size))).mono ?_; rintro e w7 ⟨rfl, hb7⟩; exact hK _ _ rfl hb7
   ·rintro f w5 hb hfin; have S26 : f 26 = .bool false := hfin.2.2.2.2.1; clear hfin; simp only [Am, Ax, Ey, cR, cS, cT, cU, Nat.reduceBEq, Nat.reduceAdd, cV, cW, cond_true, cond_false]; rw [S26]; clear S26; have HK5 := Hd (HK4.out.below hb HK4.out.lt); have HB5 := Hd (HB4.out.trans (hb.mono HB4.out.size)); clear hb; have k0 := HK5.out.cell 0; have k1 := HK5.out.cell 1; have k2 := HK5.out.cell 2; have k3 := HK5.out.cell 3; simp only [bT, bU, bV] at k0 k1 k2 k3; go_wp2_with fail; refine (HRR.out w5 HB5.out).mono ?_; rintro e w6 ⟨rfl, hb⟩; have HK6 := Hd (HK5.out.below hb HK5.out.lt); have HB6 := Hd (HB5.out.trans (hb.mono HB5.out.size)); clear hb k0 k1 k2 k3; go_wp2_with fail; go_ret; exact ⟨rfl, HB6.out⟩
  | true =>
   have HP := PO hr; have HSA := Hd (We (Ex s 1) (Ye (by omega) HP)); have HSC := Hd (We (Iy s) (Pz HP)); have HRB := Hd (RB hr); have HRH := Hd (RH hr); rw [hr] at SR RR; simp only [hr, if_true] at SB SH; have HSB := Hd SB; have HSH := Hd SH; have HSR := Hd SR; have HRR := Hd RR; clear SM SB SH SR RR RB RH PO HP hok hs hlv how hp hr hl1 hl2 hl60; go_enter Tryz.func6, Tryz.ntmps6; go_wp2_with fail; refine (HAL.out _).mono ?_; rintro e w1 ⟨rfl, hb⟩; have HK1 := Hd (HBK.out.below hb HBK.out.lt); have HB1 := Hd (HBA.out.trans (hb.mono HBA.out.size)); rw [← HPE.out] at HK1 ⊢; clear hb; have k0 := HK1.out.cell 0; have k1 := HK1.out.cell 1; have k2 := HK1.out.cell 2; have k3 := HK1.out.cell 3; simp only [bT, bU, bV] at k0 k1 k2 k3; go_wp2_with fail; refine (HSM.out w1 HB1.out).mono ?_; rintro e w2 ⟨rfl, hb⟩; have HK2 := Hd (HK1.out.below hb HK1.out.lt); have HB2 := Hd (HB1.out.trans (hb.mono HB1.out.size)); clear hb k0 k1 k2 k3; have k0 := HK2.out.cell 0; have k1 := HK2.out.cell 1; have k2 := HK2.out.cell 2; have k3 := HK2.out.cell 3; simp only [bT, bU, bV] at k0 k1 k2 k3; go_wp2_with fail; refine (HSB.out w2 HB2.out).mono ?_; rintro e w3 ⟨⟨u3, rfl, ho3⟩, hb⟩; have HK3 := Hd (HK2.out.below hb HK2.out.lt); have HB3 := Hd (HB2.out.trans (hb.mono HB2.out.size)); have HO3 := Hd ho3.rd; clear ho3; clear hb k0 k1 k2 k3; have k0 := HK3.out.cell 0; have k1 := HK3.out.cell 1; have k2 := HK3.out.cell 2; have k3 := HK3.out.cell 3; simp only [bT, bU, bV] at k0 k1 k2 k3; go_wp2_with fail; refine (HSH.out w3 HB3.out).mono ?_; rintro e w4 ⟨⟨u4, rfl, hr4⟩, hb⟩; have HK4 := Hd (HK3.out.below hb HK3.out.lt); have HB4 := Hd (HB3.out.trans (hb.mono HB3.out.size)); have HR4 := Hd hr4; have HO4 := Hd (HO3.out.below hb lR); clear hr4; clear hb k0 k1 k2 k3; have k0 := HK4.out.cell 0; have k1 := HK4.out.cell 1; have k2 := HK4.out.cell 2; have k3 := HK4.out.cell 3; simp only [bT, bU, bV] at k0 k1 k2 k3; go_wp2_with fail; clear k0 k1 k2 k3; refine Ec [eF (.agg #[.int .i64 lv, .int .i64 ow, o, g]), eF (.bool true), eF (.agg #[.int .i64 lv, .int .i64 ow, o, g]), eF (.bool true), eF (.bool false)] (by kernel_rfl) (by kernel_rfl) (by kernel_rfl) (kE (kE (kE (kE (kE Ag))))) ?_ ?_
   ·refine gB ?_ (gB ?_ (gB ?_ (gB ?_ (gQ ?_ .nil)))); all_goals
     intro a wx hbx ha hf; refine ⟨rfl, ?_⟩; intro K hK; try have Pf1 : a.tmps[1]?.getD undef = .pointer (some ⟨p, 0, none⟩) := ha 1 (by kernel_rfl)
     try have Ef0 := eqn hf.1
     try have Ef1 := eqn hf.2.1
     try (refine Hd ?_; go_simp; exact hK _ rfl)
    ·exact wp_load_row 37 (.tmp 1) rfl _ (evs Pf1) _ _ (0, 0) _ (HK4.out.below hbx HK4.out.lt) Tryz.underlying37 rfl (by kernel_rfl) (hK _ _ rfl bR)
    ·go_simp; refine (HSR.out wx (HB4.out.trans (hbx.mono HB4.out.size))).mono ?_; rintro e w7 ⟨rfl, hb7⟩; exact hK _ _ rfl hb7
    ·exact wp_load_row 37 (.tmp 1) rfl _ (evs Pf1) _ _ (0, 0) _ (HK4.out.below hbx HK4.out.lt) Tryz.underlying37 rfl (by kernel_rfl) (hK _ _ rfl bR)
    ·go_simp; refine (HRR.out wx (HB4.out.trans (hbx.mono HB4.out.size))).mono ?_; rintro e w7 ⟨rfl, hb7⟩; exact hK _ _ rfl hb7
   ·rintro f w5 hb hfin; have S26 : f 26 = .bool false := hfin.2.2.2.2.1; clear hfin; simp only [Am, Ax, Ey, cR, cS, cT, cU, Nat.reduceBEq, Nat.reduceAdd, cV, cW, cond_true, cond_false]; rw [S26]; clear S26; have HK5 := Hd (HK4.out.below hb HK4.out.lt); have HB5 := Hd (HB4.out.trans (hb.mono HB4.out.size)); have HO5 := Hd (HO4.out.below hb lR); have HR5 := Hd (HR4.out.below hb lR); clear hb; have k0 := HK5.out.cell 0; have k1 := HK5.out.cell 1; have k2 := HK5.out.cell 2; have k3 := HK5.out.cell 3; simp only [bT, bU, bV] at k0 k1 k2 k3; go_wp2_with fail; refine (HRR.out w5 HB5.out).mono ?_; rintro e w6 ⟨rfl, hb⟩; have HK6 := Hd (HK5.out.below hb HK5.out.lt); have HB6 := Hd (HB5.out.trans (hb.mono HB5.out.size)); have HO6 := Hd (HO5.out.below hb lR); have HR6 := Hd (HR5.out.below hb lR); clear hb k0 k1 k2 k3; have k0 := HK6.out.cell 0; have k1 := HK6.out.cell 1; have k2 := HK6.out.cell 2; have k3 := HK6.out.cell 3; simp only [bT, bU, bV] at k0 k1 k2 k3; go_wp2_with fail; refine (HRB.out w6 HB6.out).mono ?_; rintro e w7 ⟨u7, rfl, hr7, hb⟩; have HK7 := Hd (HK6.out.below hb HK6.out.lt); have HB7 := Hd (HB6.out.trans (hb.mono HB6.out.size)); have HO7 := Hd (HO6.out.below hb lR); have HR7 := Hd (HR6.out.below hb lR); have HU7 := Hd hr7; clear hr7; clear hb k0 k1 k2 k3; have k0 := HK7.out.cell 0; have k1 := HK7.out.cell 1; have k2 := HK7.out.cell 2; have k3 := HK7.out.cell 3; simp only [bT, bU, bV] at k0 k1 k2 k3; go_wp2_with fail; refine (HSA.out u3 u7 w7 HO7.out HU7.out).mono ?_; rintro e w8 ⟨rfl, hb⟩; have HK8 := Hd (HK7.out.below hb HK7.out.lt); have HB8 := Hd (HB7.out.trans (hb.mono HB7.out.size)); have HO8 := Hd (HO7.out.below hb lR); have HR8 := Hd (HR7.out.below hb lR); clear hb k0 k1 k2 k3; have k0 := HK8.out.cell 0; have k1 := HK8.out.cell 1; have k2 := HK8.out.cell 2; have k3 := HK8.out.cell 3; simp only [bT, bU, bV] at k0 k1 k2 k3; go_wp2_with fail; refine (HRH.out w8 HB8.out).mono ?_; rintro e w9 ⟨u9, rfl, hr9, hb⟩; have HK9 := Hd (HK8.out.below hb HK8.out.lt); have HB9 := Hd (HB8.out.trans (hb.mono HB8.out.size)); have HO9 := Hd (HO8.out.below hb lR); have HR9 := Hd (HR8.out.below hb lR); have HU9 := Hd hr9; clear hr9; clear hb k0 k1 k2 k3; have k0 := HK9.out.cell 0; have k1 := HK9.out.cell 1; have k2 := HK9.out.cell 2; have k3 := HK9.out.cell 3; simp only [bT, bU, bV] at k0 k1 k2 k3; go_wp2_with fail; refine (HSC.out u4 u9 w9 HR9.out HU9.out).mono ?_; rintro e w10 ⟨rfl, hb⟩; have HK10 := Hd (HK9.out.below hb HK9.out.lt); have HB10 := Hd (HB9.out.trans (hb.mono HB9.out.size)); clear hb k0 k1 k2 k3; go_wp2_with fail; go_ret; exact ⟨rfl, HB10.out⟩
end Go.Proofs.YtngealmhgkoaiaaGreat
