/- Walks: the document's Whole. -/
import Derived.Test.YtngealmhgkoaiaaGreatZSliceCutsB
import Derived.Test.YtngealmhgkoaiaaGreatZSliceCuts39
import Derived.Test.YtngealmhgkoaiaaGreatZSliceCuts40
import Derived.Test.YtngealmhgkoaiaaGreatZSliceCuts30
open List renaming foldl_append → gG, take_length → gH, flatMap_append → gI, length_cons → cS, length_map → gJ, length_append → aG, length_take → dU, length_nil → bO, getElem?_toArray → bT, getElem?_cons_zero → bU, getElem?_cons_succ → bV, getD_eq_getElem?_getD → aH, getElem?_eq_getElem → aI, getElem_mem → aJ, range_succ → dV
open Nat renaming pow_le_pow_right → aY, lt_succ_self → dA, lt_of_lt_of_le → dZ, pow_succ → aN, two_pow_pos → fA, sub_zero → fU
open Bool renaming true_and → eK, false_and → dD
open Int renaming tmod → dG, tmod_eq_emod_of_nonneg → dH
set_option linter.unusedVariables false
set_option maxRecDepth 100000
set_option maxHeartbeats 40000000
namespace Go.Proofs.YtngealmhgkoaiaaGreat
open Go.RowKit WalkM WireM
section
def SW (FI : Int → Option NodeD) (d : Nat) (x : Int) (late : List Int) (r : Nat) : List Int × Bool := Lv FI x ([x], true) ((late.take r).flatMap (upL d))
def SI (FI : Int → Option NodeD) (d : Nat) (x : Int) (late : List Int) (r k : Nat) : List Int × Bool := Lv FI x (SW FI d x late r) ((upL d (late.getD r 0)).take k)
section
variable {FI : Int → Option NodeD} {d : Nat} {x : Int} {late : List Int}
theorem Pc (r : Nat) : SI FI d x late r 0 = SW FI d x late r := by simp [SI, Lv]
theorem Za6 {r k : Nat} (hk : k < (upL d (late.getD r 0)).length) : SI FI d x late r (k + 1) = Xv FI x (SI FI d x late r k) ((upL d (late.getD r 0)).getD k 0) := by
 unfold SI Lv; rw [← Ep hk, gG]; rfl
theorem Zei {r : Nat} (hr : r < late.length) : SI FI d x late r (upL d (late.getD r 0)).length = SW FI d x late (r + 1) := by
 unfold SI SW Lv; rw [gH, ← Ep hr, gI, gG]; simp
theorem Za7 : SW FI d x late late.length = Gz FI d x late := by rw [SW, gH]; rfl
theorem Zdr (s : List Int × Bool) (y : Int) : (Xv FI x s y).1.length ≤ s.1.length + 1 := by
 unfold Xv
 split
 ·simp
 ·omega
theorem Rk : ∀ (ys : List Int) (s : List Int × Bool), (Lv FI x s ys).1.length ≤ s.1.length + ys.length := by
 intro ys
 induction ys with
 | nil => intro s; simp [Lv]
 | cons y ys ih =>
  intro s; have h1 := ih (Xv FI x s y); have h2 := Zdr (FI := FI) (x := x) s y; show (Lv FI x (Xv FI x s y) ys).1.length ≤ _; rw [cS]; omega
theorem Id (hd : d ≤ 16) (u : Int) : (upL d u).length ≤ 17 := by
 unfold upL Ml; rw [cS, gJ]
 split
 ·rw [Oe, Int.toNat_natCast, Nat.log2_two_pow]; omega
 ·simp
theorem Zej (hd : d ≤ 16) : ∀ r, (SW FI d x late r).1.length ≤ 1 + 17 * r := by
 intro r; have h := Rk (FI := FI) (x := x) ((late.take r).flatMap (upL d)) ([x], true); have h2 : ((late.take r).flatMap (upL d)).length ≤ 17 * r := by
  have : ∀ L : List Int, (L.flatMap (upL d)).length ≤ 17 * L.length := by
   intro L
   induction L with
   | nil => simp
   | cons a L ih => rw [List.flatMap_cons, aG, cS]; have := Id hd a; omega
  have h3 := this (late.take r); rw [dU] at h3; omega
 unfold SW; simp only [cS, bO] at h; omega
theorem Zek (hd : d ≤ 16) (r k : Nat) : (SI FI d x late r k).1.length ≤ 18 + 17 * r := by
 have h := Rk (FI := FI) (x := x) ((upL d (late.getD r 0)).take k) (SW FI d x late r); have h2 := Zej (FI := FI) (d := d) (x := x) (late := late) hd r; have h3 := Id hd (late.getD r 0); rw [dU] at h; unfold SI; omega
theorem Vi {s : List Int × Bool} {y : Int} (h1 : y ≠ x) (h2 : Bl y x = true) (h3 : y ∉ s.1) : Xv FI x s y = (s.1 ++ [y], s.2 && (FI y).isSome) := by rw [Xv, if_pos ⟨h1, h2, h3⟩]
theorem Jr {s : List Int × Bool} {y : Int} (h : ¬ (y ≠ x ∧ Bl y x = true ∧ y ∉ s.1)) : Xv FI x s y = s := by rw [Xv, if_neg h]
end
def Kb (l : List (Int × NodeD)) : Prop := ∀ p ∈ l, p.2.kind < 256 ∧ p.2.par.late.length ≤ 1000 ∧ ∀ u ∈ p.2.par.late, 0 ≤ u ∧ u < 65536
def Zel (l : List (Int × NodeD)) (d k : Nat) : Prop := ∀ (x : Nat) (v : Value) (w : World), SpotsR w v l → IsLev x k → x + 2 ^ k ≤ 2 * 2 ^ d - 1 →
 Calls Tryz.prog 168 #[v, .int .i64 (x : Nat), .int .i64 ((2 ^ d : Nat) : Int)] w fun e w' => ∃ vo, e = .returned (.tuple #[vo, .bool (Ay (Ap l) d k x).2]) ∧ Own w' w.heap.size 3 vo (ivs .i64 (Ay (Ap l) d k x).1) ∧ Below w.heap.size w w'
theorem NodeC.frame {w : World} {d : NodeD} {c : Array Value} (h : NodeC w d c) : ∃ x1 x2 x3 x4 x5 x6 x7 x8 b e, c = #[.int .u8 (d.kind : Nat), x1, x2, x3, x4, x5, x6, x7, x8, .slice b d.par.late.length e] ∧ Rd w (.slice b d.par.late.length e) (ivs .i64 d.par.late) := by
 obtain ⟨a1, c1, a2, c2, a3, c3, a4, c4, a5, c5, b1, e1, b2, e2, b3, e3, rfl, h1, h2, h3, h4, h5, h6, h7, h8⟩ := h; exact ⟨_, _, _, _, _, _, _, _, _, _, rfl, h8⟩
theorem Np (l : List (Int × NodeD)) (d k x : Nat) (v : Value) (w : World) (h : SpotsR w v l) (hF : Ap l (x : Int) = none) :
  Calls Tryz.prog 168 #[v, .int .i64 (x : Nat), .int .i64 ((2 ^ d : Nat) : Int)] w fun e w' => ∃ vo, e = .returned (.tuple #[vo, .bool (Ay (Ap l) d k x).2]) ∧ Own w' w.heap.size 3 vo (ivs .i64 (Ay (Ap l) d k x).1) ∧ Below w.heap.size w w' := by
 rw [Ew hF]; have FD := fun (W : World) (hw : Below w.heap.size w W) => Fs v l x W (h.below hw lR); rw [hF] at FD; obtain ⟨n, hn⟩ := eX (2 ^ d); rw [← hn]; have HFI := Hd FD; obtain ⟨a, cp, rfl, -, -⟩ := h.sl; clear FD h hF hn; go_enter Tryz.func168, Tryz.ntmps168; go_wp2_with fail; refine (HFI.out w bR).mono ?_; rintro e w2 ⟨c, rfl, hnc, hb2⟩; have HONE := Hd hnc.oneL; obtain ⟨x0, x1, x2, x3, x4, x5, x6, x7, x8, x9, rfl⟩ := hnc.ten; have HB2 := Hd hb2; clear hnc hb2; obtain ⟨q, hq⟩ := eX w2.heap.size; have HQ := Hd hq; have HQK := Hd (show Blk (w2.alloc (.cells #[.int .u8 0, .slice none 0 0, .slice none 0 0, .slice none 0 0, .int .u8 0, .slice none 0 0, .slice none 0 0, .slice none 0 0, .slice none 0 0, .slice none 0 0] 54)) q 54 #[.int .u8 0, .slice none 0 0, .slice none 0 0, .slice none 0 0, .int .u8 0, .slice none 0 0, .slice none 0 0, .slice none 0 0, .slice none 0 0, .slice none 0 0] by rw [hq]; exact Blk.new _ _ _); clear hq; go_wp2_with (refine Ab rfl 54 (.tmp 8) (.tmp 27) rfl w2.heap.size #[x0, x1, x2, x3, x4, x5, x6, x7, x8, x9] rfl rfl 54 #[.int .u8 0, .slice none 0 0, .slice none 0 0, .slice none 0 0, .int .u8 0, .slice none 0 0, .slice none 0 0, .slice none 0 0, .slice none 0 0, .slice none 0 0] (HQ.out ▸ HQK.out) (by kernel_rfl) rfl HONE.out ?_); rintro w3 hblk hbl hoth hsize; have HB3 := Hd ((HB2.out.alloc HB2.out.size (.cells #[.int .u8 0, .slice none 0 0, .slice none 0 0, .slice none 0 0, .int .u8 0, .slice none 0 0, .slice none 0 0, .slice none 0 0, .slice none 0 0, .slice none 0 0] 54)).trans (hbl w.heap.size HB2.out.size)); clear hblk hbl hoth hsize; go_wp2_with fail; go_ret2; exact ⟨_, rfl, Own.nil _ _ _, HB3.out⟩
theorem Ly (l : List (Int × NodeD)) (d x : Nat) (v : Value) (w : World) (hd : d ≤ 16) (h : SpotsR w v l) (hK : Kb l) (D : NodeD) (hF : Ap l (x : Int) = some D) (hx : x ≤ 131070) (hkk : D.kind ≠ 0) :
  Calls Tryz.prog 168 #[v, .int .i64 (x : Nat), .int .i64 ((2 ^ d : Nat) : Int)] w fun e w' => ∃ vo, e = .returned (.tuple #[vo, .bool (Gz (Ap l) d x D.par.late).2]) ∧ Own w' w.heap.size 3 vo (ivs .i64 (Gz (Ap l) d x D.par.late).1) ∧ Below w.heap.size w w' := by
 obtain ⟨hk256, hln, hub⟩ := hK _ (Ef hF); have hk256 : D.kind < 256 := hk256; have hln : D.par.late.length ≤ 1000 := hln; have hub : ∀ u ∈ D.par.late, 0 ≤ u ∧ u < 65536 := hub; have FALL := fun (y : Int) (W : World) (hw : Below w.heap.size w W) => Fs v l y W (h.below hw lR); have FD := fun (W : World) (hw : Below w.heap.size w W) => FALL x W hw; rw [hF] at FD; have h2d : (2 ^ d : Nat) ≤ 2 ^ 16 := aY (by omega) hd; have h16 : (2 : Nat) ^ 16 = 65536 := rfl; have UN := fun (y : Int) (W : World) => Db y (x : Int) W; have UL := fun (u : Int) => Id hd u; have SIL := fun (r k : Nat) => Zek (FI := Ap l) (d := d) (x := (x : Int)) (late := D.par.late) hd r k; have ISL := fun (r k : Nat) (hr : r < D.par.late.length) => (show (SI (Ap l) d (x : Int) D.par.late r k).1.length ≤ 20000 from by have := SIL r k; omega); clear hK; obtain ⟨FI, hFI⟩ := eX (Ap l); rw [← hFI] at SIL ISL ⊢; simp only [← hFI] at FALL; have HFALL := Hd FALL; have HFI := Hd FD; obtain ⟨n, hn⟩ := eX (2 ^ d); rw [← hn]; have HN := Hd hn; have PATH := fun (y : Int) (W : World) => Ll y (n : Int) W (by omega) (by omega); obtain ⟨a, cp, rfl, -, -⟩ := h.sl; obtain ⟨kd, hkd⟩ := eX D.kind; obtain ⟨L, hL⟩ := eX D.par.late; rw [← hL] at hln hub SIL ISL ⊢; rw [← hkd] at hk256 hkk; have HKD := Hd hkd; have HLE := Hd hL; have HUB := Hd hub; have HPATH := Hd PATH; have HUN := Hd UN; have HUL := Hd UL; have HSIL := Hd SIL; have HISL := Hd ISL; have HLN := Hd hln; have hb0 : ((kd : Int) == 0) = false := (by rw [beq_eq_false_iff_ne]; omega); clear FALL FD h16 h2d PATH UN UL SIL ISL hFI hn hkd hL hub hln hF h hkk; go_enter Tryz.func168, Tryz.ntmps168; go_wp2_with fail; refine (HFI.out w bR).mono ?_; rintro e w2 ⟨c, rfl, hnc, hb2⟩; have HONE := Hd hnc.oneL; obtain ⟨x1, x2, x3, x4, x5, x6, x7, x8, b3, e3, rfl, hrd⟩ := hnc.frame; have hnc2 : (some D).getD Be = D := rfl; rw [hnc2, ← HKD.out, ← HLE.out] at HONE ⊢; rw [hnc2, ← HLE.out] at hrd; obtain ⟨l8, hl8⟩ := eX L.length; rw [← hl8] at HONE hrd ⊢; have HB2 := Hd hb2; have HRD2 := Hd hrd; have HL8 := Hd hl8; have hl81 : l8 ≤ 1000 := (by rw [hl8]; exact HLN.out); clear hnc hb2 hnc2 hrd hl8; obtain ⟨q, hq⟩ := eX w2.heap.size; have HQ := Hd hq; have HQK := Hd (show Blk (w2.alloc (.cells #[.int .u8 0, .slice none 0 0, .slice none 0 0, .slice none 0 0, .int .u8 0, .slice none 0 0, .slice none 0 0, .slice none 0 0, .slice none 0 0, .slice none 0 0] 54)) q 54 #[.int .u8 0, .slice none 0 0, .slice none 0 0, .slice none 0 0, .int .u8 0, .slice none 0 0, .slice none 0 0, .slice none 0 0, .slice none 0 0, .slice none 0 0] by rw [hq]; exact Blk.new _ _ _); clear hq; go_wp2_with (refine Ab rfl 54 (.tmp 8) (.tmp 27) rfl w2.heap.size #[.int .u8 (kd : Nat), x1, x2, x3, x4, x5, x6, x7, x8, .slice b3 l8 e3] rfl rfl 54 #[.int .u8 0, .slice none 0 0, .slice none 0 0, .slice none 0 0, .int .u8 0, .slice none 0 0, .slice none 0 0, .slice none 0 0, .slice none 0 0, .slice none 0 0] (HQ.out ▸ HQK.out) (by kernel_rfl) rfl HONE.out ?_); rintro w3 hblk hbl hoth hsize; rw [← HQ.out] at hblk ⊢; have HB3 := Hd ((HB2.out.alloc HB2.out.size (.cells #[.int .u8 0, .slice none 0 0, .slice none 0 0, .slice none 0 0, .int .u8 0, .slice none 0 0, .slice none 0 0, .slice none 0 0, .slice none 0 0, .slice none 0 0] 54)).trans (hbl w.heap.size HB2.out.size)); have HSZ := Hd (show w3.heap.size = q + 1 from by rw [hsize]; simp [HQ.out]); have HBK := Hd hblk; have HRD3 := Hd (HRD2.out.below (((Below.refl w2.heap.size w2).alloc lR (.cells #[.int .u8 0, .slice none 0 0, .slice none 0 0, .slice none 0 0, .int .u8 0, .slice none 0 0, .slice none 0 0, .slice none 0 0, .slice none 0 0, .slice none 0 0] 54)).trans (hbl w2.heap.size lR)) lR); have c0 := hblk.cell 0; have c9 := hblk.cell 9; simp only [bT, bU, bV] at c0 c9; have hqlt : q < w3.heap.size := (by rw [hsize]; simp [HQ.out]); clear hblk hbl hoth hsize; go_wp2_with fail; have HO0 := Hd (show Own (w3.alloc (.cells #[.int .i64 (x : Nat)] 3)) (q + 1) 3 (.slice (some ⟨w3.heap.size, 0, none⟩) 1 1) (ivs .i64 [(x : Int)]) from Own.full (B := q + 1) (cs := #[.int .i64 (x : Nat)]) rfl (by rw [HSZ.out]; exact lR) (by unfold maxLen; simp) rfl); have HBW0 := Hd (show Below (q + 1) w3 (w3.alloc (.cells #[.int .i64 (x : Nat)] 3)) from bR.alloc (by rw [HSZ.out]; exact lR) _); generalize hw4 : w3.alloc (.cells #[.int .i64 (x : Nat)] 3) = w4 at HO0 HBW0 ⊢; obtain ⟨ov0, hov0⟩ := eX (Value.slice (some ⟨w3.heap.size, 0, none⟩) 1 1); clear hw4 c0 c9 hov0 hqlt
 go_loopg [9, 10, 17] l8 (fun q0 kv ov iv wr => ∃ r : Nat, r + q0 = l8 ∧ iv = .int .i64 (r : Nat) ∧ kv = .bool (SW FI d x L r).2 ∧ Own wr (q + 1) 3 ov (ivs .i64 (SW FI d x L r).1) ∧ Below (q + 1) w3 wr)
 case atStart => exact ⟨0, by omega, rfl, rfl, HO0.out, HBW0.out⟩
 case round =>
  obtain ⟨r, hr, rfl, rfl, hown, hb⟩ := hrel; have HR := Hd hr; have HO := Hd hown; have HB := Hd hb; have HBK1 := Hd (HBK.out.below hb (dA _)); have c9 := HBK1.out.cell 9; simp only [bT, bU, bV] at c9; have HBA := Hd (HB3.out.trans (hb.mono (by have := HB2.out.size; have := HQ.out; omega))); clear hr hown hb
  by_cases hlt : r < l8
  ·have hlt' : decide (r < l8) = true := decide_eq_true hlt; have hltI : (r : Int) < (l8 : Int) := (by omega); obtain ⟨bl, ol, rfl, hbl, cu⟩ := (HRD3.out.below HB.out (by rw [HSZ.out]; exact lR)).at3 (Bv (show r < L.length by rw [← HL8.out]; exact hlt)); have hub := HUB.out (L.getD r 0) (by rw [aH, aI (show r < L.length by rw [← HL8.out]; exact hlt)]; exact aJ _); obtain ⟨u, hu⟩ := eX (L.getD r 0); rw [← hu] at cu hub; have HU := Hd hu; obtain ⟨hu0, hu1⟩ := hub; have hw : wrap64 (2 * u) = 2 * u := (by unfold wrap64; omega); obtain ⟨g1, rfl⟩ := eX gk; obtain ⟨wo, rfl⟩ : ∃ wo : World, wo = wr := ⟨_, rfl⟩; obtain ⟨ok0, hok0⟩ := eX ((SW FI d x L r).2); rw [← hok0]; have HOK0 := Hd hok0; obtain ⟨p1, p2, p3, rfl⟩ := Cn HO.out; clear hu hok0; go_wp2_with fail; have HPA := Hd (HPATH.out (2 * u) (wo.alloc (.cells #[.int .i64 (2 * u)] 3))); have HOL := Hd (show Own (wo.alloc (.cells #[.int .i64 (2 * u)] 3)) wo.heap.size 3 (.slice (some ⟨wo.heap.size, 0, none⟩) 1 1) [.int .i64 (2 * u)] from Own.full (B := wo.heap.size) (cs := #[.int .i64 (2 * u)]) rfl lR (by unfold maxLen; simp) rfl); have HAL := Hd ((Below.refl wo.heap.size wo).alloc lR (.cells #[.int .i64 (2 * u)] 3)); refine HPA.out.mono ?_; rintro e w5 ⟨pv, rfl, hpo, hb5⟩; have HPR := Hd hpo.rd; have HOL5 := Hd (HOL.out.below hb5 lR); have HB5 := Hd (HAL.out.trans (hb5.mono HAL.out.size)); obtain ⟨s1, s2, s3, rfl⟩ := Cn hpo; clear hpo hb5; go_wp2_with (at_builtin; refine Aj rfl (.tmp 85) (.tmp 88) 50 rfl wo.heap.size 3 _ 8 Bx _ [.int .i64 (2 * u)] rfl HOL5.out _ _ rfl HPR.out ?d1 ?d2 ?d3 ?_); case d1 => exact Eb _
   case d2 => have := HUL.out u; rw [upL, cS, gJ, ← HN.out] at this; rw [Ji]; simp; omega
   case d3 => exact HB5.out.size
   rintro uv w6 hown6 - hb6; have HUV := Hd (show Own w6 wo.heap.size 3 uv (ivs .i64 (upL d u)) from by
    have e : Value.int .i64 (2 * u) :: nvs (Ml (2 * u) ((2 ^ d : Nat) : Int)) = ivs .i64 (upL d u) := (by simp [upL, nvs, ivs]); rw [HN.out, e] at hown6; exact hown6)
   have HB6 := Hd (HB5.out.trans hb6); have HO6 := Hd (HO.out.below HB6.out lR); have HAP := Hd (show Ge (.slice p1 p2 p3) uv from fun g e1 e2 => by have := (HO.out.blockLt e1).1; have := (HUV.out.blockLt e2).2; omega); have HB6' := Hd (HB.out.trans (HB6.out.mono (show q + 1 ≤ wo.heap.size by have := HB.out.size; have := HSZ.out; omega))); clear hown6 hb6; obtain ⟨ul, hul⟩ := eX ((upL d u).length); have HULN := Hd hul; have hul17 : ul ≤ 17 := (by rw [hul]; exact HUL.out u); obtain ⟨v1, v2, rfl⟩ := Nk HUV.out hul.symm; clear hul; go_wp2_with fail
   go_loopg [9, 10, 20] ul (fun q0 kv ov iv wr => ∃ k : Nat, k + q0 = ul ∧ iv = .int .i64 (k : Nat) ∧ kv = .bool (SI FI d x L r k).2 ∧ Own wr (q + 1) 3 ov (ivs .i64 (SI FI d x L r k).1) ∧ Own wr wo.heap.size 3 (.slice v1 ul v2) (ivs .i64 (upL d u)) ∧ Ge ov (.slice v1 ul v2) ∧ Below (q + 1) w3 wr)
   case atStart => exact ⟨0, by omega, rfl, by rw [Pc, HOK0.out], by rw [Pc]; exact HO6.out, HUV.out, HAP.out, HB6'.out⟩
   case round =>
    obtain ⟨k, hk, rfl, rfl, hown, huv, hap, hb⟩ := hrel; have HK := Hd hk; have HO := Hd hown; have HUV := Hd huv; have HAP := Hd hap; have HB := Hd hb; have HBA := Hd (HB3.out.trans (hb.mono (by have := HB2.out.size; have := HQ.out; omega))); have hqw : q + 1 ≤ wr.heap.size := (by have := hb.size; have := HSZ.out; omega); have hww : w.heap.size ≤ wr.heap.size := HBA.out.size; have HQW := Hd hqw; obtain ⟨ok1, hok1⟩ := eX ((SI FI d x L r k).2); rw [← hok1]; have HOK1 := Hd hok1; clear hk hown huv hap hb hok1 hqw hww
    by_cases hku : k < ul
    ·have hku' : decide (k < ul) = true := decide_eq_true hku; have hkuI : (k : Int) < (ul : Int) := (by omega); obtain ⟨bu, ou, rfl, hbu, cy⟩ := HUV.out.rd.at3 (Bv (show k < (upL d u).length by rw [← HULN.out]; exact hku)); have HSS := Hd (Za6 (FI := FI) (d := d) (x := x) (late := L) (r := r) (k := k) (by rw [← HU.out, ← HULN.out]; exact hku)); rw [← HU.out] at HSS; obtain ⟨y, hy⟩ := eX ((upL d u).getD k 0); rw [← hy] at cy HSS; have HYE := Hd hy; clear hy; obtain ⟨p1, p2, p3, rfl⟩ := Cn HO.out
     by_cases c1 : y = x
     ·have hq1 : (y != x) = false := (by simp [c1]); have HS := Hd (show SI FI d x L r (k + 1) = SI FI d x L r k from by rw [HSS.out]; exact Jr fun h => h.1 c1); clear c1; go_wp2_with fail; go_roundg (gk - 1); case measure => have := HK.out; omega
      case rel => exact ⟨k + 1, by have := HK.out; omega, by go_num, by rw [HS.out, HOK1.out], by rw [HS.out]; exact HO.out, HUV.out, HAP.out, HB.out⟩
     ·have hq1 : (y != x) = true := (by simp [c1]); have HC1 := Hd c1; clear c1; have UN := HUN.out y wr; obtain ⟨bb, hbb⟩ := eX (Bl y x); rw [← hbb] at UN; have HUND := Hd UN; have HBB := Hd hbb; clear UN hbb; cases bb with
      | false =>
       have HS := Hd (show SI FI d x L r (k + 1) = SI FI d x L r k from by rw [HSS.out]; exact Jr fun h => by rw [← HBB.out] at h; cases h.2.1); clear HBB; go_wp2_with fail; refine HUND.out.mono ?_; rintro e w7 ⟨rfl, hb7⟩; have HB7 := Hd hb7; clear hb7; go_wp2_with fail; go_roundg (gk - 1); case measure => have := HK.out; omega
       case rel => exact ⟨k + 1, by have := HK.out; omega, by go_num, by rw [HS.out, HOK1.out], by rw [HS.out]; exact HO.out.below HB7.out lR, HUV.out.below HB7.out lR, HAP.out, HB.out.trans (HB7.out.mono HQW.out)⟩
      | true =>
       go_wp2_with fail; refine HUND.out.mono ?_; rintro e w7 ⟨rfl, hb7⟩; have HB7 := Hd hb7; have HO7 := Hd (HO.out.below hb7 lR); have HUV7 := Hd (HUV.out.below hb7 lR); have HBW7 := Hd (HB.out.trans (hb7.mono HQW.out)); have HBA7 := Hd (HBA.out.trans (hb7.mono HBA.out.size)); have hcy := (hb7.cell (p := ⟨bu, ou + k, none⟩) hbu).trans cy; have HBU7 := Hd (show bu < w7.heap.size from dZ hbu hb7.size); have HA := Bo _ (SI FI d x L r k).1 y w7 HO7.out.rd; obtain ⟨hh, hhh⟩ := eX (decide (y ∈ (SI FI d x L r k).1)); rw [← hhh] at HA; have HHAS := Hd HA; have HHH := Hd hhh; clear HA hhh hb7 cy hbu; cases hh with
       | true =>
        have HS := Hd (show SI FI d x L r (k + 1) = SI FI d x L r k from by rw [HSS.out]; exact Jr fun h => absurd (of_decide_eq_true HHH.out.symm) h.2.2); clear HHH HBB; go_wp2_with fail; refine HHAS.out.mono ?_; rintro e w8 ⟨rfl, rfl⟩; go_wp2_with fail; go_roundg (gk - 1); case measure => have := HK.out; omega
        case rel => exact ⟨k + 1, by have := HK.out; omega, by go_num, by rw [HS.out, HOK1.out], by rw [HS.out]; exact HO7.out, HUV7.out, HAP.out, HBW7.out⟩
       | false =>
        have HS := Hd (show SI FI d x L r (k + 1) = ((SI FI d x L r k).1 ++ [y], (SI FI d x L r k).2 && (FI y).isSome) from by rw [HSS.out]; exact Vi HC1.out HBB.out.symm (of_decide_eq_false HHH.out.symm)); clear HHH HBB; go_wp2_with fail; refine HHAS.out.mono ?_; rintro e w8 ⟨rfl, rfl⟩; go_wp2_with (at_builtin; refine Ci rfl (.tmp 119) (.tmp 124) 50 rfl (q + 1) 3 _ 8 Bx _ _ rfl (HO7.out.alloc _) _ (.int .i64 y) rfl ?c1 rfl ?c2 ?c3 ?_); case c1 => exact Ar rfl
        case c2 => have := HSIL.out r k; simp [ivs]; omega
        case c3 => have := HBW7.out.size; have := HSZ.out; simp; omega
        rintro ov9 w9 hown9 hg9 hb9 hnear; have HO9 := Hd hown9; have HUV9 := Hd (show Own w9 wo.heap.size 3 _ _ from (HUV7.out.alloc (.cells #[.int .i64 y] 3)).grown hg9 fun g e1 e2 => HAP.out g e2 e1); have HAP9 := Hd (Fq hnear HAP.out (HUV7.out.alloc (.cells #[.int .i64 y] 3))); have HBW9 := Hd ((HBW7.out.alloc (by have := HBW7.out.size; have := HSZ.out; omega) (.cells #[.int .i64 y] 3)).trans hb9); have HBA9 := Hd (HB3.out.trans (HBW9.out.mono (by have := HB2.out.size; have := HQ.out; omega))); obtain ⟨b9, o9, e9, hbu9, hcyo⟩ := HUV9.out.rd.at3 (Bv (show k < (upL d u).length by rw [← HULN.out]; exact hku)); cases e9; have hcy9 : w9.cell? ⟨bu, ou + k, none⟩ = some (.int .i64 y) := hcyo.trans (by rw [HYE.out]); have HFD := Hd (HFALL.out y w9 HBA9.out); clear hown9 hg9 hb9 hnear hcy hbu9 hcyo; obtain ⟨o1, o2, o3, rfl⟩ := Cn HO9.out; go_wp2_with fail; refine HFD.out.mono ?_; rintro e w10 ⟨c10, rfl, hnc10, hb10⟩; obtain ⟨fk, hfk⟩ := eX ((FI y).isSome); rw [← hfk]; have HFK := Hd hfk; have HONE10 := Hd hnc10.oneL; obtain ⟨y0, y1, y2, y3, y4, y5, y6, y7, y8, y9, rfl⟩ := hnc10.ten; have HB10 := Hd hb10; clear hnc10 hb10 hfk; obtain ⟨q10, hq10⟩ := eX w10.heap.size; have HQ10 := Hd hq10; have HQK10 := Hd (show Blk (w10.alloc (.cells #[.int .u8 0, .slice none 0 0, .slice none 0 0, .slice none 0 0, .int .u8 0, .slice none 0 0, .slice none 0 0, .slice none 0 0, .slice none 0 0, .slice none 0 0] 54)) q10 54 #[.int .u8 0, .slice none 0 0, .slice none 0 0, .slice none 0 0, .int .u8 0, .slice none 0 0, .slice none 0 0, .slice none 0 0, .slice none 0 0, .slice none 0 0] by rw [hq10]; exact Blk.new _ _ _); clear hq10; go_wp2_with (refine Ab rfl 54 (.tmp 21) (.tmp 133) rfl w10.heap.size #[y0, y1, y2, y3, y4, y5, y6, y7, y8, y9] rfl rfl 54 #[.int .u8 0, .slice none 0 0, .slice none 0 0, .slice none 0 0, .int .u8 0, .slice none 0 0, .slice none 0 0, .slice none 0 0, .slice none 0 0, .slice none 0 0] (HQ10.out ▸ HQK10.out) (by kernel_rfl) rfl HONE10.out ?_); rintro w11 hblk hbl hoth hsize; have HB11 := Hd (HB10.out.trans (((Below.refl w10.heap.size w10).alloc lR (.cells #[.int .u8 0, .slice none 0 0, .slice none 0 0, .slice none 0 0, .int .u8 0, .slice none 0 0, .slice none 0 0, .slice none 0 0, .slice none 0 0, .slice none 0 0] 54)).trans (hbl w10.heap.size lR) |>.mono HB10.out.size)); clear hblk hbl hoth hsize; have HEND := Hd (show (SI FI d x L r (k + 1)).2 = (ok1 && fk) from by rw [HS.out, HOK1.out, HFK.out]); have HEND1 := Hd (show (SI FI d x L r (k + 1)).1 = (SI FI d x L r k).1 ++ [y] from by rw [HS.out]); have HSZ9 := Hd (show q + 1 ≤ w9.heap.size from by have := HBW9.out.size; have := HSZ.out; omega); clear HFK HOK1 HS; cases ok1 with
        | true =>
         go_wp2_with fail; go_roundg (gk - 1); case measure => have := HK.out; omega
         case rel =>
          refine ⟨k + 1, by have := HK.out; omega, by go_num, by rw [HEND.out, eK], ?_, HUV9.out.below HB11.out lR, HAP9.out, HBW9.out.trans (HB11.out.mono HSZ9.out)⟩; have := HO9.out.below HB11.out lR; rw [HEND1.out]; simpa [ivs] using this
        | false =>
         go_wp2_with fail; go_roundg (gk - 1); case measure => have := HK.out; omega
         case rel =>
          refine ⟨k + 1, by have := HK.out; omega, by go_num, by rw [HEND.out, dD], ?_, HUV9.out.below HB11.out lR, HAP9.out, HBW9.out.trans (HB11.out.mono HSZ9.out)⟩; have := HO9.out.below HB11.out lR; rw [HEND1.out]; simpa [ivs] using this
    ·obtain rfl : k = ul := (by have := HK.out; omega); have hku' : decide (k < k) = false := decide_eq_false hku; have HE := Hd (show SI FI d x L r k = SW FI d x L (r + 1) from by
      rw [HULN.out, HU.out]; exact Zei (by rw [← HL8.out]; exact hlt))
     clear hku; go_wp2_with fail; go_roundg (g1 - 1); case measure => have := HR.out; omega
     case rel => exact ⟨r + 1, by have := HR.out; omega, by go_num, by rw [← HE.out, HOK1.out], by rw [← HE.out]; exact HO.out, HB.out⟩
  ·obtain rfl : r = l8 := (by have := HR.out; omega); have hlt' : decide (r < r) = false := decide_eq_false hlt; have HE := Hd (show SW FI d x L r = Gz FI d x L from by rw [HL8.out]; exact Za7); obtain ⟨ok0, hok0⟩ := eX ((SW FI d x L r).2); rw [← hok0]; have HOK0 := Hd hok0; clear hlt hok0; go_wp2_with fail; go_ret2; obtain rfl : ok0 = (Gz FI d x L).2 := (by rw [HOK0.out, HE.out]); refine ⟨_, rfl, ?_, HBA.out⟩; rw [← HE.out]; exact HO.out.mono (by have := HB2.out.size; have := HQ.out; omega)
theorem Tn (l : List (Int × NodeD)) (d x : Nat) (v : Value) (w : World) (hd : d ≤ 16) (h : SpotsR w v l) (hK : Kb l) (D : NodeD) (hF : Ap l (x : Int) = some D) (hx : x ≤ 131070) (hkk : D.kind = 0 ∧ x % 2 = 0) :
  Calls Tryz.prog 168 #[v, .int .i64 (x : Nat), .int .i64 ((2 ^ d : Nat) : Int)] w fun e w' => ∃ vo, e = .returned (.tuple #[vo, .bool (Gz (Ap l) d x D.par.late).2]) ∧ Own w' w.heap.size 3 vo (ivs .i64 (Gz (Ap l) d x D.par.late).1) ∧ Below w.heap.size w w' := by
 obtain ⟨hk256, hln, hub⟩ := hK _ (Ef hF); have hk256 : D.kind < 256 := hk256; have hln : D.par.late.length ≤ 1000 := hln; have hub : ∀ u ∈ D.par.late, 0 ≤ u ∧ u < 65536 := hub; have FALL := fun (y : Int) (W : World) (hw : Below w.heap.size w W) => Fs v l y W (h.below hw lR); have FD := fun (W : World) (hw : Below w.heap.size w W) => FALL x W hw; rw [hF] at FD; have h2d : (2 ^ d : Nat) ≤ 2 ^ 16 := aY (by omega) hd; have h16 : (2 : Nat) ^ 16 = 65536 := rfl; have UN := fun (y : Int) (W : World) => Db y (x : Int) W; have UL := fun (u : Int) => Id hd u; have SIL := fun (r k : Nat) => Zek (FI := Ap l) (d := d) (x := (x : Int)) (late := D.par.late) hd r k; have ISL := fun (r k : Nat) (hr : r < D.par.late.length) => (show (SI (Ap l) d (x : Int) D.par.late r k).1.length ≤ 20000 from by have := SIL r k; omega); clear hK; obtain ⟨FI, hFI⟩ := eX (Ap l); rw [← hFI] at SIL ISL ⊢; simp only [← hFI] at FALL; have HFALL := Hd FALL; have HFI := Hd FD; obtain ⟨n, hn⟩ := eX (2 ^ d); rw [← hn]; have HN := Hd hn; have PATH := fun (y : Int) (W : World) => Ll y (n : Int) W (by omega) (by omega); obtain ⟨a, cp, rfl, -, -⟩ := h.sl; obtain ⟨kd, hkd⟩ := eX D.kind; obtain ⟨L, hL⟩ := eX D.par.late; rw [← hL] at hln hub SIL ISL ⊢; rw [← hkd] at hk256 hkk; have HKD := Hd hkd; have HLE := Hd hL; have HUB := Hd hub; have HPATH := Hd PATH; have HUN := Hd UN; have HUL := Hd UL; have HSIL := Hd SIL; have HISL := Hd ISL; have HLN := Hd hln; have hk1 := hkk.1; have hk2 := hkk.2; have hb0 : ((kd : Int) == 0) = true := (by rw [beq_iff_eq]; omega); have hb1 : (((x : Nat) : Int) % 2 == 1) = false := (by rw [beq_eq_false_iff_ne]; omega); have hb2 : (dG (x : Int) 2 == 1) = false := (by rw [dH (by omega), beq_eq_false_iff_ne]; omega); clear FALL FD h16 h2d PATH UN UL SIL ISL hFI hn hkd hL hub hln hF h hkk hk1 hk2; go_enter Tryz.func168, Tryz.ntmps168; go_wp2_with fail; refine (HFI.out w bR).mono ?_; rintro e w2 ⟨c, rfl, hnc, hb2⟩; have HONE := Hd hnc.oneL; obtain ⟨x1, x2, x3, x4, x5, x6, x7, x8, b3, e3, rfl, hrd⟩ := hnc.frame; have hnc2 : (some D).getD Be = D := rfl; rw [hnc2, ← HKD.out, ← HLE.out] at HONE ⊢; rw [hnc2, ← HLE.out] at hrd; obtain ⟨l8, hl8⟩ := eX L.length; rw [← hl8] at HONE hrd ⊢; have HB2 := Hd hb2; have HRD2 := Hd hrd; have HL8 := Hd hl8; have hl81 : l8 ≤ 1000 := (by rw [hl8]; exact HLN.out); clear hnc hb2 hnc2 hrd hl8; obtain ⟨q, hq⟩ := eX w2.heap.size; have HQ := Hd hq; have HQK := Hd (show Blk (w2.alloc (.cells #[.int .u8 0, .slice none 0 0, .slice none 0 0, .slice none 0 0, .int .u8 0, .slice none 0 0, .slice none 0 0, .slice none 0 0, .slice none 0 0, .slice none 0 0] 54)) q 54 #[.int .u8 0, .slice none 0 0, .slice none 0 0, .slice none 0 0, .int .u8 0, .slice none 0 0, .slice none 0 0, .slice none 0 0, .slice none 0 0, .slice none 0 0] by rw [hq]; exact Blk.new _ _ _); clear hq; go_wp2_with (refine Ab rfl 54 (.tmp 8) (.tmp 27) rfl w2.heap.size #[.int .u8 (kd : Nat), x1, x2, x3, x4, x5, x6, x7, x8, .slice b3 l8 e3] rfl rfl 54 #[.int .u8 0, .slice none 0 0, .slice none 0 0, .slice none 0 0, .int .u8 0, .slice none 0 0, .slice none 0 0, .slice none 0 0, .slice none 0 0, .slice none 0 0] (HQ.out ▸ HQK.out) (by kernel_rfl) rfl HONE.out ?_); rintro w3 hblk hbl hoth hsize; rw [← HQ.out] at hblk ⊢; have HB3 := Hd ((HB2.out.alloc HB2.out.size (.cells #[.int .u8 0, .slice none 0 0, .slice none 0 0, .slice none 0 0, .int .u8 0, .slice none 0 0, .slice none 0 0, .slice none 0 0, .slice none 0 0, .slice none 0 0] 54)).trans (hbl w.heap.size HB2.out.size)); have HSZ := Hd (show w3.heap.size = q + 1 from by rw [hsize]; simp [HQ.out]); have HBK := Hd hblk; have HRD3 := Hd (HRD2.out.below (((Below.refl w2.heap.size w2).alloc lR (.cells #[.int .u8 0, .slice none 0 0, .slice none 0 0, .slice none 0 0, .int .u8 0, .slice none 0 0, .slice none 0 0, .slice none 0 0, .slice none 0 0, .slice none 0 0] 54)).trans (hbl w2.heap.size lR)) lR); have c0 := hblk.cell 0; have c9 := hblk.cell 9; simp only [bT, bU, bV] at c0 c9; have hqlt : q < w3.heap.size := (by rw [hsize]; simp [HQ.out]); clear hblk hbl hoth hsize; go_wp2_with fail; have HO0 := Hd (show Own (w3.alloc (.cells #[.int .i64 (x : Nat)] 3)) (q + 1) 3 (.slice (some ⟨w3.heap.size, 0, none⟩) 1 1) (ivs .i64 [(x : Int)]) from Own.full (B := q + 1) (cs := #[.int .i64 (x : Nat)]) rfl (by rw [HSZ.out]; exact lR) (by unfold maxLen; simp) rfl); have HBW0 := Hd (show Below (q + 1) w3 (w3.alloc (.cells #[.int .i64 (x : Nat)] 3)) from bR.alloc (by rw [HSZ.out]; exact lR) _); generalize hw4 : w3.alloc (.cells #[.int .i64 (x : Nat)] 3) = w4 at HO0 HBW0 ⊢; obtain ⟨ov0, hov0⟩ := eX (Value.slice (some ⟨w3.heap.size, 0, none⟩) 1 1); clear hw4 c0 c9 hov0 hqlt
 go_loopg [9, 10, 17] l8 (fun q0 kv ov iv wr => ∃ r : Nat, r + q0 = l8 ∧ iv = .int .i64 (r : Nat) ∧ kv = .bool (SW FI d x L r).2 ∧ Own wr (q + 1) 3 ov (ivs .i64 (SW FI d x L r).1) ∧ Below (q + 1) w3 wr)
 case atStart => exact ⟨0, by omega, rfl, rfl, HO0.out, HBW0.out⟩
 case round =>
  obtain ⟨r, hr, rfl, rfl, hown, hb⟩ := hrel; have HR := Hd hr; have HO := Hd hown; have HB := Hd hb; have HBK1 := Hd (HBK.out.below hb (dA _)); have c9 := HBK1.out.cell 9; simp only [bT, bU, bV] at c9; have HBA := Hd (HB3.out.trans (hb.mono (by have := HB2.out.size; have := HQ.out; omega))); clear hr hown hb
  by_cases hlt : r < l8
  ·have hlt' : decide (r < l8) = true := decide_eq_true hlt; have hltI : (r : Int) < (l8 : Int) := (by omega); obtain ⟨bl, ol, rfl, hbl, cu⟩ := (HRD3.out.below HB.out (by rw [HSZ.out]; exact lR)).at3 (Bv (show r < L.length by rw [← HL8.out]; exact hlt)); have hub := HUB.out (L.getD r 0) (by rw [aH, aI (show r < L.length by rw [← HL8.out]; exact hlt)]; exact aJ _); obtain ⟨u, hu⟩ := eX (L.getD r 0); rw [← hu] at cu hub; have HU := Hd hu; obtain ⟨hu0, hu1⟩ := hub; have hw : wrap64 (2 * u) = 2 * u := (by unfold wrap64; omega); obtain ⟨g1, rfl⟩ := eX gk; obtain ⟨wo, rfl⟩ : ∃ wo : World, wo = wr := ⟨_, rfl⟩; obtain ⟨ok0, hok0⟩ := eX ((SW FI d x L r).2); rw [← hok0]; have HOK0 := Hd hok0; obtain ⟨p1, p2, p3, rfl⟩ := Cn HO.out; clear hu hok0; go_wp2_with fail; have HPA := Hd (HPATH.out (2 * u) (wo.alloc (.cells #[.int .i64 (2 * u)] 3))); have HOL := Hd (show Own (wo.alloc (.cells #[.int .i64 (2 * u)] 3)) wo.heap.size 3 (.slice (some ⟨wo.heap.size, 0, none⟩) 1 1) [.int .i64 (2 * u)] from Own.full (B := wo.heap.size) (cs := #[.int .i64 (2 * u)]) rfl lR (by unfold maxLen; simp) rfl); have HAL := Hd ((Below.refl wo.heap.size wo).alloc lR (.cells #[.int .i64 (2 * u)] 3)); refine HPA.out.mono ?_; rintro e w5 ⟨pv, rfl, hpo, hb5⟩; have HPR := Hd hpo.rd; have HOL5 := Hd (HOL.out.below hb5 lR); have HB5 := Hd (HAL.out.trans (hb5.mono HAL.out.size)); obtain ⟨s1, s2, s3, rfl⟩ := Cn hpo; clear hpo hb5; go_wp2_with (at_builtin; refine Aj rfl (.tmp 85) (.tmp 88) 50 rfl wo.heap.size 3 _ 8 Bx _ [.int .i64 (2 * u)] rfl HOL5.out _ _ rfl HPR.out ?d1 ?d2 ?d3 ?_); case d1 => exact Eb _
   case d2 => have := HUL.out u; rw [upL, cS, gJ, ← HN.out] at this; rw [Ji]; simp; omega
   case d3 => exact HB5.out.size
   rintro uv w6 hown6 - hb6; have HUV := Hd (show Own w6 wo.heap.size 3 uv (ivs .i64 (upL d u)) from by
    have e : Value.int .i64 (2 * u) :: nvs (Ml (2 * u) ((2 ^ d : Nat) : Int)) = ivs .i64 (upL d u) := (by simp [upL, nvs, ivs]); rw [HN.out, e] at hown6; exact hown6)
   have HB6 := Hd (HB5.out.trans hb6); have HO6 := Hd (HO.out.below HB6.out lR); have HAP := Hd (show Ge (.slice p1 p2 p3) uv from fun g e1 e2 => by have := (HO.out.blockLt e1).1; have := (HUV.out.blockLt e2).2; omega); have HB6' := Hd (HB.out.trans (HB6.out.mono (show q + 1 ≤ wo.heap.size by have := HB.out.size; have := HSZ.out; omega))); clear hown6 hb6; obtain ⟨ul, hul⟩ := eX ((upL d u).length); have HULN := Hd hul; have hul17 : ul ≤ 17 := (by rw [hul]; exact HUL.out u); obtain ⟨v1, v2, rfl⟩ := Nk HUV.out hul.symm; clear hul; go_wp2_with fail
   go_loopg [9, 10, 20] ul (fun q0 kv ov iv wr => ∃ k : Nat, k + q0 = ul ∧ iv = .int .i64 (k : Nat) ∧ kv = .bool (SI FI d x L r k).2 ∧ Own wr (q + 1) 3 ov (ivs .i64 (SI FI d x L r k).1) ∧ Own wr wo.heap.size 3 (.slice v1 ul v2) (ivs .i64 (upL d u)) ∧ Ge ov (.slice v1 ul v2) ∧ Below (q + 1) w3 wr)
   case atStart => exact ⟨0, by omega, rfl, by rw [Pc, HOK0.out], by rw [Pc]; exact HO6.out, HUV.out, HAP.out, HB6'.out⟩
   case round =>
    obtain ⟨k, hk, rfl, rfl, hown, huv, hap, hb⟩ := hrel; have HK := Hd hk; have HO := Hd hown; have HUV := Hd huv; have HAP := Hd hap; have HB := Hd hb; have HBA := Hd (HB3.out.trans (hb.mono (by have := HB2.out.size; have := HQ.out; omega))); have hqw : q + 1 ≤ wr.heap.size := (by have := hb.size; have := HSZ.out; omega); have hww : w.heap.size ≤ wr.heap.size := HBA.out.size; have HQW := Hd hqw; obtain ⟨ok1, hok1⟩ := eX ((SI FI d x L r k).2); rw [← hok1]; have HOK1 := Hd hok1; clear hk hown huv hap hb hok1 hqw hww
    by_cases hku : k < ul
    ·have hku' : decide (k < ul) = true := decide_eq_true hku; have hkuI : (k : Int) < (ul : Int) := (by omega); obtain ⟨bu, ou, rfl, hbu, cy⟩ := HUV.out.rd.at3 (Bv (show k < (upL d u).length by rw [← HULN.out]; exact hku)); have HSS := Hd (Za6 (FI := FI) (d := d) (x := x) (late := L) (r := r) (k := k) (by rw [← HU.out, ← HULN.out]; exact hku)); rw [← HU.out] at HSS; obtain ⟨y, hy⟩ := eX ((upL d u).getD k 0); rw [← hy] at cy HSS; have HYE := Hd hy; clear hy; obtain ⟨p1, p2, p3, rfl⟩ := Cn HO.out
     by_cases c1 : y = x
     ·have hq1 : (y != x) = false := (by simp [c1]); have HS := Hd (show SI FI d x L r (k + 1) = SI FI d x L r k from by rw [HSS.out]; exact Jr fun h => h.1 c1); clear c1; go_wp2_with fail; go_roundg (gk - 1); case measure => have := HK.out; omega
      case rel => exact ⟨k + 1, by have := HK.out; omega, by go_num, by rw [HS.out, HOK1.out], by rw [HS.out]; exact HO.out, HUV.out, HAP.out, HB.out⟩
     ·have hq1 : (y != x) = true := (by simp [c1]); have HC1 := Hd c1; clear c1; have UN := HUN.out y wr; obtain ⟨bb, hbb⟩ := eX (Bl y x); rw [← hbb] at UN; have HUND := Hd UN; have HBB := Hd hbb; clear UN hbb; cases bb with
      | false =>
       have HS := Hd (show SI FI d x L r (k + 1) = SI FI d x L r k from by rw [HSS.out]; exact Jr fun h => by rw [← HBB.out] at h; cases h.2.1); clear HBB; go_wp2_with fail; refine HUND.out.mono ?_; rintro e w7 ⟨rfl, hb7⟩; have HB7 := Hd hb7; clear hb7; go_wp2_with fail; go_roundg (gk - 1); case measure => have := HK.out; omega
       case rel => exact ⟨k + 1, by have := HK.out; omega, by go_num, by rw [HS.out, HOK1.out], by rw [HS.out]; exact HO.out.below HB7.out lR, HUV.out.below HB7.out lR, HAP.out, HB.out.trans (HB7.out.mono HQW.out)⟩
      | true =>
       go_wp2_with fail; refine HUND.out.mono ?_; rintro e w7 ⟨rfl, hb7⟩; have HB7 := Hd hb7; have HO7 := Hd (HO.out.below hb7 lR); have HUV7 := Hd (HUV.out.below hb7 lR); have HBW7 := Hd (HB.out.trans (hb7.mono HQW.out)); have HBA7 := Hd (HBA.out.trans (hb7.mono HBA.out.size)); have hcy := (hb7.cell (p := ⟨bu, ou + k, none⟩) hbu).trans cy; have HBU7 := Hd (show bu < w7.heap.size from dZ hbu hb7.size); have HA := Bo _ (SI FI d x L r k).1 y w7 HO7.out.rd; obtain ⟨hh, hhh⟩ := eX (decide (y ∈ (SI FI d x L r k).1)); rw [← hhh] at HA; have HHAS := Hd HA; have HHH := Hd hhh; clear HA hhh hb7 cy hbu; cases hh with
       | true =>
        have HS := Hd (show SI FI d x L r (k + 1) = SI FI d x L r k from by rw [HSS.out]; exact Jr fun h => absurd (of_decide_eq_true HHH.out.symm) h.2.2); clear HHH HBB; go_wp2_with fail; refine HHAS.out.mono ?_; rintro e w8 ⟨rfl, rfl⟩; go_wp2_with fail; go_roundg (gk - 1); case measure => have := HK.out; omega
        case rel => exact ⟨k + 1, by have := HK.out; omega, by go_num, by rw [HS.out, HOK1.out], by rw [HS.out]; exact HO7.out, HUV7.out, HAP.out, HBW7.out⟩
       | false =>
        have HS := Hd (show SI FI d x L r (k + 1) = ((SI FI d x L r k).1 ++ [y], (SI FI d x L r k).2 && (FI y).isSome) from by rw [HSS.out]; exact Vi HC1.out HBB.out.symm (of_decide_eq_false HHH.out.symm)); clear HHH HBB; go_wp2_with fail; refine HHAS.out.mono ?_; rintro e w8 ⟨rfl, rfl⟩; go_wp2_with (at_builtin; refine Ci rfl (.tmp 119) (.tmp 124) 50 rfl (q + 1) 3 _ 8 Bx _ _ rfl (HO7.out.alloc _) _ (.int .i64 y) rfl ?c1 rfl ?c2 ?c3 ?_); case c1 => exact Ar rfl
        case c2 => have := HSIL.out r k; simp [ivs]; omega
        case c3 => have := HBW7.out.size; have := HSZ.out; simp; omega
        rintro ov9 w9 hown9 hg9 hb9 hnear; have HO9 := Hd hown9; have HUV9 := Hd (show Own w9 wo.heap.size 3 _ _ from (HUV7.out.alloc (.cells #[.int .i64 y] 3)).grown hg9 fun g e1 e2 => HAP.out g e2 e1); have HAP9 := Hd (Fq hnear HAP.out (HUV7.out.alloc (.cells #[.int .i64 y] 3))); have HBW9 := Hd ((HBW7.out.alloc (by have := HBW7.out.size; have := HSZ.out; omega) (.cells #[.int .i64 y] 3)).trans hb9); have HBA9 := Hd (HB3.out.trans (HBW9.out.mono (by have := HB2.out.size; have := HQ.out; omega))); obtain ⟨b9, o9, e9, hbu9, hcyo⟩ := HUV9.out.rd.at3 (Bv (show k < (upL d u).length by rw [← HULN.out]; exact hku)); cases e9; have hcy9 : w9.cell? ⟨bu, ou + k, none⟩ = some (.int .i64 y) := hcyo.trans (by rw [HYE.out]); have HFD := Hd (HFALL.out y w9 HBA9.out); clear hown9 hg9 hb9 hnear hcy hbu9 hcyo; obtain ⟨o1, o2, o3, rfl⟩ := Cn HO9.out; go_wp2_with fail; refine HFD.out.mono ?_; rintro e w10 ⟨c10, rfl, hnc10, hb10⟩; obtain ⟨fk, hfk⟩ := eX ((FI y).isSome); rw [← hfk]; have HFK := Hd hfk; have HONE10 := Hd hnc10.oneL; obtain ⟨y0, y1, y2, y3, y4, y5, y6, y7, y8, y9, rfl⟩ := hnc10.ten; have HB10 := Hd hb10; clear hnc10 hb10 hfk; obtain ⟨q10, hq10⟩ := eX w10.heap.size; have HQ10 := Hd hq10; have HQK10 := Hd (show Blk (w10.alloc (.cells #[.int .u8 0, .slice none 0 0, .slice none 0 0, .slice none 0 0, .int .u8 0, .slice none 0 0, .slice none 0 0, .slice none 0 0, .slice none 0 0, .slice none 0 0] 54)) q10 54 #[.int .u8 0, .slice none 0 0, .slice none 0 0, .slice none 0 0, .int .u8 0, .slice none 0 0, .slice none 0 0, .slice none 0 0, .slice none 0 0, .slice none 0 0] by rw [hq10]; exact Blk.new _ _ _); clear hq10; go_wp2_with (refine Ab rfl 54 (.tmp 21) (.tmp 133) rfl w10.heap.size #[y0, y1, y2, y3, y4, y5, y6, y7, y8, y9] rfl rfl 54 #[.int .u8 0, .slice none 0 0, .slice none 0 0, .slice none 0 0, .int .u8 0, .slice none 0 0, .slice none 0 0, .slice none 0 0, .slice none 0 0, .slice none 0 0] (HQ10.out ▸ HQK10.out) (by kernel_rfl) rfl HONE10.out ?_); rintro w11 hblk hbl hoth hsize; have HB11 := Hd (HB10.out.trans (((Below.refl w10.heap.size w10).alloc lR (.cells #[.int .u8 0, .slice none 0 0, .slice none 0 0, .slice none 0 0, .int .u8 0, .slice none 0 0, .slice none 0 0, .slice none 0 0, .slice none 0 0, .slice none 0 0] 54)).trans (hbl w10.heap.size lR) |>.mono HB10.out.size)); clear hblk hbl hoth hsize; have HEND := Hd (show (SI FI d x L r (k + 1)).2 = (ok1 && fk) from by rw [HS.out, HOK1.out, HFK.out]); have HEND1 := Hd (show (SI FI d x L r (k + 1)).1 = (SI FI d x L r k).1 ++ [y] from by rw [HS.out]); have HSZ9 := Hd (show q + 1 ≤ w9.heap.size from by have := HBW9.out.size; have := HSZ.out; omega); clear HFK HOK1 HS; cases ok1 with
        | true =>
         go_wp2_with fail; go_roundg (gk - 1); case measure => have := HK.out; omega
         case rel =>
          refine ⟨k + 1, by have := HK.out; omega, by go_num, by rw [HEND.out, eK], ?_, HUV9.out.below HB11.out lR, HAP9.out, HBW9.out.trans (HB11.out.mono HSZ9.out)⟩; have := HO9.out.below HB11.out lR; rw [HEND1.out]; simpa [ivs] using this
        | false =>
         go_wp2_with fail; go_roundg (gk - 1); case measure => have := HK.out; omega
         case rel =>
          refine ⟨k + 1, by have := HK.out; omega, by go_num, by rw [HEND.out, dD], ?_, HUV9.out.below HB11.out lR, HAP9.out, HBW9.out.trans (HB11.out.mono HSZ9.out)⟩; have := HO9.out.below HB11.out lR; rw [HEND1.out]; simpa [ivs] using this
    ·obtain rfl : k = ul := (by have := HK.out; omega); have hku' : decide (k < k) = false := decide_eq_false hku; have HE := Hd (show SI FI d x L r k = SW FI d x L (r + 1) from by
      rw [HULN.out, HU.out]; exact Zei (by rw [← HL8.out]; exact hlt))
     clear hku; go_wp2_with fail; go_roundg (g1 - 1); case measure => have := HR.out; omega
     case rel => exact ⟨r + 1, by have := HR.out; omega, by go_num, by rw [← HE.out, HOK1.out], by rw [← HE.out]; exact HO.out, HB.out⟩
  ·obtain rfl : r = l8 := (by have := HR.out; omega); have hlt' : decide (r < r) = false := decide_eq_false hlt; have HE := Hd (show SW FI d x L r = Gz FI d x L from by rw [HL8.out]; exact Za7); obtain ⟨ok0, hok0⟩ := eX ((SW FI d x L r).2); rw [← hok0]; have HOK0 := Hd hok0; clear hlt hok0; go_wp2_with fail; go_ret2; obtain rfl : ok0 = (Gz FI d x L).2 := (by rw [HOK0.out, HE.out]); refine ⟨_, rfl, ?_, HBA.out⟩; rw [← HE.out]; exact HO.out.mono (by have := HB2.out.size; have := HQ.out; omega)
end
theorem Rl {FI : Int → Option NodeD} {d : Nat} {x : Int} {late : List Int} (hd : d ≤ 16) (h : late.length ≤ 1000) : (Gz FI d x late).1.length ≤ 17001 := by
 have := Zej (FI := FI) (d := d) (x := x) (late := late) hd late.length; rw [Za7] at this; omega
theorem Hp {l : List (Int × NodeD)} {d : Nat} (hd : d ≤ 16) (hK : Kb l) : ∀ k x, (Ay (Ap l) d k x).1.length + 20000 ≤ 20000 * 2 ^ (k + 1) := by
 intro k
 induction k with
 | zero =>
  intro x; cases hF : Ap l (x : Int) with
  | none => rw [Ew hF]; simp
  | some D =>
   rw [Gd hF]; have := Rl (FI := Ap l) (x := (x : Int)) (late := D.par.late) hd (hK _ (Ef hF)).2.1; have e : 2 ^ (0 + 1) = 2 := rfl; omega
 | succ k ih =>
  intro x; have e : 2 ^ (k + 1 + 1) = 2 * 2 ^ (k + 1) := (by rw [aN]; omega); have hp := fA (k + 1); cases hF : Ap l (x : Int) with
  | none => rw [Ew hF]; simp; omega
  | some D =>
   by_cases hk : D.kind = 0
   ·rw [Ha hF hk]; have h1 := ih (x - 2 ^ k); have h2 := ih (x + 2 ^ k); simp only [aG, cS, bO]; omega
   ·rw [Ia hF hk]; have := Rl (FI := Ap l) (x := (x : Int)) (late := D.par.late) hd (hK _ (Ef hF)).2.1; omega
theorem Za8 (l : List (Int × NodeD)) (d k x : Nat) (v : Value) (w : World) (hd : d ≤ 16) (h : SpotsR w v l) (hK : Kb l) (D : NodeD) (hF : Ap l (x : Int) = some D) (hlx : IsLev x (k + 1)) (hx : x + 2 ^ (k + 1) ≤ 2 * 2 ^ d - 1) (hk0 : D.kind = 0) (IH : Zel l d k) :
  Calls Tryz.prog 168 #[v, .int .i64 (x : Nat), .int .i64 ((2 ^ d : Nat) : Int)] w fun e w' => ∃ vo, e = .returned (.tuple #[vo, .bool (Ay (Ap l) d (k + 1) x).2]) ∧ Own w' w.heap.size 3 vo (ivs .i64 (Ay (Ap l) d (k + 1) x).1) ∧ Below w.heap.size w w' := by
 obtain ⟨hM, e2⟩ := Cx hd; obtain ⟨l1, l2, hx0, hb1, hb2, kl, kr⟩ := En hlx hx hM; have hodd := Kt hlx; have hpp := fA k; have hppk := fA (k + 1); have hkd : k ≤ 16 := by
  rcases Nat.lt_or_ge 16 k with h | h
  ·have := aY (show 0 < 2 by omega) (show 17 ≤ k from h); have h17 : (2 : Nat) ^ 17 = 131072 := rfl; omega
  ·exact h
 have hp17 : 2 ^ (k + 1) ≤ 2 ^ 17 := aY (by omega) (by omega); have h17 : (2 : Nat) ^ 17 = 131072 := rfl; have FALL := fun (y : Int) (W : World) (hw : Below w.heap.size w W) => Fs v l y W (h.below hw lR); have FD := fun (W : World) (hw : Below w.heap.size w W) => FALL x W hw; rw [hF] at FD; have KD := fun (W : World) => Hk (x : Int) W; rw [kl, kr] at KD; have R1 := fun (W : World) (hw : Below w.heap.size w W) => IH (x - 2 ^ k) v W (h.below hw lR) l1 hb1; have R2 := fun (W : World) (hw : Below w.heap.size w W) => IH (x + 2 ^ k) v W (h.below hw lR) l2 hb2; have n1 := Hp hd hK k (x - 2 ^ k); have n2 := Hp hd hK k (x + 2 ^ k); rw [Ha hF hk0]; obtain ⟨W1, hW1⟩ := eX (Ay (Ap l) d k (x - 2 ^ k)); obtain ⟨W2, hW2⟩ := eX (Ay (Ap l) d k (x + 2 ^ k)); rw [← hW1] at R1 n1 ⊢; rw [← hW2] at R2 n2 ⊢; have hn1 : W1.1.length ≤ 3000000000 := (by omega); have hn2 : W2.1.length ≤ 3000000000 := (by omega); obtain ⟨n, hn⟩ := eX (2 ^ d); rw [← hn] at R1 R2 ⊢; obtain ⟨xl, hxl⟩ := eX (x - 2 ^ k); obtain ⟨xr, hxr⟩ := eX (x + 2 ^ k); rw [← hxl] at KD R1; rw [← hxr] at KD R2; have HFI := Hd FD; have HKI := Hd KD; have HR1 := Hd R1; have HR2 := Hd R2; have HN1 := Hd hn1; have HN2 := Hd hn2; have hxb : x ≤ 131070 := (by omega); obtain ⟨a, cp, rfl, -, -⟩ := h.sl; obtain ⟨kd, hkd2⟩ := eX D.kind; obtain ⟨L, hL⟩ := eX D.par.late; rw [← hkd2] at hk0; have HKD := Hd hkd2; have HLE := Hd hL; have HLN := Hd (show L.length ≤ 1000 by rw [hL]; exact (hK _ (Ef hF)).2.1); have hq0 : ((kd : Int) == 0) = true := (by rw [beq_iff_eq]; omega); have hq1 : (((x : Nat) : Int) % 2 == 1) = true := (by rw [beq_iff_eq]; omega); have hq2 : (dG (x : Int) 2 == 1) = true := (by rw [dH (by omega), beq_iff_eq]; omega); clear FALL FD KD R1 R2 n1 n2 hn1 hn2 hW1 hW2 hn hxl hxr kl kr l1 l2 hb1 hb2 hx0 hpp hppk hp17 h17 hkd hM e2 hodd hlx hx hk0 hkd2 hL hK IH h hF; go_enter Tryz.func168, Tryz.ntmps168; go_wp2_with fail; refine (HFI.out w bR).mono ?_; rintro e w2 ⟨c, rfl, hnc, hb2⟩; have HONE := Hd hnc.oneL; obtain ⟨x1, x2, x3, x4, x5, x6, x7, x8, b3, e3, rfl, hrd⟩ := hnc.frame; have hnc2 : (some D).getD Be = D := rfl; rw [hnc2, ← HKD.out, ← HLE.out] at HONE ⊢; rw [hnc2, ← HLE.out] at hrd; obtain ⟨l8, hl8⟩ := eX L.length; rw [← hl8] at HONE hrd ⊢; have HB2 := Hd hb2; have HRD2 := Hd hrd; have HL8 := Hd hl8; have hl81 : l8 ≤ 1000 := (by rw [hl8]; exact HLN.out); clear hnc hb2 hnc2 hrd hl8; obtain ⟨q, hq⟩ := eX w2.heap.size; have HQ := Hd hq; have HQK := Hd (show Blk (w2.alloc (.cells #[.int .u8 0, .slice none 0 0, .slice none 0 0, .slice none 0 0, .int .u8 0, .slice none 0 0, .slice none 0 0, .slice none 0 0, .slice none 0 0, .slice none 0 0] 54)) q 54 #[.int .u8 0, .slice none 0 0, .slice none 0 0, .slice none 0 0, .int .u8 0, .slice none 0 0, .slice none 0 0, .slice none 0 0, .slice none 0 0, .slice none 0 0] by rw [hq]; exact Blk.new _ _ _); clear hq; go_wp2_with (refine Ab rfl 54 (.tmp 8) (.tmp 27) rfl w2.heap.size #[.int .u8 (kd : Nat), x1, x2, x3, x4, x5, x6, x7, x8, .slice b3 l8 e3] rfl rfl 54 #[.int .u8 0, .slice none 0 0, .slice none 0 0, .slice none 0 0, .int .u8 0, .slice none 0 0, .slice none 0 0, .slice none 0 0, .slice none 0 0, .slice none 0 0] (HQ.out ▸ HQK.out) (by kernel_rfl) rfl HONE.out ?_); rintro w3 hblk hbl hoth hsize; rw [← HQ.out] at hblk ⊢; have HB3 := Hd ((HB2.out.alloc HB2.out.size (.cells #[.int .u8 0, .slice none 0 0, .slice none 0 0, .slice none 0 0, .int .u8 0, .slice none 0 0, .slice none 0 0, .slice none 0 0, .slice none 0 0, .slice none 0 0] 54)).trans (hbl w.heap.size HB2.out.size)); have HSZ := Hd (show w3.heap.size = q + 1 from by rw [hsize]; simp [HQ.out]); have HBK := Hd hblk; have HRD3 := Hd (HRD2.out.below (((Below.refl w2.heap.size w2).alloc lR (.cells #[.int .u8 0, .slice none 0 0, .slice none 0 0, .slice none 0 0, .int .u8 0, .slice none 0 0, .slice none 0 0, .slice none 0 0, .slice none 0 0, .slice none 0 0] 54)).trans (hbl w2.heap.size lR)) lR); have c0 := hblk.cell 0; have c9 := hblk.cell 9; simp only [bT, bU, bV] at c0 c9; have hqlt : q < w3.heap.size := (by rw [hsize]; simp [HQ.out]); clear hblk hbl hoth hsize; clear c9; go_wp2_with fail; refine (HKI.out _).mono ?_; rintro e w5 ⟨rfl, hb5⟩; have HBL := Hd (HB3.out.alloc HB3.out.size (.cells #[.int .i64 (x : Nat)] 3)); have HB5 := Hd (HBL.out.trans (hb5.mono HBL.out.size)); have HO5 := Hd ((show Own (w3.alloc (.cells #[.int .i64 (x : Nat)] 3)) w.heap.size 3 (.slice (some ⟨w3.heap.size, 0, none⟩) 1 1) [.int .i64 (x : Nat)] from Own.full (B := w.heap.size) (cs := #[.int .i64 (x : Nat)]) rfl HB3.out.size (by unfold maxLen; simp) rfl).below hb5 lR); clear hb5; go_wp2_with fail; refine (HR1.out _ HB5.out).mono ?_; rintro e w6 ⟨v1, rfl, hown1, hb1⟩; have HO1 := Hd hown1.rd; have HB6 := Hd (HB5.out.trans (hb1.mono HB5.out.size)); have HO6 := Hd (HO5.out.below hb1 lR); obtain ⟨p1, p2, p3, rfl⟩ := Cn hown1; clear hown1 hb1; go_wp2_with fail; refine (HR2.out _ HB6.out).mono ?_; rintro e w7 ⟨v2, rfl, hown2, hb2⟩; have HO2 := Hd hown2.rd; have HO17 := Hd (HO1.out.below hb2 lR); have HB7 := Hd (HB6.out.trans (hb2.mono HB6.out.size)); have HO7 := Hd (HO6.out.below hb2 lR); have HOWN2 := Hd hown2; have HW6 := Hd HB6.out.size; obtain ⟨q1, q2, q3, rfl⟩ := Cn hown2; clear hown2 hb2; obtain ⟨b1, hb1⟩ := eX W1.2; obtain ⟨b2, hb2⟩ := eX W2.2; have HE := Hd (show (W1.2 && W2.2) = (b1 && b2) by rw [hb1, hb2]); rw [← hb1, ← hb2]; clear hb1 hb2; cases b1
 ·go_wp2_with (at_builtin; refine Aj rfl (.tmp 60) (.tmp 61) 50 rfl w.heap.size 3 _ 8 Bx _ _ rfl HO7.out _ _ rfl HO17.out ?d1 ?d2 ?d3 ?_); case d1 => exact Eb _
  case d2 => have := HN1.out; simp [ivs]; omega
  case d3 => exact HB7.out.size
  rintro v8 w8 hown8 hg8 hb8; have HO8 := Hd hown8; have HO28 := Hd (show Rd w8 _ _ from (HOWN2.out.grown hg8 fun g e1 e2 => by
   have h1 := (HOWN2.out.blockLt e1).2; have h2 := (HO6.out.blockLt e2).1
   omega).rd)
  have HB8 := Hd (HB7.out.trans hb8); obtain ⟨r1, r2, r3, rfl⟩ := Cn hown8; clear hown8 hg8 hb8; go_wp2_with (at_builtin; refine Aj rfl (.tmp 62) (.tmp 63) 50 rfl w.heap.size 3 _ 8 Bx _ _ rfl HO8.out _ _ rfl HO28.out ?e1 ?e2 ?e3 ?_); case e1 => exact Eb _
  case e2 => have := HN1.out; have := HN2.out; simp [ivs]; omega
  case e3 => exact HB8.out.size
  rintro v9 w9 hown9 - hb9; have HO9 := Hd hown9; have HB9 := Hd (HB8.out.trans hb9); clear hown9 hb9; go_wp2_with fail; go_ret2; rw [HE.out]; refine ⟨_, rfl, ?_, HB9.out⟩; have := HO9.out; simpa [ivs] using this
 ·go_wp2_with (at_builtin; refine Aj rfl (.tmp 60) (.tmp 61) 50 rfl w.heap.size 3 _ 8 Bx _ _ rfl HO7.out _ _ rfl HO17.out ?d1 ?d2 ?d3 ?_); case d1 => exact Eb _
  case d2 => have := HN1.out; simp [ivs]; omega
  case d3 => exact HB7.out.size
  rintro v8 w8 hown8 hg8 hb8; have HO8 := Hd hown8; have HO28 := Hd (show Rd w8 _ _ from (HOWN2.out.grown hg8 fun g e1 e2 => by
   have h1 := (HOWN2.out.blockLt e1).2; have h2 := (HO6.out.blockLt e2).1
   omega).rd)
  have HB8 := Hd (HB7.out.trans hb8); obtain ⟨r1, r2, r3, rfl⟩ := Cn hown8; clear hown8 hg8 hb8; go_wp2_with (at_builtin; refine Aj rfl (.tmp 62) (.tmp 63) 50 rfl w.heap.size 3 _ 8 Bx _ _ rfl HO8.out _ _ rfl HO28.out ?e1 ?e2 ?e3 ?_); case e1 => exact Eb _
  case e2 => have := HN1.out; have := HN2.out; simp [ivs]; omega
  case e3 => exact HB8.out.size
  rintro v9 w9 hown9 - hb9; have HO9 := Hd hown9; have HB9 := Hd (HB8.out.trans hb9); clear hown9 hb9; go_wp2_with fail; go_ret2; rw [HE.out]; refine ⟨_, rfl, ?_, HB9.out⟩; have := HO9.out; simpa [ivs] using this
theorem Za9 (l : List (Int × NodeD)) (d : Nat) (hd : d ≤ 16) (hK : Kb l) : ∀ k, Zel l d k := by
 obtain ⟨hM, e2⟩ := Cx hd; intro k
 induction k with
 | zero =>
  intro x v w h hlx hx; cases hF : Ap l (x : Int) with
  | none => exact Np l d 0 x v w h hF
  | some D =>
   rw [Gd hF]; have hp := fA 0
   by_cases hk : D.kind = 0
   ·exact Tn l d x v w hd h hK D hF (by omega) ⟨hk, Hm hlx⟩
   ·exact Ly l d x v w hd h hK D hF (by omega) hk
 | succ k ih =>
  intro x v w h hlx hx; cases hF : Ap l (x : Int) with
  | none => exact Np l d (k + 1) x v w h hF
  | some D =>
   have hp := fA (k + 1)
   by_cases hk : D.kind = 0
   ·exact Za8 l d k x v w hd h hK D hF hlx hx hk ih
   ·rw [Ia hF hk]; exact Ly l d x v w hd h hK D hF (by omega) hk
section
theorem To {P : Program} {w : World} {ops : Array Oper} {rest : List Oper} {o : Oper} {a : Act} {Q : Exit → Act → World → Prop} (hgd : o.guard = none) (s x : Operand) (t : TypeId)
  (ho : o.op = .call { callee := .builtin .append, args := #[s, x], argTypes := #[t, t] })
  (B : Nat) (e : TypeId) (z : Value) (bytes : Nat) (F : Elem P t e z bytes)
  (v : Value) (xs : List Value) (hs : a.eval s = v) (hown : Own w B e v xs)
  (r : Value) (ys : List Value) (hx : a.eval x = r) (hr : Rd w r ys) (h1 : ∀ u ∈ ys, u.oneCell' = true)
  (hn : xs.length + ys.length < 1099511627776) (hB : B ≤ w.heap.size)
  (h : ∀ v' w', Own w' B e v' (xs ++ ys) → w.grownBy w' v.ownBlock → Below B w w' → Td w v v' → wpList P ops Q rest (a.put o.dst v') w') : wpList P ops Q (o :: rest) a w := by
 refine wpList_plain hgd fun K' hK' => ?_; exact Zy s x t ho B e z bytes F v xs hs hown r ys hx hr h1 hn hB fun v' w' a1 a2 a3 a4 => hK' _ _ (h v' w' a1 a2 a3 a4)
theorem Zgt {d z j : Nat} (hd : d ≤ 16) (hz : z + 1 < 2 ^ (d + 1)) (hj : j < d) : Zeb ((anc z j : Nat) : Int) ((2 ^ d : Nat) : Int) = ((Ic z j : Nat) : Int) := by
 obtain ⟨hM, e2⟩ := Cx hd; have hb := Zgs hd hz (j := j + 1) (by omega); have hp := fA (j + 1); obtain ⟨-, -, h0, -, -, kl, kr⟩ := En (anc_lev z (j + 1)) hb hM; rw [Zeb, Um hd hz (by omega), nxt, if_pos hj, if_neg (by omega), kl, kr]; unfold Ic
 by_cases h : anc z j < anc z (j + 1)
 ·rw [if_pos (by omega), if_pos h]
 ·rw [if_neg (by omega), if_neg h]
theorem Zfr {d i r : Nat} (hd : d ≤ 16) (hi : 2 * i + 1 < 2 ^ (d + 1)) (hr : r < d) : (Zc9 (2 * (i : Int)) ((2 ^ d : Nat) : Int)).getD r 0 = ((Ic (2 * i) r : Nat) : Int) := by
 obtain ⟨hM, e2⟩ := Cx hd; have hl := Hl (q := 2 * i) (by omega) (by omega); rw [show 2 * (i : Int) = ((2 * i : Nat) : Int) by omega, Ta hd hi, hl, fU, aH]; unfold Zc8; rw [List.getElem?_map, List.getElem?_range hr]; show Zeb ((anc (2 * i) (0 + r) : Nat) : Int) _ = _; rw [Nat.zero_add, Zgt hd hi hr]
theorem Zfs {d i : Nat} (hd : d ≤ 16) (hi : 2 * i + 1 < 2 ^ (d + 1)) : (Zc9 (2 * (i : Int)) ((2 ^ d : Nat) : Int)).length = d := by
 obtain ⟨hM, e2⟩ := Cx hd; have hl := Hl (q := 2 * i) (by omega) (by omega); rw [show 2 * (i : Int) = ((2 * i : Nat) : Int) by omega, Ta hd hi, Uv, hl, fU]
def okA (FI : Int → Option NodeD) (L : List Int) (r : Nat) : Bool := (L.take r).all fun y => (FI y).isSome
theorem Zds {FI : Int → Option NodeD} {L : List Int} {r : Nat} (hr : r < L.length) : okA FI L (r + 1) = (okA FI L r && (FI (L.getD r 0)).isSome) := by
 unfold okA; rw [← Ep hr, List.all_append]; simp
theorem Zft {FI : Int → Option NodeD} {L : List Int} : okA FI L L.length = L.all fun y => (FI y).isSome := by rw [okA, gH]
section
variable {FI : Int → Option NodeD} {d i : Nat}
theorem Vj : Ac FI d i false 0 = upL d (i : Int) := by simp [Ac]
theorem Pd (r : Nat) : Ac FI d i true r = upL d (i : Int) := by simp [Ac]
theorem Vk (r : Nat) : Ac FI d i false (r + 1) = Ac FI d i false r ++ (Ay FI d r (Ic (2 * i) r)).1 := by
 simp [Ac, dV]
theorem Zdt (only : Bool) : Bs FI d i only 0 = (upL d (i : Int)).all fun y => (FI y).isSome := by simp [Bs]
theorem Zdu (r : Nat) : Bs FI d i true r = (upL d (i : Int)).all fun y => (FI y).isSome := by simp [Bs]
theorem Zdv (r : Nat) : Bs FI d i false (r + 1) = (Bs FI d i false r && (Ay FI d r (Ic (2 * i) r)).2) := by
 simp [Bs, dV, Bool.and_assoc]
end
theorem Zfu {l : List (Int × NodeD)} {d i : Nat} (hd : d ≤ 16) (hK : Kb l) : ∀ r, (Ac (Ap l) d i false r).length ≤ 17 + 20000 * 2 ^ (r + 1) := by
 intro r
 induction r with
 | zero => rw [Vj]; have := Id hd (i : Int); omega
 | succ r ih =>
  rw [Vk, aG]; have := Hp hd hK r (Ic (2 * i) r); have e : 2 ^ (r + 1 + 1) = 2 * 2 ^ (r + 1) := (by rw [aN]; omega); omega
def Xw (out : List Int) (a : Int) : List Int := if 0 ≤ a ∧ a ∉ out then [a] else []
theorem Xe (out : List Int) (z : Int) : Lx out z = Xw out (Dm z) ++ Xw out (Bq z) := rfl
theorem Cs {out : List Int} {a : Int} (h : ¬ 0 ≤ a) : Xw out a = [] := by rw [Xw, if_neg fun h2 => h h2.1]
theorem Eg {out : List Int} {a : Int} (h : true = decide (a ∈ out)) : Xw out a = [] := by rw [Xw, if_neg fun h2 => h2.2 (of_decide_eq_true h.symm)]
theorem Ct {out : List Int} {a : Int} (h0 : 0 ≤ a) (h : false = decide (a ∈ out)) : Xw out a = [a] := by rw [Xw, if_pos ⟨h0, of_decide_eq_false h.symm⟩]
def Hs (out : List Int) (r : Nat) : List Int := (out.take r).flatMap (Lx out)
theorem Hq {out : List Int} {r : Nat} (hr : r < out.length) : Hs out (r + 1) = Hs out r ++ (Xw out (Dm (out.getD r 0)) ++ Xw out (Bq (out.getD r 0))) := by
 unfold Hs; rw [← Ep hr, gI, ← Xe]; simp
theorem Lz {out : List Int} : Hs out out.length = Dy out := by rw [Hs, gH]; rfl
theorem Vl (out : List Int) (a : Int) : (Xw out a).length ≤ 1 := by unfold Xw; split <;> simp
theorem Ma {out : List Int} : ∀ r, r ≤ out.length → (Hs out r).length ≤ 2 * r := by
 intro r
 induction r with
 | zero => intro _; simp [Hs]
 | succ r ih =>
  intro hr; rw [Hq (by omega), aG, aG]; have := ih (by omega); have h1 := Vl out (Dm (out.getD r 0)); have h2 := Vl out (Bq (out.getD r 0)); omega
theorem Tp (l : List (Int × NodeD)) (d i : Nat) (only : Bool) (v : Value) (w : World) (hd : d ≤ 16) (hi : 2 * i + 1 < 2 ^ (d + 1)) (h : SpotsR w v l) (hK : Kb l) :
  Calls Tryz.prog 89 #[v, .int .i64 ((2 ^ d : Nat) : Int), .int .i64 (i : Nat), .bool only] w fun e w' => ∃ v1 v2, e = .returned (.tuple #[v1, v2, .bool (Bs (Ap l) d i only d)]) ∧ Own w' w.heap.size 3 v1 (ivs .i64 (Em (Ac (Ap l) d i only d))) ∧ Own w' w.heap.size 3 v2 (ivs .i64 (Em (Dy (Ac (Ap l) d i only d)))) ∧ Below w.heap.size w w' := by
 obtain ⟨hM, e2⟩ := Cx hd; have FALL := fun (y : Int) (W : World) (hw : Below w.heap.size w W) => Fs v l y W (h.below hw lR); have WH := fun (r : Nat) (hr : r < d) (W : World) (hw : Below w.heap.size w W) => Za9 l d hd hK r (Ic (2 * i) r) v W (h.below hw lR) (Lw hd hi hr).1 (Lw hd hi hr).2; have WLEN := fun (r : Nat) (hr : r < d) => (show (Ay (Ap l) d r (Ic (2 * i) r)).1.length ≤ 3000000000 from by
  have := Hp hd hK r (Ic (2 * i) r); have h17 : 2 ^ (r + 1) ≤ 2 ^ 17 := aY (by omega) (by omega); have h17' : (2 : Nat) ^ 17 = 131072 := rfl
  omega)
 have OLEN := fun (r : Nat) (hr : r ≤ d) => (show (Ac (Ap l) d i only r).length ≤ 6000000000 from by
  cases only with
  | true => rw [Pd]; have := Id hd (i : Int); omega
  | false =>
   have := Zfu (i := i) hd hK r; have h17 : 2 ^ (r + 1) ≤ 2 ^ 17 := aY (by omega) (by omega); have h17' : (2 : Nat) ^ 17 = 131072 := rfl
   omega)
 have UL := Id hd (i : Int); have CL := Zfs hd hi; have CG := fun (r : Nat) (hr : r < d) => Zfr hd hi hr; have hib : i ≤ 131072 := (by omega); have hnb : 2 ^ d ≤ 131072 := (by omega); clear hK; obtain ⟨FI, hFI⟩ := eX (Ap l); simp only [← hFI] at FALL WH WLEN OLEN ⊢; obtain ⟨n, hn⟩ := eX (2 ^ d); rw [← hn] at hnb CL CG ⊢; simp only [← hn] at WH; have PATH := fun (y : Int) (W : World) => Ll y (n : Int) W (by omega) (by omega); have COP := fun (y : Int) (W : World) => Tb y (n : Int) W (by omega) (by omega); have HN := Hd hn; have HFALL := Hd FALL; have HWH := Hd WH; have HWLEN := Hd WLEN; have HOLEN := Hd OLEN; have HUL := Hd UL; have HCL := Hd CL; have HCG := Hd CG; have HPATH := Hd PATH; have HCOP := Hd COP; have hw2 : wrap64 (2 * (i : Int)) = 2 * (i : Int) := (by unfold wrap64; omega); obtain ⟨a, cp, rfl, -, -⟩ := h.sl; clear FALL WH WLEN OLEN UL CL CG PATH COP hFI hn h hi hM e2; go_enter Tryz.func89, Tryz.ntmps89; go_wp2_with fail; have HOL := Hd (show Own (w.alloc (.cells #[.int .i64 (2 * (i : Int))] 3)) w.heap.size 3 (.slice (some ⟨w.heap.size, 0, none⟩) 1 1) [.int .i64 (2 * (i : Int))] from Own.full (B := w.heap.size) (cs := #[.int .i64 (2 * (i : Int))]) rfl lR (by unfold maxLen; simp) rfl); have HAL := Hd ((Below.refl w.heap.size w).alloc lR (.cells #[.int .i64 (2 * (i : Int))] 3)); refine (HPATH.out (2 * (i : Int)) _).mono ?_; rintro e w5 ⟨pv, rfl, hpo, hb5⟩; have HPR := Hd hpo.rd; have HOL5 := Hd (HOL.out.below hb5 lR); have HB5 := Hd (HAL.out.trans (hb5.mono HAL.out.size)); obtain ⟨s1, s2, s3, rfl⟩ := Cn hpo; clear hpo hb5; go_wp2_with (at_builtin; refine Aj rfl (.tmp 26) (.tmp 30) 50 rfl w.heap.size 3 _ 8 Bx _ [.int .i64 (2 * (i : Int))] rfl HOL5.out _ _ rfl HPR.out ?d1 ?d2 ?d3 ?_); case d1 => exact Eb _
 case d2 => have := HUL.out; rw [upL, cS, gJ, ← HN.out] at this; rw [Ji]; simp; omega
 case d3 => exact HB5.out.size
 rintro uv w6 hown6 - hb6; have HUV := Hd (show Own w6 w.heap.size 3 uv (ivs .i64 (upL d (i : Int))) from by
  have e : Value.int .i64 (2 * (i : Int)) :: nvs (Ml (2 * (i : Int)) ((2 ^ d : Nat) : Int)) = ivs .i64 (upL d (i : Int)) := (by simp [upL, nvs, ivs]); rw [HN.out, e] at hown6; exact hown6)
 have HB6 := Hd (HB5.out.trans hb6); clear hown6 hb6; obtain ⟨ul, hul⟩ := eX ((upL d (i : Int)).length); have HULN := Hd hul; have hul17 : ul ≤ 17 := (by rw [hul]; exact HUL.out); obtain ⟨v1, v2, rfl⟩ := Nk HUV.out hul.symm; clear hul; go_wp2_with fail; refine (HCOP.out (2 * (i : Int)) _).mono ?_; rintro e w7 ⟨av, rfl, hao, hb7⟩; have HAV := Hd hao; have HB7 := Hd (HB6.out.trans (hb7.mono HB6.out.size)); have HUV7 := Hd (HUV.out.below hb7 lR); have HAP := Hd (show Ge (.slice v1 ul v2) av from fun g e1 e2 => by have := (HUV.out.blockLt e1).1; have := (hao.blockLt e2).2; omega); have HW6 := Hd (show w.heap.size ≤ w6.heap.size from HB6.out.size); have HW67 := Hd (show w6.heap.size ≤ w7.heap.size from hb7.size); obtain ⟨z1, z2, rfl⟩ := Nk hao HCL.out; have hd16 : d ≤ 16 := hd; clear hao hb7; go_wp2_with fail
 go_loopg [13, 14] ul (fun q kv iv wr => ∃ r : Nat, r + q = ul ∧ iv = .int .i64 (r : Nat) ∧ kv = .bool (okA FI (upL d (i : Int)) r) ∧ Below w7.heap.size w7 wr)
 case atStart => exact ⟨0, by omega, rfl, rfl, bR⟩
 case round =>
  obtain ⟨r, hr, rfl, rfl, hb⟩ := hrel; have HR := Hd hr; have HB := Hd hb; have HBA := Hd (HB7.out.trans (hb.mono HB7.out.size)); have HUVr := Hd (HUV7.out.below hb lR); have HAVr := Hd (HAV.out.below hb lR); obtain ⟨ok0, hok0⟩ := eX (okA FI (upL d (i : Int)) r); rw [← hok0]; have HOK0 := Hd hok0; clear hr hb hok0
  by_cases hlt : r < ul
  ·have hlt' : decide (r < ul) = true := decide_eq_true hlt; have hltI : (r : Int) < (ul : Int) := (by omega); obtain ⟨bu, ou, rfl, hbu, cy⟩ := HUVr.out.rd.at3 (Bv (show r < (upL d (i : Int)).length by rw [← HULN.out]; exact hlt)); have HS := Hd (Zds (FI := FI) (L := upL d (i : Int)) (r := r) (by rw [← HULN.out]; exact hlt)); obtain ⟨y, hy⟩ := eX ((upL d (i : Int)).getD r 0); rw [← hy] at cy HS; clear hy; have HFD := Hd (HFALL.out y wr HBA.out); go_wp2_with fail; refine HFD.out.mono ?_; rintro e w10 ⟨c10, rfl, hnc10, hb10⟩; obtain ⟨fk, hfk⟩ := eX ((FI y).isSome); rw [← hfk] at HS ⊢; have HONE10 := Hd hnc10.oneL; obtain ⟨y0, y1, y2, y3, y4, y5, y6, y7, y8, y9, rfl⟩ := hnc10.ten; have HB10 := Hd hb10; clear hnc10 hb10 hfk; obtain ⟨q10, hq10⟩ := eX w10.heap.size; have HQ10 := Hd hq10; have HQK10 := Hd (show Blk (w10.alloc (.cells #[.int .u8 0, .slice none 0 0, .slice none 0 0, .slice none 0 0, .int .u8 0, .slice none 0 0, .slice none 0 0, .slice none 0 0, .slice none 0 0, .slice none 0 0] 54)) q10 54 #[.int .u8 0, .slice none 0 0, .slice none 0 0, .slice none 0 0, .int .u8 0, .slice none 0 0, .slice none 0 0, .slice none 0 0, .slice none 0 0, .slice none 0 0] by rw [hq10]; exact Blk.new _ _ _); clear hq10; go_wp2_with (refine Ab rfl 54 (.tmp 15) (.tmp 49) rfl w10.heap.size #[y0, y1, y2, y3, y4, y5, y6, y7, y8, y9] rfl rfl 54 #[.int .u8 0, .slice none 0 0, .slice none 0 0, .slice none 0 0, .int .u8 0, .slice none 0 0, .slice none 0 0, .slice none 0 0, .slice none 0 0, .slice none 0 0] (HQ10.out ▸ HQK10.out) (by kernel_rfl) rfl HONE10.out ?_); rintro w11 hblk hbl hoth hsize; have HB11 := Hd (HB10.out.trans (((Below.refl w10.heap.size w10).alloc lR (.cells #[.int .u8 0, .slice none 0 0, .slice none 0 0, .slice none 0 0, .int .u8 0, .slice none 0 0, .slice none 0 0, .slice none 0 0, .slice none 0 0, .slice none 0 0] 54)).trans (hbl w10.heap.size lR) |>.mono HB10.out.size)); have HBN := Hd (HB.out.trans (HB11.out.mono HB.out.size)); clear hblk hbl hoth hsize; have HS2 := Hd (show okA FI (upL d (i : Int)) (r + 1) = (ok0 && fk) from by rw [HS.out, HOK0.out]); clear HS HOK0; cases ok0
   ·go_wp2_with fail; go_roundg (gk - 1); case measure => have := HR.out; omega
    case rel => exact ⟨r + 1, by have := HR.out; omega, by go_num, by rw [HS2.out, dD], HBN.out⟩
   ·go_wp2_with fail; go_roundg (gk - 1); case measure => have := HR.out; omega
    case rel => exact ⟨r + 1, by have := HR.out; omega, by go_num, by rw [HS2.out, eK], HBN.out⟩
  ·obtain rfl : r = ul := (by have := HR.out; omega); have hlt' : decide (r < r) = false := decide_eq_false hlt; have HOK1 := Hd (show ok0 = (upL d (i : Int)).all fun y => (FI y).isSome from by rw [HOK0.out, HULN.out]; exact Zft); have HSW := Hd (show w6.heap.size ≤ wr.heap.size from Nat.le_trans HW67.out HB.out.size); clear hlt HOK0 HFALL; cases only with
   | true =>
    go_wp2_with fail
    go_loopg [11, 13, 17] 0 (fun q ov kv iv w2 => ov = .slice v1 r v2 ∧ kv = .bool ok0 ∧ iv = .int .i64 0 ∧ w2 = wr)
    case atStart => exact ⟨rfl, rfl, rfl, rfl⟩
    case round =>
     obtain ⟨rfl, rfl, rfl, rfl⟩ := hrel; have HOKE := Hd (show ok0 = Bs FI d i true d from by rw [HOK1.out, Zdu]); have HOUT := Hd (show Own wr w.heap.size 3 (.slice v1 r v2) (ivs .i64 (Ac FI d i true d)) from by rw [Pd]; exact HUVr.out); have HOB := Hd (HOLEN.out d lR); have HLN := Hd (show r = (Ac FI d i true d).length from by rw [Pd]; exact HULN.out)
     by_cases hd0 : 0 < d
     ·have hd0' : decide (0 < d) = true := decide_eq_true hd0; have hd0I : decide ((0 : Int) < (d : Int)) = true := decide_eq_true (by omega); go_wp2_with fail; obtain ⟨wq, rfl⟩ : ∃ wq : World, wq = wr := ⟨_, rfl⟩; have HBQ := Hd HBA.out; have HOQ := Hd HOUT.out; have hLB : r ≤ 6000000000 := by rw [HLN.out]; exact HOB.out
      go_loopg [20, 21] r (fun q ov iv wr => ∃ s : Nat, s + q = r ∧ iv = .int .i64 (s : Nat) ∧ Own wr wq.heap.size 3 ov (ivs .i64 (Hs (Ac FI d i true d) s)) ∧ Below wq.heap.size wq wr)
      case atStart => exact ⟨0, by omega, rfl, Own.nil _ _ _, bR⟩
      case round =>
       obtain ⟨s, hs, rfl, hown, hb⟩ := hrel; have HR3 := Hd hs; have HS3 := Hd hown; have HB3 := Hd hb; have HO3 := Hd (HOQ.out.below hb lR); have HSL := Hd (Ma (out := (Ac FI d i true d)) s (by rw [← HLN.out]; omega)); obtain ⟨j1, j2, j3, rfl⟩ := Cn hown; clear hs hown hb
       by_cases hlt : s < r
       ·have hlt' : decide (s < r) = true := decide_eq_true hlt; have hltI : (s : Int) < (r : Int) := (by omega); obtain ⟨bo, oo, rfl, hbo, co⟩ := HO3.out.rd.at3 (Bv (show s < ((Ac FI d i true d)).length by rw [← HLN.out]; exact hlt)); have HSS := Hd (Hq (out := (Ac FI d i true d)) (r := s) (by rw [← HLN.out]; exact hlt)); obtain ⟨z, hz⟩ := eX (((Ac FI d i true d)).getD s 0); rw [← hz] at co HSS; have HKI := Hd (Hk z wr); obtain ⟨a2, ha2⟩ := eX (Dm z); obtain ⟨b, hb2⟩ := eX (Bq z); rw [← ha2, ← hb2] at HKI HSS; clear hz ha2 hb2; go_wp2_with fail; refine HKI.out.mono ?_; rintro e w5 ⟨rfl, hb5⟩; have HB53 := Hd (HB3.out.trans (hb5.mono HB3.out.size)); have HS5 := Hd (HS3.out.below hb5 lR); clear hb5 co hbo
        by_cases ha0 : 0 ≤ a2
        ·have ha0' : decide (a2 ≥ 0) = true := decide_eq_true ha0; have HHA0 := Hd (fun W hw => Bo (.slice (some ⟨bo, oo, none⟩) r v2) (Ac FI d i true d) a2 W hw); obtain ⟨ba, hba⟩ := eX (decide (a2 ∈ (Ac FI d i true d))); rw [← hba] at HHA0; have HHA := Hd HHA0.out; have HBAE := Hd hba; have HAZ := Hd ha0; clear hba ha0 HHA0; cases ba with
         | true =>
          have HKA := Hd (Eg HBAE.out); clear HBAE; go_wp2_with fail; refine (HHA.out _ (HOQ.out.rd.below HB53.out lR)).mono ?_; rintro e wx ⟨rfl, rfl⟩
          by_cases hb0 : 0 ≤ b
          ·have hb0' : decide (b ≥ 0) = true := decide_eq_true hb0; have HHB0 := Hd (fun W hw => Bo (.slice (some ⟨bo, oo, none⟩) r v2) (Ac FI d i true d) b W hw); obtain ⟨bb, hbb⟩ := eX (decide (b ∈ (Ac FI d i true d))); rw [← hbb] at HHB0; have HHB := Hd HHB0.out; have HBBE := Hd hbb; have HBZ := Hd hb0; clear hbb hb0 HHB0; cases bb with
           | true =>
            have HKB := Hd (Eg HBBE.out); clear HBBE; go_wp2_with fail; refine (HHB.out _ (HOQ.out.rd.below HB53.out lR)).mono ?_; rintro e wx ⟨rfl, rfl⟩; go_wp2_with fail; go_roundg (gk - 1); case measure => have := HR3.out; omega
            case rel =>
             refine ⟨s + 1, by have := HR3.out; omega, by go_num, ?_, HB53.out⟩; rw [HSS.out, HKA.out, HKB.out]; have := HS5.out; simpa [ivs] using this
           | false =>
            have HKB := Hd (Ct HBZ.out HBBE.out); clear HBBE; go_wp2_with fail; refine (HHB.out _ (HOQ.out.rd.below HB53.out lR)).mono ?_; rintro e wx ⟨rfl, rfl⟩; go_wp2_with (at_builtin; refine Ak rfl (.tmp 116) (.tmp 118) 50 rfl wq.heap.size 3 _ 8 Bx _ _ rfl (HS5.out.alloc _) _ (.int .i64 b) rfl ?c1 rfl ?c2 ?c3 ?_); case c1 => exact Ar rfl
            case c2 => have := HSL.out; have := hlt; simp [ivs]; omega
            case c3 => have := HB53.out.size; simp; omega
            rintro vb wb hownb - hbb; have HOB2 := Hd hownb; have HBB2 := Hd ((HB53.out.alloc HB53.out.size (.cells #[.int .i64 b] 3)).trans hbb); clear hownb hbb; go_wp2_with fail; go_roundg (gk - 1); case measure => have := HR3.out; omega
            case rel =>
             refine ⟨s + 1, by have := HR3.out; omega, by go_num, ?_, HBB2.out⟩; rw [HSS.out, HKA.out, HKB.out]; have := HOB2.out; simpa [ivs] using this
          ·have hb0' : decide (b ≥ 0) = false := decide_eq_false hb0; have HKB := Hd (Cs (out := (Ac FI d i true d)) hb0); clear hb0; go_wp2_with fail; go_roundg (gk - 1); case measure => have := HR3.out; omega
           case rel =>
            refine ⟨s + 1, by have := HR3.out; omega, by go_num, ?_, HB53.out⟩; rw [HSS.out, HKA.out, HKB.out]; have := HS5.out; simpa [ivs] using this
         | false =>
          have HKA := Hd (Ct HAZ.out HBAE.out); clear HBAE; go_wp2_with fail; refine (HHA.out _ (HOQ.out.rd.below HB53.out lR)).mono ?_; rintro e wx ⟨rfl, rfl⟩; go_wp2_with (at_builtin; refine Ak rfl (.tmp 104) (.tmp 106) 50 rfl wq.heap.size 3 _ 8 Bx _ _ rfl (HS5.out.alloc _) _ (.int .i64 a2) rfl ?c1 rfl ?c2 ?c3 ?_); case c1 => exact Ar rfl
          case c2 => have := HSL.out; have := hlt; simp [ivs]; omega
          case c3 => have := HB53.out.size; simp; omega
          rintro va wa howna - hba; have HSA := Hd howna; have HBA2 := Hd ((HB53.out.alloc HB53.out.size (.cells #[.int .i64 a2] 3)).trans hba); clear howna hba; obtain ⟨k1, k2, k3, rfl⟩ := Cn HSA.out
          by_cases hb0 : 0 ≤ b
          ·have hb0' : decide (b ≥ 0) = true := decide_eq_true hb0; have HHB0 := Hd (fun W hw => Bo (.slice (some ⟨bo, oo, none⟩) r v2) (Ac FI d i true d) b W hw); obtain ⟨bb, hbb⟩ := eX (decide (b ∈ (Ac FI d i true d))); rw [← hbb] at HHB0; have HHB := Hd HHB0.out; have HBBE := Hd hbb; have HBZ := Hd hb0; clear hbb hb0 HHB0; cases bb with
           | true =>
            have HKB := Hd (Eg HBBE.out); clear HBBE; go_wp2_with fail; refine (HHB.out _ (HOQ.out.rd.below HBA2.out lR)).mono ?_; rintro e wx ⟨rfl, rfl⟩; go_wp2_with fail; go_roundg (gk - 1); case measure => have := HR3.out; omega
            case rel =>
             refine ⟨s + 1, by have := HR3.out; omega, by go_num, ?_, HBA2.out⟩; rw [HSS.out, HKA.out, HKB.out]; have := HSA.out; simpa [ivs] using this
           | false =>
            have HKB := Hd (Ct HBZ.out HBBE.out); clear HBBE; go_wp2_with fail; refine (HHB.out _ (HOQ.out.rd.below HBA2.out lR)).mono ?_; rintro e wx ⟨rfl, rfl⟩; go_wp2_with (at_builtin; refine Ak rfl (.tmp 116) (.tmp 118) 50 rfl wq.heap.size 3 _ 8 Bx _ _ rfl (HSA.out.alloc _) _ (.int .i64 b) rfl ?c1 rfl ?c2 ?c3 ?_); case c1 => exact Ar rfl
            case c2 => have := HSL.out; have := hlt; simp [ivs]; omega
            case c3 => have := HBA2.out.size; simp; omega
            rintro vb wb hownb - hbb; have HOB2 := Hd hownb; have HBB2 := Hd ((HBA2.out.alloc HBA2.out.size (.cells #[.int .i64 b] 3)).trans hbb); clear hownb hbb; go_wp2_with fail; go_roundg (gk - 1); case measure => have := HR3.out; omega
            case rel =>
             refine ⟨s + 1, by have := HR3.out; omega, by go_num, ?_, HBB2.out⟩; rw [HSS.out, HKA.out, HKB.out]; have := HOB2.out; simpa [ivs] using this
          ·have hb0' : decide (b ≥ 0) = false := decide_eq_false hb0; have HKB := Hd (Cs (out := (Ac FI d i true d)) hb0); clear hb0; go_wp2_with fail; go_roundg (gk - 1); case measure => have := HR3.out; omega
           case rel =>
            refine ⟨s + 1, by have := HR3.out; omega, by go_num, ?_, HBA2.out⟩; rw [HSS.out, HKA.out, HKB.out]; have := HSA.out; simpa [ivs] using this
        ·have ha0' : decide (a2 ≥ 0) = false := decide_eq_false ha0; have HKA := Hd (Cs (out := (Ac FI d i true d)) ha0); clear ha0
         by_cases hb0 : 0 ≤ b
         ·have hb0' : decide (b ≥ 0) = true := decide_eq_true hb0; have HHB0 := Hd (fun W hw => Bo (.slice (some ⟨bo, oo, none⟩) r v2) (Ac FI d i true d) b W hw); obtain ⟨bb, hbb⟩ := eX (decide (b ∈ (Ac FI d i true d))); rw [← hbb] at HHB0; have HHB := Hd HHB0.out; have HBBE := Hd hbb; have HBZ := Hd hb0; clear hbb hb0 HHB0; cases bb with
          | true =>
           have HKB := Hd (Eg HBBE.out); clear HBBE; go_wp2_with fail; refine (HHB.out _ (HOQ.out.rd.below HB53.out lR)).mono ?_; rintro e wx ⟨rfl, rfl⟩; go_wp2_with fail; go_roundg (gk - 1); case measure => have := HR3.out; omega
           case rel =>
            refine ⟨s + 1, by have := HR3.out; omega, by go_num, ?_, HB53.out⟩; rw [HSS.out, HKA.out, HKB.out]; have := HS5.out; simpa [ivs] using this
          | false =>
           have HKB := Hd (Ct HBZ.out HBBE.out); clear HBBE; go_wp2_with fail; refine (HHB.out _ (HOQ.out.rd.below HB53.out lR)).mono ?_; rintro e wx ⟨rfl, rfl⟩; go_wp2_with (at_builtin; refine Ak rfl (.tmp 116) (.tmp 118) 50 rfl wq.heap.size 3 _ 8 Bx _ _ rfl (HS5.out.alloc _) _ (.int .i64 b) rfl ?c1 rfl ?c2 ?c3 ?_); case c1 => exact Ar rfl
           case c2 => have := HSL.out; have := hlt; simp [ivs]; omega
           case c3 => have := HB53.out.size; simp; omega
           rintro vb wb hownb - hbb; have HOB2 := Hd hownb; have HBB2 := Hd ((HB53.out.alloc HB53.out.size (.cells #[.int .i64 b] 3)).trans hbb); clear hownb hbb; go_wp2_with fail; go_roundg (gk - 1); case measure => have := HR3.out; omega
           case rel =>
            refine ⟨s + 1, by have := HR3.out; omega, by go_num, ?_, HBB2.out⟩; rw [HSS.out, HKA.out, HKB.out]; have := HOB2.out; simpa [ivs] using this
         ·have hb0' : decide (b ≥ 0) = false := decide_eq_false hb0; have HKB := Hd (Cs (out := (Ac FI d i true d)) hb0); clear hb0; go_wp2_with fail; go_roundg (gk - 1); case measure => have := HR3.out; omega
          case rel =>
           refine ⟨s + 1, by have := HR3.out; omega, by go_num, ?_, HB53.out⟩; rw [HSS.out, HKA.out, HKB.out]; have := HS5.out; simpa [ivs] using this
       ·obtain rfl : s = r := (by have := HR3.out; omega); have hlt' : decide (s < s) = false := decide_eq_false hlt; have HE := Hd (show Hs (Ac FI d i true d) s = Dy (Ac FI d i true d) from by rw [HLN.out]; exact Lz); clear hlt; go_wp2_with fail; refine (Df _ (Ac FI d i true d) _ HO3.out.rd (by have := HOB.out; omega)).mono ?_; rintro e w12 ⟨vo, rfl, hvo, hb12⟩; have HVO := Hd hvo; have HB12 := Hd hb12; have HS12 := Hd (HS3.out.below hb12 lR); have HBW := Hd (HBQ.out.trans (HB3.out.mono HBQ.out.size)); have HBW2 := Hd (HBW.out.trans (hb12.mono HBW.out.size)); clear hvo hb12; go_wp2_with fail; refine (Df _ (Hs (Ac FI d i true d) s) _ HS12.out.rd (by have := HSL.out; omega)).mono ?_; rintro e w13 ⟨vs, rfl, hvs, hb13⟩; have HVS := Hd hvs; have HVO13 := Hd (HVO.out.below hb13 lR); have HBW3 := Hd (HBW2.out.trans (hb13.mono HBW2.out.size)); clear hvs hb13; go_wp2_with fail
        go_ret3
        rw [← HOKE.out]; refine ⟨_, _, rfl, HVO13.out.mono HBW.out.size, ?_, HBW3.out⟩; rw [← HE.out]; exact HVS.out.mono HBW2.out.size
     ·have hd0' : decide (0 < d) = false := decide_eq_false hd0; have hd0I : decide ((0 : Int) < (d : Int)) = false := decide_eq_false (by omega); go_wp2_with fail; obtain ⟨wq, rfl⟩ : ∃ wq : World, wq = wr := ⟨_, rfl⟩; have HBQ := Hd HBA.out; have HOQ := Hd HOUT.out; have hLB : r ≤ 6000000000 := by rw [HLN.out]; exact HOB.out
      go_loopg [20, 21] r (fun q ov iv wr => ∃ s : Nat, s + q = r ∧ iv = .int .i64 (s : Nat) ∧ Own wr wq.heap.size 3 ov (ivs .i64 (Hs (Ac FI d i true d) s)) ∧ Below wq.heap.size wq wr)
      case atStart => exact ⟨0, by omega, rfl, Own.nil _ _ _, bR⟩
      case round =>
       obtain ⟨s, hs, rfl, hown, hb⟩ := hrel; have HR3 := Hd hs; have HS3 := Hd hown; have HB3 := Hd hb; have HO3 := Hd (HOQ.out.below hb lR); have HSL := Hd (Ma (out := (Ac FI d i true d)) s (by rw [← HLN.out]; omega)); obtain ⟨j1, j2, j3, rfl⟩ := Cn hown; clear hs hown hb
       by_cases hlt : s < r
       ·have hlt' : decide (s < r) = true := decide_eq_true hlt; have hltI : (s : Int) < (r : Int) := (by omega); obtain ⟨bo, oo, rfl, hbo, co⟩ := HO3.out.rd.at3 (Bv (show s < ((Ac FI d i true d)).length by rw [← HLN.out]; exact hlt)); have HSS := Hd (Hq (out := (Ac FI d i true d)) (r := s) (by rw [← HLN.out]; exact hlt)); obtain ⟨z, hz⟩ := eX (((Ac FI d i true d)).getD s 0); rw [← hz] at co HSS; have HKI := Hd (Hk z wr); obtain ⟨a2, ha2⟩ := eX (Dm z); obtain ⟨b, hb2⟩ := eX (Bq z); rw [← ha2, ← hb2] at HKI HSS; clear hz ha2 hb2; go_wp2_with fail; refine HKI.out.mono ?_; rintro e w5 ⟨rfl, hb5⟩; have HB53 := Hd (HB3.out.trans (hb5.mono HB3.out.size)); have HS5 := Hd (HS3.out.below hb5 lR); clear hb5 co hbo
        by_cases ha0 : 0 ≤ a2
        ·have ha0' : decide (a2 ≥ 0) = true := decide_eq_true ha0; have HHA0 := Hd (fun W hw => Bo (.slice (some ⟨bo, oo, none⟩) r v2) (Ac FI d i true d) a2 W hw); obtain ⟨ba, hba⟩ := eX (decide (a2 ∈ (Ac FI d i true d))); rw [← hba] at HHA0; have HHA := Hd HHA0.out; have HBAE := Hd hba; have HAZ := Hd ha0; clear hba ha0 HHA0; cases ba with
         | true =>
          have HKA := Hd (Eg HBAE.out); clear HBAE; go_wp2_with fail; refine (HHA.out _ (HOQ.out.rd.below HB53.out lR)).mono ?_; rintro e wx ⟨rfl, rfl⟩
          by_cases hb0 : 0 ≤ b
          ·have hb0' : decide (b ≥ 0) = true := decide_eq_true hb0; have HHB0 := Hd (fun W hw => Bo (.slice (some ⟨bo, oo, none⟩) r v2) (Ac FI d i true d) b W hw); obtain ⟨bb, hbb⟩ := eX (decide (b ∈ (Ac FI d i true d))); rw [← hbb] at HHB0; have HHB := Hd HHB0.out; have HBBE := Hd hbb; have HBZ := Hd hb0; clear hbb hb0 HHB0; cases bb with
           | true =>
            have HKB := Hd (Eg HBBE.out); clear HBBE; go_wp2_with fail; refine (HHB.out _ (HOQ.out.rd.below HB53.out lR)).mono ?_; rintro e wx ⟨rfl, rfl⟩; go_wp2_with fail; go_roundg (gk - 1); case measure => have := HR3.out; omega
            case rel =>
             refine ⟨s + 1, by have := HR3.out; omega, by go_num, ?_, HB53.out⟩; rw [HSS.out, HKA.out, HKB.out]; have := HS5.out; simpa [ivs] using this
           | false =>
            have HKB := Hd (Ct HBZ.out HBBE.out); clear HBBE; go_wp2_with fail; refine (HHB.out _ (HOQ.out.rd.below HB53.out lR)).mono ?_; rintro e wx ⟨rfl, rfl⟩; go_wp2_with (at_builtin; refine Ak rfl (.tmp 116) (.tmp 118) 50 rfl wq.heap.size 3 _ 8 Bx _ _ rfl (HS5.out.alloc _) _ (.int .i64 b) rfl ?c1 rfl ?c2 ?c3 ?_); case c1 => exact Ar rfl
            case c2 => have := HSL.out; have := hlt; simp [ivs]; omega
            case c3 => have := HB53.out.size; simp; omega
            rintro vb wb hownb - hbb; have HOB2 := Hd hownb; have HBB2 := Hd ((HB53.out.alloc HB53.out.size (.cells #[.int .i64 b] 3)).trans hbb); clear hownb hbb; go_wp2_with fail; go_roundg (gk - 1); case measure => have := HR3.out; omega
            case rel =>
             refine ⟨s + 1, by have := HR3.out; omega, by go_num, ?_, HBB2.out⟩; rw [HSS.out, HKA.out, HKB.out]; have := HOB2.out; simpa [ivs] using this
          ·have hb0' : decide (b ≥ 0) = false := decide_eq_false hb0; have HKB := Hd (Cs (out := (Ac FI d i true d)) hb0); clear hb0; go_wp2_with fail; go_roundg (gk - 1); case measure => have := HR3.out; omega
           case rel =>
            refine ⟨s + 1, by have := HR3.out; omega, by go_num, ?_, HB53.out⟩; rw [HSS.out, HKA.out, HKB.out]; have := HS5.out; simpa [ivs] using this
         | false =>
          have HKA := Hd (Ct HAZ.out HBAE.out); clear HBAE; go_wp2_with fail; refine (HHA.out _ (HOQ.out.rd.below HB53.out lR)).mono ?_; rintro e wx ⟨rfl, rfl⟩; go_wp2_with (at_builtin; refine Ak rfl (.tmp 104) (.tmp 106) 50 rfl wq.heap.size 3 _ 8 Bx _ _ rfl (HS5.out.alloc _) _ (.int .i64 a2) rfl ?c1 rfl ?c2 ?c3 ?_); case c1 => exact Ar rfl
          case c2 => have := HSL.out; have := hlt; simp [ivs]; omega
          case c3 => have := HB53.out.size; simp; omega
          rintro va wa howna - hba; have HSA := Hd howna; have HBA2 := Hd ((HB53.out.alloc HB53.out.size (.cells #[.int .i64 a2] 3)).trans hba); clear howna hba; obtain ⟨k1, k2, k3, rfl⟩ := Cn HSA.out
          by_cases hb0 : 0 ≤ b
          ·have hb0' : decide (b ≥ 0) = true := decide_eq_true hb0; have HHB0 := Hd (fun W hw => Bo (.slice (some ⟨bo, oo, none⟩) r v2) (Ac FI d i true d) b W hw); obtain ⟨bb, hbb⟩ := eX (decide (b ∈ (Ac FI d i true d))); rw [← hbb] at HHB0; have HHB := Hd HHB0.out; have HBBE := Hd hbb; have HBZ := Hd hb0; clear hbb hb0 HHB0; cases bb with
           | true =>
            have HKB := Hd (Eg HBBE.out); clear HBBE; go_wp2_with fail; refine (HHB.out _ (HOQ.out.rd.below HBA2.out lR)).mono ?_; rintro e wx ⟨rfl, rfl⟩; go_wp2_with fail; go_roundg (gk - 1); case measure => have := HR3.out; omega
            case rel =>
             refine ⟨s + 1, by have := HR3.out; omega, by go_num, ?_, HBA2.out⟩; rw [HSS.out, HKA.out, HKB.out]; have := HSA.out; simpa [ivs] using this
           | false =>
            have HKB := Hd (Ct HBZ.out HBBE.out); clear HBBE; go_wp2_with fail; refine (HHB.out _ (HOQ.out.rd.below HBA2.out lR)).mono ?_; rintro e wx ⟨rfl, rfl⟩; go_wp2_with (at_builtin; refine Ak rfl (.tmp 116) (.tmp 118) 50 rfl wq.heap.size 3 _ 8 Bx _ _ rfl (HSA.out.alloc _) _ (.int .i64 b) rfl ?c1 rfl ?c2 ?c3 ?_); case c1 => exact Ar rfl
            case c2 => have := HSL.out; have := hlt; simp [ivs]; omega
            case c3 => have := HBA2.out.size; simp; omega
            rintro vb wb hownb - hbb; have HOB2 := Hd hownb; have HBB2 := Hd ((HBA2.out.alloc HBA2.out.size (.cells #[.int .i64 b] 3)).trans hbb); clear hownb hbb; go_wp2_with fail; go_roundg (gk - 1); case measure => have := HR3.out; omega
            case rel =>
             refine ⟨s + 1, by have := HR3.out; omega, by go_num, ?_, HBB2.out⟩; rw [HSS.out, HKA.out, HKB.out]; have := HOB2.out; simpa [ivs] using this
          ·have hb0' : decide (b ≥ 0) = false := decide_eq_false hb0; have HKB := Hd (Cs (out := (Ac FI d i true d)) hb0); clear hb0; go_wp2_with fail; go_roundg (gk - 1); case measure => have := HR3.out; omega
           case rel =>
            refine ⟨s + 1, by have := HR3.out; omega, by go_num, ?_, HBA2.out⟩; rw [HSS.out, HKA.out, HKB.out]; have := HSA.out; simpa [ivs] using this
        ·have ha0' : decide (a2 ≥ 0) = false := decide_eq_false ha0; have HKA := Hd (Cs (out := (Ac FI d i true d)) ha0); clear ha0
         by_cases hb0 : 0 ≤ b
         ·have hb0' : decide (b ≥ 0) = true := decide_eq_true hb0; have HHB0 := Hd (fun W hw => Bo (.slice (some ⟨bo, oo, none⟩) r v2) (Ac FI d i true d) b W hw); obtain ⟨bb, hbb⟩ := eX (decide (b ∈ (Ac FI d i true d))); rw [← hbb] at HHB0; have HHB := Hd HHB0.out; have HBBE := Hd hbb; have HBZ := Hd hb0; clear hbb hb0 HHB0; cases bb with
          | true =>
           have HKB := Hd (Eg HBBE.out); clear HBBE; go_wp2_with fail; refine (HHB.out _ (HOQ.out.rd.below HB53.out lR)).mono ?_; rintro e wx ⟨rfl, rfl⟩; go_wp2_with fail; go_roundg (gk - 1); case measure => have := HR3.out; omega
           case rel =>
            refine ⟨s + 1, by have := HR3.out; omega, by go_num, ?_, HB53.out⟩; rw [HSS.out, HKA.out, HKB.out]; have := HS5.out; simpa [ivs] using this
          | false =>
           have HKB := Hd (Ct HBZ.out HBBE.out); clear HBBE; go_wp2_with fail; refine (HHB.out _ (HOQ.out.rd.below HB53.out lR)).mono ?_; rintro e wx ⟨rfl, rfl⟩; go_wp2_with (at_builtin; refine Ak rfl (.tmp 116) (.tmp 118) 50 rfl wq.heap.size 3 _ 8 Bx _ _ rfl (HS5.out.alloc _) _ (.int .i64 b) rfl ?c1 rfl ?c2 ?c3 ?_); case c1 => exact Ar rfl
           case c2 => have := HSL.out; have := hlt; simp [ivs]; omega
           case c3 => have := HB53.out.size; simp; omega
           rintro vb wb hownb - hbb; have HOB2 := Hd hownb; have HBB2 := Hd ((HB53.out.alloc HB53.out.size (.cells #[.int .i64 b] 3)).trans hbb); clear hownb hbb; go_wp2_with fail; go_roundg (gk - 1); case measure => have := HR3.out; omega
           case rel =>
            refine ⟨s + 1, by have := HR3.out; omega, by go_num, ?_, HBB2.out⟩; rw [HSS.out, HKA.out, HKB.out]; have := HOB2.out; simpa [ivs] using this
         ·have hb0' : decide (b ≥ 0) = false := decide_eq_false hb0; have HKB := Hd (Cs (out := (Ac FI d i true d)) hb0); clear hb0; go_wp2_with fail; go_roundg (gk - 1); case measure => have := HR3.out; omega
          case rel =>
           refine ⟨s + 1, by have := HR3.out; omega, by go_num, ?_, HB53.out⟩; rw [HSS.out, HKA.out, HKB.out]; have := HS5.out; simpa [ivs] using this
       ·obtain rfl : s = r := (by have := HR3.out; omega); have hlt' : decide (s < s) = false := decide_eq_false hlt; have HE := Hd (show Hs (Ac FI d i true d) s = Dy (Ac FI d i true d) from by rw [HLN.out]; exact Lz); clear hlt; go_wp2_with fail; refine (Df _ (Ac FI d i true d) _ HO3.out.rd (by have := HOB.out; omega)).mono ?_; rintro e w12 ⟨vo, rfl, hvo, hb12⟩; have HVO := Hd hvo; have HB12 := Hd hb12; have HS12 := Hd (HS3.out.below hb12 lR); have HBW := Hd (HBQ.out.trans (HB3.out.mono HBQ.out.size)); have HBW2 := Hd (HBW.out.trans (hb12.mono HBW.out.size)); clear hvo hb12; go_wp2_with fail; refine (Df _ (Hs (Ac FI d i true d) s) _ HS12.out.rd (by have := HSL.out; omega)).mono ?_; rintro e w13 ⟨vs, rfl, hvs, hb13⟩; have HVS := Hd hvs; have HVO13 := Hd (HVO.out.below hb13 lR); have HBW3 := Hd (HBW2.out.trans (hb13.mono HBW2.out.size)); clear hvs hb13; go_wp2_with fail
        go_ret3
        rw [← HOKE.out]; refine ⟨_, _, rfl, HVO13.out.mono HBW.out.size, ?_, HBW3.out⟩; rw [← HE.out]; exact HVS.out.mono HBW2.out.size
   | false =>
    go_wp2_with fail; obtain ⟨w8, rfl⟩ : ∃ w8 : World, w8 = wr := ⟨_, rfl⟩
    go_loopg [11, 13, 17] d (fun q ov kv iv wr => ∃ k : Nat, k + q = d ∧ iv = .int .i64 (k : Nat) ∧ kv = .bool (Bs FI d i false k) ∧ Own wr w.heap.size 3 ov (ivs .i64 (Ac FI d i false k)) ∧ Own wr w6.heap.size 3 (.slice z1 d z2) (ivs .i64 (Zc9 (2 * (i : Int)) (n : Int))) ∧ Ge ov (.slice z1 d z2) ∧ Below w.heap.size w wr)
    case atStart => exact ⟨0, by omega, rfl, by rw [Zdt, HOK1.out], by rw [Vj]; exact HUVr.out, HAVr.out, HAP.out, HBA.out⟩
    case round =>
     obtain ⟨k, hk, rfl, rfl, hown, hav, hap, hb⟩ := hrel; have HK := Hd hk; have HO := Hd hown; have HAV := Hd hav; have HAP := Hd hap; have HB := Hd hb; obtain ⟨ok1, hok1⟩ := eX (Bs FI d i false k); rw [← hok1]; have HOK1 := Hd hok1; clear hk hown hav hap hb hok1
     by_cases hkd : k < d
     ·have hkd' : decide (k < d) = true := decide_eq_true hkd; have hkdI : (k : Int) < (d : Int) := (by omega); obtain ⟨bu, ou, rfl, hbu, cy⟩ := HAV.out.rd.at3 (Bv (show k < (Zc9 (2 * (i : Int)) (n : Int)).length by rw [HCL.out]; exact hkd)); rw [HCG.out k hkd] at cy; have HWC := Hd (HWH.out k hkd wr HB.out); have HWL := Hd (HWLEN.out k hkd); have HOL2 := Hd (HOLEN.out k (by omega)); have HOS := Hd (Vk (FI := FI) (d := d) (i := i) k); have HKS := Hd (show Bs FI d i false (k + 1) = (ok1 && (Ay FI d k (Ic (2 * i) k)).2) from by rw [Zdv, HOK1.out]); obtain ⟨sb, hsb⟩ := eX (Ic (2 * i) k); rw [← hsb] at cy HWC HWL HOS HKS; obtain ⟨W1, hW1⟩ := eX (Ay FI d k sb); rw [← hW1] at HWC HWL HOS HKS; obtain ⟨p1, p2, p3, rfl⟩ := Cn HO.out; clear hsb hW1 HOK1; go_wp2_with fail; refine HWC.out.mono ?_; rintro e w9 ⟨v9, rfl, hown9, hb9⟩; have HO9 := Hd hown9.rd; have HB9 := Hd (HB.out.trans (hb9.mono HB.out.size)); have HOO := Hd (HO.out.below hb9 lR); have HAV9 := Hd (HAV.out.below hb9 lR); obtain ⟨fk, hfk⟩ := eX W1.2; rw [← hfk] at HKS ⊢; obtain ⟨t1, t2, t3, rfl⟩ := Cn hown9; clear hown9 hb9 hfk; go_wp2_with (at_builtin; refine To rfl (.tmp 75) (.tmp 76) 50 rfl w.heap.size 3 _ 8 Bx _ _ rfl HOO.out _ _ rfl HO9.out ?d1 ?d2 ?d3 ?_); case d1 => exact Eb _
      case d2 => have := HOL2.out; have := HWL.out; simp [ivs]; omega
      case d3 => exact HB9.out.size
      rintro v10 w10 hown10 hg10 hb10 hnear; have HO10 := Hd (show Own w10 w.heap.size 3 v10 (ivs .i64 (Ac FI d i false (k + 1))) from by
       rw [HOS.out]; simpa [ivs] using hown10)
      have HAV10 := Hd (show Own w10 w6.heap.size 3 _ _ from HAV9.out.grown hg10 fun g e1 e2 => HAP.out g e2 e1); have HAP10 := Hd (Fq hnear HAP.out HAV9.out); have HB10 := Hd (HB9.out.trans hb10); clear hown10 hg10 hb10 hnear; cases ok1
      ·go_wp2_with fail; go_roundg (gk - 1); case measure => have := HK.out; omega
       case rel => exact ⟨k + 1, by have := HK.out; omega, by go_num, by rw [HKS.out, dD], HO10.out, HAV10.out, HAP10.out, HB10.out⟩
      ·go_wp2_with fail; go_roundg (gk - 1); case measure => have := HK.out; omega
       case rel => exact ⟨k + 1, by have := HK.out; omega, by go_num, by rw [HKS.out, eK], HO10.out, HAV10.out, HAP10.out, HB10.out⟩
     ·obtain rfl : k = d := (by have := HK.out; omega); have hkd' : decide (k < k) = false := decide_eq_false hkd; have HOKE := Hd (show ok1 = Bs FI k i false k from HOK1.out); have HOB := Hd (HOLEN.out k lR); obtain ⟨r2, hr2⟩ := eX ((Ac FI k i false k).length); have HLN := Hd hr2; obtain ⟨p1, p2, rfl⟩ := Nk HO.out hr2.symm; have HOUT := Hd HO.out; clear hkd hr2; go_wp2_with fail; obtain ⟨wq, rfl⟩ : ∃ wq : World, wq = wr := ⟨_, rfl⟩; have HBQ := Hd HB.out; have HOQ := Hd HOUT.out; have hLB : r2 ≤ 6000000000 := by rw [HLN.out]; exact HOB.out
      go_loopg [20, 21] r2 (fun q ov iv wr => ∃ s : Nat, s + q = r2 ∧ iv = .int .i64 (s : Nat) ∧ Own wr wq.heap.size 3 ov (ivs .i64 (Hs (Ac FI k i false k) s)) ∧ Below wq.heap.size wq wr)
      case atStart => exact ⟨0, by omega, rfl, Own.nil _ _ _, bR⟩
      case round =>
       obtain ⟨s, hs, rfl, hown, hb⟩ := hrel; have HR3 := Hd hs; have HS3 := Hd hown; have HB3 := Hd hb; have HO3 := Hd (HOQ.out.below hb lR); have HSL := Hd (Ma (out := (Ac FI k i false k)) s (by rw [← HLN.out]; omega)); obtain ⟨j1, j2, j3, rfl⟩ := Cn hown; clear hs hown hb
       by_cases hlt : s < r2
       ·have hlt' : decide (s < r2) = true := decide_eq_true hlt; have hltI : (s : Int) < (r2 : Int) := (by omega); obtain ⟨bo, oo, rfl, hbo, co⟩ := HO3.out.rd.at3 (Bv (show s < ((Ac FI k i false k)).length by rw [← HLN.out]; exact hlt)); have HSS := Hd (Hq (out := (Ac FI k i false k)) (r := s) (by rw [← HLN.out]; exact hlt)); obtain ⟨z, hz⟩ := eX (((Ac FI k i false k)).getD s 0); rw [← hz] at co HSS; have HKI := Hd (Hk z wr); obtain ⟨a2, ha2⟩ := eX (Dm z); obtain ⟨b, hb2⟩ := eX (Bq z); rw [← ha2, ← hb2] at HKI HSS; clear hz ha2 hb2; go_wp2_with fail; refine HKI.out.mono ?_; rintro e w5 ⟨rfl, hb5⟩; have HB53 := Hd (HB3.out.trans (hb5.mono HB3.out.size)); have HS5 := Hd (HS3.out.below hb5 lR); clear hb5 co hbo
        by_cases ha0 : 0 ≤ a2
        ·have ha0' : decide (a2 ≥ 0) = true := decide_eq_true ha0; have HHA0 := Hd (fun W hw => Bo (.slice (some ⟨bo, oo, none⟩) r2 p2) (Ac FI k i false k) a2 W hw); obtain ⟨ba, hba⟩ := eX (decide (a2 ∈ (Ac FI k i false k))); rw [← hba] at HHA0; have HHA := Hd HHA0.out; have HBAE := Hd hba; have HAZ := Hd ha0; clear hba ha0 HHA0; cases ba with
         | true =>
          have HKA := Hd (Eg HBAE.out); clear HBAE; go_wp2_with fail; refine (HHA.out _ (HOQ.out.rd.below HB53.out lR)).mono ?_; rintro e wx ⟨rfl, rfl⟩
          by_cases hb0 : 0 ≤ b
          ·have hb0' : decide (b ≥ 0) = true := decide_eq_true hb0; have HHB0 := Hd (fun W hw => Bo (.slice (some ⟨bo, oo, none⟩) r2 p2) (Ac FI k i false k) b W hw); obtain ⟨bb, hbb⟩ := eX (decide (b ∈ (Ac FI k i false k))); rw [← hbb] at HHB0; have HHB := Hd HHB0.out; have HBBE := Hd hbb; have HBZ := Hd hb0; clear hbb hb0 HHB0; cases bb with
           | true =>
            have HKB := Hd (Eg HBBE.out); clear HBBE; go_wp2_with fail; refine (HHB.out _ (HOQ.out.rd.below HB53.out lR)).mono ?_; rintro e wx ⟨rfl, rfl⟩; go_wp2_with fail; go_roundg (gk - 1); case measure => have := HR3.out; omega
            case rel =>
             refine ⟨s + 1, by have := HR3.out; omega, by go_num, ?_, HB53.out⟩; rw [HSS.out, HKA.out, HKB.out]; have := HS5.out; simpa [ivs] using this
           | false =>
            have HKB := Hd (Ct HBZ.out HBBE.out); clear HBBE; go_wp2_with fail; refine (HHB.out _ (HOQ.out.rd.below HB53.out lR)).mono ?_; rintro e wx ⟨rfl, rfl⟩; go_wp2_with (at_builtin; refine Ak rfl (.tmp 116) (.tmp 118) 50 rfl wq.heap.size 3 _ 8 Bx _ _ rfl (HS5.out.alloc _) _ (.int .i64 b) rfl ?c1 rfl ?c2 ?c3 ?_); case c1 => exact Ar rfl
            case c2 => have := HSL.out; have := hlt; simp [ivs]; omega
            case c3 => have := HB53.out.size; simp; omega
            rintro vb wb hownb - hbb; have HOB2 := Hd hownb; have HBB2 := Hd ((HB53.out.alloc HB53.out.size (.cells #[.int .i64 b] 3)).trans hbb); clear hownb hbb; go_wp2_with fail; go_roundg (gk - 1); case measure => have := HR3.out; omega
            case rel =>
             refine ⟨s + 1, by have := HR3.out; omega, by go_num, ?_, HBB2.out⟩; rw [HSS.out, HKA.out, HKB.out]; have := HOB2.out; simpa [ivs] using this
          ·have hb0' : decide (b ≥ 0) = false := decide_eq_false hb0; have HKB := Hd (Cs (out := (Ac FI k i false k)) hb0); clear hb0; go_wp2_with fail; go_roundg (gk - 1); case measure => have := HR3.out; omega
           case rel =>
            refine ⟨s + 1, by have := HR3.out; omega, by go_num, ?_, HB53.out⟩; rw [HSS.out, HKA.out, HKB.out]; have := HS5.out; simpa [ivs] using this
         | false =>
          have HKA := Hd (Ct HAZ.out HBAE.out); clear HBAE; go_wp2_with fail; refine (HHA.out _ (HOQ.out.rd.below HB53.out lR)).mono ?_; rintro e wx ⟨rfl, rfl⟩; go_wp2_with (at_builtin; refine Ak rfl (.tmp 104) (.tmp 106) 50 rfl wq.heap.size 3 _ 8 Bx _ _ rfl (HS5.out.alloc _) _ (.int .i64 a2) rfl ?c1 rfl ?c2 ?c3 ?_); case c1 => exact Ar rfl
          case c2 => have := HSL.out; have := hlt; simp [ivs]; omega
          case c3 => have := HB53.out.size; simp; omega
          rintro va wa howna - hba; have HSA := Hd howna; have HBA2 := Hd ((HB53.out.alloc HB53.out.size (.cells #[.int .i64 a2] 3)).trans hba); clear howna hba; obtain ⟨k1, k2, k3, rfl⟩ := Cn HSA.out
          by_cases hb0 : 0 ≤ b
          ·have hb0' : decide (b ≥ 0) = true := decide_eq_true hb0; have HHB0 := Hd (fun W hw => Bo (.slice (some ⟨bo, oo, none⟩) r2 p2) (Ac FI k i false k) b W hw); obtain ⟨bb, hbb⟩ := eX (decide (b ∈ (Ac FI k i false k))); rw [← hbb] at HHB0; have HHB := Hd HHB0.out; have HBBE := Hd hbb; have HBZ := Hd hb0; clear hbb hb0 HHB0; cases bb with
           | true =>
            have HKB := Hd (Eg HBBE.out); clear HBBE; go_wp2_with fail; refine (HHB.out _ (HOQ.out.rd.below HBA2.out lR)).mono ?_; rintro e wx ⟨rfl, rfl⟩; go_wp2_with fail; go_roundg (gk - 1); case measure => have := HR3.out; omega
            case rel =>
             refine ⟨s + 1, by have := HR3.out; omega, by go_num, ?_, HBA2.out⟩; rw [HSS.out, HKA.out, HKB.out]; have := HSA.out; simpa [ivs] using this
           | false =>
            have HKB := Hd (Ct HBZ.out HBBE.out); clear HBBE; go_wp2_with fail; refine (HHB.out _ (HOQ.out.rd.below HBA2.out lR)).mono ?_; rintro e wx ⟨rfl, rfl⟩; go_wp2_with (at_builtin; refine Ak rfl (.tmp 116) (.tmp 118) 50 rfl wq.heap.size 3 _ 8 Bx _ _ rfl (HSA.out.alloc _) _ (.int .i64 b) rfl ?c1 rfl ?c2 ?c3 ?_); case c1 => exact Ar rfl
            case c2 => have := HSL.out; have := hlt; simp [ivs]; omega
            case c3 => have := HBA2.out.size; simp; omega
            rintro vb wb hownb - hbb; have HOB2 := Hd hownb; have HBB2 := Hd ((HBA2.out.alloc HBA2.out.size (.cells #[.int .i64 b] 3)).trans hbb); clear hownb hbb; go_wp2_with fail; go_roundg (gk - 1); case measure => have := HR3.out; omega
            case rel =>
             refine ⟨s + 1, by have := HR3.out; omega, by go_num, ?_, HBB2.out⟩; rw [HSS.out, HKA.out, HKB.out]; have := HOB2.out; simpa [ivs] using this
          ·have hb0' : decide (b ≥ 0) = false := decide_eq_false hb0; have HKB := Hd (Cs (out := (Ac FI k i false k)) hb0); clear hb0; go_wp2_with fail; go_roundg (gk - 1); case measure => have := HR3.out; omega
           case rel =>
            refine ⟨s + 1, by have := HR3.out; omega, by go_num, ?_, HBA2.out⟩; rw [HSS.out, HKA.out, HKB.out]; have := HSA.out; simpa [ivs] using this
        ·have ha0' : decide (a2 ≥ 0) = false := decide_eq_false ha0; have HKA := Hd (Cs (out := (Ac FI k i false k)) ha0); clear ha0
         by_cases hb0 : 0 ≤ b
         ·have hb0' : decide (b ≥ 0) = true := decide_eq_true hb0; have HHB0 := Hd (fun W hw => Bo (.slice (some ⟨bo, oo, none⟩) r2 p2) (Ac FI k i false k) b W hw); obtain ⟨bb, hbb⟩ := eX (decide (b ∈ (Ac FI k i false k))); rw [← hbb] at HHB0; have HHB := Hd HHB0.out; have HBBE := Hd hbb; have HBZ := Hd hb0; clear hbb hb0 HHB0; cases bb with
          | true =>
           have HKB := Hd (Eg HBBE.out); clear HBBE; go_wp2_with fail; refine (HHB.out _ (HOQ.out.rd.below HB53.out lR)).mono ?_; rintro e wx ⟨rfl, rfl⟩; go_wp2_with fail; go_roundg (gk - 1); case measure => have := HR3.out; omega
           case rel =>
            refine ⟨s + 1, by have := HR3.out; omega, by go_num, ?_, HB53.out⟩; rw [HSS.out, HKA.out, HKB.out]; have := HS5.out; simpa [ivs] using this
          | false =>
           have HKB := Hd (Ct HBZ.out HBBE.out); clear HBBE; go_wp2_with fail; refine (HHB.out _ (HOQ.out.rd.below HB53.out lR)).mono ?_; rintro e wx ⟨rfl, rfl⟩; go_wp2_with (at_builtin; refine Ak rfl (.tmp 116) (.tmp 118) 50 rfl wq.heap.size 3 _ 8 Bx _ _ rfl (HS5.out.alloc _) _ (.int .i64 b) rfl ?c1 rfl ?c2 ?c3 ?_); case c1 => exact Ar rfl
           case c2 => have := HSL.out; have := hlt; simp [ivs]; omega
           case c3 => have := HB53.out.size; simp; omega
           rintro vb wb hownb - hbb; have HOB2 := Hd hownb; have HBB2 := Hd ((HB53.out.alloc HB53.out.size (.cells #[.int .i64 b] 3)).trans hbb); clear hownb hbb; go_wp2_with fail; go_roundg (gk - 1); case measure => have := HR3.out; omega
           case rel =>
            refine ⟨s + 1, by have := HR3.out; omega, by go_num, ?_, HBB2.out⟩; rw [HSS.out, HKA.out, HKB.out]; have := HOB2.out; simpa [ivs] using this
         ·have hb0' : decide (b ≥ 0) = false := decide_eq_false hb0; have HKB := Hd (Cs (out := (Ac FI k i false k)) hb0); clear hb0; go_wp2_with fail; go_roundg (gk - 1); case measure => have := HR3.out; omega
          case rel =>
           refine ⟨s + 1, by have := HR3.out; omega, by go_num, ?_, HB53.out⟩; rw [HSS.out, HKA.out, HKB.out]; have := HS5.out; simpa [ivs] using this
       ·obtain rfl : s = r2 := (by have := HR3.out; omega); have hlt' : decide (s < s) = false := decide_eq_false hlt; have HE := Hd (show Hs (Ac FI k i false k) s = Dy (Ac FI k i false k) from by rw [HLN.out]; exact Lz); clear hlt; go_wp2_with fail; refine (Df _ (Ac FI k i false k) _ HO3.out.rd (by have := HOB.out; omega)).mono ?_; rintro e w12 ⟨vo, rfl, hvo, hb12⟩; have HVO := Hd hvo; have HB12 := Hd hb12; have HS12 := Hd (HS3.out.below hb12 lR); have HBW := Hd (HBQ.out.trans (HB3.out.mono HBQ.out.size)); have HBW2 := Hd (HBW.out.trans (hb12.mono HBW.out.size)); clear hvo hb12; go_wp2_with fail; refine (Df _ (Hs (Ac FI k i false k) s) _ HS12.out.rd (by have := HSL.out; omega)).mono ?_; rintro e w13 ⟨vs, rfl, hvs, hb13⟩; have HVS := Hd hvs; have HVO13 := Hd (HVO.out.below hb13 lR); have HBW3 := Hd (HBW2.out.trans (hb13.mono HBW2.out.size)); clear hvs hb13; go_wp2_with fail
        go_ret3
        rw [← HOKE.out]; refine ⟨_, _, rfl, HVO13.out.mono HBW.out.size, ?_, HBW3.out⟩; rw [← HE.out]; exact HVS.out.mono HBW2.out.size
end
end Go.Proofs.YtngealmhgkoaiaaGreat
