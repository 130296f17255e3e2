/- Plain: the hash of a piece by the level. -/
import Derived.Test.YtngealmhgkoaiaaGreatZSliceRightB
import Derived.Test.YtngealmhgkoaiaaGreatZSliceRight40
import Derived.Test.YtngealmhgkoaiaaGreatZSliceRight28
import Derived.Test.YtngealmhgkoaiaaGreatZSliceRight46
import Derived.Test.YtngealmhgkoaiaaGreatZSliceRight27
import Derived.Test.YtngealmhgkoaiaaGreatZSliceRight41
open List renaming length_append → aG, length_cons → cQ, length_nil → bO, mem_append → eL, mem_cons → aE, not_mem_nil → eM, getElem?_toArray → bT, getElem?_cons_zero → bU, getElem?_cons_succ → bV, filterMap_cons → cR, filterMap_nil → cS, contains_cons → cT, contains_nil → cU, mergeSort_perm → eV
open Nat renaming two_pow_pos → eQ, le_trans → dQ, log2 → aX, pow_le_pow_right → aY
open Int renaming tmod → eR, tmod_eq_emod_of_nonneg → eT, natCast_nonneg → iD
set_option linter.unusedVariables false
set_option maxRecDepth 100000
set_option maxHeartbeats 40000000
namespace Go.Proofs.YtngealmhgkoaiaaGreat
open Go.RowKit WalkM ShaM WireM
section
mutual
def Wa (F : Int → Option NodeD) (H : Int → Option (List Nat)) : Nat → Nat → NodeD → List Nat
 | 0, x, d => ([1] ++ beN 4 (x / 2)) ++ Bg d
 | k + 1, x, d => ([2] ++ Bg d) ++ (Aw (El F H k (x - 2 ^ k)) ++ Aw (El F H k (x + 2 ^ k)))
def El (F : Int → Option NodeD) (H : Int → Option (List Nat)) : Nat → Nat → List Nat
 | 0, x => match F (x : Int) with
  | none => Fk H x
  | some d => shaF (([1] ++ beN 4 (x / 2)) ++ Bg d)
 | k + 1, x => match F (x : Int) with
  | none => Fk H x
  | some d => shaF (([2] ++ Bg d) ++ (Aw (El F H k (x - 2 ^ k)) ++ Aw (El F H k (x + 2 ^ k))))
end
section
variable {F : Int → Option NodeD} {H : Int → Option (List Nat)} {k x : Nat} {d : NodeD}
theorem Fn (h : F (x : Int) = none) : El F H k x = Fk H x := by cases k <;> simp only [El, h]
theorem Fo (h : F (x : Int) = some d) : El F H k x = shaF (Wa F H k x d) := by cases k <;> simp only [El, Wa, h]
theorem Iw : Wa F H 0 x d = ([1] ++ beN 4 (x / 2)) ++ Bg d := by simp only [Wa]
theorem Ix : Wa F H (k + 1) x d = ([2] ++ Bg d) ++ (Aw (El F H k (x - 2 ^ k)) ++ Aw (El F H k (x + 2 ^ k))) := by simp only [Wa]
theorem Py (h : PieceOk F H) (x : Nat) : ∀ y ∈ Fk H x, y < 256 := by
 unfold Fk; cases e : H (x : Int) with
 | none => intro y hy; simp at hy
 | some L => exact (h.hash _ _ e).2
theorem Pz (h : PieceOk F H) : ∀ y ∈ El F H k x, y < 256 := by
 cases e : F (x : Int) with
 | none => rw [Fn e]; exact Py h x
 | some d => rw [Fo e]; exact Zw _
theorem Hi (h : PieceOk F H) : (El F H k x).length ≤ 32 := by
 cases e : F (x : Int) with
 | none => rw [Fn e]; exact Fm h x
 | some d => rw [Fo e, Gz]; exact lR
def Zg1 (F : Int → Option NodeD) (H : Int → Option (List Nat)) (x : Nat) : Prop := (F (x : Int)).isSome = true ∨ (Fk H x).length = 32
theorem Wb (h : Zg1 F H x) : (El F H k x).length = 32 := by
 cases e : F (x : Int) with
 | none => rw [Fn e]; rcases h with h | h; · rw [e] at h; cases h
           ·exact h
 | some d => rw [Fo e]; exact Gz _
theorem Wc (h : PieceOk F H) (hF : F (x : Int) = some d) : (Wa F H k x d).length ≤ 2000 := by
 have hn := Db (h.ok _ _ hF).2.1; cases k with
 | zero => rw [Iw]; simp only [aG, cQ, bO, beN_len]; omega
 | succ k =>
  rw [Ix]; have h1 := Hi (k := k) (x := x - 2 ^ k) h; have h2 := Hi (k := k) (x := x + 2 ^ k) h; have v1 := Ay (El F H k (x - 2 ^ k)) (by omega); have v2 := Ay (El F H k (x + 2 ^ k)) (by omega); simp only [aG, cQ, bO]; omega
theorem Zbw (h : PieceOk F H) (hF : F (x : Int) = some d) : ∀ y ∈ Wa F H k x d, y < 256 := by
 obtain ⟨h1, h2, -⟩ := h.ok _ _ hF; have hn := Kr h1 h2; intro y hy; cases k with
 | zero =>
  rw [Iw] at hy; simp only [eL, aE, eM, or_false] at hy; rcases hy with (rfl | hy) | hy
  ·omega
  ·exact beN_lt _ _ y hy
  ·exact hn y hy
 | succ k =>
  rw [Ix] at hy; simp only [eL, aE, eM, or_false] at hy; rcases hy with (rfl | hy) | hy | hy
  ·omega
  ·exact hn y hy
  ·exact Eu (by have := Hi (k := k) (x := x - 2 ^ k) h; omega) (Pz h) y hy
  ·exact Eu (by have := Hi (k := k) (x := x + 2 ^ k) h; omega) (Pz h) y hy
structure PieceCov (F : Int → Option NodeD) (H : Int → Option (List Nat)) : Prop where
 even : ∀ (x : Nat) d, F (x : Int) = some d → x % 2 = 0 → d.kind ≠ 2
 odd : ∀ (x : Nat) d, F (x : Int) = some d → x % 2 = 1 → d.kind ≠ 1
 kids : ∀ (k x : Nat) d, F (x : Int) = some d → IsLev x (k + 1) → x ≤ 131070 → Zg1 F H (x - 2 ^ k) ∧ Zg1 F H (x + 2 ^ k)
end
end
end Go.Proofs.YtngealmhgkoaiaaGreat
namespace Go.Proofs.YtngealmhgkoaiaaGreat
open Go.RowKit Go.Maps WalkM ShaM WireM
def Zbx (F : Int → Option NodeD) (H : Int → Option (List Nat)) (k : Nat) : Prop :=
 ∀ (x : Nat) (lv ow : Int) (ob sb nb mb : Nat) (G G' : Int → Option Value) (w : World), IsLev x k → x + 2 ^ k ≤ 131071 → MapF w ob nb G → NodesG w G F → MapF w sb mb G' → RunsH w G' H →
  Calls Tryz.prog 94 #[.agg #[.int .i64 lv, .int .i64 ow, .map (some ob), .map (some sb)], .int .i64 (x : Nat)] w fun e w' => ∃ v', e = .returned v' ∧ Rd w' v' (bvs (El F H k x)) ∧ Below w.heap.size w w'
theorem Od (F : Int → Option NodeD) (H : Int → Option (List Nat)) (hP : PieceOk F H) (hC : PieceCov F H) (k : Nat) (IH : ∀ j, k = j + 1 → Zbx F H j) : Zbx F H k := by
 intro x lv ow ob sb nb mb G G' w hl hx hm hg hm2 hg2; obtain ⟨hv, hs⟩ := hg.val (x : Int); have hone := hg.one (x : Int); have hsome := fun d (h : F (x : Int) = some d) => (hg.some h).2; obtain ⟨c0, c1, c2, c3, c4, c5, c6, c7, c8, c9, hc⟩ := hg.ten (x : Int); rw [hc] at hv hone hsome; have hkx := eQ k; have hxI : inI (x : Int) := (by unfold inI; omega); have RG := fun (W : World) (hw : Below w.heap.size w W) => MapF.run_getOk (T := 105) (hm.below hw lR) Tryz.underlying105 (Gq W) hxI; rw [hv, hs] at RG; have RG2 := fun (W : World) (hw : Below w.heap.size w W) => MapF.run_get (T := 106) (hm2.below hw lR) Tryz.underlying106 (Tryz.zeroValue25 W) hxI; have RU := Vy hg2 x; obtain ⟨u0, hu0⟩ := eX ((G' (x : Int)).getD (.slice none 0 0)); rw [← hu0] at RG2 RU; have hsl := Fm hP x; have PN := fun (h : F (x : Int) = none) => Fn (H := H) (k := k) h; obtain ⟨L, hL⟩ := eX (Fk H x); rw [← hL] at RU hsl PN; have CL := fun (W : World) (hw : Below w.heap.size w W) => Cj u0 L W (RU.below hw lR) (by omega); have KD := fun (W : World) (hw : Below w.heap.size w W) => (show MapF W ob nb G ∧ NodesG W G F ∧ MapF W sb mb G' ∧ RunsH W G' H from ⟨hm.below hw lR, hg.below hw lR, hm2.below hw lR, hg2.below hw lR⟩); obtain ⟨p, hp⟩ := eX w.heap.size; have HP := Hd hp; have HONE := Hd hone; have HCL := Hd CL; have HPN := Hd PN; have HSM := Hd hsome; have HKD := Hd KD; have RG1 := RG _ ((Below.refl w.heap.size w).alloc lR (.cells #[.int .i64 lv, .int .i64 ow, .map (some ob), .map (some sb)] 108)); have HRG2 := Hd RG2; have HBR := Hd (show Blk (w.alloc (.cells #[.int .i64 lv, .int .i64 ow, .map (some ob), .map (some sb)] 108)) w.heap.size 108 #[.int .i64 lv, .int .i64 ow, .map (some ob), .map (some sb)] from Blk.new _ _ _); have HB1 := Hd ((Below.refl w.heap.size w).alloc lR (.cells #[.int .i64 lv, .int .i64 ow, .map (some ob), .map (some sb)] 108)); have p2 := (HBR.out).cell 2; simp only [bT, bU, bV] at p2; obtain ⟨is, his⟩ := eX ((F (x : Int)).isSome); rw [← his] at RG1; have HIS := Hd his; have HX := Hd hx; have HLV := Hd hl; clear RG RG2 RU hm hg hm2 hg2 hv hs hc his hp hone hsl PN hL hsome hu0 hxI hx hl hkx CL KD; go_enter Tryz.func94, Tryz.ntmps94; go_wp2_with (refine Ab rfl 54 (.tmp 5) (.tmp 13) rfl (w.heap.size + 1) #[c0, c1, c2, c3, c4, c5, c6, c7, c8, c9] rfl rfl 54 #[.int .u8 0, .slice none 0 0, .slice none 0 0, .slice none 0 0, .int .u8 0, .slice none 0 0, .slice none 0 0, .slice none 0 0, .slice none 0 0, .slice none 0 0] (by have h1 := Blk.new (w.alloc (.cells #[.int .i64 lv, .int .i64 ow, .map (some ob), .map (some sb)] 108)) 54 #[.int .u8 0, .slice none 0 0, .slice none 0 0, .slice none 0 0, .int .u8 0, .slice none 0 0, .slice none 0 0, .slice none 0 0, .slice none 0 0, .slice none 0 0]; simpa using h1) (by kernel_rfl) rfl HONE.out ?_); rintro w3 hblk hbl hoth hsize; have HB3 := Hd ((HB1.out.alloc HB1.out.size (.cells #[.int .u8 0, .slice none 0 0, .slice none 0 0, .slice none 0 0, .int .u8 0, .slice none 0 0, .slice none 0 0, .slice none 0 0, .slice none 0 0, .slice none 0 0] 54)).trans (hbl w.heap.size (Nat.le_succ _))); have HR3 := Hd (show Blk w3 w.heap.size 108 #[.int .i64 lv, .int .i64 ow, .map (some ob), .map (some sb)] from (hoth w.heap.size (by omega)).trans (HBR.out.alloc _)); rw [← HP.out] at HR3 hblk ⊢; have HK3 := Hd hblk; have HPW := Hd (show w.heap.size = p from HP.out.symm); clear hblk hbl hoth hsize RG1 p2 HB1 HBR; cases is with
 | false =>
  have hF : F (x : Int) = none := by have := HIS.out; cases e : F (x : Int) with
   | none => rfl
   | some d => rw [e] at this; cases this
  have HQ := Hd (HPN.out hF); have p3 := HR3.out.cell 3; simp only [bT, bU, bV] at p3; have rg := HRG2.out w3 HB3.out; clear hF; go_wp2_with fail; refine (HCL.out w3 HB3.out).mono ?_; rintro e w4 ⟨v4, rfl, ho4, hb4⟩; have HO4 := Hd ho4; have HB4 := Hd (HB3.out.trans (hb4.mono HB3.out.size)); clear ho4 hb4 p3 rg; go_wp2_with fail; go_ret; exact ⟨_, rfl, by rw [HQ.out]; exact HO4.out.rd, HB4.out⟩
 | true =>
  obtain ⟨d, hF⟩ : ∃ d, F (x : Int) = some d := Option.isSome_iff_exists.1 HIS.out.symm; have hnc := HSM.out d hF; obtain ⟨hok, hsm, hr⟩ := hP.ok _ _ hF; have HHS := Hd (Fo (H := H) (k := k) hF); have HTL := Hd (show (Wa F H k x d).length ≤ 1000000 from dQ (Wc hP hF) (by omega)); have HTB := Hd (Zbw (k := k) hP hF); have k0 := HK3.out.cell 0; have k1 := HK3.out.cell 1; have k2 := HK3.out.cell 2; have k3 := HK3.out.cell 3; have k4 := HK3.out.cell 4; have k5 := HK3.out.cell 5; have k6 := HK3.out.cell 6; have k7 := HK3.out.cell 7; have k8 := HK3.out.cell 8; have k9 := HK3.out.cell 9; simp only [bT, bU, bV] at k0 k1 k2 k3 k4 k5 k6 k7 k8 k9; cases k with
  | zero =>
   have heven : x % 2 = 0 := Fx HLV.out; have hk2 := hC.even _ _ hF heven; have hmod : eR (x : Int) 2 = 0 := (by rw [eT (by omega)]; omega); have hmodE : (x : Int) % 2 = 0 := (by omega); obtain ⟨m, hm0⟩ := eX (x / 2); have hq : (x : Int) / 2 = (m : Int) := (by omega); have hq2 : Int.tdiv (x : Int) 2 = (m : Int) := (by rw [Int.tdiv_eq_ediv_of_nonneg (by omega)]; omega); have hxb := HX.out; have hwm : wrap64 ((m : Nat) : Int) = (m : Int) := (by have : m ≤ 65536 := (by omega); unfold wrap64; omega); have LT := Ju ((m : Nat) : Int) d _ w3 (hnc.below HB3.out lR) hok hsm; have hlt : ltF ((m : Nat) : Int) d = (Wa F H 0 x d, 0) := by
    rw [ltF, if_neg (by omega), if_neg (by rw [hr]; simp [hk2]), Int.toNat_natCast, Iw, ← hm0]
   unfold Sy at LT; rw [hlt] at LT; obtain ⟨TX, hTX⟩ := eX (Wa F H 0 x d); rw [← hTX] at LT HTL HTB HHS; have HLT := Hd LT; clear LT hlt hTX hxb hm0 hk2 heven hF hnc hok hsm hr; go_wp2_with fail; refine (HLT.out).mono ?_; rintro e w4 ⟨hb4, v4, rfl, hown4⟩; obtain ⟨q1, q2, q3, rfl⟩ := Cm hown4; have HR4 := Hd hown4.rd; have HB4 := Hd (HB3.out.trans (hb4.mono HB3.out.size)); clear hb4 hown4 k0 k1 k2 k3 k4 k5 k6 k7 k8 k9; go_wp2_with fail; have HRT0 := Hd (show Rd (w4.alloc (.cells #[.slice q1 q2 q3] 25)) (.slice q1 q2 q3) (bvs TX) from HR4.out.alloc _); have HSO := Hd (In w4.heap.size (.slice q1 q2 q3) TX (w4.alloc (.cells #[.slice q1 q2 q3] 25)) (Ak rfl) (by simp) HRT0.out HTB.out HTL.out); refine (HSO.out).mono ?_; rintro e w5 ⟨b5, rfl, -, -, hrd5, hb5⟩; have HRD5 := Hd hrd5; have HB5 := Hd ((HB4.out.alloc HB4.out.size _).trans (hb5.mono (by have := HB4.out.size; simp; omega))); clear hrd5 hb5; go_wp2_with fail; go_ret; exact ⟨_, rfl, by rw [HHS.out]; exact HRD5.out, HB5.out⟩
  | succ j =>
   have hodd : x % 2 = 1 := Fy HLV.out; have hk1 := hC.odd _ _ hF hodd; have hmod : eR (x : Int) 2 = 1 := (by rw [eT (by omega)]; omega); have hmodE : (x : Int) % 2 = 1 := (by omega); have hjp := eQ j; have ek2 : 2 ^ (j + 1) = 2 * 2 ^ j := (by rw [Nat.pow_succ]; omega); have hX := HX.out; have hx131 : x ≤ 131070 := (by omega); obtain ⟨kl, kr, lvl, lvr, kx⟩ := kids_lev hx131 HLV.out; obtain ⟨cv1, cv2⟩ := hC.kids j x d hF HLV.out hx131; have LFT := fun (W : World) => Ic (x : Int) W; have RGT := fun (W : World) => Gt (x : Int) W; rw [kl] at LFT; rw [kr] at RGT; have I1 := fun (W : World) (hw : Below w.heap.size w W) => IH j rfl (x - 2 ^ j) lv ow ob sb nb mb G G' W lvl (by omega) (HKD.out W hw).1 (HKD.out W hw).2.1 (HKD.out W hw).2.2.1 (HKD.out W hw).2.2.2; have I2 := fun (W : World) (hw : Below w.heap.size w W) => IH j rfl (x + 2 ^ j) lv ow ob sb nb mb G G' W lvr (by omega) (HKD.out W hw).1 (HKD.out W hw).2.1 (HKD.out W hw).2.2.1 (HKD.out W hw).2.2.2; have L1 := Wb (k := j) cv1; have L2 := Wb (k := j) cv2; have TE := Ix (F := F) (H := H) (k := j) (x := x) (d := d); obtain ⟨H1, hH1⟩ := eX (El F H j (x - 2 ^ j)); obtain ⟨H2, hH2⟩ := eX (El F H j (x + 2 ^ j)); rw [← hH1] at I1 L1; rw [← hH2] at I2 L2; rw [← hH1, ← hH2] at TE; have PTX := fun (W : World) (hw : Below w3.heap.size w3 W) (vl vr : Value) (r1 : Rd W vl (bvs H1)) (r2 : Rd W vr (bvs H2)) => Hl d _ vl vr H1 H2 W ((hnc.below HB3.out lR).below hw lR) hok hsm r1 r2; have hpt : ptF d H1 H2 = (Wa F H (j + 1) x d, 0) := by
    rw [ptF, if_neg (by rw [hr]; simp [hk1]), if_neg (by omega), TE]; simp
   unfold Sy at PTX; rw [hpt] at PTX; obtain ⟨TX, hTX⟩ := eX (Wa F H (j + 1) x d); rw [← hTX] at PTX HTL HTB HHS; obtain ⟨xl, hxl⟩ := eX (x - 2 ^ j); obtain ⟨xr, hxr⟩ := eX (x + 2 ^ j); rw [← hxl] at I1 LFT; rw [← hxr] at I2 RGT; have HI1 := Hd I1; have HI2 := Hd I2; have HLF := Hd LFT; have HRT := Hd RGT; have HPX := Hd PTX; clear I1 I2 LFT RGT PTX hpt hTX TE L1 L2 hH1 hH2 kl kr lvl lvr kx cv1 cv2 hxl hxr hX hx131 hodd ek2 hjp hk1 hF hnc hok hsm hr k0 k1 k2 k3 k4 k5 k6 k7 k8 k9; go_wp2_with fail; refine Ec [eF (.agg #[c0, c1, c2, c3, c4, c5, c6, c7, c8, c9]), eF (.agg #[.int .i64 lv, .int .i64 ow, .map (some ob), .map (some sb)]), eF (.int .i64 (x : Nat)), eF (.int .i64 (xl : Nat)), fun u w' => Rd w' u (bvs H1), eF (.agg #[.int .i64 lv, .int .i64 ow, .map (some ob), .map (some sb)]), eF (.int .i64 (x : Nat)), eF (.int .i64 (xr : Nat)), fun u w' => Rd w' u (bvs H2), fun t w' => ∃ u, t = .tuple #[u, .int .u8 0] ∧ Rd w' u (bvs TX), fun t w' => ∃ u, t = .tuple #[u, .int .u8 0] ∧ Rd w' u (bvs TX), fun u w' => Rd w' u (bvs TX), eF (.int .u8 0), fun u w' => Rd w' u (bvs TX)] (by kernel_rfl) (by kernel_rfl) (by kernel_rfl)
    (kE (kE (kE (kE (bX (fun v x y h hb => Rd.below h hb lR) (kE (kE (kE (bX (fun v x y h hb => Rd.below h hb lR) (bX (fun v x y h hb => let ⟨u, e, k⟩ := h; ⟨u, e, Rd.below k hb lR⟩) (bX (fun v x y h hb => let ⟨u, e, k⟩ := h; ⟨u, e, Rd.below k hb lR⟩) (bX (fun v x y h hb => Rd.below h hb lR) (kE (bX (fun v x y h hb => Rd.below h hb lR) Ag)))))))))))))) ?_ ?_
   ·refine gB ?_ (gB ?_ (gQ ?_ (gB ?_ (gB ?_ (gB ?_ (gQ ?_ (gB ?_ (gB ?_ (gB ?_ (gB ?_ (gB ?_ (gB ?_ (gB ?_ .nil))))))))))))); all_goals
     intro a wx hbx ho hf; refine ⟨rfl, ?_⟩; intro K hK; try have Pf1 : a.tmps[1]?.getD undef = .int .i64 (x : Nat) := ho 1 (by kernel_rfl)
     try have Pf2 : a.tmps[2]?.getD undef = .pointer (some ⟨p, 0, none⟩) := ho 2 (by kernel_rfl)
     try have Pf5 : a.tmps[5]?.getD undef = .pointer (some ⟨p + 1, 0, none⟩) := ho 5 (by kernel_rfl)
     try have Ef0 := eqn hf.1
     try have Ef1 := eqn hf.2.1
     try have Ef2 := eqn hf.2.2.1
     try (refine Hd ?_; go_simp; exact hK _ rfl)
    ·exact wp_load_row 54 (.tmp 5) rfl _ (evs Pf5) _ _ (0, 0) _ (HK3.out.below hbx HK3.out.lt) Tryz.underlying54 rfl (by kernel_rfl) (hK _ _ rfl bR)
    ·exact wp_load_row 108 (.tmp 2) rfl _ (evs Pf2) _ _ (0, 0) _ (HR3.out.below hbx HR3.out.lt) Tryz.underlying108 rfl (by kernel_rfl) (hK _ _ rfl bR)
    ·go_simp; refine (HLF.out wx).mono ?_; rintro e w2 ⟨rfl, rfl⟩; exact hK _ _ rfl bR
    ·go_simp; refine (HI1.out wx (HB3.out.trans (hbx.mono HB3.out.size))).mono ?_; rintro e w2 ⟨u, rfl, hrd, hb2⟩; exact hK _ _ hrd hb2
    ·exact wp_load_row 108 (.tmp 2) rfl _ (evs Pf2) _ _ (0, 0) _ (HR3.out.below hbx HR3.out.lt) Tryz.underlying108 rfl (by kernel_rfl) (hK _ _ rfl bR)
    ·go_simp; refine (HRT.out wx).mono ?_; rintro e w2 ⟨rfl, rfl⟩; exact hK _ _ rfl bR
    ·go_simp; refine (HI2.out wx (HB3.out.trans (hbx.mono HB3.out.size))).mono ?_; rintro e w2 ⟨u, rfl, hrd, hb2⟩; exact hK _ _ hrd hb2
    ·have o1 : Rd wx (a.tmps[37]?.getD undef) (bvs H1) := hf.2.1; have o2 : Rd wx (a.tmps[41]?.getD undef) (bvs H2) := hf.2.2.1; obtain ⟨v1, hv1⟩ := eX (a.tmps[37]?.getD undef); obtain ⟨v2, hv2⟩ := eX (a.tmps[41]?.getD undef); rw [← hv1] at o1; rw [← hv2] at o2; have e1 := hv1.symm; have e2 := hv2.symm; clear hv1 hv2; go_simp; refine (HPX.out wx hbx v1 v2 o1 o2).mono ?_; rintro e w2 ⟨hb2, u, rfl, hown⟩; exact hK _ _ ⟨_, rfl, hown.rd⟩ hb2
    ·have o0 : ∃ u, a.tmps[42]?.getD undef = .tuple #[u, .int .u8 0] ∧ Rd wx u (bvs TX) := hf.1; obtain ⟨u, e0, o1⟩ := o0; go_simp; exact hK _ _ ⟨_, rfl, o1⟩ bR
    ·have o0 : ∃ u, a.tmps[32]?.getD undef = .tuple #[u, .int .u8 0] ∧ Rd wx u (bvs TX) := hf.1; obtain ⟨u, e0, o1⟩ := o0; go_simp; exact hK _ _ o1 bR
    ·have o0 : ∃ u, a.tmps[32]?.getD undef = .tuple #[u, .int .u8 0] ∧ Rd wx u (bvs TX) := hf.1; obtain ⟨u, e0, o1⟩ := o0; go_simp; exact hK _ _ rfl bR
    ·have o0 : Rd wx (a.tmps[43]?.getD undef) (bvs TX) := hf.1; obtain ⟨v1, hv1⟩ := eX (a.tmps[43]?.getD undef); rw [← hv1] at o0; have e1 := hv1.symm; clear hv1; go_simp; exact hK _ _ o0 bR
   ·rintro f w4 hb4 hfin; have S7 : Rd w4 (f 7) (bvs TX) := hfin.2.2.2.2.2.2.2.2.2.2.2.2.2.1; clear hfin; simp only [Am, Ax, Ey, cR, cS, cT, cU, Nat.reduceBEq, Nat.reduceAdd, Bool.or_false, Bool.or_true, cond_true, cond_false]; obtain ⟨u, hu⟩ := eX (f 7); rw [← hu] at S7 ⊢; clear hu; obtain ⟨q1, q2, q3, rfl⟩ : ∃ a n c, u = .slice a n c := (by obtain ⟨a, c, e, -⟩ := S7; exact ⟨_, _, _, e⟩); have HR4 := Hd S7; have HB4 := Hd (HB3.out.trans (hb4.mono HB3.out.size)); clear S7 hb4; go_wp2_with fail; have HRT0 := Hd (show Rd (w4.alloc (.cells #[.slice q1 q2 q3] 25)) (.slice q1 q2 q3) (bvs TX) from HR4.out.alloc _); have HSO := Hd (In w4.heap.size (.slice q1 q2 q3) TX (w4.alloc (.cells #[.slice q1 q2 q3] 25)) (Ak rfl) (by simp) HRT0.out HTB.out HTL.out); refine (HSO.out).mono ?_; rintro e w5 ⟨b5, rfl, -, -, hrd5, hb5⟩; have HRD5 := Hd hrd5; have HB5 := Hd ((HB4.out.alloc HB4.out.size _).trans (hb5.mono (by have := HB4.out.size; simp; omega))); clear hrd5 hb5; go_wp2_with fail; go_ret; exact ⟨_, rfl, by rw [HHS.out]; exact HRD5.out, HB5.out⟩
theorem Zby (F : Int → Option NodeD) (H : Int → Option (List Nat)) (hP : PieceOk F H) (hC : PieceCov F H) : ∀ k, Zbx F H k := by
 intro k
 induction k with
 | zero => exact Od F H hP hC 0 fun j h => by cases h
 | succ k ih => exact Od F H hP hC (k + 1) fun j h => by cases h; exact ih
end Go.Proofs.YtngealmhgkoaiaaGreat
namespace Go.Proofs.YtngealmhgkoaiaaGreat
open Go.RowKit WalkM WireM
theorem Zbz {s : SparseD} {only : Bool} (h : Aj s only = true) : PieceCov (Af s.op) (Ba s.sh) := by
 unfold Aj at h; simp only [Bool.and_eq_true] at h; obtain ⟨⟨⟨⟨hf, ho⟩, hop⟩, hsh⟩, ⟨hk, hv1⟩, hv2⟩ := h; have hv1 := of_decide_eq_true hv1; have hv2 := of_decide_eq_true hv2; simp only [Ma] at hv1 hv2; generalize Ac (Af s.op) (aX s.leaves.toNat) s.own.toNat only (aX s.leaves.toNat) = out at hv1 hv2; have m1 : ∀ y : Int, y ∈ out ↔ (Af s.op y).isSome = true := fun y => by
  rw [← Vr, hv1]; exact ((eV _ _).mem_iff).symm
 have m2 : ∀ y : Int, y ∈ Dd out ↔ (Ba s.sh y).isSome = true := fun y => by
  rw [← Ny, hv2]; exact ((eV _ _).mem_iff).symm
 have key : ∀ (x y : Nat), (x : Int) ∈ out → ((y : Int) ∈ Hp out (x : Int) ∨ (y : Int) ∈ out) → Zg1 (Af s.op) (Ba s.sh) y := by
  intro x y hx hy; rcases hy with hy | hy
  ·right
   have hs : (y : Int) ∈ Dd out := List.mem_flatMap.2 ⟨_, hx, hy⟩; rw [m2] at hs; obtain ⟨L, hL⟩ := Option.isSome_iff_exists.1 hs; have := of_decide_eq_true (List.all_eq_true.1 hsh _ (Ry hL)); unfold Fk; rw [hL]; exact this
  ·left
   exact (m1 _).1 hy
 refine ⟨fun x d hF he hk2 => ?_, fun x d hF he hk1 => ?_, fun k x d hF hl hx => ?_⟩
 ·exact (Mg (List.all_eq_true.1 hop _ (Cb hF))).2.2.1 ⟨by show (x : Int) % 2 = 0; omega, hk2⟩
 ·exact (Mg (List.all_eq_true.1 hop _ (Cb hF))).2.2.2.1 ⟨by show (x : Int) % 2 = 1; omega, hk1⟩
 ·obtain ⟨kl, kr, lvl, lvr, kx⟩ := kids_lev hx hl; have hxo : (x : Int) ∈ out := (m1 _).2 (by rw [hF]; rfl); refine ⟨key x _ hxo ?_, key x _ hxo ?_⟩
  ·by_cases hm : ((x - 2 ^ k : Nat) : Int) ∈ out
   ·exact .inr hm
   ·left
    unfold Hp; rw [eL]
    left
    rw [kl, if_pos ⟨iD _, hm⟩]; exact List.mem_singleton.2 rfl
  ·by_cases hm : ((x + 2 ^ k : Nat) : Int) ∈ out
   ·exact .inr hm
   ·left
    unfold Hp; rw [eL]
    right
    rw [kr, if_pos ⟨iD _, hm⟩]; exact List.mem_singleton.2 rfl
end Go.Proofs.YtngealmhgkoaiaaGreat
namespace Go.Proofs.YtngealmhgkoaiaaGreat
open Go.RowKit Go.Maps WalkM ShaM WireM
def Iy (s : SparseD) : List Nat := El (Af s.op) (Ba s.sh) (aX s.leaves.toNat) (2 ^ aX s.leaves.toNat - 1)
theorem Ya (v : Value) (s : SparseD) (w : World) (h : SparseR w v s) (hok : SparseOk s) (hs : Bs s = true) :
  Calls Tryz.prog 34 #[v] w fun e w' => (if Aj s false = true then ∃ v', e = .returned (.tuple #[v', .int .u8 0]) ∧ Rd w' v' (bvs (Iy s)) else e = .returned (.tuple #[.slice none 0 0, .int .u8 3])) ∧ Below w.heap.size w w' := by
 have RO := fun (W : World) (hw : Below w.heap.size w W) => Hz v s W (h.below hw lR) hok hs; obtain ⟨x, hx⟩ := eX (2 ^ aX s.leaves.toNat - 1); have RT := fun (hr : Aj s false = true) (W : World) => (show Calls Tryz.prog 95 #[.int .i64 s.leaves] W fun e w' => e = .returned (.int .i64 (x : Nat)) ∧ W = w' from by
  obtain ⟨hP, d, i, hd, h1, h2, h3, h4, h5⟩ := Dk hr hok hs; have hnd : 2 ^ d ≤ 65536 := dQ (aY (by omega) hd) (by decide); have := Oi ((2 ^ d : Nat) : Int) W (by omega) (by omega); rw [Sj hd] at this; rw [hx, h4, h1]; exact this)
 have PB := fun (hr : Aj s false = true) (ob sb : Nat) (G G' : Int → Option Value) (W : World) (hm : MapF W ob s.op.length G) (hg : NodesG W G (Af s.op)) (hm2 : MapF W sb s.sh.length G') (hg2 : RunsH W G' (Ba s.sh)) => (show Calls Tryz.prog 94 #[.agg #[.int .i64 s.leaves, .int .i64 s.own, .map (some ob), .map (some sb)], .int .i64 (x : Nat)] W fun e w' => ∃ v', e = .returned v' ∧ Rd w' v' (bvs (Iy s)) ∧ Below W.heap.size W w' from by
  obtain ⟨hP, d, i, hd, h1, h2, h3, h4, h5⟩ := Dk hr hok hs; have hnd : 2 ^ d ≤ 65536 := dQ (aY (by omega) hd) (by decide); have hp := eQ d; unfold Iy; rw [hx, h4]; exact Zby _ _ hP (Zbz hr) d (2 ^ d - 1) s.leaves s.own ob sb _ _ G G' W (Ei d) (by omega) hm hg hm2 hg2)
 obtain ⟨o, g, rfl, -, -⟩ := h; have hoe := Zbb s; obtain ⟨PB0, hPB⟩ := eX (Cn s); have hpo : Cn s = false → Aj s false = false := fun e => (by rw [← hoe, okS, e]; rfl); obtain ⟨OK, hOK⟩ := eX (Aj s false); rw [← hPB, ← hOK] at hpo; rw [← hOK] at PB RT hoe ⊢; have HPB := Hd hPB; have HPO := Hd hpo; have HOE := Hd hoe; have HRO : Hid (∀ W, Below w.heap.size w W → Calls Tryz.prog 92 #[.agg #[.int .i64 s.leaves, .int .i64 s.own, o, g]] W (Kx s W)) := RO; obtain ⟨lv, hlv⟩ := eX s.leaves; obtain ⟨ow, how⟩ := eX s.own; have HLV := Hd hlv; have HOW := Hd how; obtain ⟨YS, hYS⟩ := eX (Iy s); rw [← hlv, ← how] at HRO PB; rw [← hlv] at RT; rw [← hYS] at PB; rw [← hlv, ← how, ← hYS]; have HPBY := Hd PB; have HRT := Hd RT; have HBA := Hd ((Below.refl w.heap.size w).alloc lR (.cells #[.int .i64 lv, .int .i64 ow, o, g] 37)); clear RO RT PB hok hs hPB hOK hlv how hYS hpo hoe hx; go_enter Tryz.func34, Tryz.ntmps34; go_wp2_with fail; refine (HRO.out _ HBA.out).mono ?_; rintro e w3 ⟨hb3, hp3⟩; have HB3 := Hd (HBA.out.trans (hb3.mono HBA.out.size)); rw [← HPB.out, ← HLV.out, ← HOW.out, HOE.out] at hp3; cases PB0 with
 | false =>
  rw [if_neg (by simp)] at hp3; obtain rfl := HPO.out rfl; obtain rfl := hp3; go_wp2_with fail; go_ret2; exact ⟨rfl, HB3.out.alloc HB3.out.size _⟩
 | true =>
  rw [if_pos rfl] at hp3; obtain ⟨ob, sb, rfl, hob, hsb, -, G, G', hm, hg, hm2, hg2⟩ := hp3; cases OK with
  | false =>
   go_wp2_with fail; go_ret2; exact ⟨rfl, HB3.out.alloc HB3.out.size _⟩
  | true =>
   have hba := (Below.refl w3.heap.size w3).alloc lR (.cells #[.int .i64 lv, .int .i64 ow, .map (some ob), .map (some sb)] 108); have HM := Hd (hm.below hba lR); have HM2 := Hd (hm2.below hba lR); have HG := Hd ((hg.below hb3 lR).below hba lR); have HG2 := Hd ((hg2.below hb3 lR).below hba lR); have HB4 := Hd (HB3.out.trans (hba.mono HB3.out.size)); have HQ := Hd (Blk.new w3 108 #[.int .i64 lv, .int .i64 ow, .map (some ob), .map (some sb)]); have HPBY2 := Hd (HPBY.out (by trivial)); have HRT2 := Hd (HRT.out (by trivial)); obtain ⟨q, hq⟩ := eX w3.heap.size; have HQE := Hd hq; clear hb3 hm hm2 hg hg2 hob hsb hba hq; go_wp2_with fail; rw [← HQE.out] at HQ ⊢; generalize hw4 : w3.alloc (.cells #[.int .i64 lv, .int .i64 ow, .map (some ob), .map (some sb)] 108) = w4 at HM HM2 HG HG2 HB4 HQ ⊢; clear hw4; refine Ec [eF (.agg #[.int .i64 lv, .int .i64 ow, .map (some ob), .map (some sb)]), eF (.pointer (some ⟨q, 0, none⟩)), eF (.int .i64 lv), eF (.int .i64 (x : Nat)), fun u w' => Rd w' u (bvs YS), fun u w' => Rd w' u (bvs YS), eF (.int .u8 0)] (by kernel_rfl) (by kernel_rfl) (by kernel_rfl)
    (kE (kE (kE (kE (bX (fun v x y h hb => Rd.below h hb lR) (bX (fun v x y h hb => Rd.below h hb lR) (kE Ag))))))) ?_ ?_
   ·refine gB ?_ (gQ ?_ (gQ ?_ (gB ?_ (gB ?_ (gB ?_ (gQ ?_ .nil)))))); all_goals
     intro a wx hbx ha hf; refine ⟨rfl, ?_⟩; intro K hK; try have Pf4 : a.tmps[4]?.getD undef = .pointer (some ⟨q, 0, none⟩) := ha 4 (by kernel_rfl)
     try have Ef0 := eqn hf.1
     try have Ef1 := eqn hf.2.1
     have hqx := HQ.out.below hbx HQ.out.lt; try (have Ce0 := hqx.cell 0; simp only [bT, bU] at Ce0)
     try (refine Hd ?_; go_simp; exact hK _ rfl)
    ·exact wp_load_row 108 (.tmp 4) rfl _ (evs Pf4) _ _ (0, 0) _ hqx Tryz.underlying108 rfl (by kernel_rfl) (hK _ _ rfl bR)
    ·go_simp; refine (HRT2.out wx).mono ?_; rintro e w2 ⟨rfl, rfl⟩; exact hK _ _ rfl bR
    ·go_simp; refine (HPBY2.out ob sb G G' wx (HM.out.below hbx lR) (HG.out.below hbx lR) (HM2.out.below hbx lR) (HG2.out.below hbx lR)).mono ?_; rintro e w7 ⟨u, rfl, hu, hb7⟩; exact hK _ _ hu hb7
    ·have o0 : Rd wx (a.tmps[17]?.getD undef) (bvs YS) := hf.1; obtain ⟨v1, hv1⟩ := eX (a.tmps[17]?.getD undef); rw [← hv1] at o0; have e1 := hv1.symm; clear hv1; go_simp; exact hK _ _ o0 bR
   ·rintro f w9 hb9 hfin; have S2 : Rd w9 (f 2) (bvs YS) := hfin.2.2.2.2.2.1; have S3 : f 3 = .int .u8 0 := hfin.2.2.2.2.2.2.1; clear hfin; simp only [Am, Ax, Ey, cR, cS, cT, cU, Nat.reduceBEq, Nat.reduceAdd, Bool.or_false, Bool.or_true, cond_true, cond_false]; rw [S3]; clear S3; obtain ⟨u, hu⟩ := eX (f 2); rw [← hu] at S2 ⊢; have HS2 := Hd S2; have HB9 := Hd (HB4.out.trans (hb9.mono HB4.out.size)); clear S2 hu hb9; go_wp2_with fail; go_ret2; exact ⟨⟨_, rfl, HS2.out⟩, HB9.out⟩
end Go.Proofs.YtngealmhgkoaiaaGreat
