/- Plain: the hash of a piece by the level. -/
import Derived.Test.YtngealmhgkoaiaaGreatZSliceResolvesB
import Derived.Test.YtngealmhgkoaiaaGreatZSliceResolves45
open List renaming length_append → aG, length_cons → cO, length_nil → bO, mem_append → eL, mem_cons → aE, not_mem_nil → eM, getElem?_toArray → bT, getElem?_cons_zero → bU, getElem?_cons_succ → bV, filterMap_cons → cP, filterMap_nil → cQ, contains_cons → cR, contains_nil → cS, mergeSort_perm → eV, getD_eq_getElem?_getD → aH
open Nat renaming two_pow_pos → eQ, le_succ → gE, le_trans → dP, pow_succ → aN, log2 → aX, zero_le → aA, pow_le_pow_right → aY
open Int renaming tmod → eR, tmod_eq_emod_of_nonneg → eT, toNat_natCast → cY, natCast_nonneg → gZ
open Bool renaming or_false → cT, or_true → cU, and_eq_true → cA
set_option linter.unusedVariables false
set_option maxRecDepth 100000
set_option maxHeartbeats 40000000
namespace Go.Proofs.YtngealmhgkoaiaaGreat
open Go.RowKit WalkM ShaM WireM
section
mutual
def Xd (F:Int→Option NodeD)(H:Int→Option (List Nat)):Nat→Nat→NodeD→List Nat
 |0,x,d=>([1]++beN 4 (x/2))++Bh d
 |k+1,x,d=>([2]++Bh d)++(Ar (Ev F H k (x-2^k))++Ar (Ev F H k (x+2^k)))
def Ev (F:Int→Option NodeD)(H:Int→Option (List Nat)):Nat→Nat→List Nat
 |0,x=>match F (x:Int)with
  |none=>Jn H x
  |some d=>shaF (([1]++beN 4 (x/2))++Bh d)
 |k+1,x=>match F (x:Int)with
  |none=>Jn H x
  |some d=>shaF (([2]++Bh d)++(Ar (Ev F H k (x-2^k))++Ar (Ev F H k (x+2^k))))
end
section
variable {F:Int→Option NodeD} {H:Int→Option (List Nat)} {k x:Nat} {d:NodeD}
theorem Fw (h:F (x:Int)=none):Ev F H k x=Jn H x:=by cases k<;>simp only[Ev,h]
theorem Fx (h:F (x:Int)=some d):Ev F H k x=shaF (Xd F H k x d):=by cases k<;>simp only[Ev,Xd,h]
theorem Jp:Xd F H 0 x d=([1]++beN 4 (x/2))++Bh d:=by simp only[Xd]
theorem Jq:Xd F H (k+1) x d=([2]++Bh d)++(Ar (Ev F H k (x-2^k))++Ar (Ev F H k (x+2^k))):=by simp only[Xd]
theorem Zfi (h:PieceOk F H)(x:Nat):∀y∈Jn H x,y<256:=by
 unfold Jn;cases e:H (x:Int)with
 |none=>intro y hy;simp at hy
 |some L=>exact(h.hash _ _ e).2
theorem Qj (h:PieceOk F H):∀y∈Ev F H k x,y<256:=by
 cases e:F (x:Int)with
 |none=>rw[Fw e];exact Zfi h x
 |some d=>rw[Fx e];exact Zbg _
theorem Hw (h:PieceOk F H):(Ev F H k x).length≤32:=by
 cases e:F (x:Int)with
 |none=>rw[Fw e];exact Sp h x
 |some d=>rw[Fx e,Ho];exact lR
def Zis (F:Int→Option NodeD)(H:Int→Option (List Nat))(x:Nat):Prop:=(F (x:Int)).isSome=true∨(Jn H x).length=32
theorem Xe (h:Zis F H x):(Ev F H k x).length=32:=by
 cases e:F (x:Int)with
 | none => rw[Fw e];rcases h with h|h; · rw[e]at h;cases h
           ·exact h
 |some d=>rw[Fx e];exact Ho _
theorem Xf (h:PieceOk F H)(hF:F (x:Int)=some d):(Xd F H k x d).length≤8000:=by
 have hn:=Ha (h.ok _ _ hF).2.1;cases k with
 |zero=>rw[Jp];simp only[aG,cO,bO,beN_len];omega
 |succ k=>
  rw[Jq];have h1:=Hw (k:=k) (x:=x-2^k) h;have h2:=Hw (k:=k) (x:=x+2^k) h;have v1:=Ba (Ev F H k (x-2^k)) (by omega);have v2:=Ba (Ev F H k (x+2^k)) (by omega);simp only[aG,cO,bO];omega
theorem Zcy (h:PieceOk F H)(hF:F (x:Int)=some d):∀y∈Xd F H k x d,y<256:=by
 obtain⟨h1,h2,-⟩:=h.ok _ _ hF;have hn:=Wb h1 h2;intro y hy;cases k with
 |zero=>
  rw[Jp]at hy;simp only[eL,aE,eM,or_false]at hy;rcases hy with(rfl|hy)|hy
  ·omega
  ·exact beN_lt _ _ y hy
  ·exact hn y hy
 |succ k=>
  rw[Jq]at hy;simp only[eL,aE,eM,or_false]at hy;rcases hy with(rfl|hy)|hy|hy
  ·omega
  ·exact hn y hy
  ·exact Fj (by have:=Hw (k:=k) (x:=x-2^k) h;omega) (Qj h) y hy
  ·exact Fj (by have:=Hw (k:=k) (x:=x+2^k) h;omega) (Qj h) y hy
structure PieceCov (F:Int→Option NodeD) (H:Int→Option (List Nat)):Prop where
 even:∀(x:Nat) d,F (x:Int)=some d→x%2=0→d.kind≠2
 odd:∀(x:Nat) d,F (x:Int)=some d→x%2=1→d.kind≠1
 kids:∀(k x:Nat) d,F (x:Int)=some d→IsLev x (k+1)→x≤131070→Zis F H (x-2^k)∧Zis F H (x+2^k)
end
end
open Go.Maps
def Zcz (F:Int→Option NodeD)(H:Int→Option (List Nat))(k:Nat):Prop:=
 ∀(x:Nat) (lv ow:Int) (ob sb nb mb:Nat) (G G':Int→Option Value) (w:World),IsLev x k→x+2^k≤131071→MapF w ob nb G→NodesG w G F→MapF w sb mb G'→RunsH w G' H→
  Calls Tryz.prog 94 #[.agg #[.int .i64 lv,.int .i64 ow,.map (some ob),.map (some sb)],.int .i64 (x:Nat)] w fun e w'=>∃v',e=.returned v'∧Rd w' v' (bvs (Ev F H k x))∧Below w.heap.size w w'
theorem Ov (F:Int→Option NodeD)(H:Int→Option (List Nat))(hP:PieceOk F H)(hC:PieceCov F H)(k:Nat)(IH:∀j,k=j+1→Zcz F H j):Zcz F H k:=by
 intro x lv ow ob sb nb mb G G' w hl hx hm hg hm2 hg2;obtain⟨hv,hs⟩:=hg.val (x:Int);have hone:=hg.one (x:Int);have hsome:=fun d (h:F (x:Int)=some d)=>(hg.some h).2;obtain⟨c0,c1,c2,c3,c4,c5,c6,c7,c8,c9,hc⟩:=hg.ten (x:Int);rw[hc]at hv hone hsome;have hkx:=eQ k;have hxI:inI (x:Int):=(by unfold inI;omega);have RG:=fun(W:World) (hw:Below w.heap.size w W)=>MapF.run_getOk (T:=105) (hm.below hw lR) Tryz.underlying105 (Co W) hxI;rw[hv,hs]at RG;have RG2:=fun(W:World) (hw:Below w.heap.size w W)=>MapF.run_get (T:=106) (hm2.below hw lR) Tryz.underlying106 (Tryz.zeroValue25 W) hxI;have RU:=Zfh hg2 x;obtain⟨u0,hu0⟩:=eX ((G' (x:Int)).getD (.slice none 0 0));rw[←hu0]at RG2 RU;have hsl:=Sp hP x;have PN:=fun(h:F (x:Int)=none)=>Fw (H:=H) (k:=k) h;obtain⟨L,hL⟩:=eX (Jn H x);rw[←hL]at RU hsl PN;have CL:=fun(W:World) (hw:Below w.heap.size w W)=>Ce u0 L W (RU.below hw lR) (by omega);have KD:=fun(W:World) (hw:Below w.heap.size w W)=>(show MapF W ob nb G∧NodesG W G F∧MapF W sb mb G'∧RunsH W G' H from⟨hm.below hw lR,hg.below hw lR,hm2.below hw lR,hg2.below hw lR⟩);obtain⟨p,hp⟩:=eX w.heap.size;have HP:=Hd hp;have HONE:=Hd hone;have HCL:=Hd CL;have HPN:=Hd PN;have HSM:=Hd hsome;have HKD:=Hd KD;have RG1:=RG _ ((Below.refl w.heap.size w).alloc lR (.cells #[.int .i64 lv,.int .i64 ow,.map (some ob),.map (some sb)] 108));have HRG2:=Hd RG2;have HBR:=Hd (show Blk (w.alloc (.cells #[.int .i64 lv,.int .i64 ow,.map (some ob),.map (some sb)] 108)) w.heap.size 108 #[.int .i64 lv,.int .i64 ow,.map (some ob),.map (some sb)]from Blk.new _ _ _);have HB1:=Hd ((Below.refl w.heap.size w).alloc lR (.cells #[.int .i64 lv,.int .i64 ow,.map (some ob),.map (some sb)] 108));have p2:=(HBR.out).cell 2;simp only[bT,bU,bV]at p2;obtain⟨is,his⟩:=eX ((F (x:Int)).isSome);rw[←his]at RG1;have HIS:=Hd his;have HX:=Hd hx;have HLV:=Hd hl;clear RG RG2 RU hm hg hm2 hg2 hv hs hc his hp hone hsl PN hL hsome hu0 hxI hx hl hkx CL KD;go_enter Tryz.func94,Tryz.ntmps94;go_wp2_with (refine Ab rfl 54 (.tmp 5) (.tmp 13) rfl (w.heap.size+1) #[c0,c1,c2,c3,c4,c5,c6,c7,c8,c9] rfl rfl 54 #[.int .u8 0,.slice none 0 0,.slice none 0 0,.slice none 0 0,.int .u8 0,.slice none 0 0,.slice none 0 0,.slice none 0 0,.slice none 0 0,.slice none 0 0] (by have h1:=Blk.new (w.alloc (.cells #[.int .i64 lv,.int .i64 ow,.map (some ob),.map (some sb)] 108)) 54 #[.int .u8 0,.slice none 0 0,.slice none 0 0,.slice none 0 0,.int .u8 0,.slice none 0 0,.slice none 0 0,.slice none 0 0,.slice none 0 0,.slice none 0 0];simpa using h1) (by kernel_rfl) rfl HONE.out ?_);rintro w3 hblk hbl hoth hsize;have HB3:=Hd ((HB1.out.alloc HB1.out.size (.cells #[.int .u8 0,.slice none 0 0,.slice none 0 0,.slice none 0 0,.int .u8 0,.slice none 0 0,.slice none 0 0,.slice none 0 0,.slice none 0 0,.slice none 0 0] 54)).trans (hbl w.heap.size (gE _)));have HR3:=Hd (show Blk w3 w.heap.size 108 #[.int .i64 lv,.int .i64 ow,.map (some ob),.map (some sb)]from(hoth w.heap.size (by omega)).trans (HBR.out.alloc _));rw[←HP.out]at HR3 hblk⊢;have HK3:=Hd hblk;have HPW:=Hd (show w.heap.size=p from HP.out.symm);clear hblk hbl hoth hsize RG1 p2 HB1 HBR;cases is with
 |false=>
  have hF:F (x:Int)=none:=by have:=HIS.out;cases e:F (x:Int)with
   |none=>rfl
   |some d=>rw[e]at this;cases this
  have HQ:=Hd (HPN.out hF);have p3:=HR3.out.cell 3;simp only[bT,bU,bV]at p3;have rg:=HRG2.out w3 HB3.out;clear hF;go_wp2_with fail;refine(HCL.out w3 HB3.out).mono ?_;rintro e w4 ⟨v4,rfl,ho4,hb4⟩;have HO4:=Hd ho4;have HB4:=Hd (HB3.out.trans (hb4.mono HB3.out.size));clear ho4 hb4 p3 rg;go_wp2_with fail;go_ret;exact⟨_,rfl,by rw[HQ.out];exact HO4.out.rd,HB4.out⟩
 |true=>
  obtain⟨d,hF⟩:∃d,F (x:Int)=some d:=Option.isSome_iff_exists.1 HIS.out.symm;have hnc:=HSM.out d hF;obtain⟨hok,hsm,hr⟩:=hP.ok _ _ hF;have HHS:=Hd (Fx (H:=H) (k:=k) hF);have HTL:=Hd (show(Xd F H k x d).length≤1000000 from dP (Xf hP hF) (by omega));have HTB:=Hd (Zcy (k:=k) hP hF);have k0:=HK3.out.cell 0;have k1:=HK3.out.cell 1;have k2:=HK3.out.cell 2;have k3:=HK3.out.cell 3;have k4:=HK3.out.cell 4;have k5:=HK3.out.cell 5;have k6:=HK3.out.cell 6;have k7:=HK3.out.cell 7;have k8:=HK3.out.cell 8;have k9:=HK3.out.cell 9;simp only[bT,bU,bV]at k0 k1 k2 k3 k4 k5 k6 k7 k8 k9;cases k with
  |zero=>
   have heven:x%2=0:=Fe HLV.out;have hk2:=hC.even _ _ hF heven;have hmod:eR (x:Int) 2=0:=(by rw[eT (by omega)];omega);have hmodE:(x:Int)%2=0:=(by omega);obtain⟨m,hm0⟩:=eX (x/2);have hq:(x:Int)/2=(m:Int):=(by omega);have hq2:Int.tdiv (x:Int) 2=(m:Int):=(by rw[Int.tdiv_eq_ediv_of_nonneg (by omega)];omega);have hxb:=HX.out;have hwm:wrap64 ((m:Nat):Int)=(m:Int):=(by have:m≤65536:=(by omega);unfold wrap64;omega);have LT:=Kn ((m:Nat):Int) d _ w3 (hnc.below HB3.out lR) hok hsm;have hlt:ltF ((m:Nat):Int) d=(Xd F H 0 x d,0):=by
    rw[ltF,if_neg (by omega),if_neg (by rw[hr];simp[hk2]),cY,Jp,←hm0]
   unfold Tt at LT;rw[hlt]at LT;obtain⟨TX,hTX⟩:=eX (Xd F H 0 x d);rw[←hTX]at LT HTL HTB HHS;have HLT:=Hd LT;clear LT hlt hTX hxb hm0 hk2 heven hF hnc hok hsm hr;go_wp2_with fail;refine(HLT.out).mono ?_;rintro e w4 ⟨hb4,v4,rfl,hown4⟩;obtain⟨q1,q2,q3,rfl⟩:=Ci hown4;have HR4:=Hd hown4.rd;have HB4:=Hd (HB3.out.trans (hb4.mono HB3.out.size));clear hb4 hown4 k0 k1 k2 k3 k4 k5 k6 k7 k8 k9;go_wp2_with fail;have HRT0:=Hd (show Rd (w4.alloc (.cells #[.slice q1 q2 q3] 25)) (.slice q1 q2 q3) (bvs TX)from HR4.out.alloc _);have HSO:=Hd (Jc w4.heap.size (.slice q1 q2 q3) TX (w4.alloc (.cells #[.slice q1 q2 q3] 25)) (Al rfl) (by simp) HRT0.out HTB.out HTL.out);refine(HSO.out).mono ?_;rintro e w5 ⟨b5,rfl,-,-,hrd5,hb5⟩;have HRD5:=Hd hrd5;have HB5:=Hd ((HB4.out.alloc HB4.out.size _).trans (hb5.mono (by have:=HB4.out.size;simp;omega)));clear hrd5 hb5;go_wp2_with fail;go_ret;exact⟨_,rfl,by rw[HHS.out];exact HRD5.out,HB5.out⟩
  |succ j=>
   have hodd:x%2=1:=Hn HLV.out;have hk1:=hC.odd _ _ hF hodd;have hmod:eR (x:Int) 2=1:=(by rw[eT (by omega)];omega);have hmodE:(x:Int)%2=1:=(by omega);have hjp:=eQ j;have ek2:2^(j+1)=2*2^j:=(by rw[aN];omega);have hX:=HX.out;have hx131:x≤131070:=(by omega);obtain⟨kl,kr,lvl,lvr,kx⟩:=kids_lev hx131 HLV.out;obtain⟨cv1,cv2⟩:=hC.kids j x d hF HLV.out hx131;have LFT:=fun(W:World)=>Ir (x:Int) W;have RGT:=fun(W:World)=>Hh (x:Int) W;rw[kl]at LFT;rw[kr]at RGT;have I1:=fun(W:World) (hw:Below w.heap.size w W)=>IH j rfl (x-2^j) lv ow ob sb nb mb G G' W lvl (by omega) (HKD.out W hw).1 (HKD.out W hw).2.1 (HKD.out W hw).2.2.1 (HKD.out W hw).2.2.2;have I2:=fun(W:World) (hw:Below w.heap.size w W)=>IH j rfl (x+2^j) lv ow ob sb nb mb G G' W lvr (by omega) (HKD.out W hw).1 (HKD.out W hw).2.1 (HKD.out W hw).2.2.1 (HKD.out W hw).2.2.2;have L1:=Xe (k:=j) cv1;have L2:=Xe (k:=j) cv2;have TE:=Jq (F:=F) (H:=H) (k:=j) (x:=x) (d:=d);obtain⟨H1,hH1⟩:=eX (Ev F H j (x-2^j));obtain⟨H2,hH2⟩:=eX (Ev F H j (x+2^j));rw[←hH1]at I1 L1;rw[←hH2]at I2 L2;rw[←hH1,←hH2]at TE;have PTX:=fun(W:World) (hw:Below w3.heap.size w3 W) (vl vr:Value) (r1:Rd W vl (bvs H1)) (r2:Rd W vr (bvs H2))=>Ia d _ vl vr H1 H2 W ((hnc.below HB3.out lR).below hw lR) hok hsm r1 r2;have hpt:ptF d H1 H2=(Xd F H (j+1) x d,0):=by
    rw[ptF,if_neg (by rw[hr];simp[hk1]),if_neg (by omega),TE];simp
   unfold Tt at PTX;rw[hpt]at PTX;obtain⟨TX,hTX⟩:=eX (Xd F H (j+1) x d);rw[←hTX]at PTX HTL HTB HHS;obtain⟨xl,hxl⟩:=eX (x-2^j);obtain⟨xr,hxr⟩:=eX (x+2^j);rw[←hxl]at I1 LFT;rw[←hxr]at I2 RGT;have HI1:=Hd I1;have HI2:=Hd I2;have HLF:=Hd LFT;have HRT:=Hd RGT;have HPX:=Hd PTX;clear I1 I2 LFT RGT PTX hpt hTX TE L1 L2 hH1 hH2 kl kr lvl lvr kx cv1 cv2 hxl hxr hX hx131 hodd ek2 hjp hk1 hF hnc hok hsm hr k0 k1 k2 k3 k4 k5 k6 k7 k8 k9;go_wp2_with fail;refine Dc [eF (.agg #[c0,c1,c2,c3,c4,c5,c6,c7,c8,c9]),eF (.agg #[.int .i64 lv,.int .i64 ow,.map (some ob),.map (some sb)]),eF (.int .i64 (x:Nat)),eF (.int .i64 (xl:Nat)),fun u w'=>Rd w' u (bvs H1),eF (.agg #[.int .i64 lv,.int .i64 ow,.map (some ob),.map (some sb)]),eF (.int .i64 (x:Nat)),eF (.int .i64 (xr:Nat)),fun u w'=>Rd w' u (bvs H2),fun t w'=>∃u,t=.tuple #[u,.int .u8 0]∧Rd w' u (bvs TX),fun t w'=>∃u,t=.tuple #[u,.int .u8 0]∧Rd w' u (bvs TX),fun u w'=>Rd w' u (bvs TX),eF (.int .u8 0),fun u w'=>Rd w' u (bvs TX)] (by kernel_rfl) (by kernel_rfl) (by kernel_rfl)
    (kE (kE (kE (kE (bX (fun v x y h hb=>Rd.below h hb lR) (kE (kE (kE (bX (fun v x y h hb=>Rd.below h hb lR) (bX (fun v x y h hb=>let⟨u,e,k⟩:=h;⟨u,e,Rd.below k hb lR⟩) (bX (fun v x y h hb=>let⟨u,e,k⟩:=h;⟨u,e,Rd.below k hb lR⟩) (bX (fun v x y h hb=>Rd.below h hb lR) (kE (bX (fun v x y h hb=>Rd.below h hb lR) Ag)))))))))))))) ?_ ?_
   ·refine gB ?_ (gB ?_ (gQ ?_ (gB ?_ (gB ?_ (gB ?_ (gQ ?_ (gB ?_ (gB ?_ (gB ?_ (gB ?_ (gB ?_ (gB ?_ (gB ?_ .nil)))))))))))));all_goals
     intro a wx hbx ho hf;refine⟨rfl,?_⟩;intro K hK;try have Pf1:a.tmps[1]?.getD undef=.int .i64 (x:Nat):=ho 1 (by kernel_rfl)
     try have Pf2:a.tmps[2]?.getD undef=.pointer (some ⟨p,0,none⟩):=ho 2 (by kernel_rfl)
     try have Pf5:a.tmps[5]?.getD undef=.pointer (some ⟨p+1,0,none⟩):=ho 5 (by kernel_rfl)
     try have Ef0:=eqn hf.1
     try have Ef1:=eqn hf.2.1
     try have Ef2:=eqn hf.2.2.1
     try(refine Hd ?_;go_simp;exact hK _ rfl)
    ·exact wp_load_row 54 (.tmp 5) rfl _ (evs Pf5) _ _ (0,0) _ (HK3.out.below hbx HK3.out.lt) Tryz.underlying54 rfl (by kernel_rfl) (hK _ _ rfl bR)
    ·exact wp_load_row 108 (.tmp 2) rfl _ (evs Pf2) _ _ (0,0) _ (HR3.out.below hbx HR3.out.lt) Tryz.underlying108 rfl (by kernel_rfl) (hK _ _ rfl bR)
    ·go_simp;refine(HLF.out wx).mono ?_;rintro e w2 ⟨rfl,rfl⟩;exact hK _ _ rfl bR
    ·go_simp;refine(HI1.out wx (HB3.out.trans (hbx.mono HB3.out.size))).mono ?_;rintro e w2 ⟨u,rfl,hrd,hb2⟩;exact hK _ _ hrd hb2
    ·exact wp_load_row 108 (.tmp 2) rfl _ (evs Pf2) _ _ (0,0) _ (HR3.out.below hbx HR3.out.lt) Tryz.underlying108 rfl (by kernel_rfl) (hK _ _ rfl bR)
    ·go_simp;refine(HRT.out wx).mono ?_;rintro e w2 ⟨rfl,rfl⟩;exact hK _ _ rfl bR
    ·go_simp;refine(HI2.out wx (HB3.out.trans (hbx.mono HB3.out.size))).mono ?_;rintro e w2 ⟨u,rfl,hrd,hb2⟩;exact hK _ _ hrd hb2
    ·have o1:Rd wx (a.tmps[37]?.getD undef) (bvs H1):=hf.2.1;have o2:Rd wx (a.tmps[41]?.getD undef) (bvs H2):=hf.2.2.1;obtain⟨v1,hv1⟩:=eX (a.tmps[37]?.getD undef);obtain⟨v2,hv2⟩:=eX (a.tmps[41]?.getD undef);rw[←hv1]at o1;rw[←hv2]at o2;have e1:=hv1.symm;have e2:=hv2.symm;clear hv1 hv2;go_simp;refine(HPX.out wx hbx v1 v2 o1 o2).mono ?_;rintro e w2 ⟨hb2,u,rfl,hown⟩;exact hK _ _ ⟨_,rfl,hown.rd⟩ hb2
    ·have o0:∃u,a.tmps[42]?.getD undef=.tuple #[u,.int .u8 0]∧Rd wx u (bvs TX):=hf.1;obtain⟨u,e0,o1⟩:=o0;go_simp;exact hK _ _ ⟨_,rfl,o1⟩ bR
    ·have o0:∃u,a.tmps[32]?.getD undef=.tuple #[u,.int .u8 0]∧Rd wx u (bvs TX):=hf.1;obtain⟨u,e0,o1⟩:=o0;go_simp;exact hK _ _ o1 bR
    ·have o0:∃u,a.tmps[32]?.getD undef=.tuple #[u,.int .u8 0]∧Rd wx u (bvs TX):=hf.1;obtain⟨u,e0,o1⟩:=o0;go_simp;exact hK _ _ rfl bR
    ·have o0:Rd wx (a.tmps[43]?.getD undef) (bvs TX):=hf.1;obtain⟨v1,hv1⟩:=eX (a.tmps[43]?.getD undef);rw[←hv1]at o0;have e1:=hv1.symm;clear hv1;go_simp;exact hK _ _ o0 bR
   ·rintro f w4 hb4 hfin;have S7:Rd w4 (f 7) (bvs TX):=hfin.2.2.2.2.2.2.2.2.2.2.2.2.2.1;clear hfin;simp only[Am,Ax,Ew,cP,cQ,cR,cS,Nat.reduceBEq,Nat.reduceAdd,cT,cU,cond_true,cond_false];obtain⟨u,hu⟩:=eX (f 7);rw[←hu]at S7⊢;clear hu;obtain⟨q1,q2,q3,rfl⟩:∃a n c,u=.slice a n c:=(by obtain⟨a,c,e,-⟩:=S7;exact⟨_,_,_,e⟩);have HR4:=Hd S7;have HB4:=Hd (HB3.out.trans (hb4.mono HB3.out.size));clear S7 hb4;go_wp2_with fail;have HRT0:=Hd (show Rd (w4.alloc (.cells #[.slice q1 q2 q3] 25)) (.slice q1 q2 q3) (bvs TX)from HR4.out.alloc _);have HSO:=Hd (Jc w4.heap.size (.slice q1 q2 q3) TX (w4.alloc (.cells #[.slice q1 q2 q3] 25)) (Al rfl) (by simp) HRT0.out HTB.out HTL.out);refine(HSO.out).mono ?_;rintro e w5 ⟨b5,rfl,-,-,hrd5,hb5⟩;have HRD5:=Hd hrd5;have HB5:=Hd ((HB4.out.alloc HB4.out.size _).trans (hb5.mono (by have:=HB4.out.size;simp;omega)));clear hrd5 hb5;go_wp2_with fail;go_ret;exact⟨_,rfl,by rw[HHS.out];exact HRD5.out,HB5.out⟩
theorem Zc0 (F:Int→Option NodeD)(H:Int→Option (List Nat))(hP:PieceOk F H)(hC:PieceCov F H):∀k,Zcz F H k:=by
 intro k
 induction k with
 |zero=>exact Ov F H hP hC 0 fun j h=>by cases h
 |succ k ih=>exact Ov F H hP hC (k+1) fun j h=>by cases h;exact ih
end Go.Proofs.YtngealmhgkoaiaaGreat
namespace Go.Proofs.YtngealmhgkoaiaaGreat
open Go.RowKit WalkM WireM
theorem Zc1 {s:SparseD} {only:Bool}(h:Ai s only=true):PieceCov (Ae s.op) (Bi s.sh):=by
 unfold Ai at h;simp only[cA]at h;obtain⟨⟨⟨⟨hf,ho⟩,hop⟩,hsh⟩,⟨hk,hv1⟩,hv2⟩:=h;have hv1:=of_decide_eq_true hv1;have hv2:=of_decide_eq_true hv2;simp only[Mp]at hv1 hv2;generalize Ac (Ae s.op) (aX s.leaves.toNat) s.own.toNat only (aX s.leaves.toNat)=out at hv1 hv2;have m1:∀y:Int,y∈out↔(Ae s.op y).isSome=true:=fun y=>by
  rw[←Wv,hv1];exact((eV _ _).mem_iff).symm
 have m2:∀y:Int,y∈Dl out↔(Bi s.sh y).isSome=true:=fun y=>by
  rw[←Kl,hv2];exact((eV _ _).mem_iff).symm
 have key:∀(x y:Nat),(x:Int)∈out→((y:Int)∈Ie out (x:Int)∨(y:Int)∈out)→Zis (Ae s.op) (Bi s.sh) y:=by
  intro x y hx hy;rcases hy with hy|hy
  ·right
   have hs:(y:Int)∈Dl out:=List.mem_flatMap.2 ⟨_,hx,hy⟩;rw[m2]at hs;obtain⟨L,hL⟩:=Option.isSome_iff_exists.1 hs;have:=of_decide_eq_true (List.all_eq_true.1 hsh _ (Sn hL));unfold Jn;rw[hL];exact this
  ·left
   exact(m1 _).1 hy
 refine⟨fun x d hF he hk2=> ?_,fun x d hF he hk1=> ?_,fun k x d hF hl hx=> ?_⟩
 ·exact(Kt (List.all_eq_true.1 hop _ (Bk hF))).2.2.1 ⟨by show(x:Int)%2=0;omega,hk2⟩
 ·exact(Kt (List.all_eq_true.1 hop _ (Bk hF))).2.2.2.1 ⟨by show(x:Int)%2=1;omega,hk1⟩
 ·obtain⟨kl,kr,lvl,lvr,kx⟩:=kids_lev hx hl;have hxo:(x:Int)∈out:=(m1 _).2 (by rw[hF];rfl);refine⟨key x _ hxo ?_,key x _ hxo ?_⟩
  ·by_cases hm:((x-2^k:Nat):Int)∈out
   ·exact .inr hm
   ·left
    unfold Ie;rw[eL]
    left
    rw[kl,if_pos ⟨gZ _,hm⟩];exact List.mem_singleton.2 rfl
  ·by_cases hm:((x+2^k:Nat):Int)∈out
   ·exact .inr hm
   ·left
    unfold Ie;rw[eL]
    right
    rw[kr,if_pos ⟨gZ _,hm⟩];exact List.mem_singleton.2 rfl
open Go.Maps
section
def Ku (F:Int→Option NodeD):Nat→Nat→Option (List Int)
 |0,x=>match F (x:Int)with
  |none=>none
  |some d=>if d.kind=0 then some []else some (Ro d x)
 |k+1,x=>match F (x:Int)with
  |none=>none
  |some d=>if d.kind=0 then(Ku F k (x-2^k)).bind fun a=>(Ku F k (x+2^k)).map fun b=>a++b else some (Ro d x)
section
variable {F:Int→Option NodeD} {k x:Nat} {d:NodeD}
theorem Es (h:F (x:Int)=none):Ku F k x=none:=by cases k<;>simp only[Ku,h]
theorem Jr (h:F (x:Int)=some d)(hk:d.kind≠0):Ku F k x=some (Ro d x):=by cases k<;>simp only[Ku,h,if_neg hk]
theorem Mx (h:F (x:Int)=some d)(hk:d.kind=0):Ku F 0 x=some []:=by simp only[Ku,h,if_pos hk]
theorem My (h:F (x:Int)=some d)(hk:d.kind=0):Ku F (k+1) x=(Ku F k (x-2^k)).bind fun a=>(Ku F k (x+2^k)).map fun b=>a++b:=by simp only[Ku,h,if_pos hk]
end
def Zit (R:Option (List Int))(k:Nat)(w:World)(e:Ending)(w':World):Prop:=
 ∃u L,e=.returned (.tuple #[u,.bool R.isSome])∧Own w' w.heap.size 3 u (ivs .i64 L)∧(∀M,R=some M→L=M)∧L.length≤1001*2^k∧Below w.heap.size w w'
def Zij (F:Int→Option NodeD)(k:Nat):Prop:=
 ∀(x:Nat) (lv ow:Int) (ob sb nb:Nat) (G:Int→Option Value) (w:World),IsLev x k→x+2^k≤131071→MapF w ob nb G→NodesG w G F→
  Calls Tryz.prog 108 #[.agg #[.int .i64 lv,.int .i64 ow,.map (some ob),.map (some sb)],.int .i64 (x:Nat)] w (Zit (Ku F k x) k w)
theorem Mz (F:Int→Option NodeD)(k:Nat)(x:Int)(hxI:inI x)(lv ow:Int)(ob sb nb:Nat)(G:Int→Option Value)(w:World)(hm:MapF w ob nb G)(hg:NodesG w G F)(hF:F x=none):
  Calls Tryz.prog 108 #[.agg #[.int .i64 lv,.int .i64 ow,.map (some ob),.map (some sb)],.int .i64 x] w (Zit none k w):=by
 obtain⟨hv,hs⟩:=hg.val x;rw[(hg.none hF).2]at hv;rw[hF]at hs;have RG:=fun(W:World) (hw:Below w.heap.size w W)=>MapF.run_getOk (T:=105) (hm.below hw lR) Tryz.underlying105 (Co W) hxI;rw[hv,hs]at RG;obtain⟨p,hp⟩:=eX w.heap.size;have HP:=Hd hp;have RG1:=RG _ ((Below.refl w.heap.size w).alloc lR (.cells #[.int .i64 lv,.int .i64 ow,.map (some ob),.map (some sb)] 108));have HBR:=Hd (show Blk (w.alloc (.cells #[.int .i64 lv,.int .i64 ow,.map (some ob),.map (some sb)] 108)) w.heap.size 108 #[.int .i64 lv,.int .i64 ow,.map (some ob),.map (some sb)]from Blk.new _ _ _);have HB1:=Hd ((Below.refl w.heap.size w).alloc lR (.cells #[.int .i64 lv,.int .i64 ow,.map (some ob),.map (some sb)] 108));have p2:=(HBR.out).cell 2;simp only[bT,bU,bV]at p2;clear RG hp hv hs hm hg hF hxI;go_enter Tryz.func108,Tryz.ntmps108;go_wp2_with (refine Ab rfl 54 (.tmp 6) (.tmp 20) rfl (w.heap.size+1) Hz rfl rfl 54 #[.int .u8 0,.slice none 0 0,.slice none 0 0,.slice none 0 0,.int .u8 0,.slice none 0 0,.slice none 0 0,.slice none 0 0,.slice none 0 0,.slice none 0 0] (by have h1:=Blk.new (w.alloc (.cells #[.int .i64 lv,.int .i64 ow,.map (some ob),.map (some sb)] 108)) 54 #[.int .u8 0,.slice none 0 0,.slice none 0 0,.slice none 0 0,.int .u8 0,.slice none 0 0,.slice none 0 0,.slice none 0 0,.slice none 0 0,.slice none 0 0];simpa using h1) (by kernel_rfl) rfl (by rfl) ?_);rintro w3 hblk hbl hoth hsize;have HB3:=Hd ((HB1.out.alloc HB1.out.size (.cells #[.int .u8 0,.slice none 0 0,.slice none 0 0,.slice none 0 0,.int .u8 0,.slice none 0 0,.slice none 0 0,.slice none 0 0,.slice none 0 0,.slice none 0 0] 54)).trans (hbl w.heap.size (gE _)));have HR3:=Hd (show Blk w3 w.heap.size 108 #[.int .i64 lv,.int .i64 ow,.map (some ob),.map (some sb)]from(hoth w.heap.size (by omega)).trans (HBR.out.alloc _));rw[←HP.out]at HR3 hblk⊢;have HK3:=Hd hblk;clear hblk hbl hoth hsize RG1 p2 HB1 HBR;go_wp2_with fail;go_ret2;refine⟨_,[],rfl,Own.nil _ _ _,?_,aA _,HB3.out⟩;intro M h;cases h
theorem Sy (F:Int→Option NodeD)(H:Int→Option (List Nat))(hP:PieceOk F H)(k:Nat)(hk16:k≤16)(IH:∀j,k=j+1→Zij F j)(x:Nat)(lv ow:Int)(ob sb nb:Nat)(G:Int→Option Value)(w:World)(hl:IsLev x k)(hx:x+2^k≤131071)(hm:MapF w ob nb G)(hg:NodesG w G F)(d:NodeD)(hF:F (x:Int)=some d):
  Calls Tryz.prog 108 #[.agg #[.int .i64 lv,.int .i64 ow,.map (some ob),.map (some sb)],.int .i64 (x:Nat)] w (Zit (Ku F k x) k w):=by
 have hkx:=eQ k;have hxI:inI (x:Int):=(by unfold inI;omega);obtain⟨hv,hs⟩:=hg.val (x:Int);have hnc:=(hg.some hF).2;have hone:=hg.one (x:Int);rw[hF]at hs;obtain⟨hok,hsm,hr⟩:=hP.ok _ _ hF;have hkd0:=hok.kind;have hlb:=Dj (Bf hr);have hl60:d.par.late.length≤1000:=(by have:=of_decide_eq_true hsm;omega);have RG:=fun(W:World) (hw:Below w.heap.size w W)=>MapF.run_getOk (T:=105) (hm.below hw lR) Tryz.underlying105 (Co W) hxI;rw[hv,hs]at RG;have RF:=fun(h:d.kind≠0)=>Jr (k:=k) hF h;have KD:=fun(W:World) (hw:Below w.heap.size w W)=>(show MapF W ob nb G∧NodesG W G F from⟨hm.below hw lR,hg.below hw lR⟩);have HKD:=Hd KD;obtain⟨cs,hcs⟩:=eX (Ea G (x:Int));rw[←hcs]at hnc hone RG hv;obtain⟨kd,s,l1,l2,l3,l4,l5,l6,l7,l8,c1,c2,c3,c4,c5,e1,e2,e3,a1,a2,a3,a4,a5,b1,b2,b3,rfl,hkd,hl8,hlate⟩:=hnc.flat;have HONE:=Hd hone;have HF:=Hd hF;have HKE:=Hd hkd;have HX:=Hd hx;have HLV:=Hd hl;obtain⟨L,hL⟩:=eX d.par.late;rw[←hL]at hlb hl8 hlate hl60;have AT:=fun(W:World) (hw:Below w.heap.size w W) (r:Nat) (hr:r<l8)=>(hlate.below hw lR).at3 (u:=.int .i64 (L.getD r 0)) (r:=r) (by rw[hl8]at hr;simp[ivs,aH,hr]);have BD:=fun(r:Nat) (hr:r<l8)=>(show 0≤L.getD r 0∧L.getD r 0<65536 from hlb _ (by rw[hl8]at hr;rw[aH,List.getElem?_eq_getElem hr];exact List.getElem_mem hr));have STEP:=fun(r:Nat) (hr:r<l8)=>Od x L (r:=r) (by omega);have FIN:ivs .i64 ((x:Int)::(L.take l8).map fun u=>2*u)=ivs .i64 (Ro d x):=(by rw[hl8,List.take_length,hL];rfl);obtain⟨GG,hG⟩:∃G:Nat→List Value,G=fun r=>ivs .i64 ((x:Int)::(L.take r).map fun u=>2*u):=⟨_,rfl⟩;have hG':∀r,ivs .i64 ((x:Int)::(L.take r).map fun u=>2*u)=GG r:=fun r=>(by rw[hG]);have G0:GG 0=[.int .i64 (x:Int)]:=(by rw[hG];simp[ivs]);have GL:∀r,r≤l8→(GG r).length≤1001:=fun r hr=>(by rw[hG];simp[ivs];omega);simp only[hG']at STEP FIN;obtain⟨U,hU⟩:∃U:Nat→Int,U=fun r=>L.getD r 0:=⟨_,rfl⟩;have hU':∀r,L.getD r 0=U r:=fun r=>(by rw[hU]);simp only[hU']at AT BD STEP;rw[←hl8]at hl60;have HAT:=Hd AT;have HBD:=Hd BD;have HSTEP:=Hd STEP;have HG0:=Hd G0;have HGL:=Hd GL;have HFIN:=Hd FIN;have HRF:=Hd RF;have HFL:=Hd (Mf hsm x);have HKX:=Hd hkx;obtain⟨p,hp⟩:=eX w.heap.size;have HP:=Hd hp;have RG1:=RG _ ((Below.refl w.heap.size w).alloc lR (.cells #[.int .i64 lv,.int .i64 ow,.map (some ob),.map (some sb)] 108));have HBR:=Hd (show Blk (w.alloc (.cells #[.int .i64 lv,.int .i64 ow,.map (some ob),.map (some sb)] 108)) w.heap.size 108 #[.int .i64 lv,.int .i64 ow,.map (some ob),.map (some sb)]from Blk.new _ _ _);have HB1:=Hd ((Below.refl w.heap.size w).alloc lR (.cells #[.int .i64 lv,.int .i64 ow,.map (some ob),.map (some sb)] 108));have p2:=(HBR.out).cell 2;simp only[bT,bU,bV]at p2;clear RG hp RF KD hv hs hm hg hF hxI hnc hone hok hsm hr hkd hlb hl8 hlate hL AT BD STEP FIN hG hG' G0 GL hU hU' hx hl hcs hkx;go_enter Tryz.func108,Tryz.ntmps108;go_wp2_with (refine Ab rfl 54 (.tmp 6) (.tmp 20) rfl (w.heap.size+1) #[.int .u8 (kd:Nat),.slice a1 l1 c1,.slice a2 l2 c2,.slice a3 l3 c3,.int .u8 (s:Nat),.slice a4 l4 c4,.slice a5 l5 c5,.slice b1 l6 e1,.slice b2 l7 e2,.slice b3 l8 e3] rfl rfl 54 #[.int .u8 0,.slice none 0 0,.slice none 0 0,.slice none 0 0,.int .u8 0,.slice none 0 0,.slice none 0 0,.slice none 0 0,.slice none 0 0,.slice none 0 0] (by have h1:=Blk.new (w.alloc (.cells #[.int .i64 lv,.int .i64 ow,.map (some ob),.map (some sb)] 108)) 54 #[.int .u8 0,.slice none 0 0,.slice none 0 0,.slice none 0 0,.int .u8 0,.slice none 0 0,.slice none 0 0,.slice none 0 0,.slice none 0 0,.slice none 0 0];simpa using h1) (by kernel_rfl) rfl HONE.out ?_);rintro w3 hblk hbl hoth hsize;have HB3:=Hd ((HB1.out.alloc HB1.out.size (.cells #[.int .u8 0,.slice none 0 0,.slice none 0 0,.slice none 0 0,.int .u8 0,.slice none 0 0,.slice none 0 0,.slice none 0 0,.slice none 0 0,.slice none 0 0] 54)).trans (hbl w.heap.size (gE _)));have HR3:=Hd (show Blk w3 w.heap.size 108 #[.int .i64 lv,.int .i64 ow,.map (some ob),.map (some sb)]from(hoth w.heap.size (by omega)).trans (HBR.out.alloc _));rw[←HP.out]at HR3 hblk⊢;have HK3:=Hd hblk;clear hblk hbl hoth hsize RG1 p2 HB1 HBR;have k0:=HK3.out.cell 0;have k9:=HK3.out.cell 9;simp only[bT,bU,bV]at k0 k9
 by_cases hk:kd=0
 ·have hk1:((kd:Int)==0)=true:=(by rw[beq_iff_eq];omega);have hk0:d.kind=0:=(by rw[←HKE.out];exact hk);cases k with
  |zero=>
   have heven:x%2=0:=Fe HLV.out;have hmod:eR (x:Int) 2=0:=(by rw[eT (by omega)];omega);have hmodE:(x:Int)%2=0:=(by omega);have HRZ:=Hd (Mx HF.out hk0);clear heven hk hk0;go_wp2_with fail;go_ret2;rw[HRZ.out];exact⟨_,[],rfl,Own.nil _ _ _,fun M h=>Option.some.inj h,aA _,HB3.out⟩
  |succ j=>
   have hodd:x%2=1:=Hn HLV.out;have hmod:eR (x:Int) 2=1:=(by rw[eT (by omega)];omega);have hmodE:(x:Int)%2=1:=(by omega);have hjp:=eQ j;have ek2:2^(j+1)=2*2^j:=(by rw[aN];omega);have hj16:2^j≤65536:=dP (aY (by omega) (show j≤16 by omega)) (by decide);have hX:=HX.out;have hx131:x≤131070:=(by omega);obtain⟨kl,kr,lvl,lvr,kx⟩:=kids_lev hx131 HLV.out;have LFT:=fun(W:World)=>Ir (x:Int) W;have RGT:=fun(W:World)=>Hh (x:Int) W;rw[kl]at LFT;rw[kr]at RGT;have RS:=My (k:=j) HF.out hk0;have I1:=fun(W:World) (hw:Below w.heap.size w W)=>IH j rfl (x-2^j) lv ow ob sb nb G W lvl (by omega) (HKD.out W hw).1 (HKD.out W hw).2;have I2:=fun(W:World) (hw:Below w.heap.size w W)=>IH j rfl (x+2^j) lv ow ob sb nb G W lvr (by omega) (HKD.out W hw).1 (HKD.out W hw).2;obtain⟨R1,hR1⟩:=eX (Ku F j (x-2^j));obtain⟨R2,hR2⟩:=eX (Ku F j (x+2^j));rw[←hR1]at I1;rw[←hR2]at I2;rw[←hR1,←hR2]at RS;have HRS:=Hd RS;obtain⟨xl,hxl⟩:=eX (x-2^j);obtain⟨xr,hxr⟩:=eX (x+2^j);rw[←hxl]at I1 LFT;rw[←hxr]at I2 RGT;have HI1:=Hd I1;have HI2:=Hd I2;have HLF:=Hd LFT;have HRT:=Hd RGT;have HJ:=Hd hj16;have HEK:=Hd ek2;clear I1 I2 LFT RGT RS kl kr lvl lvr kx hR1 hR2 hxl hxr hX hx131 hodd ek2 hjp hj16 hk hk0 k9;go_wp2_with fail;clear k0;refine Dc [eF (.agg #[.int .i64 lv,.int .i64 ow,.map (some ob),.map (some sb)]),eF (.int .i64 (x:Nat)),eF (.int .i64 (xl:Nat)),fun t w'=>∃u L,t=.tuple #[u,.bool R1.isSome]∧Own w' w3.heap.size 3 u (ivs .i64 L)∧(∀M,R1=some M→L=M)∧L.length≤1001*2^j,fun t w'=>∃u L,t=.tuple #[u,.bool R1.isSome]∧Own w' w3.heap.size 3 u (ivs .i64 L)∧(∀M,R1=some M→L=M)∧L.length≤1001*2^j,fun u w'=>∃L,Own w' w3.heap.size 3 u (ivs .i64 L)∧(∀M,R1=some M→L=M)∧L.length≤1001*2^j,eF (.bool R1.isSome),fun u w'=>∃L,Own w' w3.heap.size 3 u (ivs .i64 L)∧(∀M,R1=some M→L=M)∧L.length≤1001*2^j,eF (.bool R1.isSome)] (by kernel_rfl) (by kernel_rfl) (by kernel_rfl)
    (kE (kE (kE (bX (fun v x y h hb=>let⟨u,L,e,k,m⟩:=h;⟨u,L,e,Own.below k hb lR,m⟩) (bX (fun v x y h hb=>let⟨u,L,e,k,m⟩:=h;⟨u,L,e,Own.below k hb lR,m⟩) (bX (fun v x y h hb=>let⟨L,k,m⟩:=h;⟨L,Own.below k hb lR,m⟩) (kE (bX (fun v x y h hb=>let⟨L,k,m⟩:=h;⟨L,Own.below k hb lR,m⟩) (kE Ag))))))))) ?_ ?_
   ·refine gB ?_ (gQ ?_ (gB ?_ (gB ?_ (gB ?_ (gB ?_ (gB ?_ (gB ?_ (gQ ?_ .nil))))))));all_goals
     intro a wx hbx ha hf;refine⟨rfl,?_⟩;intro K hK;try have Pf1:a.tmps[1]?.getD undef=.int .i64 (x:Nat):=ha 1 (by kernel_rfl)
     try have Pf2:a.tmps[2]?.getD undef=.pointer (some ⟨p,0,none⟩):=ha 2 (by kernel_rfl)
     try have Ef0:=eqn hf.1
     try have Ef1:=eqn hf.2.1
     try(refine Hd ?_;go_simp;exact hK _ rfl)
    ·exact wp_load_row 108 (.tmp 2) rfl _ (evs Pf2) _ _ (0,0) _ (HR3.out.below hbx HR3.out.lt) Tryz.underlying108 rfl (by kernel_rfl) (hK _ _ rfl bR)
    ·go_simp;refine(HLF.out wx).mono ?_;rintro e w2 ⟨rfl,rfl⟩;exact hK _ _ rfl bR
    ·go_simp;refine(HI1.out wx (HB3.out.trans (hbx.mono HB3.out.size))).mono ?_;rintro e w2 ⟨u,L,rfl,ho,hM,hll,hb2⟩;exact hK _ _ ⟨u,L,rfl,ho.mono hbx.size,hM,hll⟩ hb2
    ·obtain⟨u,L,e0,o1,hM⟩:∃u L,a.tmps[42]?.getD undef=.tuple #[u,.bool R1.isSome]∧Own wx w3.heap.size 3 u (ivs .i64 L)∧(∀M,R1=some M→L=M)∧L.length≤1001*2^j:=hf.1;go_simp;exact hK _ _ ⟨u,L,rfl,o1,hM⟩ bR
    ·obtain⟨u,L,e0,o1,hM⟩:∃u L,a.tmps[38]?.getD undef=.tuple #[u,.bool R1.isSome]∧Own wx w3.heap.size 3 u (ivs .i64 L)∧(∀M,R1=some M→L=M)∧L.length≤1001*2^j:=hf.1;go_simp;exact hK _ _ ⟨L,o1,hM⟩ bR
    ·obtain⟨u,L,e0,o1,hM⟩:∃u L,a.tmps[38]?.getD undef=.tuple #[u,.bool R1.isSome]∧Own wx w3.heap.size 3 u (ivs .i64 L)∧(∀M,R1=some M→L=M)∧L.length≤1001*2^j:=hf.1;go_simp;exact hK _ _ rfl bR
    ·obtain⟨L,o1,hM⟩:∃L,Own wx w3.heap.size 3 (a.tmps[43]?.getD undef) (ivs .i64 L)∧(∀M,R1=some M→L=M)∧L.length≤1001*2^j:=hf.1;obtain⟨v1,hv1⟩:=eX (a.tmps[43]?.getD undef);rw[←hv1]at o1;have e1:=hv1.symm;clear hv1;go_simp;exact hK _ _ ⟨L,o1,hM⟩ bR
   ·rintro f w4 hb hfin;obtain⟨M1,o1,hM1⟩:∃L,Own w4 w3.heap.size 3 (f 8) (ivs .i64 L)∧(∀M,R1=some M→L=M)∧L.length≤1001*2^j:=hfin.2.2.2.2.2.2.2.1;have Sb:f 9=.bool R1.isSome:=hfin.2.2.2.2.2.2.2.2.1;clear hfin;simp only[Am,Ax,Ew,cP,cQ,cR,cS,Nat.reduceBEq,Nat.reduceAdd,cT,cU,cond_true,cond_false];rw[Sb];clear Sb;obtain⟨u1,hu⟩:=eX (f 8);rw[←hu]at o1⊢;have HU1:=Hd o1;have HM1:=Hd hM1;have HB4:=Hd (HB3.out.trans (hb.mono HB3.out.size));have HR4:=Hd (HR3.out.below hb HR3.out.lt);clear hb o1 hM1 hu;go_wp2_with fail;refine Dc [eF (.agg #[.int .i64 lv,.int .i64 ow,.map (some ob),.map (some sb)]),eF (.int .i64 (x:Nat)),eF (.int .i64 (xr:Nat)),fun t w'=>∃u L,t=.tuple #[u,.bool R2.isSome]∧Own w' w4.heap.size 3 u (ivs .i64 L)∧(∀M,R2=some M→L=M)∧L.length≤1001*2^j,fun t w'=>∃u L,t=.tuple #[u,.bool R2.isSome]∧Own w' w4.heap.size 3 u (ivs .i64 L)∧(∀M,R2=some M→L=M)∧L.length≤1001*2^j,fun u w'=>∃L,Own w' w4.heap.size 3 u (ivs .i64 L)∧(∀M,R2=some M→L=M)∧L.length≤1001*2^j,eF (.bool R2.isSome),fun u w'=>∃L,Own w' w4.heap.size 3 u (ivs .i64 L)∧(∀M,R2=some M→L=M)∧L.length≤1001*2^j,eF (.bool R2.isSome)] (by kernel_rfl) (by kernel_rfl) (by kernel_rfl)
     (kE (kE (kE (bX (fun v x y h hb=>let⟨u,L,e,k,m⟩:=h;⟨u,L,e,Own.below k hb lR,m⟩) (bX (fun v x y h hb=>let⟨u,L,e,k,m⟩:=h;⟨u,L,e,Own.below k hb lR,m⟩) (bX (fun v x y h hb=>let⟨L,k,m⟩:=h;⟨L,Own.below k hb lR,m⟩) (kE (bX (fun v x y h hb=>let⟨L,k,m⟩:=h;⟨L,Own.below k hb lR,m⟩) (kE Ag))))))))) ?_ ?_
    ·refine gB ?_ (gQ ?_ (gB ?_ (gB ?_ (gB ?_ (gB ?_ (gB ?_ (gB ?_ (gQ ?_ .nil))))))));all_goals
      intro a wx hbx ha hf;refine⟨rfl,?_⟩;intro K hK;try have Pf1:a.tmps[1]?.getD undef=.int .i64 (x:Nat):=ha 1 (by kernel_rfl)
      try have Pf2:a.tmps[2]?.getD undef=.pointer (some ⟨p,0,none⟩):=ha 2 (by kernel_rfl)
      try have Ef0:=eqn hf.1
      try have Ef1:=eqn hf.2.1
      try(refine Hd ?_;go_simp;exact hK _ rfl)
     ·exact wp_load_row 108 (.tmp 2) rfl _ (evs Pf2) _ _ (0,0) _ (HR4.out.below hbx HR4.out.lt) Tryz.underlying108 rfl (by kernel_rfl) (hK _ _ rfl bR)
     ·go_simp;refine(HRT.out wx).mono ?_;rintro e w2 ⟨rfl,rfl⟩;exact hK _ _ rfl bR
     ·go_simp;refine(HI2.out wx (HB4.out.trans (hbx.mono HB4.out.size))).mono ?_;rintro e w2 ⟨u,L,rfl,ho,hM,hll,hb2⟩;exact hK _ _ ⟨u,L,rfl,ho.mono hbx.size,hM,hll⟩ hb2
     ·obtain⟨u,L,e0,o1,hM⟩:∃u L,a.tmps[49]?.getD undef=.tuple #[u,.bool R2.isSome]∧Own wx w4.heap.size 3 u (ivs .i64 L)∧(∀M,R2=some M→L=M)∧L.length≤1001*2^j:=hf.1;go_simp;exact hK _ _ ⟨u,L,rfl,o1,hM⟩ bR
     ·obtain⟨u,L,e0,o1,hM⟩:∃u L,a.tmps[45]?.getD undef=.tuple #[u,.bool R2.isSome]∧Own wx w4.heap.size 3 u (ivs .i64 L)∧(∀M,R2=some M→L=M)∧L.length≤1001*2^j:=hf.1;go_simp;exact hK _ _ ⟨L,o1,hM⟩ bR
     ·obtain⟨u,L,e0,o1,hM⟩:∃u L,a.tmps[45]?.getD undef=.tuple #[u,.bool R2.isSome]∧Own wx w4.heap.size 3 u (ivs .i64 L)∧(∀M,R2=some M→L=M)∧L.length≤1001*2^j:=hf.1;go_simp;exact hK _ _ rfl bR
     ·obtain⟨L,o1,hM⟩:∃L,Own wx w4.heap.size 3 (a.tmps[50]?.getD undef) (ivs .i64 L)∧(∀M,R2=some M→L=M)∧L.length≤1001*2^j:=hf.1;obtain⟨v1,hv1⟩:=eX (a.tmps[50]?.getD undef);rw[←hv1]at o1;have e1:=hv1.symm;clear hv1;go_simp;exact hK _ _ ⟨L,o1,hM⟩ bR
    ·rintro f w5 hb hfin;obtain⟨M2,o1,hM1⟩:∃L,Own w5 w4.heap.size 3 (f 10) (ivs .i64 L)∧(∀M,R2=some M→L=M)∧L.length≤1001*2^j:=hfin.2.2.2.2.2.2.2.1;have Sb:f 11=.bool R2.isSome:=hfin.2.2.2.2.2.2.2.2.1;clear hfin;simp only[Am,Ax,Ew,cP,cQ,cR,cS,Nat.reduceBEq,Nat.reduceAdd,cT,cU,cond_true,cond_false];rw[Sb];clear Sb;obtain⟨u2,hu⟩:=eX (f 10);rw[←hu]at o1⊢;have HU2:=Hd o1;have HM2:=Hd hM1;have HB5:=Hd (HB4.out.trans (hb.mono HB4.out.size));have HR5:=Hd (HR4.out.below hb HR4.out.lt);have HU1b:=Hd (HU1.out.below hb lR);clear hb o1 hM1 hu;obtain⟨q1,q2,q3,rfl⟩:=Ci HU1b.out;have HU1c:=Hd (HU1b.out.mono HB3.out.size);go_wp2_with (at_builtin;refine Ah rfl (.tmp 52) (.tmp 53) 50 rfl w.heap.size 3 _ 8 Bs _ _ rfl HU1c.out _ (ivs .i64 M2) rfl HU2.out.rd (Lf _) ?c4 ?c5 ?_);case c4=>have:=HM1.out.2;have:=HM2.out.2;have:=HJ.out;simp only[Zbb];omega
     case c5=>exact HB5.out.size
     rintro v6 w6 hown6-hb6;have HO6:=Hd hown6;have HB6:=Hd (HB5.out.trans hb6);clear hown6 hb6;obtain⟨B2,hB2⟩:=eX R2.isSome;obtain⟨B1,hB1⟩:=eX R1.isSome;rw[←hB1,←hB2];have HB1E:=Hd hB1;have HB2E:=Hd hB2;clear hB1 hB2;have fin:∀b,b=(B1&&B2)→Zit (R1.bind fun a=>R2.map fun b=>a++b) (j+1) w (.returned (.tuple #[v6,.bool b])) w6:=by
      rintro b rfl;refine⟨v6,M1++M2,?_,by rw[Zbd];exact HO6.out,?_,?_,HB6.out⟩
      ·rw[HB1E.out,HB2E.out];cases R1<;>cases R2<;>rfl
      ·intro M h;cases R1 with
       |none=>cases h
       |some a=>
        cases R2 with
        |none=>cases h
        |some b=>
         rw[HM1.out.1 a rfl,HM2.out.1 b rfl];exact Option.some.inj h
      ·have:=HM1.out.2;have:=HM2.out.2;have:=HEK.out;rw[aG];omega
     have HFI:=Hd fin;clear fin;cases B1 with
     |false=>
      go_wp2_with fail;go_ret2;rw[HRS.out];exact HFI.out _ rfl
     |true=>
      go_wp2_with fail;go_ret2;rw[HRS.out];exact HFI.out _ (Bool.true_and _).symm
 ·have hk1:((kd:Int)==0)=false:=(by rw[beq_eq_false_iff_ne];omega);have hk2:(kd:Int)≠0:=(by omega);have HRF2:=Hd (HRF.out (by rw[←HKE.out];exact hk));have hwq:p+1<w3.heap.size:=HK3.out.lt;clear hk;go_wp2_with fail;have HO0:=Hd (show Own (w3.alloc (.cells #[.int .i64 (x:Int)] 3)) w.heap.size 3 (.slice (some ⟨w3.heap.size,0,none⟩) 1 1) (GG 0) by
   rw[HG0.out];exact Own.full (B:=w.heap.size) (cs:=#[.int .i64 (x:Int)]) rfl HB3.out.size (by unfold maxLen;simp) rfl)
  have HB0:=Hd (HB3.out.alloc HB3.out.size (.cells #[.int .i64 (x:Int)] 3));generalize hw2:w3.alloc (.cells #[.int .i64 (x:Int)] 3)=w2 at HO0 HB0⊢;clear hw2 k0 k9
  go_loopg [12,65] l8 (fun q ov iv wr=>∃r:Nat,r+q=l8∧iv=.int .i64 (r:Nat)∧Own wr w.heap.size 3 ov (GG r)∧Below w.heap.size w wr)
  case atStart=>exact⟨0,by omega,rfl,HO0.out,HB0.out⟩
  case round=>
   obtain⟨r,hr,rfl,hown,hb⟩:=hrel;have HR:=Hd hr;have HO:=Hd hown;have HB:=Hd hb
   by_cases hlt:r<l8
   ·have hlt':decide (r<l8)=true:=decide_eq_true hlt;have hltI:(r:Int)<(l8:Int):=(by omega);obtain⟨bl,ol,rfl,hbl2,cu⟩:=HAT.out wr hb r hlt;obtain⟨hu0,hu1⟩:=HBD.out r hlt;have HS:=Hd (HSTEP.out r hlt);have HGR:=Hd (HGL.out r (by omega));obtain⟨u,hu⟩:=eX (U r);rw[←hu]at cu hu0 hu1 HS;have hw:wrap64 (2*u)=2*u:=(by unfold wrap64;omega);obtain⟨p1,p2,p3,rfl⟩:=Ci hown;clear hr hown hb hu;go_wp2_with (at_builtin;refine Ak rfl (.tmp 69) (.tmp 72) 50 rfl w.heap.size 3 _ 8 Bs _ _ rfl (HO.out.alloc _) ⟨wr.heap.size,0,none⟩ (.int .i64 (2*u)) rfl ?c1 rfl ?c2 ?c3 ?_);case c1=>exact Al rfl
    case c2=>have:=HGR.out;omega
    case c3=>have:=HB.out.size;simp;omega
    rintro v' w1 hown1-hb1;have HO1:=Hd hown1;have HB1:=Hd ((HB.out.alloc HB.out.size (.cells #[.int .i64 (2*u)] 3)).trans hb1);clear hown1 hb1;go_wp2_with fail;go_roundg (gk-1);case measure=>have:=HR.out;omega
    case rel=>exact⟨r+1,by have:=HR.out;omega,by go_num,by rw[HS.out];exact HO1.out,HB1.out⟩
   ·obtain rfl:r=l8:=(by omega);have hlt':decide (r<r)=false:=decide_eq_false hlt;clear hr hown hb hlt;go_wp2_with fail;go_ret2;rw[HRF2.out];refine⟨_,Ro d x,rfl,by rw[←HFIN.out];exact HO.out,fun M h=>Option.some.inj h,?_,HB.out⟩;have:=HFL.out;have:=HKX.out;omega
theorem Zfj (F:Int→Option NodeD)(H:Int→Option (List Nat))(hP:PieceOk F H):∀k,k≤16→Zij F k:=by
 intro k
 induction k with
 |zero=>
  intro _ x lv ow ob sb nb G w hl hx hm hg;cases hF:F (x:Int)with
  |none=>rw[Es hF];exact Mz F 0 x (by have:=eQ 0;unfold inI;omega) lv ow ob sb nb G w hm hg hF
  |some d=>exact Sy F H hP 0 (by omega) (fun j e=>by cases e) x lv ow ob sb nb G w hl hx hm hg d hF
 |succ k ih=>
  intro hk x lv ow ob sb nb G w hl hx hm hg;cases hF:F (x:Int)with
  |none=>rw[Es hF];exact Mz F (k+1) x (by have:=eQ (k+1);unfold inI;omega) lv ow ob sb nb G w hm hg hF
  |some d=>exact Sy F H hP (k+1) hk (fun j e=>by cases e;exact ih (by omega)) x lv ow ob sb nb G w hl hx hm hg d hF
end
theorem Qk {x:Nat}(h:x≤131070):x+2^lev x≤131071:=by
 have hx:=lev_is h;have hl:=lev_le h;generalize lev x=l at hx hl;unfold IsLev at hx;have e:2^17=2^(l+1)*2^(16-l):=(by rw[←Nat.pow_add];congr 1;omega);have hdm:=Nat.div_add_mod x (2^(l+1));have e17:(2:Nat)^17=131072:=rfl;have hq:x/2^(l+1)<2^(16-l):=Nat.div_lt_of_lt_mul (by rw[←e];omega);have hm:2^(l+1)*(x/2^(l+1)+1)≤2^(l+1)*2^(16-l):=Nat.mul_le_mul_left _ hq;rw[←e,Nat.mul_add,Nat.mul_one]at hm;have e2:2^(l+1)=2*2^l:=(by rw[aN];omega);have hp:=eQ l;omega
def Gn (s:SparseD)(x:Int):Option (List Int):=if 0≤x then Ku (Ae s.op) (lev x.toNat) x.toNat else none
theorem Hx {s:SparseD} {only:Bool}(h:Ai s only=true) {x:Int} {d:NodeD}(hF:Ae s.op x=some d):∃n:Nat,x=(n:Int)∧n≤131070:=by
 unfold Ai at h;simp only[cA]at h;obtain⟨⟨⟨⟨hf,ho⟩,hop⟩,hsh⟩,-⟩:=h;obtain⟨h1,h2⟩:=(Kt (List.all_eq_true.1 hop _ (Bk hF))).1;have h1:0≤x:=h1;have h2:x≤2*s.leaves-2:=h2;obtain⟨d,hd,e⟩:=(fits_iff _).1 hf;have hnd:2^d≤65536:=dP (aY (by omega) hd) (by decide);exact⟨x.toNat,by omega,by omega⟩
theorem Zfk {s:SparseD} {only:Bool}(hr:Ai s only=true)(hok:SparseOk s)(hs:By s=true)(x:Int)(hx:inI x)(lv ow:Int)(ob sb:Nat)(G:Int→Option Value)(w:World)(hm:MapF w ob s.op.length G)(hg:NodesG w G (Ae s.op)):
  Calls Tryz.prog 108 #[.agg #[.int .i64 lv,.int .i64 ow,.map (some ob),.map (some sb)],.int .i64 x] w fun e w'=>∃u L,e=.returned (.tuple #[u,.bool (Gn s x).isSome])∧Own w' w.heap.size 3 u (ivs .i64 L)∧(∀M,Gn s x=some M→L=M)∧Below w.heap.size w w':=by
 cases hF:Ae s.op x with
 |none=>
  have e:Gn s x=none:=by
   unfold Gn
   split
   ·rename_i h0
    have hx0:((x.toNat:Nat):Int)=x:=(by omega);exact Es (by rw[hx0];exact hF)
   ·rfl
  rw[e];refine(Mz (Ae s.op) 0 x hx lv ow ob sb _ G w hm hg hF).mono ?_;rintro e w' ⟨u,L,h1,h2,h3,-,h5⟩;exact⟨u,L,h1,h2,h3,h5⟩
 |some d=>
  obtain⟨n,rfl,hn⟩:=Hx hr hF;have e:Gn s (n:Int)=Ku (Ae s.op) (lev n) n:=by
   unfold Gn;rw[if_pos (by omega),cY]
  rw[e];refine(Zfj _ _ (Er hr hok hs).1 (lev n) (lev_le hn) n lv ow ob sb _ G w (lev_is hn) (Qk hn) hm hg).mono ?_;rintro e w' ⟨u,L,h1,h2,h3,-,h5⟩;exact⟨u,L,h1,h2,h3,h5⟩
theorem Ql (v:Value)(s:SparseD)(x:Int)(hx:inI x)(w:World)(h:SparseR w v s)(hok:SparseOk s)(hs:By s=true):
  Calls Tryz.prog 41 #[v,.int .i64 x] w fun e w'=>(∃u,e=.returned (.tuple #[u,.bool (bif Ai s false then(Gn s x).isSome else false)])∧Own w' w.heap.size 3 u (ivs .i64 (bif Ai s false then(Gn s x).getD []else [])))∧Below w.heap.size w w':=by
 have RO:=fun(W:World) (hw:Below w.heap.size w W)=>Gh v s W (h.below hw lR) hok hs;have PB:=fun(hr:Ai s false=true) (ob sb:Nat) (G:Int→Option Value) (W:World) (hm:MapF W ob s.op.length G) (hg:NodesG W G (Ae s.op))=>Zfk hr hok hs x hx s.leaves s.own ob sb G W hm hg;obtain⟨o,g,rfl,-,-⟩:=h;have hoe:=Wz s;obtain⟨PB0,hPB⟩:=eX (Cj s);have hpo:Cj s=false→Ai s false=false:=fun e=>(by rw[←hoe,okS,e];rfl);obtain⟨OK,hOK⟩:=eX (Ai s false);rw[←hPB,←hOK]at hpo;rw[←hOK]at PB hoe⊢;have HPB:=Hd hPB;have HPO:=Hd hpo;have HOE:=Hd hoe;have HRO:Hid (∀W,Below w.heap.size w W→Calls Tryz.prog 92 #[.agg #[.int .i64 s.leaves,.int .i64 s.own,o,g]] W (Jo s W)):=RO;obtain⟨lv,hlv⟩:=eX s.leaves;obtain⟨ow,how⟩:=eX s.own;have HLV:=Hd hlv;have HOW:=Hd how;obtain⟨R,hR⟩:=eX (Gn s x);rw[←hlv,←how]at HRO PB;rw[←hR]at PB;rw[←hlv,←how,←hR];have HPBY:=Hd PB;have HBA:=Hd ((Below.refl w.heap.size w).alloc lR (.cells #[.int .i64 lv,.int .i64 ow,o,g] 37));clear RO PB hok hs hPB hOK hlv how hR hpo hoe hx;go_enter Tryz.func41,Tryz.ntmps41;go_wp2_with fail;refine(HRO.out _ HBA.out).mono ?_;rintro e w3 ⟨hb3,hp3⟩;have HB3:=Hd (HBA.out.trans (hb3.mono HBA.out.size));rw[←HPB.out,←HLV.out,←HOW.out,HOE.out]at hp3;cases PB0 with
 |false=>
  rw[if_neg (by simp)]at hp3;obtain rfl:=HPO.out rfl;obtain rfl:=hp3;go_wp2_with fail;go_ret2;exact⟨⟨_,rfl,Own.nil _ _ _⟩,HB3.out.alloc HB3.out.size _⟩
 |true=>
  rw[if_pos rfl]at hp3;obtain⟨ob,sb,rfl,hob,hsb,-,G,G',hm,hg,hm2,hg2⟩:=hp3;cases OK with
  |false=>
   go_wp2_with fail;go_ret2;exact⟨⟨_,rfl,Own.nil _ _ _⟩,HB3.out.alloc HB3.out.size _⟩
  |true=>
   have hba:=(Below.refl w3.heap.size w3).alloc lR (.cells #[.int .i64 lv,.int .i64 ow,.map (some ob),.map (some sb)] 108);have HM:=Hd (hm.below hba lR);have HG:=Hd ((hg.below hb3 lR).below hba lR);have HB4:=Hd (HB3.out.trans (hba.mono HB3.out.size));have HPBY2:=Hd (HPBY.out (by trivial));clear hb3 hm hm2 hg hg2 hob hsb hba;go_wp2_with fail;refine(HPBY2.out ob sb G _ HM.out HG.out).mono ?_;rintro e w5 ⟨u,L,rfl,hown,hM,hb⟩;have HO5:=Hd (hown.mono HB4.out.size);have HM5:=Hd hM;have HB5:=Hd (HB4.out.trans (hb.mono HB4.out.size));clear hown hM hb;cases R with
   |none=>
    go_wp2_with fail;go_ret2;exact⟨⟨_,rfl,Own.nil _ _ _⟩,HB5.out⟩
   |some M=>
    obtain rfl:=HM5.out M rfl;go_wp2_with fail;go_ret2;exact⟨⟨_,rfl,HO5.out⟩,HB5.out⟩
end Go.Proofs.YtngealmhgkoaiaaGreat
