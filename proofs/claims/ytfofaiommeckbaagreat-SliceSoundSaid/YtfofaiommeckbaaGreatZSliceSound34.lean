/- Plain: the hash of a piece by the level. -/
import Derived.Test.YtfofaiommeckbaaGreatZSliceSoundB
import Derived.Test.YtfofaiommeckbaaGreatZSliceSound33
open List renaming length_append → aI, length_cons → cB, length_nil → bW, mem_append → fH, mem_cons → aG, not_mem_nil → fI, getElem?_toArray → cC, getElem?_cons_zero → cD, getElem?_cons_succ → cE, mergeSort_perm → eG
open Nat renaming two_pow_pos → fK, le_trans → bO, pow_succ → aP, log2 → aZ
open Int renaming tmod → dN, tmod_eq_emod_of_nonneg → dO, natCast_nonneg → gM
set_option linter.unusedVariables false
set_option maxRecDepth 100000
set_option maxHeartbeats 40000000
namespace Go.Proofs.YtfofaiommeckbaaGreat
open Go.RowKit WalkM ShaM WireM
section
mutual
def Mh (F:Int→Option NodeD)(H:Int→Option (List Nat)):Nat→Nat→NodeD→List Nat
 |0,x,d=>([1]++beN 4 (x/2))++Bc d
 |k+1,x,d=>([2]++Bc d)++(Av (Dp F H k (x-2^k))++Av (Dp F H k (x+2^k)))
def Dp (F:Int→Option NodeD)(H:Int→Option (List Nat)):Nat→Nat→List Nat
 |0,x=>match F (x:Int)with
  |none=>Gf H x
  |some d=>shaF (([1]++beN 4 (x/2))++Bc d)
 |k+1,x=>match F (x:Int)with
  |none=>Gf H x
  |some d=>shaF (([2]++Bc d)++(Av (Dp F H k (x-2^k))++Av (Dp F H k (x+2^k))))
end
section
variable {F:Int→Option NodeD} {H:Int→Option (List Nat)} {k x:Nat} {d:NodeD}
theorem Ff (h:F (x:Int)=none):Dp F H k x=Gf H x:=by cases k<;>simp only[Dp,h]
theorem Fg (h:F (x:Int)=some d):Dp F H k x=shaF (Mh F H k x d):=by cases k<;>simp only[Dp,Mh,h]
theorem Gw:Mh F H 0 x d=([1]++beN 4 (x/2))++Bc d:=by simp only[Mh]
theorem Gx:Mh F H (k+1) x d=([2]++Bc d)++(Av (Dp F H k (x-2^k))++Av (Dp F H k (x+2^k))):=by simp only[Mh]
theorem Zh7 (h:PieceOk F H)(x:Nat):∀y∈Gf H x,y<256:=by
 unfold Gf;cases e:H (x:Int)with
 |none=>intro y hy;simp at hy
 |some L=>exact(h.hash _ _ e).2
theorem Rw (h:PieceOk F H):∀y∈Dp F H k x,y<256:=by
 cases e:F (x:Int)with
 |none=>rw[Ff e];exact Zh7 h x
 |some d=>rw[Fg e];exact Zdo _
theorem Fx (h:PieceOk F H):(Dp F H k x).length≤32:=by
 cases e:F (x:Int)with
 |none=>rw[Ff e];exact Hz h x
 |some d=>rw[Fg e,Ik];exact lR
def Zmk (F:Int→Option NodeD)(H:Int→Option (List Nat))(x:Nat):Prop:=(F (x:Int)).isSome=true∨(Gf H x).length=32
theorem Zk (h:Zmk F H x):(Dp F H k x).length=32:=by
 cases e:F (x:Int)with
 | none => rw[Ff e];rcases h with h|h; · rw[e]at h;cases h
           ·exact h
 |some d=>rw[Fg e];exact Ik _
theorem Rx (h:PieceOk F H)(a:F (x:Int)=some d):(Mh F H k x d).length≤8000:=by
 have e:=Cx (h.ok _ _ a).2.1;cases k with
 |zero=>rw[Gw];simp only[aI,cB,bW,beN_len];omega
 |succ k=>
  rw[Gx];have c:=Fx (k:=k) (x:=x-2^k) h;have h2:=Fx (k:=k) (x:=x+2^k) h;have b:=Bd (Dp F H k (x-2^k)) (by omega);have f:=Bd (Dp F H k (x+2^k)) (by omega);simp only[aI,cB,bW];omega
theorem Ws (h:PieceOk F H)(e:F (x:Int)=some d):∀y∈Mh F H k x d,y<256:=by
 obtain⟨c,h2,-⟩:=h.ok _ _ e;have b:=Yu c h2;intro y a;cases k with
 |zero=>
  rw[Gw]at a;simp only[fH,aG,fI,or_false]at a;rcases a with(rfl|a)|a
  ·omega
  ·exact beN_lt _ _ y a
  ·exact b y a
 |succ k=>
  rw[Gx]at a;simp only[fH,aG,fI,or_false]at a;rcases a with(rfl|a)|a|a
  ·omega
  ·exact b y a
  ·exact Gb (by have:=Fx (k:=k) (x:=x-2^k) h;omega) (Rw h) y a
  ·exact Gb (by have:=Fx (k:=k) (x:=x+2^k) h;omega) (Rw h) y a
structure PieceCov (F:Int→Option NodeD) (H:Int→Option (List Nat)):Prop where
 even:∀(x:Nat) d,F (x:Int)=some d→x%2=0→d.kind≠2
 odd:∀(x:Nat) d,F (x:Int)=some d→x%2=1→d.kind≠1
 kids:∀(k x:Nat) d,F (x:Int)=some d→IsLev x (k+1)→x≤131070→Zmk F H (x-2^k)∧Zmk F H (x+2^k)
end
end
open Go.Maps
def Zeh (F:Int→Option NodeD)(H:Int→Option (List Nat))(k:Nat):Prop:=
 ∀(x:Nat) (lv ow:Int) (ob sb nb mb:Nat) (G G':Int→Option Value) (w:World),IsLev x k→x+2^k≤131071→MapF w ob nb G→NodesG w G F→MapF w sb mb G'→RunsH w G' H→
  Calls Tryz.prog 90 #[.agg #[.int .i64 lv,.int .i64 ow,.map (some ob),.map (some sb)],.int .i64 (x:Nat)] w fun e w'=>∃v',e=.returned v'∧Rd w' v' (bvs (Dp F H k x))∧Below w.heap.size w w'
theorem Px (F:Int→Option NodeD)(H:Int→Option (List Nat))(hP:PieceOk F H)(hC:PieceCov F H)(k:Nat)(IH:∀j,k=j+1→Zeh F H j):Zeh F H k:=by
 intro x lv ow ob sb nb mb G G' w hl hx hm hg aU a0;obtain⟨hv,hs⟩:=hg.val (x:Int);have P:=hg.one (x:Int);have z:=fun d (h:F (x:Int)=some d)=>(hg.some h).2;obtain⟨c0,c1,c2,c3,c4,c5,c6,c7,c8,c9,hc⟩:=hg.ten (x:Int);rw[hc]at hv P z;have bV:=fK k;have aQ:inI (x:Int):=(by unfold inI;omega);have RG:=fun(W:World) (i:Below w.heap.size w W)=>MapF.run_getOk (T:=98) (hm.below i lR) Tryz.underlying98 (Ia W) aQ;rw[hv,hs]at RG;have aO:=fun(W:World) (i:Below w.heap.size w W)=>MapF.run_get (T:=99) (aU.below i lR) Tryz.underlying99 (Tryz.zeroValue28 W) aQ;have RU:=Zf a0 x;obtain⟨u0,bK⟩:=eX ((G' (x:Int)).getD (.slice none 0 0));rw[←bK]at aO RU;have bF:=Hz hP x;have PN:=fun(h:F (x:Int)=none)=>Ff (H:=H) (k:=k) h;obtain⟨L,hL⟩:=eX (Gf H x);rw[←hL]at RU bF PN;have CL:=fun(W:World) (i:Below w.heap.size w W)=>Cq u0 L W (RU.below i lR) (by omega);have KD:=fun(W:World) (i:Below w.heap.size w W)=>(show MapF W ob nb G∧NodesG W G F∧MapF W sb mb G'∧RunsH W G' H from⟨hm.below i lR,hg.below i lR,aU.below i lR,a0.below i lR⟩);obtain⟨p,hp⟩:=eX w.heap.size;have HP:=Hd hp;have a4:=Hd P;have bP:=Hd CL;have b4:=Hd PN;have b1:=Hd z;have r:=Hd KD;have bD:=RG _ ((Below.refl w.heap.size w).alloc lR (.cells #[.int .i64 lv,.int .i64 ow,.map (some ob),.map (some sb)] 101));have a5:=Hd aO;have a1:=Hd (show Blk (w.alloc (.cells #[.int .i64 lv,.int .i64 ow,.map (some ob),.map (some sb)] 101)) w.heap.size 101 #[.int .i64 lv,.int .i64 ow,.map (some ob),.map (some sb)]from Blk.new _ _ _);have aY:=Hd ((Below.refl w.heap.size w).alloc lR (.cells #[.int .i64 lv,.int .i64 ow,.map (some ob),.map (some sb)] 101));have p2:=(a1.out).cell 2;simp only[cC,cD,cE]at p2;obtain⟨is,aV⟩:=eX ((F (x:Int)).isSome);rw[←aV]at bD;have bE:=Hd aV;have HX:=Hd hx;have aD:=Hd hl;clear RG aO RU hm hg aU a0 hv hs hc aV hp P bF PN hL z bK aQ hx hl bV CL KD;go_enter Tryz.func90,Tryz.ntmps90;go_wp2_with (refine Aa rfl 52 (.tmp 5) (.tmp 13) rfl (w.heap.size+1) #[c0,c1,c2,c3,c4,c5,c6,c7,c8,c9] rfl rfl 52 #[.int .u8 0,.slice none 0 0,.slice none 0 0,.slice none 0 0,.int .u8 0,.slice none 0 0,.slice none 0 0,.slice none 0 0,.slice none 0 0,.slice none 0 0] (by have h1:=Blk.new (w.alloc (.cells #[.int .i64 lv,.int .i64 ow,.map (some ob),.map (some sb)] 101)) 52 #[.int .u8 0,.slice none 0 0,.slice none 0 0,.slice none 0 0,.int .u8 0,.slice none 0 0,.slice none 0 0,.slice none 0 0,.slice none 0 0,.slice none 0 0];simpa using h1) (by kernel_rfl) rfl a4.out ?_);rintro w3 O bN aK aL;have b:=Hd ((aY.out.alloc aY.out.size (.cells #[.int .u8 0,.slice none 0 0,.slice none 0 0,.slice none 0 0,.int .u8 0,.slice none 0 0,.slice none 0 0,.slice none 0 0,.slice none 0 0,.slice none 0 0] 52)).trans (bN w.heap.size (Nat.le_succ _)));have I:=Hd (show Blk w3 w.heap.size 101 #[.int .i64 lv,.int .i64 ow,.map (some ob),.map (some sb)]from(aK w.heap.size (by omega)).trans (a1.out.alloc _));rw[←HP.out]at I O⊢;have g:=Hd O;have b7:=Hd (show w.heap.size=p from HP.out.symm);clear O bN aK aL bD p2 aY a1;cases is with
 |false=>
  have D:F (x:Int)=none:=by have:=bE.out;cases e:F (x:Int)with
   |none=>rfl
   |some d=>rw[e]at this;cases this
  have HQ:=Hd (b4.out D);have p3:=I.out.cell 3;simp only[cC,cD,cE]at p3;have rg:=a5.out w3 b.out;clear D;go_wp2_with fail;refine(bP.out w3 b.out).mono ?_;rintro e w4 ⟨v4,rfl,a2,o⟩;have bW:=Hd a2;have l:=Hd (b.out.trans (o.mono b.out.size));clear a2 o p3 rg;go_wp2_with fail;go_ret;exact⟨_,rfl,by rw[HQ.out];exact bW.out.rd,l.out⟩
 |true=>
  obtain⟨d,D⟩:∃d,F (x:Int)=some d:=Option.isSome_iff_exists.1 bE.out.symm;have aA:=b1.out d D;obtain⟨aE,aC,hr⟩:=hP.ok _ _ D;have aF:=Hd (Fg (H:=H) (k:=k) D);have aG:=Hd (show(Mh F H k x d).length≤1000000 from bO (Rx hP D) (by omega));have Z:=Hd (Ws (k:=k) hP D);have k0:=g.out.cell 0;have k1:=g.out.cell 1;have k2:=g.out.cell 2;have k3:=g.out.cell 3;have k4:=g.out.cell 4;have k5:=g.out.cell 5;have k6:=g.out.cell 6;have k7:=g.out.cell 7;have k8:=g.out.cell 8;have k9:=g.out.cell 9;simp only[cC,cD,cE]at k0 k1 k2 k3 k4 k5 k6 k7 k8 k9;cases k with
  |zero=>
   have Y:x%2=0:=Dv aD.out;have a6:=hC.even _ _ D Y;have a3:dN (x:Int) 2=0:=(by rw[dO (by omega)];omega);have aS:(x:Int)%2=0:=(by omega);obtain⟨m,bB⟩:=eX (x/2);have hq:(x:Int)/2=(m:Int):=(by omega);have cA:Int.tdiv (x:Int) 2=(m:Int):=(by rw[Int.tdiv_eq_ediv_of_nonneg (by omega)];omega);have bS:=HX.out;have cG:wrap64 ((m:Nat):Int)=(m:Int):=(by have:m≤65536:=(by omega);unfold wrap64;omega);have LT:=Lc ((m:Nat):Int) d _ w3 (aA.below b.out lR) aE aC;have a7:ltF ((m:Nat):Int) d=(Mh F H 0 x d,0):=by
    rw[ltF,if_neg (by omega),if_neg (by rw[hr];simp[a6]),Int.toNat_natCast,Gw,←bB]
   unfold Vk at LT;rw[a7]at LT;obtain⟨C,M⟩:=eX (Mh F H 0 x d);rw[←M]at LT aG Z aF;have bZ:=Hd LT;clear LT a7 M bS bB a6 Y D aA aE aC hr;go_wp2_with fail;refine(bZ.out).mono ?_;rintro e w4 ⟨o,v4,rfl,B⟩;obtain⟨q1,q2,q3,rfl⟩:=Ey B;have aM:=Hd B.rd;have l:=Hd (b.out.trans (o.mono b.out.size));clear o B k0 k1 k2 k3 k4 k5 k6 k7 k8 k9;go_wp2_with fail;have N:=Hd (show Rd (w4.alloc (.cells #[.slice q1 q2 q3] 28)) (.slice q1 q2 q3) (bvs C)from aM.out.alloc _);have aN:=Hd (Kb w4.heap.size (.slice q1 q2 q3) C (w4.alloc (.cells #[.slice q1 q2 q3] 28)) (Bz rfl) (by simp) N.out Z.out aG.out);refine(aN.out).mono ?_;rintro e w5 ⟨b5,rfl,-,-,q,V⟩;have X:=Hd q;have aX:=Hd ((l.out.alloc l.out.size _).trans (V.mono (by have:=l.out.size;simp;omega)));clear q V;go_wp2_with fail;go_ret;exact⟨_,rfl,by rw[aF.out];exact X.out,aX.out⟩
  |succ j=>
   have aI:x%2=1:=Fv aD.out;have bI:=hC.odd _ _ D aI;have a3:dN (x:Int) 2=1:=(by rw[dO (by omega)];omega);have aS:(x:Int)%2=1:=(by omega);have bY:=fK j;have b2:2^(j+1)=2*2^j:=(by rw[aP];omega);have hX:=HX.out;have s:x≤131070:=(by omega);obtain⟨kl,kr,a8,bC,kx⟩:=kids_lev s aD.out;obtain⟨bA,bG⟩:=hC.kids j x d D aD.out s;have aH:=fun(W:World)=>Hs (x:Int) W;have aB:=fun(W:World)=>Gh (x:Int) W;rw[kl]at aH;rw[kr]at aB;have I1:=fun(W:World) (i:Below w.heap.size w W)=>IH j rfl (x-2^j) lv ow ob sb nb mb G G' W a8 (by omega) (r.out W i).1 (r.out W i).2.1 (r.out W i).2.2.1 (r.out W i).2.2.2;have I2:=fun(W:World) (i:Below w.heap.size w W)=>IH j rfl (x+2^j) lv ow ob sb nb mb G G' W bC (by omega) (r.out W i).1 (r.out W i).2.1 (r.out W i).2.2.1 (r.out W i).2.2.2;have L1:=Zk (k:=j) bA;have L2:=Zk (k:=j) bG;have TE:=Gx (F:=F) (H:=H) (k:=j) (x:=x) (d:=d);obtain⟨H1,aW⟩:=eX (Dp F H j (x-2^j));obtain⟨H2,aZ⟩:=eX (Dp F H j (x+2^j));rw[←aW]at I1 L1;rw[←aZ]at I2 L2;rw[←aW,←aZ]at TE;have S:=fun(W:World) (i:Below w3.heap.size w3 W) (vl vr:Value) (r1:Rd W vl (bvs H1)) (r2:Rd W vr (bvs H2))=>Ix d _ vl vr H1 H2 W ((aA.below b.out lR).below i lR) aE aC r1 r2;have bJ:ptF d H1 H2=(Mh F H (j+1) x d,0):=by
    rw[ptF,if_neg (by rw[hr];simp[bI]),if_neg (by omega),TE];simp
   unfold Vk at S;rw[bJ]at S;obtain⟨C,M⟩:=eX (Mh F H (j+1) x d);rw[←M]at S aG Z aF;obtain⟨xl,a9⟩:=eX (x-2^j);obtain⟨xr,bL⟩:=eX (x+2^j);rw[←a9]at I1 aH;rw[←bL]at I2 aB;have b6:=Hd I1;have bU:=Hd I2;have b0:=Hd aH;have bT:=Hd aB;have b3:=Hd S;clear I1 I2 aH aB S bJ M TE L1 L2 aW aZ kl kr a8 bC kx bA bG a9 bL hX s aI b2 bY bI D aA aE aC hr k0 k1 k2 k3 k4 k5 k6 k7 k8 k9;go_wp2_with fail;refine Cb [eF (.agg #[c0,c1,c2,c3,c4,c5,c6,c7,c8,c9]),eF (.agg #[.int .i64 lv,.int .i64 ow,.map (some ob),.map (some sb)]),eF (.int .i64 (x:Nat)),eF (.int .i64 (xl:Nat)),fun u w'=>Rd w' u (bvs H1),eF (.agg #[.int .i64 lv,.int .i64 ow,.map (some ob),.map (some sb)]),eF (.int .i64 (x:Nat)),eF (.int .i64 (xr:Nat)),fun u w'=>Rd w' u (bvs H2),fun t w'=>∃u,t=.tuple #[u,.int .u8 0]∧Rd w' u (bvs C),fun t w'=>∃u,t=.tuple #[u,.int .u8 0]∧Rd w' u (bvs C),fun u w'=>Rd w' u (bvs C),eF (.int .u8 0),fun u w'=>Rd w' u (bvs C)] (by kernel_rfl) (by kernel_rfl) (by kernel_rfl)
    (kE (kE (kE (kE (bX (fun v x y h R=>Rd.below h R lR) (kE (kE (kE (bX (fun v x y h R=>Rd.below h R lR) (bX (fun v x y h R=>let⟨u,e,k⟩:=h;⟨u,e,Rd.below k R lR⟩) (bX (fun v x y h R=>let⟨u,e,k⟩:=h;⟨u,e,Rd.below k R lR⟩) (bX (fun v x y h R=>Rd.below h R lR) (kE (bX (fun v x y h R=>Rd.below h R lR) Ae)))))))))))))) ?_ ?_
   ·refine gB ?_ (gB ?_ (gQ ?_ (gB ?_ (gB ?_ (gB ?_ (gQ ?_ (gB ?_ (gB ?_ (gB ?_ (gB ?_ (gB ?_ (gB ?_ (gB ?_ .nil)))))))))))));all_goals
     intro a U E ho hf;refine⟨rfl,?_⟩;intro K J;try have cF:a.tmps[1]?.getD undef=.int .i64 (x:Nat):=ho 1 (by kernel_rfl)
     try have bM:a.tmps[2]?.getD undef=.pointer (some ⟨p,0,none⟩):=ho 2 (by kernel_rfl)
     try have bQ:a.tmps[5]?.getD undef=.pointer (some ⟨p+1,0,none⟩):=ho 5 (by kernel_rfl)
     try have b9:=eqn hf.1
     try have b8:=eqn hf.2.1
     try have cB:=eqn hf.2.2.1
     try(refine Hd ?_;go_simp;exact J _ rfl)
    ·exact wp_load_row 52 (.tmp 5) rfl _ (evs bQ) _ _ (0,0) _ (g.out.below E g.out.lt) Tryz.underlying52 rfl (by kernel_rfl) (J _ _ rfl bR)
    ·exact wp_load_row 101 (.tmp 2) rfl _ (evs bM) _ _ (0,0) _ (I.out.below E I.out.lt) Tryz.underlying101 rfl (by kernel_rfl) (J _ _ rfl bR)
    ·go_simp;refine(b0.out U).mono ?_;rintro e w2 ⟨rfl,rfl⟩;exact J _ _ rfl bR
    ·go_simp;refine(b6.out U (b.out.trans (E.mono b.out.size))).mono ?_;rintro e w2 ⟨u,rfl,aR,Q⟩;exact J _ _ aR Q
    ·exact wp_load_row 101 (.tmp 2) rfl _ (evs bM) _ _ (0,0) _ (I.out.below E I.out.lt) Tryz.underlying101 rfl (by kernel_rfl) (J _ _ rfl bR)
    ·go_simp;refine(bT.out U).mono ?_;rintro e w2 ⟨rfl,rfl⟩;exact J _ _ rfl bR
    ·go_simp;refine(bU.out U (b.out.trans (E.mono b.out.size))).mono ?_;rintro e w2 ⟨u,rfl,aR,Q⟩;exact J _ _ aR Q
    ·have o1:Rd U (a.tmps[37]?.getD undef) (bvs H1):=hf.2.1;have o2:Rd U (a.tmps[41]?.getD undef) (bvs H2):=hf.2.2.1;obtain⟨v1,A⟩:=eX (a.tmps[37]?.getD undef);obtain⟨v2,aT⟩:=eX (a.tmps[41]?.getD undef);rw[←A]at o1;rw[←aT]at o2;have e1:=A.symm;have e2:=aT.symm;clear A aT;go_simp;refine(b3.out U E v1 v2 o1 o2).mono ?_;rintro e w2 ⟨Q,u,rfl,bH⟩;exact J _ _ ⟨_,rfl,bH.rd⟩ Q
    ·have o0:∃u,a.tmps[42]?.getD undef=.tuple #[u,.int .u8 0]∧Rd U u (bvs C):=hf.1;obtain⟨u,e0,o1⟩:=o0;go_simp;exact J _ _ ⟨_,rfl,o1⟩ bR
    ·have o0:∃u,a.tmps[32]?.getD undef=.tuple #[u,.int .u8 0]∧Rd U u (bvs C):=hf.1;obtain⟨u,e0,o1⟩:=o0;go_simp;exact J _ _ o1 bR
    ·have o0:∃u,a.tmps[32]?.getD undef=.tuple #[u,.int .u8 0]∧Rd U u (bvs C):=hf.1;obtain⟨u,e0,o1⟩:=o0;go_simp;exact J _ _ rfl bR
    ·have o0:Rd U (a.tmps[43]?.getD undef) (bvs C):=hf.1;obtain⟨v1,A⟩:=eX (a.tmps[43]?.getD undef);rw[←A]at o0;have e1:=A.symm;clear A;go_simp;exact J _ _ o0 bR
   ·rintro f w4 o aJ;have S7:Rd w4 (f 7) (bvs C):=aJ.2.2.2.2.2.2.2.2.2.2.2.2.2.1;clear aJ;simp only[Aj,Aq,Dr,List.filterMap_cons,List.filterMap_nil,List.contains_cons,List.contains_nil,Nat.reduceBEq,Nat.reduceAdd,Bool.or_false,Bool.or_true,cond_true,cond_false];obtain⟨u,hu⟩:=eX (f 7);rw[←hu]at S7⊢;clear hu;obtain⟨q1,q2,q3,rfl⟩:∃a n c,u=.slice a n c:=(by obtain⟨a,c,e,-⟩:=S7;exact⟨_,_,_,e⟩);have aM:=Hd S7;have l:=Hd (b.out.trans (o.mono b.out.size));clear S7 o;go_wp2_with fail;have N:=Hd (show Rd (w4.alloc (.cells #[.slice q1 q2 q3] 28)) (.slice q1 q2 q3) (bvs C)from aM.out.alloc _);have aN:=Hd (Kb w4.heap.size (.slice q1 q2 q3) C (w4.alloc (.cells #[.slice q1 q2 q3] 28)) (Bz rfl) (by simp) N.out Z.out aG.out);refine(aN.out).mono ?_;rintro e w5 ⟨b5,rfl,-,-,q,V⟩;have X:=Hd q;have aX:=Hd ((l.out.alloc l.out.size _).trans (V.mono (by have:=l.out.size;simp;omega)));clear q V;go_wp2_with fail;go_ret;exact⟨_,rfl,by rw[aF.out];exact X.out,aX.out⟩
theorem Zei (F:Int→Option NodeD)(H:Int→Option (List Nat))(hP:PieceOk F H)(hC:PieceCov F H):∀k,Zeh F H k:=by
 intro k
 induction k with
 |zero=>exact Px F H hP hC 0 fun j h=>by cases h
 |succ k ih=>exact Px F H hP hC (k+1) fun j h=>by cases h;exact ih
end Go.Proofs.YtfofaiommeckbaaGreat
namespace Go.Proofs.YtfofaiommeckbaaGreat
open Go.RowKit Go.Maps WalkM WireM
section
section
variable {F:Int→Option NodeD} {k x:Nat} {d:NodeD}
end
end
end Go.Proofs.YtfofaiommeckbaaGreat
namespace Go.Proofs.YtfofaiommeckbaaGreat
open Go.RowKit WalkM WireM
theorem Zej {s:SparseD} {only:Bool}(h:Ar s only=true):PieceCov (Ai s.op) (Ax s.sh):=by
 unfold Ar at h;simp only[Bool.and_eq_true]at h;obtain⟨⟨⟨⟨C,A⟩,f⟩,l⟩,⟨hk,a⟩,b⟩:=h;have a:=of_decide_eq_true a;have b:=of_decide_eq_true b;simp only[Za]at a b;generalize Ea (Ai s.op) (aZ s.leaves.toNat) s.own.toNat only (aZ s.leaves.toNat)=out at a b;have o:∀y:Int,y∈out↔(Ai s.op y).isSome=true:=fun y=>by
  rw[←Hm,a];exact((eG _ _).mem_iff).symm
 have u:∀y:Int,y∈Hl out↔(Ax s.sh y).isSome=true:=fun y=>by
  rw[←Ip,b];exact((eG _ _).mem_iff).symm
 have i:∀(x y:Nat),(x:Int)∈out→((y:Int)∈Li out (x:Int)∨(y:Int)∈out)→Zmk (Ai s.op) (Ax s.sh) y:=by
  intro x y hx g;rcases g with g|g
  ·right
   have p:(y:Int)∈Hl out:=List.mem_flatMap.2 ⟨_,hx,g⟩;rw[u]at p;obtain⟨L,n⟩:=Option.isSome_iff_exists.1 p;have:=of_decide_eq_true (List.all_eq_true.1 l _ (Ud n));unfold Gf;rw[n];exact this
  ·left
   exact(o _).1 g
 refine⟨fun x d e q j=> ?_,fun x d e q m=> ?_,fun k x d e z hx=> ?_⟩
 ·exact(Nm (List.all_eq_true.1 f _ (Dw e))).2.2.1 ⟨by show(x:Int)%2=0;omega,j⟩
 ·exact(Nm (List.all_eq_true.1 f _ (Dw e))).2.2.2.1 ⟨by show(x:Int)%2=1;omega,m⟩
 ·obtain⟨t,v,r,w,B⟩:=kids_lev hx z;have c:(x:Int)∈out:=(o _).2 (by rw[e];rfl);refine⟨i x _ c ?_,i x _ c ?_⟩
  ·by_cases hm:((x-2^k:Nat):Int)∈out
   ·exact .inr hm
   ·left
    unfold Li;rw[fH]
    left
    rw[t,if_pos ⟨gM _,hm⟩];exact List.mem_singleton.2 rfl
  ·by_cases hm:((x+2^k:Nat):Int)∈out
   ·exact .inr hm
   ·left
    unfold Li;rw[fH]
    right
    rw[v,if_pos ⟨gM _,hm⟩];exact List.mem_singleton.2 rfl
open Go.Maps
theorem Zkv {x:Nat}(h:x≤131070):x+2^lev x≤131071:=by
 have hx:=lev_is h;have f:=lev_le h;generalize lev x=l at hx f;unfold IsLev at hx;have e:2^17=2^(l+1)*2^(16-l):=(by rw[←Nat.pow_add];congr 1;omega);have a:=Nat.div_add_mod x (2^(l+1));have b:(2:Nat)^17=131072:=rfl;have c:x/2^(l+1)<2^(16-l):=Nat.div_lt_of_lt_mul (by rw[←e];omega);have d:2^(l+1)*(x/2^(l+1)+1)≤2^(l+1)*2^(16-l):=Nat.mul_le_mul_left _ c;rw[←e,Nat.mul_add,Nat.mul_one]at d;have e2:2^(l+1)=2*2^l:=(by rw[aP];omega);have g:=fK l;omega
theorem Zbk {s:SparseD} {only:Bool}(h:Ar s only=true) {x:Int} {d:NodeD}(g:Ai s.op x=some d):∃n:Nat,x=(n:Int)∧n≤131070:=by
 unfold Ar at h;simp only[Bool.and_eq_true]at h;obtain⟨⟨⟨⟨c,k⟩,a⟩,f⟩,-⟩:=h;obtain⟨b,h2⟩:=(Nm (List.all_eq_true.1 a _ (Dw g))).1;have b:0≤x:=b;have h2:x≤2*s.leaves-2:=h2;obtain⟨d,j,e⟩:=(fits_iff _).1 c;have i:2^d≤65536:=bO (Nat.pow_le_pow_right (by omega) j) (by decide);exact⟨x.toNat,by omega,by omega⟩
open ShaM
def Iz (s:SparseD):List Nat:=Dp (Ai s.op) (Ax s.sh) (aZ s.leaves.toNat) (2^aZ s.leaves.toNat-1)
end Go.Proofs.YtfofaiommeckbaaGreat
