import Derived.Test.YtfofaiommeckbaaGreatZSliceProves38
open Go.Value renaming slice → q9, int → rA, pointer → rB
open Go.IntKind renaming i64 → rC
open Option renaming none → rF
open Go.Proofs.Tryz
open List renaming length_append → aG, length_cons → bY, length_nil → bT, mem_append → eY, mem_cons → aE, not_mem_nil → eZ, getElem?_toArray → bZ, getElem?_cons_zero → cA, getElem?_cons_succ → cB, mergeSort_perm → fF
open Nat renaming two_pow_pos → fB, log2 → aX
open Int renaming tmod → fC, tmod_eq_emod_of_nonneg → fD, natCast_nonneg → iM
set_option linter.unusedVariables false
set_option maxRecDepth 100000
set_option maxHeartbeats 40000000
namespace Go.Proofs.YtfofaiommeckbaaGreat
open Go.RowKit WalkM ShaM WireM
section
mutual
def Zcl (F:Int→Option NodeD)(H:Int→Option (List Nat)):Nat→Nat→NodeD→List Nat
 |0,x,d=>([1]++beN 4 (x/2))++Bm d
 |k+1,x,d=>([2]++Bm d)++(Bf (Gk F H k (x-2^k))++Bf (Gk F H k (x+2^k)))
def Gk (F:Int→Option NodeD)(H:Int→Option (List Nat)):Nat→Nat→List Nat
 |0,x=>match F (x:Int)with
  |none=>Ev H x
  |some d=>shaF (([1]++beN 4 (x/2))++Bm d)
 |k+1,x=>match F (x:Int)with
  |none=>Ev H x
  |some d=>shaF (([2]++Bm d)++(Bf (Gk F H k (x-2^k))++Bf (Gk F H k (x+2^k))))
end
section
variable {F:Int→Option NodeD} {H:Int→Option (List Nat)} {k x:Nat} {d:NodeD}
theorem He (h:F (x:Int)=none):Gk F H k x=Ev H x:=by cases k<;>simp only[Gk,h]
theorem Fj (h:F (x:Int)=some d):Gk F H k x=shaF (Zcl F H k x d):=by cases k<;>simp only[Gk,Zcl,h]
theorem Lg:Zcl F H 0 x d=([1]++beN 4 (x/2))++Bm d:=by simp only[Zcl]
theorem Lh:Zcl F H (k+1) x d=([2]++Bm d)++(Bf (Gk F H k (x-2^k))++Bf (Gk F H k (x+2^k))):=by simp only[Zcl]
theorem Tc (h:PieceOk F H)(x:Nat):∀y∈Ev H x,y<256:=by
 unfold Ev;cases e:H (x:Int)with
 |none=>intro y hy;simp at hy
 |some L=>exact(h.hash _ _ e).2
theorem Td (h:PieceOk F H):∀y∈Gk F H k x,y<256:=by
 cases e:F (x:Int)with
 |none=>rw[He e];exact Tc h x
 |some d=>rw[Fj e];exact Zd9 _
theorem Np (h:PieceOk F H):(Gk F H k x).length≤32:=by
 cases e:F (x:Int)with
 |none=>rw[He e];exact Ha h x
 |some d=>rw[Fj e,Ja];exact lR
def Zma (F:Int→Option NodeD)(H:Int→Option (List Nat))(x:Nat):Prop:=(F (x:Int)).isSome=true∨(Ev H x).length=32
theorem Zav (h:Zma F H x):(Gk F H k x).length=32:=by
 cases e:F (x:Int)with
 | none => rw[He e];rcases h with h|h; · rw[e]at h;cases h
           ·exact h
 |some d=>rw[Fj e];exact Ja _
theorem Zjp (h:PieceOk F H)(a:F (x:Int)=some d):(Zcl F H k x d).length≤8000:=by
 have e:=Da (h.ok _ _ a).2.1;cases k with
 |zero=>rw[Lg];simp only[aG,bY,bT,beN_len];omega
 |succ k=>
  rw[Lh];have h1:=Np (k:=k) (x:=x-2^k) h;have h2:=Np (k:=k) (x:=x+2^k) h;have b:=Bk (Gk F H k (x-2^k)) (by omega);have c:=Bk (Gk F H k (x+2^k)) (by omega);simp only[aG,bY,bT];omega
theorem Zl2 (h:PieceOk F H)(c:F (x:Int)=some d):∀y∈Zcl F H k x d,y<256:=by
 obtain⟨h1,h2,-⟩:=h.ok _ _ c;have b:=Nh h1 h2;intro y a;cases k with
 |zero=>
  rw[Lg]at a;simp only[eY,aE,eZ,or_false]at a;rcases a with(rfl|a)|a
  ·omega
  ·exact beN_lt _ _ y a
  ·exact b y a
 |succ k=>
  rw[Lh]at a;simp only[eY,aE,eZ,or_false]at a;rcases a with(rfl|a)|a|a
  ·omega
  ·exact b y a
  ·exact Gh (by have:=Np (k:=k) (x:=x-2^k) h;omega) (Td h) y a
  ·exact Gh (by have:=Np (k:=k) (x:=x+2^k) h;omega) (Td h) y a
structure PieceCov (F:Int→Option NodeD) (H:Int→Option (List Nat)):Prop where
 even:∀(x:Nat) d,F (x:Int)=some d→x%2=0→d.kind≠2
 odd:∀(x:Nat) d,F (x:Int)=some d→x%2=1→d.kind≠1
 kids:∀(k x:Nat) d,F (x:Int)=some d→IsLev x (k+1)→x≤131070→Zma F H (x-2^k)∧Zma F H (x+2^k)
end
end
open Go.Maps
def Zgm (F:Int→Option NodeD)(H:Int→Option (List Nat))(k:Nat):Prop:=
 ∀(x:Nat) (lv ow:Int) (ob sb nb mb:Nat) (G G':Int→Option Value) (w:World),IsLev x k→x+2^k≤131071→MapF w ob nb G→NodesG w G F→MapF w sb mb G'→RunsH w G' H→
  Calls prog 90 #[.agg #[rA rC lv,rA rC ow,.map (some ob),.map (some sb)],rA rC (x:Nat)] w fun e w'=>∃v',e=.returned v'∧Rd w' v' (bvs (Gk F H k x))∧Below w.heap.size w w'
theorem Rf (F:Int→Option NodeD)(H:Int→Option (List Nat))(hP:PieceOk F H)(hC:PieceCov F H)(k:Nat)(IH:∀j,k=j+1→Zgm F H j):Zgm F H k:=by
 intro x lv ow ob sb nb mb G G' w hl hx hm hg aN aW;obtain⟨hv,hs⟩:=hg.val (x:Int);have U:=hg.one (x:Int);have B:=fun d (h:F (x:Int)=some d)=>(hg.some h).2;obtain⟨c0,c1,c2,c3,c4,c5,c6,c7,c8,c9,hc⟩:=hg.ten (x:Int);rw[hc]at hv U B;have b0:=fB k;have aQ:inI (x:Int):=(by unfold inI;omega);have RG:=fun(W:World) (i:Below w.heap.size w W)=>MapF.run_getOk (T:=98) (hm.below i lR) underlying98 (Hb W) aQ;rw[hv,hs]at RG;have aX:=fun(W:World) (i:Below w.heap.size w W)=>MapF.run_get (T:=99) (aN.below i lR) underlying99 (zeroValue28 W) aQ;have RU:=Zaj aW x;obtain⟨u0,bJ⟩:=eX ((G' (x:Int)).getD (q9 rF 0 0));rw[←bJ]at aX RU;have bB:=Ha hP x;have PN:=fun(h:F (x:Int)=none)=>He (H:=H) (k:=k) h;obtain⟨L,hL⟩:=eX (Ev H x);rw[←hL]at RU bB PN;have CL:=fun(W:World) (i:Below w.heap.size w W)=>Cu u0 L W (RU.below i lR) (by omega);have KD:=fun(W:World) (i:Below w.heap.size w W)=>(show MapF W ob nb G∧NodesG W G F∧MapF W sb mb G'∧RunsH W G' H from⟨hm.below i lR,hg.below i lR,aN.below i lR,aW.below i lR⟩);obtain⟨p,hp⟩:=eX w.heap.size;have HP:=Hd hp;have bD:=Hd U;have bO:=Hd CL;have b1:=Hd PN;have bU:=Hd B;have o:=Hd KD;have bL:=RG _ ((Below.refl w.heap.size w).alloc lR (.cells #[rA rC lv,rA rC ow,.map (some ob),.map (some sb)] 101));have bA:=Hd aX;have aU:=Hd (show Blk (w.alloc (.cells #[rA rC lv,rA rC ow,.map (some ob),.map (some sb)] 101)) w.heap.size 101 #[rA rC lv,rA rC ow,.map (some ob),.map (some sb)]from Blk.new _ _ _);have a1:=Hd ((Below.refl w.heap.size w).alloc lR (.cells #[rA rC lv,rA rC ow,.map (some ob),.map (some sb)] 101));have p2:=(aU.out).cell 2;simp only[bZ,cA,cB]at p2;obtain⟨is,aY⟩:=eX ((F (x:Int)).isSome);rw[←aY]at bL;have a6:=Hd aY;have HX:=Hd hx;have aG:=Hd hl;clear RG aX RU hm hg aN aW hv hs hc aY hp U bB PN hL B bJ aQ hx hl b0 CL KD;go_enter func90,ntmps90;go_wp2_with (refine Aa rfl 52 (.tmp 5) (.tmp 13) rfl (w.heap.size+1) #[c0,c1,c2,c3,c4,c5,c6,c7,c8,c9] rfl rfl 52 #[rA .u8 0,q9 rF 0 0,q9 rF 0 0,q9 rF 0 0,rA .u8 0,q9 rF 0 0,q9 rF 0 0,q9 rF 0 0,q9 rF 0 0,q9 rF 0 0] (by have h1:=Blk.new (w.alloc (.cells #[rA rC lv,rA rC ow,.map (some ob),.map (some sb)] 101)) 52 #[rA .u8 0,q9 rF 0 0,q9 rF 0 0,q9 rF 0 0,rA .u8 0,q9 rF 0 0,q9 rF 0 0,q9 rF 0 0,q9 rF 0 0,q9 rF 0 0];simpa using h1) (by kernel_rfl) rfl bD.out ?_);rintro w3 P bF aJ aV;have b:=Hd ((a1.out.alloc a1.out.size (.cells #[rA .u8 0,q9 rF 0 0,q9 rF 0 0,q9 rF 0 0,rA .u8 0,q9 rF 0 0,q9 rF 0 0,q9 rF 0 0,q9 rF 0 0,q9 rF 0 0] 52)).trans (bF w.heap.size (Nat.le_succ _)));have J:=Hd (show Blk w3 w.heap.size 101 #[rA rC lv,rA rC ow,.map (some ob),.map (some sb)]from(aJ w.heap.size (by omega)).trans (aU.out.alloc _));rw[←HP.out]at J P⊢;have g:=Hd P;have b7:=Hd (show w.heap.size=p from HP.out.symm);clear P bF aJ aV bL p2 a1 aU;cases is with
 |false=>
  have I:F (x:Int)=none:=by have:=a6.out;cases e:F (x:Int)with
   |none=>rfl
   |some d=>rw[e]at this;cases this
  have HQ:=Hd (b1.out I);have p3:=J.out.cell 3;simp only[bZ,cA,cB]at p3;have rg:=bA.out w3 b.out;clear I;go_wp2_with fail;refine(bO.out w3 b.out).mono ?_;rintro e Z ⟨v4,rfl,bG,q⟩;have bW:=Hd bG;have l:=Hd (b.out.trans (q.mono b.out.size));clear bG q p3 rg;go_wp2_with fail;go_ret;exact⟨_,rfl,by rw[HQ.out];exact bW.out.rd,l.out⟩
 |true=>
  obtain⟨d,I⟩:∃d,F (x:Int)=some d:=Option.isSome_iff_exists.1 a6.out.symm;have aD:=bU.out d I;obtain⟨aC,aI,hr⟩:=hP.ok _ _ I;have aH:=Hd (Fj (H:=H) (k:=k) I);have aA:=Hd (show(Zcl F H k x d).length≤1000000 from Nat.le_trans (Zjp hP I) (by omega));have aE:=Hd (Zl2 (k:=k) hP I);have k0:=g.out.cell 0;have k1:=g.out.cell 1;have k2:=g.out.cell 2;have k3:=g.out.cell 3;have k4:=g.out.cell 4;have k5:=g.out.cell 5;have k6:=g.out.cell 6;have k7:=g.out.cell 7;have k8:=g.out.cell 8;have k9:=g.out.cell 9;simp only[bZ,cA,cB]at k0 k1 k2 k3 k4 k5 k6 k7 k8 k9;cases k with
  |zero=>
   have R:x%2=0:=Gf aG.out;have bH:=hC.even _ _ I R;have a9:fC (x:Int) 2=0:=(by rw[fD (by omega)];omega);have aT:(x:Int)%2=0:=(by omega);obtain⟨m,a4⟩:=eX (x/2);have hq:(x:Int)/2=(m:Int):=(by omega);have cD:Int.tdiv (x:Int) 2=(m:Int):=(by rw[Int.tdiv_eq_ediv_of_nonneg (by omega)];omega);have bT:=HX.out;have b9:wrap64 ((m:Nat):Int)=(m:Int):=(by have:m≤65536:=(by omega);unfold wrap64;omega);have LT:=Me ((m:Nat):Int) d _ w3 (aD.below b.out lR) aC aI;have a7:ltF ((m:Nat):Int) d=(Zcl F H 0 x d,0):=by
    rw[ltF,if_neg (by omega),if_neg (by rw[hr];simp[bH]),Int.toNat_natCast,Lg,←a4]
   unfold Wn at LT;rw[a7]at LT;obtain⟨C,O⟩:=eX (Zcl F H 0 x d);rw[←O]at LT aA aE aH;have bP:=Hd LT;clear LT a7 O bT a4 bH R I aD aC aI hr;go_wp2_with fail;refine(bP.out).mono ?_;rintro e Z ⟨q,v4,rfl,z⟩;obtain⟨q1,q2,q3,rfl⟩:=Dg z;have aR:=Hd z.rd;have l:=Hd (b.out.trans (q.mono b.out.size));clear q z k0 k1 k2 k3 k4 k5 k6 k7 k8 k9;go_wp2_with fail;have N:=Hd (show Rd (Z.alloc (.cells #[q9 q1 q2 q3] 28)) (q9 q1 q2 q3) (bvs C)from aR.out.alloc _);have aO:=Hd (Kv Z.heap.size (q9 q1 q2 q3) C (Z.alloc (.cells #[q9 q1 q2 q3] 28)) (Ar rfl) (by simp) N.out aE.out aA.out);refine(aO.out).mono ?_;rintro e w5 ⟨b5,rfl,-,-,r,Q⟩;have S:=Hd r;have aZ:=Hd ((l.out.alloc l.out.size _).trans (Q.mono (by have:=l.out.size;simp;omega)));clear r Q;go_wp2_with fail;go_ret;exact⟨_,rfl,by rw[aH.out];exact S.out,aZ.out⟩
  |succ j=>
   have aL:x%2=1:=Fb aG.out;have a2:=hC.odd _ _ I aL;have a9:fC (x:Int) 2=1:=(by rw[fD (by omega)];omega);have aT:(x:Int)%2=1:=(by omega);have bY:=fB j;have bQ:2^(j+1)=2*2^j:=(by rw[Nat.pow_succ];omega);have hX:=HX.out;have s:x≤131070:=(by omega);obtain⟨kl,kr,a8,bI,kx⟩:=kids_lev s aG.out;obtain⟨a5,bN⟩:=hC.kids j x d I aG.out s;have aF:=fun(W:World)=>Ia (x:Int) W;have aB:=fun(W:World)=>Gm (x:Int) W;rw[kl]at aF;rw[kr]at aB;have I1:=fun(W:World) (i:Below w.heap.size w W)=>IH j rfl (x-2^j) lv ow ob sb nb mb G G' W a8 (by omega) (o.out W i).1 (o.out W i).2.1 (o.out W i).2.2.1 (o.out W i).2.2.2;have I2:=fun(W:World) (i:Below w.heap.size w W)=>IH j rfl (x+2^j) lv ow ob sb nb mb G G' W bI (by omega) (o.out W i).1 (o.out W i).2.1 (o.out W i).2.2.1 (o.out W i).2.2.2;have L1:=Zav (k:=j) a5;have L2:=Zav (k:=j) bN;have TE:=Lh (F:=F) (H:=H) (k:=j) (x:=x) (d:=d);obtain⟨H1,aP⟩:=eX (Gk F H j (x-2^j));obtain⟨H2,aS⟩:=eX (Gk F H j (x+2^j));rw[←aP]at I1 L1;rw[←aS]at I2 L2;rw[←aP,←aS]at TE;have V:=fun(W:World) (i:Below w3.heap.size w3 W) (vl vr:Value) (r1:Rd W vl (bvs H1)) (r2:Rd W vr (bvs H2))=>Jo d _ vl vr H1 H2 W ((aD.below b.out lR).below i lR) aC aI r1 r2;have bC:ptF d H1 H2=(Zcl F H (j+1) x d,0):=by
    rw[ptF,if_neg (by rw[hr];simp[a2]),if_neg (by omega),TE];simp
   unfold Wn at V;rw[bC]at V;obtain⟨C,O⟩:=eX (Zcl F H (j+1) x d);rw[←O]at V aA aE aH;obtain⟨xl,bE⟩:=eX (x-2^j);obtain⟨xr,bK⟩:=eX (x+2^j);rw[←bE]at I1 aF;rw[←bK]at I2 aB;have b3:=Hd I1;have b6:=Hd I2;have bS:=Hd aF;have b4:=Hd aB;have bV:=Hd V;clear I1 I2 aF aB V bC O TE L1 L2 aP aS kl kr a8 bI kx a5 bN bE bK hX s aL bQ bY a2 I aD aC aI hr k0 k1 k2 k3 k4 k5 k6 k7 k8 k9;go_wp2_with fail;refine Dv [eF (.agg #[c0,c1,c2,c3,c4,c5,c6,c7,c8,c9]),eF (.agg #[rA rC lv,rA rC ow,.map (some ob),.map (some sb)]),eF (rA rC (x:Nat)),eF (rA rC (xl:Nat)),fun u w'=>Rd w' u (bvs H1),eF (.agg #[rA rC lv,rA rC ow,.map (some ob),.map (some sb)]),eF (rA rC (x:Nat)),eF (rA rC (xr:Nat)),fun u w'=>Rd w' u (bvs H2),fun t w'=>∃u,t=.tuple #[u,rA .u8 0]∧Rd w' u (bvs C),fun t w'=>∃u,t=.tuple #[u,rA .u8 0]∧Rd w' u (bvs C),fun u w'=>Rd w' u (bvs C),eF (rA .u8 0),fun u w'=>Rd w' u (bvs C)] (by kernel_rfl) (by kernel_rfl) (by kernel_rfl)
    (kE (kE (kE (kE (bX (fun v x y h Y=>Rd.below h Y lR) (kE (kE (kE (bX (fun v x y h Y=>Rd.below h Y lR) (bX (fun v x y h Y=>let⟨u,e,k⟩:=h;⟨u,e,Rd.below k Y lR⟩) (bX (fun v x y h Y=>let⟨u,e,k⟩:=h;⟨u,e,Rd.below k Y lR⟩) (bX (fun v x y h Y=>Rd.below h Y lR) (kE (bX (fun v x y h Y=>Rd.below h Y lR) Ah)))))))))))))) ?_ ?_
   ·refine gB ?_ (gB ?_ (gQ ?_ (gB ?_ (gB ?_ (gB ?_ (gQ ?_ (gB ?_ (gB ?_ (gB ?_ (gB ?_ (gB ?_ (gB ?_ (gB ?_ .nil)))))))))))));all_goals
     intro a M D ho hf;refine⟨rfl,?_⟩;intro K E;try have b8:a.tmps[1]?.getD undef=rA rC (x:Nat):=ho 1 (by kernel_rfl)
     try have bM:a.tmps[2]?.getD undef=rB (some ⟨p,0,rF⟩):=ho 2 (by kernel_rfl)
     try have b2:a.tmps[5]?.getD undef=rB (some ⟨p+1,0,rF⟩):=ho 5 (by kernel_rfl)
     try have cE:=eqn hf.1
     try have cF:=eqn hf.2.1
     try have cC:=eqn hf.2.2.1
     try(refine Hd ?_;go_simp;exact E _ rfl)
    ·exact wp_load_row 52 (.tmp 5) rfl _ (evs b2) _ _ (0,0) _ (g.out.below D g.out.lt) underlying52 rfl (by kernel_rfl) (E _ _ rfl bR)
    ·exact wp_load_row 101 (.tmp 2) rfl _ (evs bM) _ _ (0,0) _ (J.out.below D J.out.lt) underlying101 rfl (by kernel_rfl) (E _ _ rfl bR)
    ·go_simp;refine(bS.out M).mono ?_;rintro e w2 ⟨rfl,rfl⟩;exact E _ _ rfl bR
    ·go_simp;refine(b3.out M (b.out.trans (D.mono b.out.size))).mono ?_;rintro e w2 ⟨u,rfl,a0,X⟩;exact E _ _ a0 X
    ·exact wp_load_row 101 (.tmp 2) rfl _ (evs bM) _ _ (0,0) _ (J.out.below D J.out.lt) underlying101 rfl (by kernel_rfl) (E _ _ rfl bR)
    ·go_simp;refine(b4.out M).mono ?_;rintro e w2 ⟨rfl,rfl⟩;exact E _ _ rfl bR
    ·go_simp;refine(b6.out M (b.out.trans (D.mono b.out.size))).mono ?_;rintro e w2 ⟨u,rfl,a0,X⟩;exact E _ _ a0 X
    ·have o1:Rd M (a.tmps[37]?.getD undef) (bvs H1):=hf.2.1;have o2:Rd M (a.tmps[41]?.getD undef) (bvs H2):=hf.2.2.1;obtain⟨v1,A⟩:=eX (a.tmps[37]?.getD undef);obtain⟨v2,aM⟩:=eX (a.tmps[41]?.getD undef);rw[←A]at o1;rw[←aM]at o2;have e1:=A.symm;have e2:=aM.symm;clear A aM;go_simp;refine(bV.out M D v1 v2 o1 o2).mono ?_;rintro e w2 ⟨X,u,rfl,a3⟩;exact E _ _ ⟨_,rfl,a3.rd⟩ X
    ·have o0:∃u,a.tmps[42]?.getD undef=.tuple #[u,rA .u8 0]∧Rd M u (bvs C):=hf.1;obtain⟨u,e0,o1⟩:=o0;go_simp;exact E _ _ ⟨_,rfl,o1⟩ bR
    ·have o0:∃u,a.tmps[32]?.getD undef=.tuple #[u,rA .u8 0]∧Rd M u (bvs C):=hf.1;obtain⟨u,e0,o1⟩:=o0;go_simp;exact E _ _ o1 bR
    ·have o0:∃u,a.tmps[32]?.getD undef=.tuple #[u,rA .u8 0]∧Rd M u (bvs C):=hf.1;obtain⟨u,e0,o1⟩:=o0;go_simp;exact E _ _ rfl bR
    ·have o0:Rd M (a.tmps[43]?.getD undef) (bvs C):=hf.1;obtain⟨v1,A⟩:=eX (a.tmps[43]?.getD undef);rw[←A]at o0;have e1:=A.symm;clear A;go_simp;exact E _ _ o0 bR
   ·rintro f Z q aK;have S7:Rd Z (f 7) (bvs C):=aK.2.2.2.2.2.2.2.2.2.2.2.2.2.1;clear aK;simp only[Am,Az,Ex,List.filterMap_cons,List.filterMap_nil,List.contains_cons,List.contains_nil,Nat.reduceBEq,Nat.reduceAdd,Bool.or_false,Bool.or_true,cond_true,cond_false];obtain⟨u,hu⟩:=eX (f 7);rw[←hu]at S7⊢;clear hu;obtain⟨q1,q2,q3,rfl⟩:∃a n c,u=.slice a n c:=(by obtain⟨a,c,e,-⟩:=S7;exact⟨_,_,_,e⟩);have aR:=Hd S7;have l:=Hd (b.out.trans (q.mono b.out.size));clear S7 q;go_wp2_with fail;have N:=Hd (show Rd (Z.alloc (.cells #[q9 q1 q2 q3] 28)) (q9 q1 q2 q3) (bvs C)from aR.out.alloc _);have aO:=Hd (Kv Z.heap.size (q9 q1 q2 q3) C (Z.alloc (.cells #[q9 q1 q2 q3] 28)) (Ar rfl) (by simp) N.out aE.out aA.out);refine(aO.out).mono ?_;rintro e w5 ⟨b5,rfl,-,-,r,Q⟩;have S:=Hd r;have aZ:=Hd ((l.out.alloc l.out.size _).trans (Q.mono (by have:=l.out.size;simp;omega)));clear r Q;go_wp2_with fail;go_ret;exact⟨_,rfl,by rw[aH.out];exact S.out,aZ.out⟩
theorem Zgn (F:Int→Option NodeD)(H:Int→Option (List Nat))(hP:PieceOk F H)(hC:PieceCov F H):∀k,Zgm F H k:=by
 intro k
 induction k with
 |zero=>exact Rf F H hP hC 0 fun j h=>by cases h
 |succ k ih=>exact Rf F H hP hC (k+1) fun j h=>by cases h;exact ih
end Go.Proofs.YtfofaiommeckbaaGreat
namespace Go.Proofs.YtfofaiommeckbaaGreat
open Go.RowKit WalkM WireM
theorem Vx {s:SparseD} {only:Bool}(h:Ay s only=true):PieceCov (Ag s.op) (Ax s.sh):=by
 unfold Ay at h;simp only[Bool.and_eq_true]at h;obtain⟨⟨⟨⟨A,C⟩,f⟩,m⟩,⟨hk,b⟩,a⟩:=h;have b:=of_decide_eq_true b;have a:=of_decide_eq_true a;simp only[Zt]at b a;generalize Ac (Ag s.op) (aX s.leaves.toNat) s.own.toNat only (aX s.leaves.toNat)=out at b a;have p:∀y:Int,y∈out↔(Ag s.op y).isSome=true:=fun y=>by
  rw[←Nm,b];exact((fF _ _).mem_iff).symm
 have u:∀y:Int,y∈Dq out↔(Ax s.sh y).isSome=true:=fun y=>by
  rw[←Jg,a];exact((fF _ _).mem_iff).symm
 have g:∀(x y:Nat),(x:Int)∈out→((y:Int)∈Jr out (x:Int)∨(y:Int)∈out)→Zma (Ag s.op) (Ax s.sh) y:=by
  intro x y hx c;rcases c with c|c
  ·right
   have o:(y:Int)∈Dq out:=List.mem_flatMap.2 ⟨_,hx,c⟩;rw[u]at o;obtain⟨L,n⟩:=Option.isSome_iff_exists.1 o;have:=of_decide_eq_true (List.all_eq_true.1 m _ (Ij n));unfold Ev;rw[n];exact this
  ·left
   exact(p _).1 c
 refine⟨fun x d e q l=> ?_,fun x d e q j=> ?_,fun k x d e v hx=> ?_⟩
 ·exact(Ox (List.all_eq_true.1 f _ (Br e))).2.2.1 ⟨by show(x:Int)%2=0;omega,l⟩
 ·exact(Ox (List.all_eq_true.1 f _ (Br e))).2.2.2.1 ⟨by show(x:Int)%2=1;omega,j⟩
 ·obtain⟨z,w,t,r,B⟩:=kids_lev hx v;have i:(x:Int)∈out:=(p _).2 (by rw[e];rfl);refine⟨g x _ i ?_,g x _ i ?_⟩
  ·by_cases hm:((x-2^k:Nat):Int)∈out
   ·exact .inr hm
   ·left
    unfold Jr;rw[eY]
    left
    rw[z,if_pos ⟨iM _,hm⟩];exact List.mem_singleton.2 rfl
  ·by_cases hm:((x+2^k:Nat):Int)∈out
   ·exact .inr hm
   ·left
    unfold Jr;rw[eY]
    right
    rw[w,if_pos ⟨iM _,hm⟩];exact List.mem_singleton.2 rfl
open Go.Maps ShaM
def Ir (s:SparseD):List Nat:=Gk (Ag s.op) (Ax s.sh) (aX s.leaves.toNat) (2^aX s.leaves.toNat-1)
end Go.Proofs.YtfofaiommeckbaaGreat
namespace Go.Proofs.YtfofaiommeckbaaGreat
open Go.RowKit Go.Maps WalkM WireM
section
section
variable {F:Int→Option NodeD} {k x:Nat} {d:NodeD}
end
end
end Go.Proofs.YtfofaiommeckbaaGreat
