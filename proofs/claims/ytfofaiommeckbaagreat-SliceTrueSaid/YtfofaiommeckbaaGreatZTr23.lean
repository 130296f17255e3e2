import Derived.Test.YtfofaiommeckbaaGreatZTr16
import Derived.Test.YtfofaiommeckbaaGreatZTr19
open Go.Obj renaming cells -> rK
open Go.Ending renaming returned -> rM
open Go.Value renaming slice -> rD, int -> rE, pointer -> rF
open Go.IntKind renaming i64 -> rG, u8 -> rH
open Option renaming none -> rJ
open Go.Proofs.Tryz
open List renaming length_append -> aD, length_cons -> dB, length_nil -> bU, mem_append -> dZ, mem_cons -> aB, not_mem_nil -> dC, getElem?_toArray -> bY, getElem?_cons_zero -> bZ, getElem?_cons_succ -> cA, filterMap_cons -> dG, filterMap_nil -> dH, contains_cons -> dJ, contains_nil -> dK, mergeSort_perm -> fV, getD_eq_getElem?_getD -> aE
open Nat renaming two_pow_pos -> fK, le_succ -> gJ, le_trans -> eN, pow_succ -> aN, log2 -> aY, pow_le_pow_right -> aZ, zero_le -> aI
open Int renaming tmod -> eL, tmod_eq_emod_of_nonneg -> eM, toNat_natCast -> cD, natCast_nonneg -> iH
open Bool renaming or_false -> dO, or_true -> dP, and_eq_true -> cK
set_option linter.unusedVariables false
set_option maxRecDepth 100000
set_option maxHeartbeats 40000000
namespace Go.Proofs.YtfofaiommeckbaaGreat
open Go.RowKit WalkM ShaM WireM
section
mutual
def Zb8 (F:Int->Option NodeD)(H:Int->Option (List Nat)):Nat->Nat->NodeD->List Nat
 |0,x,d=>([1]++beN 4 (x/2))++Bk d
 |k+1,x,d=>([2]++Bk d)++(Ba (Fz F H k (x-2^k))++Ba (Fz F H k (x+2^k)))
def Fz (F:Int->Option NodeD)(H:Int->Option (List Nat)):Nat->Nat->List Nat
 |0,x=>match F (x:Int)with
  |none=>Es H x
  |some d=>shaF (([1]++beN 4 (x/2))++Bk d)
 |k+1,x=>match F (x:Int)with
  |none=>Es H x
  |some d=>shaF (([2]++Bk d)++(Ba (Fz F H k (x-2^k))++Ba (Fz F H k (x+2^k))))
end
section
variable {F:Int->Option NodeD} {H:Int->Option (List Nat)} {k x:Nat} {d:NodeD}
theorem Gr (h:F (x:Int)=none):Fz F H k x=Es H x:=by cases k<;>simp only[Fz,h]
theorem Ex (h:F (x:Int)=some d):Fz F H k x=shaF (Zb8 F H k x d):=by cases k<;>simp only[Fz,Zb8,h]
theorem Kl:Zb8 F H 0 x d=([1]++beN 4 (x/2))++Bk d:=by simp only[Zb8]
theorem Km:Zb8 F H (k+1) x d=([2]++Bk d)++(Ba (Fz F H k (x-2^k))++Ba (Fz F H k (x+2^k))):=by simp only[Zb8]
theorem Se (h:PieceOk F H)(x:Nat):∀y∈Es H x,y<256:=by
 unfold Es;cases e:H (x:Int)with
 |none=>intro y hy;simp at hy
 |some L=>exact(h.hash _ _ e).2
theorem Sf (h:PieceOk F H):∀y∈Fz F H k x,y<256:=by
 cases e:F (x:Int)with
 |none=>rw[Gr e];exact Se h x
 |some d=>rw[Ex e];exact Zep _
theorem Mw (h:PieceOk F H):(Fz F H k x).length<=32:=by
 cases e:F (x:Int)with
 |none=>rw[Gr e];exact Hv h x
 |some d=>rw[Ex e,Ii];exact lR
def Zmd (F:Int->Option NodeD)(H:Int->Option (List Nat))(x:Nat):Prop:=(F (x:Int)).isSome=true\/(Es H x).length=32
theorem Zaf (h:Zmd F H x):(Fz F H k x).length=32:=by
 cases e:F (x:Int)with
 | none => rw[Gr e];rcases h with h|h; · rw[e]at h;cases h
           ·exact h
 |some d=>rw[Ex e];exact Ii _
theorem Zja (h:PieceOk F H)(a:F (x:Int)=some d):(Zb8 F H k x d).length<=8000:=by
 have c:=Cz (h.ok _ _ a).2.1;cases k with
 |zero=>rw[Kl];simp only[aD,dB,bU,beN_len];omega
 |succ k=>
  rw[Km];have b:=Mw (k:=k) (x:=x-2^k) h;have h2:=Mw (k:=k) (x:=x+2^k) h;have e:=Bg (Fz F H k (x-2^k)) (by omega);have f:=Bg (Fz F H k (x+2^k)) (by omega);simp only[aD,dB,bU];omega
theorem Zlw (h:PieceOk F H)(e:F (x:Int)=some d):∀y∈Zb8 F H k x d,y<256:=by
 obtain⟨c,h2,-⟩:=h.ok _ _ e;have b:=Mn c h2;intro y a;cases k with
 |zero=>
  rw[Kl]at a;simp only[dZ,aB,dC,or_false]at a;rcases a with(rfl|a)|a
  ·omega
  ·exact beN_lt _ _ y a
  ·exact b y a
 |succ k=>
  rw[Km]at a;simp only[dZ,aB,dC,or_false]at a;rcases a with(rfl|a)|a|a
  ·omega
  ·exact b y a
  ·exact Ft (by have:=Mw (k:=k) (x:=x-2^k) h;omega) (Sf h) y a
  ·exact Ft (by have:=Mw (k:=k) (x:=x+2^k) h;omega) (Sf h) y a
structure PieceCov (F:Int->Option NodeD) (H:Int->Option (List Nat)):Prop where
 even:∀(x:Nat) d,F (x:Int)=some d->x%2=0->d.kind≠2
 odd:∀(x:Nat) d,F (x:Int)=some d->x%2=1->d.kind≠1
 kids:∀(k x:Nat) d,F (x:Int)=some d->IsLev x (k+1)->x<=131070->Zmd F H (x-2^k)/\Zmd F H (x+2^k)
end
end
open Go.Maps
def Zfn (F:Int->Option NodeD)(H:Int->Option (List Nat))(k:Nat):Prop:=
 ∀(x:Nat) (lv ow:Int) (ob sb nb mb:Nat) (G G':Int->Option Value) (w:World),IsLev x k->x+2^k<=131071->MapF w ob nb G->NodesG w G F->MapF w sb mb G'->RunsH w G' H->
  Calls prog 90 #[.agg #[rE rG lv,rE rG ow,.map (some ob),.map (some sb)],rE rG (x:Nat)] w fun e w'=>∃v',e=rM v'/\Rd w' v' (bvs (Fz F H k x))/\Below w.heap.size w w'
theorem Qi (F:Int->Option NodeD)(H:Int->Option (List Nat))(hP:PieceOk F H)(hC:PieceCov F H)(k:Nat)(IH:∀j,k=j+1->Zfn F H j):Zfn F H k:=by
 intro x lv ow ob sb nb mb G G' w hl hx hm hg aW aU;obtain⟨hv,hs⟩:=hg.val (x:Int);have X:=hg.one (x:Int);have z:=fun d (h:F (x:Int)=some d)=>(hg.some h).2;obtain⟨c0,c1,c2,c3,c4,c5,c6,c7,c8,c9,hc⟩:=hg.ten (x:Int);rw[hc]at hv X z;have b6:=fK k;have a1:inI (x:Int):=(by unfold inI;omega);have RG:=fun(W:World) (i:Below w.heap.size w W)=>MapF.run_getOk (T:=98) (hm.below i lR) underlying98 (Fg W) a1;rw[hv,hs]at RG;have aR:=fun(W:World) (i:Below w.heap.size w W)=>MapF.run_get (T:=99) (aW.below i lR) underlying99 (zeroValue28 W) a1;have RU:=Zaa aU x;obtain⟨u0,bJ⟩:=eX ((G' (x:Int)).getD (rD rJ 0 0));rw[<-bJ]at aR RU;have bI:=Hv hP x;have PN:=fun(h:F (x:Int)=none)=>Gr (H:=H) (k:=k) h;obtain⟨L,hL⟩:=eX (Es H x);rw[<-hL]at RU bI PN;have CL:=fun(W:World) (i:Below w.heap.size w W)=>Ck u0 L W (RU.below i lR) (by omega);have KD:=fun(W:World) (i:Below w.heap.size w W)=>(show MapF W ob nb G/\NodesG W G F/\MapF W sb mb G'/\RunsH W G' H from⟨hm.below i lR,hg.below i lR,aW.below i lR,aU.below i lR⟩);obtain⟨p,hp⟩:=eX w.heap.size;have HP:=Hd hp;have a3:=Hd X;have bO:=Hd CL;have bV:=Hd PN;have b1:=Hd z;have o:=Hd KD;have a6:=RG _ ((Below.refl w.heap.size w).alloc lR (rK #[rE rG lv,rE rG ow,.map (some ob),.map (some sb)] 101));have a4:=Hd aR;have aO:=Hd (show Blk (w.alloc (rK #[rE rG lv,rE rG ow,.map (some ob),.map (some sb)] 101)) w.heap.size 101 #[rE rG lv,rE rG ow,.map (some ob),.map (some sb)]from Blk.new _ _ _);have aL:=Hd ((Below.refl w.heap.size w).alloc lR (rK #[rE rG lv,rE rG ow,.map (some ob),.map (some sb)] 101));have p2:=(aO.out).cell 2;simp only[bY,bZ,cA]at p2;obtain⟨is,aV⟩:=eX ((F (x:Int)).isSome);rw[<-aV]at a6;have a2:=Hd aV;have HX:=Hd hx;have aA:=Hd hl;clear RG aR RU hm hg aW aU hv hs hc aV hp X bI PN hL z bJ a1 hx hl b6 CL KD;go_in;go_wp2_with (refine Aa rfl 52 (.tmp 5) (.tmp 13) rfl (w.heap.size+1) #[c0,c1,c2,c3,c4,c5,c6,c7,c8,c9] rfl rfl 52 #[rE rH 0,rD rJ 0 0,rD rJ 0 0,rD rJ 0 0,rE rH 0,rD rJ 0 0,rD rJ 0 0,rD rJ 0 0,rD rJ 0 0,rD rJ 0 0] (by have h1:=Blk.new (w.alloc (rK #[rE rG lv,rE rG ow,.map (some ob),.map (some sb)] 101)) 52 #[rE rH 0,rD rJ 0 0,rD rJ 0 0,rD rJ 0 0,rE rH 0,rD rJ 0 0,rD rJ 0 0,rD rJ 0 0,rD rJ 0 0,rD rJ 0 0];simpa using h1) (by kernel_rfl) rfl a3.out ?_);rintro w3 U a9 aK aZ;have b:=Hd ((aL.out.alloc aL.out.size (rK #[rE rH 0,rD rJ 0 0,rD rJ 0 0,rD rJ 0 0,rE rH 0,rD rJ 0 0,rD rJ 0 0,rD rJ 0 0,rD rJ 0 0,rD rJ 0 0] 52)).trans (a9 w.heap.size (gJ _)));have D:=Hd (show Blk w3 w.heap.size 101 #[rE rG lv,rE rG ow,.map (some ob),.map (some sb)]from(aK w.heap.size (by omega)).trans (aO.out.alloc _));rw[<-HP.out]at D U|-;have g:=Hd U;have cC:=Hd (show w.heap.size=p from HP.out.symm);clear U a9 aK aZ a6 p2 aL aO;cases is with
 |false=>
  have E:F (x:Int)=none:=by have:=a2.out;cases e:F (x:Int)with
   |none=>rfl
   |some d=>rw[e]at this;cases this
  have HQ:=Hd (bV.out E);have p3:=D.out.cell 3;simp only[bY,bZ,cA]at p3;have rg:=a4.out w3 b.out;clear E;go_wp2_with fail;refine(bO.out w3 b.out).mono ?_;rintro e w4 ⟨v4,rfl,bF,q⟩;have bU:=Hd bF;have l:=Hd (b.out.trans (q.mono b.out.size));clear bF q p3 rg;go_wp2_with fail;go_ret;exact⟨_,rfl,by rw[HQ.out];exact bU.out.rd,l.out⟩
 |true=>
  obtain⟨d,E⟩:∃d,F (x:Int)=some d:=Option.isSome_iff_exists.1 a2.out.symm;have aF:=b1.out d E;obtain⟨aG,aH,hr⟩:=hP.ok _ _ E;have Z:=Hd (Ex (H:=H) (k:=k) E);have aC:=Hd (show(Zb8 F H k x d).length<=1000000 from eN (Zja hP E) (by omega));have aB:=Hd (Zlw (k:=k) hP E);have k0:=g.out.cell 0;have k1:=g.out.cell 1;have k2:=g.out.cell 2;have k3:=g.out.cell 3;have k4:=g.out.cell 4;have k5:=g.out.cell 5;have k6:=g.out.cell 6;have k7:=g.out.cell 7;have k8:=g.out.cell 8;have k9:=g.out.cell 9;simp only[bY,bZ,cA]at k0 k1 k2 k3 k4 k5 k6 k7 k8 k9;cases k with
  |zero=>
   have V:x%2=0:=Hh aA.out;have bB:=hC.even _ _ E V;have bE:eL (x:Int) 2=0:=(by rw[eM (by omega)];omega);have aX:(x:Int)%2=0:=(by omega);obtain⟨m,bD⟩:=eX (x/2);have hq:(x:Int)/2=(m:Int):=(by omega);have cF:Int.tdiv (x:Int) 2=(m:Int):=(by rw[Int.tdiv_eq_ediv_of_nonneg (by omega)];omega);have b7:=HX.out;have cG:wrap64 ((m:Nat):Int)=(m:Int):=(by have:m<=65536:=(by omega);unfold wrap64;omega);have LT:=Ll ((m:Nat):Int) d _ w3 (aF.below b.out lR) aG aH;have bC:ltF ((m:Nat):Int) d=(Zb8 F H 0 x d,0):=by
    rw[ltF,iN (by omega),iN (by rw[hr];simp[bB]),cD,Kl,<-bD]
   unfold Wb at LT;rw[bC]at LT;obtain⟨C,P⟩:=eX (Zb8 F H 0 x d);rw[<-P]at LT aC aB Z;have bT:=Hd LT;clear LT bC P b7 bD bB V E aF aG aH hr;go_wp2_with fail;refine(bT.out).mono ?_;rintro e w4 ⟨q,v4,rfl,s⟩;obtain⟨q1,q2,q3,rfl⟩:=Dr s;have aP:=Hd s.rd;have l:=Hd (b.out.trans (q.mono b.out.size));clear q s k0 k1 k2 k3 k4 k5 k6 k7 k8 k9;go_wp2_with fail;have N:=Hd (show Rd (w4.alloc (rK #[rD q1 q2 q3] 28)) (rD q1 q2 q3) (bvs C)from aP.out.alloc _);have aQ:=Hd (Jv w4.heap.size (rD q1 q2 q3) C (w4.alloc (rK #[rD q1 q2 q3] 28)) (Bi rfl) (by simp) N.out aB.out aC.out);refine(aQ.out).mono ?_;rintro e w5 ⟨b5,rfl,-,-,r,S⟩;have M:=Hd r;have aM:=Hd ((l.out.alloc l.out.size _).trans (S.mono (by have:=l.out.size;simp;omega)));clear r S;go_wp2_with fail;go_ret;exact⟨_,rfl,by rw[Z.out];exact M.out,aM.out⟩
  |succ j=>
   have aJ:x%2=1:=Fn aA.out;have bA:=hC.odd _ _ E aJ;have bE:eL (x:Int) 2=1:=(by rw[eM (by omega)];omega);have aX:(x:Int)%2=1:=(by omega);have b4:=fK j;have b3:2^(j+1)=2*2^j:=(by rw[aN];omega);have hX:=HX.out;have B:x<=131070:=(by omega);obtain⟨kl,kr,bM,bN,kx⟩:=kids_lev B aA.out;obtain⟨a7,a8⟩:=hC.kids j x d E aA.out B;have aD:=fun(W:World)=>Gb (x:Int) W;have aE:=fun(W:World)=>Ev (x:Int) W;rw[kl]at aD;rw[kr]at aE;have I1:=fun(W:World) (i:Below w.heap.size w W)=>IH j rfl (x-2^j) lv ow ob sb nb mb G G' W bM (by omega) (o.out W i).1 (o.out W i).2.1 (o.out W i).2.2.1 (o.out W i).2.2.2;have I2:=fun(W:World) (i:Below w.heap.size w W)=>IH j rfl (x+2^j) lv ow ob sb nb mb G G' W bN (by omega) (o.out W i).1 (o.out W i).2.1 (o.out W i).2.2.1 (o.out W i).2.2.2;have L1:=Zaf (k:=j) a7;have L2:=Zaf (k:=j) a8;have TE:=Km (F:=F) (H:=H) (k:=j) (x:=x) (d:=d);obtain⟨H1,aS⟩:=eX (Fz F H j (x-2^j));obtain⟨H2,aT⟩:=eX (Fz F H j (x+2^j));rw[<-aS]at I1 L1;rw[<-aT]at I2 L2;rw[<-aS,<-aT]at TE;have O:=fun(W:World) (i:Below w3.heap.size w3 W) (vl vr:Value) (r1:Rd W vl (bvs H1)) (r2:Rd W vr (bvs H2))=>It d _ vl vr H1 H2 W ((aF.below b.out lR).below i lR) aG aH r1 r2;have bH:ptF d H1 H2=(Zb8 F H (j+1) x d,0):=by
    rw[ptF,iN (by rw[hr];simp[bA]),iN (by omega),TE];simp
   unfold Wb at O;rw[bH]at O;obtain⟨C,P⟩:=eX (Zb8 F H (j+1) x d);rw[<-P]at O aC aB Z;obtain⟨xl,bK⟩:=eX (x-2^j);obtain⟨xr,bL⟩:=eX (x+2^j);rw[<-bK]at I1 aD;rw[<-bL]at I2 aE;have bP:=Hd I1;have bQ:=Hd I2;have bS:=Hd aD;have b0:=Hd aE;have bW:=Hd O;clear I1 I2 aD aE O bH P TE L1 L2 aS aT kl kr bM bN kx a7 a8 bK bL hX B aJ b3 b4 bA E aF aG aH hr k0 k1 k2 k3 k4 k5 k6 k7 k8 k9;go_wp2_with fail;refine Cx [eF (.agg #[c0,c1,c2,c3,c4,c5,c6,c7,c8,c9]),eF (.agg #[rE rG lv,rE rG ow,.map (some ob),.map (some sb)]),eF (rE rG (x:Nat)),eF (rE rG (xl:Nat)),fun u w'=>Rd w' u (bvs H1),eF (.agg #[rE rG lv,rE rG ow,.map (some ob),.map (some sb)]),eF (rE rG (x:Nat)),eF (rE rG (xr:Nat)),fun u w'=>Rd w' u (bvs H2),fun t w'=>∃u,t=.tuple #[u,rE rH 0]/\Rd w' u (bvs C),fun t w'=>∃u,t=.tuple #[u,rE rH 0]/\Rd w' u (bvs C),fun u w'=>Rd w' u (bvs C),eF (rE rH 0),fun u w'=>Rd w' u (bvs C)] (by kernel_rfl) (by kernel_rfl) (by kernel_rfl)
    (kE (kE (kE (kE (bX (fun v x y h Q=>Rd.below h Q lR) (kE (kE (kE (bX (fun v x y h Q=>Rd.below h Q lR) (bX (fun v x y h Q=>let⟨u,e,k⟩:=h;⟨u,e,Rd.below k Q lR⟩) (bX (fun v x y h Q=>let⟨u,e,k⟩:=h;⟨u,e,Rd.below k Q lR⟩) (bX (fun v x y h Q=>Rd.below h Q lR) (kE (bX (fun v x y h Q=>Rd.below h Q lR) Ae)))))))))))))) ?_ ?_
   ·refine gB ?_ (gB ?_ (gQ ?_ (gB ?_ (gB ?_ (gB ?_ (gQ ?_ (gB ?_ (gB ?_ (gB ?_ (gB ?_ (gB ?_ (gB ?_ (gB ?_ .nil)))))))))))));all_goals
     intro a Y J ho hf;refine⟨rfl,?_⟩;intro K I;try have cE:a.tmps[1]?.getD undef=rE rG (x:Nat):=ho 1 (by kernel_rfl)
     try have a5:a.tmps[2]?.getD undef=rF (some ⟨p,0,rJ⟩):=ho 2 (by kernel_rfl)
     try have b2:a.tmps[5]?.getD undef=rF (some ⟨p+1,0,rJ⟩):=ho 5 (by kernel_rfl)
     try have b8:=eqn hf.1
     try have b9:=eqn hf.2.1
     try have cB:=eqn hf.2.2.1
     try(refine Hd ?_;go_simp;exact I _ rfl)
    ·exact wp_load_row 52 (.tmp 5) rfl _ (evs b2) _ _ (0,0) _ (g.out.below J g.out.lt) underlying52 rfl (by kernel_rfl) (I _ _ rfl bR)
    ·exact wp_load_row 101 (.tmp 2) rfl _ (evs a5) _ _ (0,0) _ (D.out.below J D.out.lt) underlying101 rfl (by kernel_rfl) (I _ _ rfl bR)
    ·go_simp;refine(bS.out Y).mono ?_;rintro e w2 ⟨rfl,rfl⟩;exact I _ _ rfl bR
    ·go_simp;refine(bP.out Y (b.out.trans (J.mono b.out.size))).mono ?_;rintro e w2 ⟨u,rfl,aY,R⟩;exact I _ _ aY R
    ·exact wp_load_row 101 (.tmp 2) rfl _ (evs a5) _ _ (0,0) _ (D.out.below J D.out.lt) underlying101 rfl (by kernel_rfl) (I _ _ rfl bR)
    ·go_simp;refine(b0.out Y).mono ?_;rintro e w2 ⟨rfl,rfl⟩;exact I _ _ rfl bR
    ·go_simp;refine(bQ.out Y (b.out.trans (J.mono b.out.size))).mono ?_;rintro e w2 ⟨u,rfl,aY,R⟩;exact I _ _ aY R
    ·have o1:Rd Y (a.tmps[37]?.getD undef) (bvs H1):=hf.2.1;have o2:Rd Y (a.tmps[41]?.getD undef) (bvs H2):=hf.2.2.1;obtain⟨v1,A⟩:=eX (a.tmps[37]?.getD undef);obtain⟨v2,a0⟩:=eX (a.tmps[41]?.getD undef);rw[<-A]at o1;rw[<-a0]at o2;have e1:=A.symm;have e2:=a0.symm;clear A a0;go_simp;refine(bW.out Y J v1 v2 o1 o2).mono ?_;rintro e w2 ⟨R,u,rfl,bG⟩;exact I _ _ ⟨_,rfl,bG.rd⟩ R
    ·have o0:∃u,a.tmps[42]?.getD undef=.tuple #[u,rE rH 0]/\Rd Y u (bvs C):=hf.1;obtain⟨u,e0,o1⟩:=o0;go_simp;exact I _ _ ⟨_,rfl,o1⟩ bR
    ·have o0:∃u,a.tmps[32]?.getD undef=.tuple #[u,rE rH 0]/\Rd Y u (bvs C):=hf.1;obtain⟨u,e0,o1⟩:=o0;go_simp;exact I _ _ o1 bR
    ·have o0:∃u,a.tmps[32]?.getD undef=.tuple #[u,rE rH 0]/\Rd Y u (bvs C):=hf.1;obtain⟨u,e0,o1⟩:=o0;go_simp;exact I _ _ rfl bR
    ·have o0:Rd Y (a.tmps[43]?.getD undef) (bvs C):=hf.1;obtain⟨v1,A⟩:=eX (a.tmps[43]?.getD undef);rw[<-A]at o0;have e1:=A.symm;clear A;go_simp;exact I _ _ o0 bR
   ·rintro f w4 q aI;have S7:Rd w4 (f 7) (bvs C):=aI.2.2.2.2.2.2.2.2.2.2.2.2.2.1;clear aI;simp only[Ak,At,Ei,dG,dH,dJ,dK,Nat.reduceBEq,Nat.reduceAdd,dO,dP,cond_true,cond_false];obtain⟨u,hu⟩:=eX (f 7);rw[<-hu]at S7|-;clear hu;obtain⟨q1,q2,q3,rfl⟩:∃a n c,u=.slice a n c:=(by obtain⟨a,c,e,-⟩:=S7;exact⟨_,_,_,e⟩);have aP:=Hd S7;have l:=Hd (b.out.trans (q.mono b.out.size));clear S7 q;go_wp2_with fail;have N:=Hd (show Rd (w4.alloc (rK #[rD q1 q2 q3] 28)) (rD q1 q2 q3) (bvs C)from aP.out.alloc _);have aQ:=Hd (Jv w4.heap.size (rD q1 q2 q3) C (w4.alloc (rK #[rD q1 q2 q3] 28)) (Bi rfl) (by simp) N.out aB.out aC.out);refine(aQ.out).mono ?_;rintro e w5 ⟨b5,rfl,-,-,r,S⟩;have M:=Hd r;have aM:=Hd ((l.out.alloc l.out.size _).trans (S.mono (by have:=l.out.size;simp;omega)));clear r S;go_wp2_with fail;go_ret;exact⟨_,rfl,by rw[Z.out];exact M.out,aM.out⟩
theorem Ux (F:Int->Option NodeD)(H:Int->Option (List Nat))(hP:PieceOk F H)(hC:PieceCov F H):∀k,Zfn F H k:=by
 intro k
 induction k with
 |zero=>exact Qi F H hP hC 0 fun j h=>by cases h
 |succ k ih=>exact Qi F H hP hC (k+1) fun j h=>by cases h;exact ih
end Go.Proofs.YtfofaiommeckbaaGreat
namespace Go.Proofs.YtfofaiommeckbaaGreat
open Go.RowKit WalkM WireM
theorem Of {s:SparseD} {only:Bool}(h:Ah s only=true):PieceCov (Aj s.op) (Ay s.sh):=by
 unfold Ah at h;simp only[cK]at h;obtain⟨⟨⟨⟨A,B⟩,e⟩,m⟩,⟨hk,a⟩,b⟩:=h;have a:=oD a;have b:=oD b;simp only[Zo]at a b;generalize Dq (Aj s.op) (aY s.leaves.toNat) s.own.toNat only (aY s.leaves.toNat)=out at a b;have p:∀y:Int,y∈out↔(Aj s.op y).isSome=true:=fun y=>by
  rw[<-Ki,a];exact((fV _ _).mem_iff).symm
 have z:∀y:Int,y∈Hk out↔(Ay s.sh y).isSome=true:=fun y=>by
  rw[<-Gp,b];exact((fV _ _).mem_iff).symm
 have i:∀(x y:Nat),(x:Int)∈out->((y:Int)∈Lq out (x:Int)\/(y:Int)∈out)->Zmd (Aj s.op) (Ay s.sh) y:=by
  intro x y hx g;rcases g with g|g
  ·right
   have o:(y:Int)∈Hk out:=List.mem_flatMap.2 ⟨_,hx,g⟩;rw[z]at o;obtain⟨L,n⟩:=Option.isSome_iff_exists.1 o;have:=oD (List.all_eq_true.1 m _ (Ka n));unfold Es;rw[n];exact this
  ·left
   exact(p _).1 g
 refine⟨fun x d c q l=> ?_,fun x d c q j=> ?_,fun k x d c r hx=> ?_⟩
 ·exact(Lt (List.all_eq_true.1 e _ (Cv c))).2.2.1 ⟨by show(x:Int)%2=0;omega,l⟩
 ·exact(Lt (List.all_eq_true.1 e _ (Cv c))).2.2.2.1 ⟨by show(x:Int)%2=1;omega,j⟩
 ·obtain⟨t,u,v,w,C⟩:=kids_lev hx r;have f:(x:Int)∈out:=(p _).2 (by rw[c];rfl);refine⟨i x _ f ?_,i x _ f ?_⟩
  ·by_cases hm:((x-2^k:Nat):Int)∈out
   ·exact .inr hm
   ·left
    unfold Lq;rw[dZ]
    left
    rw[t,iP ⟨iH _,hm⟩];exact List.mem_singleton.2 rfl
  ·by_cases hm:((x+2^k:Nat):Int)∈out
   ·exact .inr hm
   ·left
    unfold Lq;rw[dZ]
    right
    rw[u,iP ⟨iH _,hm⟩];exact List.mem_singleton.2 rfl
open Go.Maps ShaM
def Fh (s:SparseD):List Nat:=Fz (Aj s.op) (Ay s.sh) (aY s.leaves.toNat) (2^aY s.leaves.toNat-1)
theorem Zb9 (v:Value)(s:SparseD)(w:World)(h:SparseR w v s)(z:SparseOk s)(hs:Bx s=true):
  Calls prog 44 #[v] w fun e w'=>(if Ah s false=true then∃v',e=rM (.tuple #[v',rE rH 0])/\Rd w' v' (bvs (Fh s))else e=rM (.tuple #[rD rJ 0 0,rE rH 3]))/\Below w.heap.size w w':=by
 have RO:=fun(W:World) (hw:Below w.heap.size w W)=>Hl v s W (h.below hw lR) z hs;obtain⟨x,hx⟩:=eX (2^aY s.leaves.toNat-1);have X:=fun(hr:Ah s false=true) (W:World)=>(show Calls prog 61 #[rE rG s.leaves] W fun e w'=>e=rM (rE rG (x:Nat))/\W=w' from by
  obtain⟨hP,d,i,Z,h1,h2,h3,h4,h5⟩:=Dy hr z hs;have aN:2^d<=65536:=eN (aZ (by omega) Z) (by decide);have:=Jf ((2^d:Nat):Int) W (by omega) (by omega);rw[Oe Z]at this;rw[hx,h4,h1];exact this)
 have Q:=fun(hr:Ah s false=true) (ob sb:Nat) (G J:Int->Option Value) (W:World) (hm:MapF W ob s.op.length G) (hg:NodesG W G (Aj s.op)) (r:MapF W sb s.sh.length J) (p:RunsH W J (Ay s.sh))=>(show Calls prog 90 #[.agg #[rE rG s.leaves,rE rG s.own,.map (some ob),.map (some sb)],rE rG (x:Nat)] W fun e w'=>∃v',e=rM v'/\Rd w' v' (bvs (Fh s))/\Below W.heap.size W w' from by
  obtain⟨hP,d,i,Z,h1,h2,h3,h4,h5⟩:=Dy hr z hs;have aN:2^d<=65536:=eN (aZ (by omega) Z) (by decide);have hp:=fK d;unfold Fh;rw[hx,h4];exact Ux _ _ hP (Of hr) d (2^d-1) s.leaves s.own ob sb _ _ G J W (Bs d) (by omega) hm hg r p)
 obtain⟨o,g,rfl,-,-⟩:=h;have t:=Zz s;obtain⟨aK,E⟩:=eX (Bt s);have H:Bt s=false->Ah s false=false:=fun e=>(by rw[<-t,okS,e];rfl);obtain⟨OK,D⟩:=eX (Ah s false);rw[<-E,<-D]at H;rw[<-D]at Q X t|-;have aF:=Hd E;have aG:=Hd H;have aD:=Hd t;have O:Hid (∀W,Below w.heap.size w W->Calls prog 88 #[.agg #[rE rG s.leaves,rE rG s.own,o,g]] W (Kh s W)):=RO;obtain⟨lv,l⟩:=eX s.leaves;obtain⟨ow,how⟩:=eX s.own;have aC:=Hd l;have aE:=Hd how;obtain⟨Y,F⟩:=eX (Fh s);rw[<-l,<-how]at O Q;rw[<-l]at X;rw[<-F]at Q;rw[<-l,<-how,<-F];have N:=Hd Q;have aI:=Hd X;have B:=Hd ((Below.refl w.heap.size w).alloc lR (rK #[rE rG lv,rE rG ow,o,g] 25));clear RO X Q z hs E D l how F H t hx;go_in;go_wp2_with fail;refine(O.out _ B.out).mono ?_;rintro e U ⟨n,m⟩;have b:=Hd (B.out.trans (n.mono B.out.size));rw[<-aF.out,<-aC.out,<-aE.out,aD.out]at m;cases aK with
 |false=>
  rw[iN (by simp)]at m;obtain rfl:=aG.out rfl;obtain rfl:=m;go_wp2_with fail;go_ret2;exact⟨rfl,b.out.alloc b.out.size _⟩
 |true=>
  rw[iP rfl]at m;obtain⟨ob,sb,rfl,aO,aP,-,G,J,hm,hg,r,p⟩:=m;cases OK with
  |false=>
   go_wp2_with fail;go_ret2;exact⟨rfl,b.out.alloc b.out.size _⟩
  |true=>
   have c:=(Below.refl U.heap.size U).alloc lR (rK #[rE rG lv,rE rG ow,.map (some ob),.map (some sb)] 101);have HM:=Hd (hm.below c lR);have M:=Hd (r.below c lR);have HG:=Hd ((hg.below n lR).below c lR);have L:=Hd ((p.below n lR).below c lR);have A:=Hd (b.out.trans (c.mono b.out.size));have V:=Hd (Blk.new U 101 #[rE rG lv,rE rG ow,.map (some ob),.map (some sb)]);have C:=Hd (N.out (by trivial));have P:=Hd (aI.out (by trivial));obtain⟨q,hq⟩:=eX U.heap.size;have aH:=Hd hq;clear n hm r hg p aO aP c hq;go_wp2_with fail;rw[<-aH.out]at V|-;generalize hw4:U.alloc (rK #[rE rG lv,rE rG ow,.map (some ob),.map (some sb)] 101)=w4 at HM M HG L A V|-;clear hw4;refine Cx [eF (.agg #[rE rG lv,rE rG ow,.map (some ob),.map (some sb)]),eF (rF (some ⟨q,0,rJ⟩)),eF (rE rG lv),eF (rE rG (x:Nat)),fun u w'=>Rd w' u (bvs Y),fun u w'=>Rd w' u (bvs Y),eF (rE rH 0)] (by kernel_rfl) (by kernel_rfl) (by kernel_rfl)
    (kE (kE (kE (kE (bX (fun v x y h hb=>Rd.below h hb lR) (bX (fun v x y h hb=>Rd.below h hb lR) (kE Ae))))))) ?_ ?_
   ·refine gB ?_ (gQ ?_ (gQ ?_ (gB ?_ (gB ?_ (gB ?_ (gQ ?_ .nil))))));all_goals
     intro a wx j ha hf;refine⟨rfl,?_⟩;intro K R;try have aL:a.tmps[4]?.getD undef=rF (some ⟨q,0,rJ⟩):=ha 4 (by kernel_rfl)
     try have aQ:=eqn hf.1
     try have aR:=eqn hf.2.1
     have T:=V.out.below j V.out.lt;try(have aA:=T.cell 0;simp only[bY,bZ]at aA)
     try(refine Hd ?_;go_simp;exact R _ rfl)
    ·exact wp_load_row 101 (.tmp 4) rfl _ (evs aL) _ _ (0,0) _ T underlying101 rfl (by kernel_rfl) (R _ _ rfl bR)
    ·go_simp;refine(P.out wx).mono ?_;rintro e w2 ⟨rfl,rfl⟩;exact R _ _ rfl bR
    ·go_simp;refine(C.out ob sb G J wx (HM.out.below j lR) (HG.out.below j lR) (M.out.below j lR) (L.out.below j lR)).mono ?_;rintro e w7 ⟨u,rfl,hu,aM⟩;exact R _ _ hu aM
    ·have o0:Rd wx (a.tmps[17]?.getD undef) (bvs Y):=hf.1;obtain⟨v1,I⟩:=eX (a.tmps[17]?.getD undef);rw[<-I]at o0;have e1:=I.symm;clear I;go_simp;exact R _ _ o0 bR
   ·rintro f w9 S k;have S2:Rd w9 (f 2) (bvs Y):=k.2.2.2.2.2.1;have S3:f 3=rE rH 0:=k.2.2.2.2.2.2.1;clear k;simp only[Ak,At,Ei,dG,dH,dJ,dK,Nat.reduceBEq,Nat.reduceAdd,dO,dP,cond_true,cond_false];rw[S3];clear S3;obtain⟨u,hu⟩:=eX (f 2);rw[<-hu]at S2|-;have aJ:=Hd S2;have aB:=Hd (A.out.trans (S.mono A.out.size));clear S2 hu S;go_wp2_with fail;go_ret2;exact⟨⟨_,rfl,aJ.out⟩,aB.out⟩
end Go.Proofs.YtfofaiommeckbaaGreat
namespace Go.Proofs.YtfofaiommeckbaaGreat
open Go.RowKit Go.Maps WalkM WireM
section
def Pc (F:Int->Option NodeD):Nat->Nat->Option (List Int)
 |0,x=>match F (x:Int)with
  |none=>none
  |some d=>if d.kind=0 then some []else some (Jo d x)
 |k+1,x=>match F (x:Int)with
  |none=>none
  |some d=>if d.kind=0 then(Pc F k (x-2^k)).bind fun a=>(Pc F k (x+2^k)).map fun b=>a++b else some (Jo d x)
section
variable {F:Int->Option NodeD} {k x:Nat} {d:NodeD}
theorem Og (h:F (x:Int)=none):Pc F k x=none:=by cases k<;>simp only[Pc,h]
theorem Hy (h:F (x:Int)=some d)(hk:d.kind≠0):Pc F k x=some (Jo d x):=by cases k<;>simp only[Pc,h,iN hk]
theorem Oh (h:F (x:Int)=some d)(hk:d.kind=0):Pc F 0 x=some []:=by simp only[Pc,h,iP hk]
theorem Oi (h:F (x:Int)=some d)(hk:d.kind=0):Pc F (k+1) x=(Pc F k (x-2^k)).bind fun a=>(Pc F k (x+2^k)).map fun b=>a++b:=by simp only[Pc,h,iP hk]
end
def Znc (R:Option (List Int))(k:Nat)(w:World)(e:Ending)(w':World):Prop:=
 ∃u L,e=rM (.tuple #[u,.bool R.isSome])/\Own w' w.heap.size 3 u (ivs .i64 L)/\(∀M,R=some M->L=M)/\L.length<=1001*2^k/\Below w.heap.size w w'
def Zm2 (F:Int->Option NodeD)(k:Nat):Prop:=
 ∀(x:Nat) (lv ow:Int) (ob sb nb:Nat) (G:Int->Option Value) (w:World),IsLev x k->x+2^k<=131071->MapF w ob nb G->NodesG w G F->
  Calls prog 99 #[.agg #[rE rG lv,rE rG ow,.map (some ob),.map (some sb)],rE rG (x:Nat)] w (Znc (Pc F k x) k w)
theorem Oj (F:Int->Option NodeD)(k:Nat)(x:Int)(g:inI x)(lv ow:Int)(ob sb B:Nat)(G:Int->Option Value)(w:World)(s:MapF w ob B G)(o:NodesG w G F)(n:F x=none):
  Calls prog 99 #[.agg #[rE rG lv,rE rG ow,.map (some ob),.map (some sb)],rE rG x] w (Znc none k w):=by
 obtain⟨r,q⟩:=o.val x;rw[(o.none n).2]at r;rw[n]at q;have l:=fun(W:World) (A:Below w.heap.size w W)=>MapF.run_getOk (T:=98) (s.below A lR) underlying98 (Fg W) g;rw[r,q]at l;obtain⟨p,t⟩:=eX w.heap.size;have y:=Hd t;have m:=l _ ((Below.refl w.heap.size w).alloc lR (rK #[rE rG lv,rE rG ow,.map (some ob),.map (some sb)] 101));have d:=Hd (show Blk (w.alloc (rK #[rE rG lv,rE rG ow,.map (some ob),.map (some sb)] 101)) w.heap.size 101 #[rE rG lv,rE rG ow,.map (some ob),.map (some sb)]from Blk.new _ _ _);have c:=Hd ((Below.refl w.heap.size w).alloc lR (rK #[rE rG lv,rE rG ow,.map (some ob),.map (some sb)] 101));have u:=(d.out).cell 2;simp only[bY,bZ,cA]at u;clear l t r q s o n g;go_in;go_wp2_with (refine Aa rfl 52 (.tmp 6) (.tmp 20) rfl (w.heap.size+1) Xh rfl rfl 52 #[rE rH 0,rD rJ 0 0,rD rJ 0 0,rD rJ 0 0,rE rH 0,rD rJ 0 0,rD rJ 0 0,rD rJ 0 0,rD rJ 0 0,rD rJ 0 0] (by have z:=Blk.new (w.alloc (rK #[rE rG lv,rE rG ow,.map (some ob),.map (some sb)] 101)) 52 #[rE rH 0,rD rJ 0 0,rD rJ 0 0,rD rJ 0 0,rE rH 0,rD rJ 0 0,rD rJ 0 0,rD rJ 0 0,rD rJ 0 0,rD rJ 0 0];simpa using z) (by kernel_rfl) rfl (by rfl) ?_);rintro C a f b e;have i:=Hd ((c.out.alloc c.out.size (rK #[rE rH 0,rD rJ 0 0,rD rJ 0 0,rD rJ 0 0,rE rH 0,rD rJ 0 0,rD rJ 0 0,rD rJ 0 0,rD rJ 0 0,rD rJ 0 0] 52)).trans (f w.heap.size (gJ _)));have j:=Hd (show Blk C w.heap.size 101 #[rE rG lv,rE rG ow,.map (some ob),.map (some sb)]from(b w.heap.size (by omega)).trans (d.out.alloc _));rw[<-y.out]at j a|-;have v:=Hd a;clear a f b e m u c d;go_wp2_with fail;go_ret2;refine⟨_,[],rfl,Own.nil _ _ _,?_,aI _,i.out⟩;intro M h;cases h
theorem Uy (F:Int->Option NodeD)(H:Int->Option (List Nat))(hP:PieceOk F H)(k:Nat)(dQ:k<=16)(IH:∀j,k=j+1->Zm2 F j)(x:Nat)(lv ow:Int)(ob sb nb:Nat)(G:Int->Option Value)(w:World)(hl:IsLev x k)(hx:x+2^k<=131071)(hm:MapF w ob nb G)(hg:NodesG w G F)(d:NodeD)(hF:F (x:Int)=some d):
  Calls prog 99 #[.agg #[rE rG lv,rE rG ow,.map (some ob),.map (some sb)],rE rG (x:Nat)] w (Znc (Pc F k x) k w):=by
 have cC:=fK k;have cH:inI (x:Int):=(by unfold inI;omega);obtain⟨hv,hs⟩:=hg.val (x:Int);have bG:=(hg.some hF).2;have aB:=hg.one (x:Int);rw[hF]at hs;obtain⟨cG,bI,E⟩:=hP.ok _ _ hF;have dR:=cG.kind;have bD:=Fu (De E);have aR:d.par.late.length<=1000:=(by have:=oD bI;omega);have RG:=fun(W:World) (R:Below w.heap.size w W)=>MapF.run_getOk (T:=98) (hm.below R lR) underlying98 (Fg W) cH;rw[hv,hs]at RG;have RF:=fun(h:d.kind≠0)=>Hy (k:=k) hF h;have KD:=fun(W:World) (R:Below w.heap.size w W)=>(show MapF W ob nb G/\NodesG W G F from⟨hm.below R lR,hg.below R lR⟩);have aJ:=Hd KD;obtain⟨cs,b9⟩:=eX (El G (x:Int));rw[<-b9]at bG aB RG hv;obtain⟨kd,s,l1,l2,l3,l4,l5,l6,l7,V,c1,c2,c3,c4,c5,e1,e2,e3,a1,a2,a3,a4,a5,b1,b2,b3,rfl,cB,Q,D⟩:=bG.flat;have bS:=Hd aB;have HF:=Hd hF;have bP:=Hd cB;have HX:=Hd hx;have aW:=Hd hl;obtain⟨L,hL⟩:=eX d.par.late;rw[<-hL]at bD Q D aR;have AT:=fun(W:World) (R:Below w.heap.size w W) (r:Nat) (E:r<V)=>(D.below R lR).at3 (u:=rE rG (L.getD r 0)) (r:=r) (by rw[Q]at E;simp[ivs,aE,E]);have BD:=fun(r:Nat) (E:r<V)=>(show 0<=L.getD r 0/\L.getD r 0<65536 from bD _ (by rw[Q]at E;rw[aE,List.getElem?_eq_getElem E];exact List.getElem_mem E));have J:=fun(r:Nat) (E:r<V)=>Pu x L (r:=r) (by omega);have aT:ivs .i64 ((x:Int)::(L.take V).map fun u=>2*u)=ivs .i64 (Jo d x):=(by rw[Q,List.take_length,hL];rfl);obtain⟨GG,hG⟩:∃G:Nat->List Value,G=fun r=>ivs .i64 ((x:Int)::(L.take r).map fun u=>2*u):=⟨_,rfl⟩;have b4:∀r,ivs .i64 ((x:Int)::(L.take r).map fun u=>2*u)=GG r:=fun r=>(by rw[hG]);have G0:GG 0=[rE rG (x:Int)]:=(by rw[hG];simp[ivs]);have GL:∀r,r<=V->(GG r).length<=1001:=fun r E=>(by rw[hG];simp[ivs];omega);simp only[b4]at J aT;obtain⟨U,hU⟩:∃U:Nat->Int,U=fun r=>L.getD r 0:=⟨_,rfl⟩;have b5:∀r,L.getD r 0=U r:=fun r=>(by rw[hU]);simp only[b5]at AT BD J;rw[<-Q]at aR;have cO:=Hd AT;have cQ:=Hd BD;have a0:=Hd J;have cT:=Hd G0;have cU:=Hd GL;have bO:=Hd aT;have c7:=Hd RF;have cS:=Hd (Zdy bI x);have cY:=Hd cC;obtain⟨p,hp⟩:=eX w.heap.size;have HP:=Hd hp;have dD:=RG _ ((Below.refl w.heap.size w).alloc lR (rK #[rE rG lv,rE rG ow,.map (some ob),.map (some sb)] 101));have aU:=Hd (show Blk (w.alloc (rK #[rE rG lv,rE rG ow,.map (some ob),.map (some sb)] 101)) w.heap.size 101 #[rE rG lv,rE rG ow,.map (some ob),.map (some sb)]from Blk.new _ _ _);have X:=Hd ((Below.refl w.heap.size w).alloc lR (rK #[rE rG lv,rE rG ow,.map (some ob),.map (some sb)] 101));have p2:=(aU.out).cell 2;simp only[bY,bZ,cA]at p2;clear RG hp RF KD hv hs hm hg hF cH bG aB cG bI E cB bD Q D hL AT BD J aT hG b4 G0 GL hU b5 hx hl b9 cC;go_in;go_wp2_with (refine Aa rfl 52 (.tmp 6) (.tmp 20) rfl (w.heap.size+1) #[rE rH (kd:Nat),rD a1 l1 c1,rD a2 l2 c2,rD a3 l3 c3,rE rH (s:Nat),rD a4 l4 c4,rD a5 l5 c5,rD b1 l6 e1,rD b2 l7 e2,rD b3 V e3] rfl rfl 52 #[rE rH 0,rD rJ 0 0,rD rJ 0 0,rD rJ 0 0,rE rH 0,rD rJ 0 0,rD rJ 0 0,rD rJ 0 0,rD rJ 0 0,rD rJ 0 0] (by have h1:=Blk.new (w.alloc (rK #[rE rG lv,rE rG ow,.map (some ob),.map (some sb)] 101)) 52 #[rE rH 0,rD rJ 0 0,rD rJ 0 0,rD rJ 0 0,rE rH 0,rD rJ 0 0,rD rJ 0 0,rD rJ 0 0,rD rJ 0 0,rD rJ 0 0];simpa using h1) (by kernel_rfl) rfl bS.out ?_);rintro O aA b8 aS bH;have o:=Hd ((X.out.alloc X.out.size (rK #[rE rH 0,rD rJ 0 0,rD rJ 0 0,rD rJ 0 0,rE rH 0,rD rJ 0 0,rD rJ 0 0,rD rJ 0 0,rD rJ 0 0,rD rJ 0 0] 52)).trans (b8 w.heap.size (gJ _)));have Y:=Hd (show Blk O w.heap.size 101 #[rE rG lv,rE rG ow,.map (some ob),.map (some sb)]from(aS w.heap.size (by omega)).trans (aU.out.alloc _));rw[<-HP.out]at Y aA|-;have aV:=Hd aA;clear aA b8 aS bH dD p2 X aU;have k0:=aV.out.cell 0;have k9:=aV.out.cell 9;simp only[bY,bZ,cA]at k0 k9
 by_cases hk:kd=0
 ·have dI:((kd:Int)==0)=true:=(by rw[beq_iff_eq];omega);have aO:d.kind=0:=(by rw[<-bP.out];exact hk);cases k with
  |zero=>
   have bC:x%2=0:=Hh aW.out;have cE:eL (x:Int) 2=0:=(by rw[eM (by omega)];omega);have bF:(x:Int)%2=0:=(by omega);have c9:=Hd (Oh HF.out aO);clear bC hk aO;go_wp2_with fail;go_ret2;rw[c9.out];exact⟨_,[],rfl,Own.nil _ _ _,fun M h=>Option.some.inj h,aI _,o.out⟩
  |succ j=>
   have cF:x%2=1:=Fn aW.out;have cE:eL (x:Int) 2=1:=(by rw[eM (by omega)];omega);have bF:(x:Int)%2=1:=(by omega);have dE:=fK j;have bW:2^(j+1)=2*2^j:=(by rw[aN];omega);have aQ:2^j<=65536:=eN (aZ (by omega) (show j<=16 by omega)) (by decide);have hX:=HX.out;have aG:x<=131070:=(by omega);obtain⟨kl,kr,cK,cL,kx⟩:=kids_lev aG aW.out;have aL:=fun(W:World)=>Gb (x:Int) W;have aM:=fun(W:World)=>Ev (x:Int) W;rw[kl]at aL;rw[kr]at aM;have RS:=Oi (k:=j) HF.out aO;have I1:=fun(W:World) (R:Below w.heap.size w W)=>IH j rfl (x-2^j) lv ow ob sb nb G W cK (by omega) (aJ.out W R).1 (aJ.out W R).2;have I2:=fun(W:World) (R:Below w.heap.size w W)=>IH j rfl (x+2^j) lv ow ob sb nb G W cL (by omega) (aJ.out W R).1 (aJ.out W R).2;obtain⟨l,a9⟩:=eX (Pc F j (x-2^j));obtain⟨n,bA⟩:=eX (Pc F j (x+2^j));rw[<-a9]at I1;rw[<-bA]at I2;rw[<-a9,<-bA]at RS;have bU:=Hd RS;obtain⟨xl,cI⟩:=eX (x-2^j);obtain⟨xr,cJ⟩:=eX (x+2^j);rw[<-cI]at I1 aL;rw[<-cJ]at I2 aM;have cW:=Hd I1;have cX:=Hd I2;have cZ:=Hd aL;have c8:=Hd aM;have HJ:=Hd aQ;have cR:=Hd bW;clear I1 I2 aL aM RS kl kr cK cL kx a9 bA cI cJ hX aG cF bW dE aQ hk aO k9;go_wp2_with fail;clear k0;refine Cx [eF (.agg #[rE rG lv,rE rG ow,.map (some ob),.map (some sb)]),eF (rE rG (x:Nat)),eF (rE rG (xl:Nat)),fun t w'=>∃u L,t=.tuple #[u,.bool l.isSome]/\Own w' O.heap.size 3 u (ivs .i64 L)/\(∀M,l=some M->L=M)/\L.length<=1001*2^j,fun t w'=>∃u L,t=.tuple #[u,.bool l.isSome]/\Own w' O.heap.size 3 u (ivs .i64 L)/\(∀M,l=some M->L=M)/\L.length<=1001*2^j,fun u w'=>∃L,Own w' O.heap.size 3 u (ivs .i64 L)/\(∀M,l=some M->L=M)/\L.length<=1001*2^j,eF (.bool l.isSome),fun u w'=>∃L,Own w' O.heap.size 3 u (ivs .i64 L)/\(∀M,l=some M->L=M)/\L.length<=1001*2^j,eF (.bool l.isSome)] (by kernel_rfl) (by kernel_rfl) (by kernel_rfl)
    (kE (kE (kE (bX (fun v x y h c=>let⟨u,L,e,k,m⟩:=h;⟨u,L,e,Own.below k c lR,m⟩) (bX (fun v x y h c=>let⟨u,L,e,k,m⟩:=h;⟨u,L,e,Own.below k c lR,m⟩) (bX (fun v x y h c=>let⟨L,k,m⟩:=h;⟨L,Own.below k c lR,m⟩) (kE (bX (fun v x y h c=>let⟨L,k,m⟩:=h;⟨L,Own.below k c lR,m⟩) (kE Ae))))))))) ?_ ?_
   ·refine gB ?_ (gQ ?_ (gB ?_ (gB ?_ (gB ?_ (gB ?_ (gB ?_ (gB ?_ (gQ ?_ .nil))))))));all_goals
     intro a S C ha P;refine⟨rfl,?_⟩;intro K z;try have dC:a.tmps[1]?.getD undef=rE rG (x:Nat):=ha 1 (by kernel_rfl)
     try have a6:a.tmps[2]?.getD undef=rF (some ⟨p,0,rJ⟩):=ha 2 (by kernel_rfl)
     try have cM:=eqn P.1
     try have cN:=eqn P.2.1
     try(refine Hd ?_;go_simp;exact z _ rfl)
    ·exact wp_load_row 101 (.tmp 2) rfl _ (evs a6) _ _ (0,0) _ (Y.out.below C Y.out.lt) underlying101 rfl (by kernel_rfl) (z _ _ rfl bR)
    ·go_simp;refine(cZ.out S).mono ?_;rintro e w2 ⟨rfl,rfl⟩;exact z _ _ rfl bR
    ·go_simp;refine(cW.out S (o.out.trans (C.mono o.out.size))).mono ?_;rintro e w2 ⟨u,L,rfl,ho,A,bE,bB⟩;exact z _ _ ⟨u,L,rfl,ho.mono C.size,A,bE⟩ bB
    ·obtain⟨u,L,e0,i,A⟩:∃u L,a.tmps[42]?.getD undef=.tuple #[u,.bool l.isSome]/\Own S O.heap.size 3 u (ivs .i64 L)/\(∀M,l=some M->L=M)/\L.length<=1001*2^j:=P.1;go_simp;exact z _ _ ⟨u,L,rfl,i,A⟩ bR
    ·obtain⟨u,L,e0,i,A⟩:∃u L,a.tmps[38]?.getD undef=.tuple #[u,.bool l.isSome]/\Own S O.heap.size 3 u (ivs .i64 L)/\(∀M,l=some M->L=M)/\L.length<=1001*2^j:=P.1;go_simp;exact z _ _ ⟨L,i,A⟩ bR
    ·obtain⟨u,L,e0,i,A⟩:∃u L,a.tmps[38]?.getD undef=.tuple #[u,.bool l.isSome]/\Own S O.heap.size 3 u (ivs .i64 L)/\(∀M,l=some M->L=M)/\L.length<=1001*2^j:=P.1;go_simp;exact z _ _ rfl bR
    ·obtain⟨L,i,A⟩:∃L,Own S O.heap.size 3 (a.tmps[43]?.getD undef) (ivs .i64 L)/\(∀M,l=some M->L=M)/\L.length<=1001*2^j:=P.1;obtain⟨v1,I⟩:=eX (a.tmps[43]?.getD undef);rw[<-I]at i;have e1:=I.symm;clear I;go_simp;exact z _ _ ⟨L,i,A⟩ bR
   ·rintro f w4 c g;obtain⟨M1,i,Z⟩:∃L,Own w4 O.heap.size 3 (f 8) (ivs .i64 L)/\(∀M,l=some M->L=M)/\L.length<=1001*2^j:=g.2.2.2.2.2.2.2.1;have Sb:f 9=.bool l.isSome:=g.2.2.2.2.2.2.2.2.1;clear g;simp only[Ak,At,Ei,dG,dH,dJ,dK,Nat.reduceBEq,Nat.reduceAdd,dO,dP,cond_true,cond_false];rw[Sb];clear Sb;obtain⟨u1,hu⟩:=eX (f 8);rw[<-hu]at i|-;have dA:=Hd i;have aX:=Hd Z;have aH:=Hd (o.out.trans (c.mono o.out.size));have aK:=Hd (Y.out.below c Y.out.lt);clear c i Z hu;go_wp2_with fail;refine Cx [eF (.agg #[rE rG lv,rE rG ow,.map (some ob),.map (some sb)]),eF (rE rG (x:Nat)),eF (rE rG (xr:Nat)),fun t w'=>∃u L,t=.tuple #[u,.bool n.isSome]/\Own w' w4.heap.size 3 u (ivs .i64 L)/\(∀M,n=some M->L=M)/\L.length<=1001*2^j,fun t w'=>∃u L,t=.tuple #[u,.bool n.isSome]/\Own w' w4.heap.size 3 u (ivs .i64 L)/\(∀M,n=some M->L=M)/\L.length<=1001*2^j,fun u w'=>∃L,Own w' w4.heap.size 3 u (ivs .i64 L)/\(∀M,n=some M->L=M)/\L.length<=1001*2^j,eF (.bool n.isSome),fun u w'=>∃L,Own w' w4.heap.size 3 u (ivs .i64 L)/\(∀M,n=some M->L=M)/\L.length<=1001*2^j,eF (.bool n.isSome)] (by kernel_rfl) (by kernel_rfl) (by kernel_rfl)
     (kE (kE (kE (bX (fun v x y h c=>let⟨u,L,e,k,m⟩:=h;⟨u,L,e,Own.below k c lR,m⟩) (bX (fun v x y h c=>let⟨u,L,e,k,m⟩:=h;⟨u,L,e,Own.below k c lR,m⟩) (bX (fun v x y h c=>let⟨L,k,m⟩:=h;⟨L,Own.below k c lR,m⟩) (kE (bX (fun v x y h c=>let⟨L,k,m⟩:=h;⟨L,Own.below k c lR,m⟩) (kE Ae))))))))) ?_ ?_
    ·refine gB ?_ (gQ ?_ (gB ?_ (gB ?_ (gB ?_ (gB ?_ (gB ?_ (gB ?_ (gQ ?_ .nil))))))));all_goals
      intro a S C ha P;refine⟨rfl,?_⟩;intro K z;try have dC:a.tmps[1]?.getD undef=rE rG (x:Nat):=ha 1 (by kernel_rfl)
      try have a6:a.tmps[2]?.getD undef=rF (some ⟨p,0,rJ⟩):=ha 2 (by kernel_rfl)
      try have cM:=eqn P.1
      try have cN:=eqn P.2.1
      try(refine Hd ?_;go_simp;exact z _ rfl)
     ·exact wp_load_row 101 (.tmp 2) rfl _ (evs a6) _ _ (0,0) _ (aK.out.below C aK.out.lt) underlying101 rfl (by kernel_rfl) (z _ _ rfl bR)
     ·go_simp;refine(c8.out S).mono ?_;rintro e w2 ⟨rfl,rfl⟩;exact z _ _ rfl bR
     ·go_simp;refine(cX.out S (aH.out.trans (C.mono aH.out.size))).mono ?_;rintro e w2 ⟨u,L,rfl,ho,A,bE,bB⟩;exact z _ _ ⟨u,L,rfl,ho.mono C.size,A,bE⟩ bB
     ·obtain⟨u,L,e0,i,A⟩:∃u L,a.tmps[49]?.getD undef=.tuple #[u,.bool n.isSome]/\Own S w4.heap.size 3 u (ivs .i64 L)/\(∀M,n=some M->L=M)/\L.length<=1001*2^j:=P.1;go_simp;exact z _ _ ⟨u,L,rfl,i,A⟩ bR
     ·obtain⟨u,L,e0,i,A⟩:∃u L,a.tmps[45]?.getD undef=.tuple #[u,.bool n.isSome]/\Own S w4.heap.size 3 u (ivs .i64 L)/\(∀M,n=some M->L=M)/\L.length<=1001*2^j:=P.1;go_simp;exact z _ _ ⟨L,i,A⟩ bR
     ·obtain⟨u,L,e0,i,A⟩:∃u L,a.tmps[45]?.getD undef=.tuple #[u,.bool n.isSome]/\Own S w4.heap.size 3 u (ivs .i64 L)/\(∀M,n=some M->L=M)/\L.length<=1001*2^j:=P.1;go_simp;exact z _ _ rfl bR
     ·obtain⟨L,i,A⟩:∃L,Own S w4.heap.size 3 (a.tmps[50]?.getD undef) (ivs .i64 L)/\(∀M,n=some M->L=M)/\L.length<=1001*2^j:=P.1;obtain⟨v1,I⟩:=eX (a.tmps[50]?.getD undef);rw[<-I]at i;have e1:=I.symm;clear I;go_simp;exact z _ _ ⟨L,i,A⟩ bR
    ·rintro f w5 c g;obtain⟨M2,i,Z⟩:∃L,Own w5 w4.heap.size 3 (f 10) (ivs .i64 L)/\(∀M,n=some M->L=M)/\L.length<=1001*2^j:=g.2.2.2.2.2.2.2.1;have Sb:f 11=.bool n.isSome:=g.2.2.2.2.2.2.2.2.1;clear g;simp only[Ak,At,Ei,dG,dH,dJ,dK,Nat.reduceBEq,Nat.reduceAdd,dO,dP,cond_true,cond_false];rw[Sb];clear Sb;obtain⟨u2,hu⟩:=eX (f 10);rw[<-hu]at i|-;have dB:=Hd i;have aY:=Hd Z;have bM:=Hd (aH.out.trans (c.mono aH.out.size));have dU:=Hd (aK.out.below c aK.out.lt);have aP:=Hd (dA.out.below c lR);clear c i Z hu;obtain⟨q1,q2,q3,rfl⟩:=Dr aP.out;have bV:=Hd (aP.out.mono o.out.size);go_wp2_with (at_builtin;refine An rfl (.tmp 52) (.tmp 53) 48 rfl w.heap.size 3 _ 8 He _ _ rfl bV.out _ (ivs .i64 M2) rfl dB.out.rd (Mk _) ?c4 ?c5 ?_);case c4=>have:=aX.out.2;have:=aY.out.2;have:=HJ.out;simp only[Wm];omega
     case c5=>exact bM.out.size
     rintro v6 w6 aF-b7;have c6:=Hd aF;have cP:=Hd (bM.out.trans b7);clear aF b7;obtain⟨B2,a8⟩:=eX n.isSome;obtain⟨B1,a7⟩:=eX l.isSome;rw[<-a7,<-a8];have bK:=Hd a7;have bL:=Hd a8;clear a7 a8;have b0:∀b,b=(B1&&B2)->Znc (l.bind fun a=>n.map fun b=>a++b) (j+1) w (rM (.tuple #[v6,.bool b])) w6:=by
      rintro b rfl;refine⟨v6,M1++M2,?_,by rw[Zdz];exact c6.out,?_,?_,cP.out⟩
      ·rw[bK.out,bL.out];cases l<;>cases n<;>rfl
      ·intro M h;cases l with
       |none=>cases h
       |some a=>
        cases n with
        |none=>cases h
        |some b=>
         rw[aX.out.1 a rfl,aY.out.1 b rfl];exact Option.some.inj h
      ·have:=aX.out.2;have:=aY.out.2;have:=cR.out;rw[aD];omega
     have bN:=Hd b0;clear b0;cases B1 with
     |false=>
      go_wp2_with fail;go_ret2;rw[bU.out];exact bN.out _ rfl
     |true=>
      go_wp2_with fail;go_ret2;rw[bU.out];exact bN.out _ (Bool.true_and _).symm
 ·have dI:((kd:Int)==0)=false:=(by rw[qN];omega);have dV:(kd:Int)≠0:=(by omega);have bT:=Hd (c7.out (by rw[<-bP.out];exact hk));have dW:p+1<O.heap.size:=aV.out.lt;clear hk;go_wp2_with fail;have bQ:=Hd (show Own (O.alloc (rK #[rE rG (x:Int)] 3)) w.heap.size 3 (rD (some ⟨O.heap.size,0,rJ⟩) 1 1) (GG 0) by
   rw[cT.out];exact Own.full (B:=w.heap.size) (cs:=#[rE rG (x:Int)]) rfl o.out.size (by unfold maxLen;simp) rfl)
  have bJ:=Hd (o.out.alloc o.out.size (rK #[rE rG (x:Int)] 3));generalize hw2:O.alloc (rK #[rE rG (x:Int)] 3)=w2 at bQ bJ|-;clear hw2 k0 k9
  go_loopg [12,65] V (fun q ov iv wr=>∃r:Nat,r+q=V/\iv=rE rG (r:Nat)/\Own wr w.heap.size 3 ov (GG r)/\Below w.heap.size w wr)
  case atStart=>exact⟨0,by omega,rfl,bQ.out,bJ.out⟩
  case round=>
   obtain⟨r,E,rfl,N,c⟩:=hrel;have HR:=Hd E;have HO:=Hd N;have HB:=Hd c
   by_cases hlt:r<V
   ·have cD:decide (r<V)=true:=dT hlt;have dS:(r:Int)<(V:Int):=(by omega);obtain⟨bl,ol,rfl,dN,cu⟩:=cO.out wr c r hlt;obtain⟨dL,dM⟩:=cQ.out r hlt;have HS:=Hd (a0.out r hlt);have cV:=Hd (cU.out r (by omega));obtain⟨u,hu⟩:=eX (U r);rw[<-hu]at cu dL dM HS;have R:wrap64 (2*u)=2*u:=(by unfold wrap64;omega);obtain⟨p1,p2,p3,rfl⟩:=Dr N;clear E N c hu;go_wp2_with (at_builtin;refine Bq rfl (.tmp 69) (.tmp 72) 48 rfl w.heap.size 3 _ 8 He _ _ rfl (HO.out.alloc _) ⟨wr.heap.size,0,rJ⟩ (rE rG (2*u)) rfl ?c1 rfl ?c2 ?c3 ?_);case c1=>exact Bi rfl
    case c2=>have:=cV.out;omega
    case c3=>have:=HB.out.size;simp;omega
    rintro v' w1 aC-b6;have c0:=Hd aC;have X:=Hd ((HB.out.alloc HB.out.size (rK #[rE rG (2*u)] 3)).trans b6);clear aC b6;go_wp2_with fail;go_roundg (gk-1);case measure=>have:=HR.out;omega
    case rel=>exact⟨r+1,by have:=HR.out;omega,by go_num,by rw[HS.out];exact c0.out,X.out⟩
   ·obtain rfl:r=V:=(by omega);have cD:decide (r<r)=false:=dF hlt;clear E N c hlt;go_wp2_with fail;go_ret2;rw[bT.out];refine⟨_,Jo d x,rfl,by rw[<-bO.out];exact HO.out,fun M h=>Option.some.inj h,?_,HB.out⟩;have:=cS.out;have:=cY.out;omega
theorem Zjb (F:Int->Option NodeD)(H:Int->Option (List Nat))(g:PieceOk F H):∀k,k<=16->Zm2 F k:=by
 intro k
 induction k with
 |zero=>
  intro _ x lv ow ob sb c G w f hx b a;cases hF:F (x:Int)with
  |none=>rw[Og hF];exact Oj F 0 x (by have:=fK 0;unfold inI;omega) lv ow ob sb c G w b a hF
  |some d=>exact Uy F H g 0 (by omega) (fun j e=>by cases e) x lv ow ob sb c G w f hx b a d hF
 |succ k ih=>
  intro hk x lv ow ob sb c G w f hx b a;cases hF:F (x:Int)with
  |none=>rw[Og hF];exact Oj F (k+1) x (by have:=fK (k+1);unfold inI;omega) lv ow ob sb c G w b a hF
  |some d=>exact Uy F H g (k+1) hk (fun j e=>by cases e;exact ih (by omega)) x lv ow ob sb c G w f hx b a d hF
end
theorem Zlx {x:Nat}(h:x<=131070):x+2^lev x<=131071:=by
 have hx:=lev_is h;have c:=lev_le h;generalize lev x=l at hx c;unfold IsLev at hx;have e:2^17=2^(l+1)*2^(16-l):=(by rw[<-Nat.pow_add];congr 1;omega);have b:=Nat.div_add_mod x (2^(l+1));have a:(2:Nat)^17=131072:=rfl;have f:x/2^(l+1)<2^(16-l):=Nat.div_lt_of_lt_mul (by rw[<-e];omega);have d:2^(l+1)*(x/2^(l+1)+1)<=2^(l+1)*2^(16-l):=Nat.mul_le_mul_left _ f;rw[<-e,Nat.mul_add,Nat.mul_one]at d;have e2:2^(l+1)=2*2^l:=(by rw[aN];omega);have g:=fK l;omega
def Lj (s:SparseD)(x:Int):Option (List Int):=if 0<=x then Pc (Aj s.op) (lev x.toNat) x.toNat else none
theorem Zca {s:SparseD} {only:Bool}(h:Ah s only=true) {x:Int} {d:NodeD}(c:Aj s.op x=some d):∃n:Nat,x=(n:Int)/\n<=131070:=by
 unfold Ah at h;simp only[cK]at h;obtain⟨⟨⟨⟨g,k⟩,a⟩,j⟩,-⟩:=h;obtain⟨b,h2⟩:=(Lt (List.all_eq_true.1 a _ (Cv c))).1;have b:0<=x:=b;have h2:x<=2*s.leaves-2:=h2;obtain⟨d,f,e⟩:=(fits_iff _).1 g;have i:2^d<=65536:=eN (aZ (by omega) f) (by decide);exact⟨x.toNat,by omega,by omega⟩
theorem Zjc {s:SparseD} {only:Bool}(j:Ah s only=true)(f:SparseOk s)(k:Bx s=true)(x:Int)(hx:inI x)(lv ow:Int)(ob sb:Nat)(G:Int->Option Value)(w:World)(i:MapF w ob s.op.length G)(h:NodesG w G (Aj s.op)):
  Calls prog 99 #[.agg #[rE rG lv,rE rG ow,.map (some ob),.map (some sb)],rE rG x] w fun e w'=>∃u L,e=rM (.tuple #[u,.bool (Lj s x).isSome])/\Own w' w.heap.size 3 u (ivs .i64 L)/\(∀M,Lj s x=some M->L=M)/\Below w.heap.size w w':=by
 cases hF:Aj s.op x with
 |none=>
  have e:Lj s x=none:=by
   unfold Lj
   split
   ·rename_i h0
    have g:((x.toNat:Nat):Int)=x:=(by omega);exact Og (by rw[g];exact hF)
   ·rfl
  rw[e];refine(Oj (Aj s.op) 0 x hx lv ow ob sb _ G w i h hF).mono ?_;rintro e w' ⟨u,L,a,h2,h3,-,b⟩;exact⟨u,L,a,h2,h3,b⟩
 |some d=>
  obtain⟨n,rfl,c⟩:=Zca j hF;have e:Lj s (n:Int)=Pc (Aj s.op) (lev n) n:=by
   unfold Lj;rw[iP (by omega),cD]
  rw[e];refine(Zjb _ _ (Dy j f k).1 (lev n) (lev_le c) n lv ow ob sb _ G w (lev_is c) (Zlx c) i h).mono ?_;rintro e w' ⟨u,L,a,h2,h3,-,b⟩;exact⟨u,L,a,h2,h3,b⟩
theorem Sg (v:Value)(s:SparseD)(x:Int)(hx:inI x)(w:World)(h:SparseR w v s)(q:SparseOk s)(T:Bx s=true):
  Calls prog 48 #[v,rE rG x] w fun e w'=>(∃u,e=rM (.tuple #[u,.bool (bif Ah s false then(Lj s x).isSome else false)])/\Own w' w.heap.size 3 u (ivs .i64 (bif Ah s false then(Lj s x).getD []else [])))/\Below w.heap.size w w':=by
 have V:=fun(W:World) (hw:Below w.heap.size w W)=>Hl v s W (h.below hw lR) q T;have A:=fun(hr:Ah s false=true) (ob sb:Nat) (G:Int->Option Value) (W:World) (C:MapF W ob s.op.length G) (B:NodesG W G (Aj s.op))=>Zjc hr q T x hx s.leaves s.own ob sb G W C B;obtain⟨o,g,rfl,-,-⟩:=h;have f:=Zz s;obtain⟨N,n⟩:=eX (Bt s);have r:Bt s=false->Ah s false=false:=fun e=>(by rw[<-f,okS,e];rfl);obtain⟨OK,m⟩:=eX (Ah s false);rw[<-n,<-m]at r;rw[<-m]at A f|-;have J:=Hd n;have K:=Hd r;have H:=Hd f;have z:Hid (∀W,Below w.heap.size w W->Calls prog 88 #[.agg #[rE rG s.leaves,rE rG s.own,o,g]] W (Kh s W)):=V;obtain⟨lv,d⟩:=eX s.leaves;obtain⟨ow,how⟩:=eX s.own;have D:=Hd d;have I:=Hd how;obtain⟨R,O⟩:=eX (Lj s x);rw[<-d,<-how]at z A;rw[<-O]at A;rw[<-d,<-how,<-O];have y:=Hd A;have k:=Hd ((Below.refl w.heap.size w).alloc lR (rK #[rE rG lv,rE rG ow,o,g] 25));clear V A q T n m d how O r f hx;go_in;go_wp2_with fail;refine(z.out _ k.out).mono ?_;rintro e Z ⟨p,b⟩;have a:=Hd (k.out.trans (p.mono k.out.size));rw[<-J.out,<-D.out,<-I.out,H.out]at b;cases N with
 |false=>
  rw[iN (by simp)]at b;obtain rfl:=K.out rfl;obtain rfl:=b;go_wp2_with fail;go_ret2;exact⟨⟨_,rfl,Own.nil _ _ _⟩,a.out.alloc a.out.size _⟩
 |true=>
  rw[iP rfl]at b;obtain⟨ob,sb,rfl,S,U,-,G,G',C,B,Q,P⟩:=b;cases OK with
  |false=>
   go_wp2_with fail;go_ret2;exact⟨⟨_,rfl,Own.nil _ _ _⟩,a.out.alloc a.out.size _⟩
  |true=>
   have c:=(Below.refl Z.heap.size Z).alloc lR (rK #[rE rG lv,rE rG ow,.map (some ob),.map (some sb)] 101);have HM:=Hd (C.below c lR);have HG:=Hd ((B.below p lR).below c lR);have j:=Hd (a.out.trans (c.mono a.out.size));have l:=Hd (y.out (by trivial));clear p C Q B P S U c;go_wp2_with fail;refine(l.out ob sb G _ HM.out HG.out).mono ?_;rintro e w5 ⟨u,L,rfl,i,X,Y⟩;have F:=Hd (i.mono j.out.size);have E:=Hd X;have t:=Hd (j.out.trans (Y.mono j.out.size));clear i X Y;cases R with
   |none=>
    go_wp2_with fail;go_ret2;exact⟨⟨_,rfl,Own.nil _ _ _⟩,t.out⟩
   |some M=>
    obtain rfl:=E.out M rfl;go_wp2_with fail;go_ret2;exact⟨⟨_,rfl,F.out⟩,t.out⟩
