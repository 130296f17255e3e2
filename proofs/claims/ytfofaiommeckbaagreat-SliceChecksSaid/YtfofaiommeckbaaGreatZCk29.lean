import Derived.Test.YtfofaiommeckbaaGreatZCk13
import Derived.Test.YtfofaiommeckbaaGreatZCk17
open Go.Obj renaming cells -> rJ
open Go.Ending renaming returned -> rK
open Go.Value renaming slice -> rC, int -> rD, pointer -> rE
open Go.IntKind renaming i64 -> rF
open Option renaming none -> rI
open Go.Proofs.Tryz
open List renaming length_append -> bA, length_cons -> dB, length_nil -> cO, mem_append -> fL, mem_cons -> aZ, not_mem_nil -> dC, getElem?_toArray -> cR, getElem?_cons_zero -> cS, getElem?_cons_succ -> aP, mergeSort_perm -> fP
open Nat renaming two_pow_pos -> fD, log2 -> bP
open Int renaming tmod -> eC, tmod_eq_emod_of_nonneg -> eD, natCast_nonneg -> iV
set_option linter.unusedVariables false
set_option maxRecDepth 100000
set_option maxHeartbeats 40000000
namespace Go.Proofs.YtfofaiommeckbaaGreat
open Go.RowKit WalkM ShaM WireM
section
mutual
def Zaa (F:Int->Option NodeD)(H:Int->Option (List Nat)):Nat->Nat->NodeD->List Nat
 |0,x,d=>([1]++beN 4 (x/2))++Bz d
 |k+1,x,d=>([2]++Bz d)++(Bf (Fc F H k (x-2^k))++Bf (Fc F H k (x+2^k)))
def Fc (F:Int->Option NodeD)(H:Int->Option (List Nat)):Nat->Nat->List Nat
 |0,x=>match F (x:Int)with
  |none=>Iv H x
  |some d=>shaF (([1]++beN 4 (x/2))++Bz d)
 |k+1,x=>match F (x:Int)with
  |none=>Iv H x
  |some d=>shaF (([2]++Bz d)++(Bf (Fc F H k (x-2^k))++Bf (Fc F H k (x+2^k))))
end
section
variable {F:Int->Option NodeD} {H:Int->Option (List Nat)} {k x:Nat} {d:NodeD}
theorem Gg (h:F (x:Int)=none):Fc F H k x=Iv H x:=by cases k<;>simp only[Fc,h]
theorem Gh (h:F (x:Int)=some d):Fc F H k x=shaF (Zaa F H k x d):=by cases k<;>simp only[Fc,Zaa,h]
theorem Ku:Zaa F H 0 x d=([1]++beN 4 (x/2))++Bz d:=by simp only[Zaa]
theorem Kv:Zaa F H (k+1) x d=([2]++Bz d)++(Bf (Fc F H k (x-2^k))++Bf (Fc F H k (x+2^k))):=by simp only[Zaa]
theorem Zi8 (h:PieceOk F H)(x:Nat):∀y∈Iv H x,y<256:=by
 unfold Iv;cases e:H (x:Int)with
 |none=>intro y hy;simp at hy
 |some L=>exact(h.hash _ _ e).2
theorem Nf (h:PieceOk F H):∀y∈Fc F H k x,y<256:=by
 cases e:F (x:Int)with
 |none=>rw[Gg e];exact Zi8 h x
 |some d=>rw[Gh e];exact Zdo _
theorem It (h:PieceOk F H):(Fc F H k x).length<=32:=by
 cases e:F (x:Int)with
 |none=>rw[Gg e];exact Va h x
 |some d=>rw[Gh e,Ij];exact lR
def Zmy (F:Int->Option NodeD)(H:Int->Option (List Nat))(x:Nat):Prop:=(F (x:Int)).isSome=true\/(Iv H x).length=32
theorem Zab (h:Zmy F H x):(Fc F H k x).length=32:=by
 cases e:F (x:Int)with
 | none => rw[Gg e];rcases h with h|h; · rw[e]at h;cases h
           ·exact h
 |some d=>rw[Gh e];exact Ij _
theorem Zac (h:PieceOk F H)(a:F (x:Int)=some d):(Zaa F H k x d).length<=8000:=by
 have b:=Hp (h.ok _ _ a).2.1;cases k with
 |zero=>rw[Ku];simp only[bA,dB,cO,beN_len];omega
 |succ k=>
  rw[Kv];have h1:=It (k:=k) (x:=x-2^k) h;have h2:=It (k:=k) (x:=x+2^k) h;have c:=Bi (Fc F H k (x-2^k)) (by omega);have e:=Bi (Fc F H k (x+2^k)) (by omega);simp only[bA,dB,cO];omega
theorem Zf7 (h:PieceOk F H)(c:F (x:Int)=some d):∀y∈Zaa F H k x d,y<256:=by
 obtain⟨h1,h2,-⟩:=h.ok _ _ c;have b:=Yr h1 h2;intro y a;cases k with
 |zero=>
  rw[Ku]at a;simp only[fL,aZ,dC,or_false]at a;rcases a with(rfl|a)|a
  ·omega
  ·exact beN_lt _ _ y a
  ·exact b y a
 |succ k=>
  rw[Kv]at a;simp only[fL,aZ,dC,or_false]at a;rcases a with(rfl|a)|a|a
  ·omega
  ·exact b y a
  ·exact Fn (by have:=It (k:=k) (x:=x-2^k) h;omega) (Nf h) y a
  ·exact Fn (by have:=It (k:=k) (x:=x+2^k) h;omega) (Nf h) y a
structure PieceCov (F:Int->Option NodeD) (H:Int->Option (List Nat)):Prop where
 even:∀(x:Nat) d,F (x:Int)=some d->x%2=0->d.kind≠2
 odd:∀(x:Nat) d,F (x:Int)=some d->x%2=1->d.kind≠1
 kids:∀(k x:Nat) d,F (x:Int)=some d->IsLev x (k+1)->x<=131070->Zmy F H (x-2^k)/\Zmy F H (x+2^k)
end
end
open Go.Maps
def Zf8 (F:Int->Option NodeD)(H:Int->Option (List Nat))(k:Nat):Prop:=
 ∀(x:Nat) (lv ow:Int) (ob sb nb mb:Nat) (G G':Int->Option Value) (w:World),IsLev x k->x+2^k<=131071->MapF w ob nb G->NodesG w G F->MapF w sb mb G'->RunsH w G' H->
  Calls prog 90 #[.agg #[rD rF lv,rD rF ow,.map (some ob),.map (some sb)],rD rF (x:Nat)] w fun e w'=>∃v',e=rK v'/\Rd w' v' (bvs (Fc F H k x))/\Below w.heap.size w w'
theorem Qv (F:Int->Option NodeD)(H:Int->Option (List Nat))(hP:PieceOk F H)(hC:PieceCov F H)(k:Nat)(IH:∀j,k=j+1->Zf8 F H j):Zf8 F H k:=by
 intro x lv ow ob sb nb mb G G' w hl hx hm hg aW aU;obtain⟨hv,hs⟩:=hg.val (x:Int);have X:=hg.one (x:Int);have z:=fun d (h:F (x:Int)=some d)=>(hg.some h).2;obtain⟨c0,c1,c2,c3,c4,c5,c6,c7,c8,c9,hc⟩:=hg.ten (x:Int);rw[hc]at hv X z;have b3:=fD k;have a1:inI (x:Int):=(by unfold inI;omega);have RG:=fun(W:World) (i:Below w.heap.size w W)=>MapF.run_getOk (T:=98) (hm.below i lR) underlying98 (Kq W) a1;rw[hv,hs]at RG;have aR:=fun(W:World) (i:Below w.heap.size w W)=>MapF.run_get (T:=99) (aW.below i lR) underlying99 (zeroValue28 W) a1;have RU:=Zh7 aU x;obtain⟨u0,bJ⟩:=eX ((G' (x:Int)).getD (rC rI 0 0));rw[<-bJ]at aR RU;have bI:=Va hP x;have PN:=fun(h:F (x:Int)=none)=>Gg (H:=H) (k:=k) h;obtain⟨L,hL⟩:=eX (Iv H x);rw[<-hL]at RU bI PN;have CL:=fun(W:World) (i:Below w.heap.size w W)=>Cm u0 L W (RU.below i lR) (by omega);have KD:=fun(W:World) (i:Below w.heap.size w W)=>(show MapF W ob nb G/\NodesG W G F/\MapF W sb mb G'/\RunsH W G' H from⟨hm.below i lR,hg.below i lR,aW.below i lR,aU.below i lR⟩);obtain⟨p,hp⟩:=eX w.heap.size;have HP:=Hd hp;have a3:=Hd X;have bO:=Hd CL;have bV:=Hd PN;have bZ:=Hd z;have o:=Hd KD;have a6:=RG _ ((Below.refl w.heap.size w).alloc lR (rJ #[rD rF lv,rD rF ow,.map (some ob),.map (some sb)] 101));have a4:=Hd aR;have aN:=Hd (show Blk (w.alloc (rJ #[rD rF lv,rD rF ow,.map (some ob),.map (some sb)] 101)) w.heap.size 101 #[rD rF lv,rD rF ow,.map (some ob),.map (some sb)]from Blk.new _ _ _);have aL:=Hd ((Below.refl w.heap.size w).alloc lR (rJ #[rD rF lv,rD rF ow,.map (some ob),.map (some sb)] 101));have p2:=(aN.out).cell 2;simp only[cR,cS,aP]at p2;obtain⟨is,aV⟩:=eX ((F (x:Int)).isSome);rw[<-aV]at a6;have a2:=Hd aV;have HX:=Hd hx;have aA:=Hd hl;clear RG aR RU hm hg aW aU hv hs hc aV hp X bI PN hL z bJ a1 hx hl b3 CL KD;go_in;go_wp2_with (refine Aa rfl 52 (.tmp 5) (.tmp 13) rfl (w.heap.size+1) #[c0,c1,c2,c3,c4,c5,c6,c7,c8,c9] rfl rfl 52 #[rD .u8 0,rC rI 0 0,rC rI 0 0,rC rI 0 0,rD .u8 0,rC rI 0 0,rC rI 0 0,rC rI 0 0,rC rI 0 0,rC rI 0 0] (by have h1:=Blk.new (w.alloc (rJ #[rD rF lv,rD rF ow,.map (some ob),.map (some sb)] 101)) 52 #[rD .u8 0,rC rI 0 0,rC rI 0 0,rC rI 0 0,rD .u8 0,rC rI 0 0,rC rI 0 0,rC rI 0 0,rC rI 0 0,rC rI 0 0];simpa using h1) (by kernel_rfl) rfl a3.out ?_);rintro w3 U a9 aK aZ;have b:=Hd ((aL.out.alloc aL.out.size (rJ #[rD .u8 0,rC rI 0 0,rC rI 0 0,rC rI 0 0,rD .u8 0,rC rI 0 0,rC rI 0 0,rC rI 0 0,rC rI 0 0,rC rI 0 0] 52)).trans (a9 w.heap.size (Nat.le_succ _)));have D:=Hd (show Blk w3 w.heap.size 101 #[rD rF lv,rD rF ow,.map (some ob),.map (some sb)]from(aK w.heap.size (by omega)).trans (aN.out.alloc _));rw[<-HP.out]at D U|-;have g:=Hd U;have b9:=Hd (show w.heap.size=p from HP.out.symm);clear U a9 aK aZ a6 p2 aL aN;cases is with
 |false=>
  have E:F (x:Int)=none:=by have:=a2.out;cases e:F (x:Int)with
   |none=>rfl
   |some d=>rw[e]at this;cases this
  have HQ:=Hd (bV.out E);have p3:=D.out.cell 3;simp only[cR,cS,aP]at p3;have rg:=a4.out w3 b.out;clear E;go_wp2_with fail;refine(bO.out w3 b.out).mono ?_;rintro e w4 ⟨v4,rfl,bF,q⟩;have bU:=Hd bF;have l:=Hd (b.out.trans (q.mono b.out.size));clear bF q p3 rg;go_wp2_with fail;go_ret;exact⟨_,rfl,by rw[HQ.out];exact bU.out.rd,l.out⟩
 |true=>
  obtain⟨d,E⟩:∃d,F (x:Int)=some d:=Option.isSome_iff_exists.1 a2.out.symm;have aF:=bZ.out d E;obtain⟨aG,aH,hr⟩:=hP.ok _ _ E;have Z:=Hd (Gh (H:=H) (k:=k) E);have aC:=Hd (show(Zaa F H k x d).length<=1000000 from Nat.le_trans (Zac hP E) (by omega));have aB:=Hd (Zf7 (k:=k) hP E);have k0:=g.out.cell 0;have k1:=g.out.cell 1;have k2:=g.out.cell 2;have k3:=g.out.cell 3;have k4:=g.out.cell 4;have k5:=g.out.cell 5;have k6:=g.out.cell 6;have k7:=g.out.cell 7;have k8:=g.out.cell 8;have k9:=g.out.cell 9;simp only[cR,cS,aP]at k0 k1 k2 k3 k4 k5 k6 k7 k8 k9;cases k with
  |zero=>
   have V:x%2=0:=Gu aA.out;have bB:=hC.even _ _ E V;have bE:eC (x:Int) 2=0:=(by rw[eD (by omega)];omega);have aX:(x:Int)%2=0:=(by omega);obtain⟨m,bD⟩:=eX (x/2);have hq:(x:Int)/2=(m:Int):=(by omega);have cB:Int.tdiv (x:Int) 2=(m:Int):=(by rw[Int.tdiv_eq_ediv_of_nonneg (by omega)];omega);have b4:=HX.out;have cC:wrap64 ((m:Nat):Int)=(m:Int):=(by have:m<=65536:=(by omega);unfold wrap64;omega);have LT:=Lu ((m:Nat):Int) d _ w3 (aF.below b.out lR) aG aH;have bC:ltF ((m:Nat):Int) d=(Zaa F H 0 x d,0):=by
    rw[ltF,iN (by omega),iN (by rw[hr];simp[bB]),Int.toNat_natCast,Ku,<-bD]
   unfold Wb at LT;rw[bC]at LT;obtain⟨C,P⟩:=eX (Zaa F H 0 x d);rw[<-P]at LT aC aB Z;have bT:=Hd LT;clear LT bC P b4 bD bB V E aF aG aH hr;go_wp2_with fail;refine(bT.out).mono ?_;rintro e w4 ⟨q,v4,rfl,s⟩;obtain⟨q1,q2,q3,rfl⟩:=Cx s;have aO:=Hd s.rd;have l:=Hd (b.out.trans (q.mono b.out.size));clear q s k0 k1 k2 k3 k4 k5 k6 k7 k8 k9;go_wp2_with fail;have N:=Hd (show Rd (w4.alloc (rJ #[rC q1 q2 q3] 28)) (rC q1 q2 q3) (bvs C)from aO.out.alloc _);have aQ:=Hd (Km w4.heap.size (rC q1 q2 q3) C (w4.alloc (rJ #[rC q1 q2 q3] 28)) (Aq rfl) (by simp) N.out aB.out aC.out);refine(aQ.out).mono ?_;rintro e w5 ⟨b5,rfl,-,-,r,S⟩;have M:=Hd r;have aM:=Hd ((l.out.alloc l.out.size _).trans (S.mono (by have:=l.out.size;simp;omega)));clear r S;go_wp2_with fail;go_ret;exact⟨_,rfl,by rw[Z.out];exact M.out,aM.out⟩
  |succ j=>
   have aJ:x%2=1:=Gv aA.out;have bA:=hC.odd _ _ E aJ;have bE:eC (x:Int) 2=1:=(by rw[eD (by omega)];omega);have aX:(x:Int)%2=1:=(by omega);have b2:=fD j;have b1:2^(j+1)=2*2^j:=(by rw[Nat.pow_succ];omega);have hX:=HX.out;have B:x<=131070:=(by omega);obtain⟨kl,kr,bM,bN,kx⟩:=kids_lev B aA.out;obtain⟨a7,a8⟩:=hC.kids j x d E aA.out B;have aD:=fun(W:World)=>Jx (x:Int) W;have aE:=fun(W:World)=>Id (x:Int) W;rw[kl]at aD;rw[kr]at aE;have I1:=fun(W:World) (i:Below w.heap.size w W)=>IH j rfl (x-2^j) lv ow ob sb nb mb G G' W bM (by omega) (o.out W i).1 (o.out W i).2.1 (o.out W i).2.2.1 (o.out W i).2.2.2;have I2:=fun(W:World) (i:Below w.heap.size w W)=>IH j rfl (x+2^j) lv ow ob sb nb mb G G' W bN (by omega) (o.out W i).1 (o.out W i).2.1 (o.out W i).2.2.1 (o.out W i).2.2.2;have L1:=Zab (k:=j) a7;have L2:=Zab (k:=j) a8;have TE:=Kv (F:=F) (H:=H) (k:=j) (x:=x) (d:=d);obtain⟨H1,aS⟩:=eX (Fc F H j (x-2^j));obtain⟨H2,aT⟩:=eX (Fc F H j (x+2^j));rw[<-aS]at I1 L1;rw[<-aT]at I2 L2;rw[<-aS,<-aT]at TE;have O:=fun(W:World) (i:Below w3.heap.size w3 W) (vl vr:Value) (r1:Rd W vl (bvs H1)) (r2:Rd W vr (bvs H2))=>Iz d _ vl vr H1 H2 W ((aF.below b.out lR).below i lR) aG aH r1 r2;have bH:ptF d H1 H2=(Zaa F H (j+1) x d,0):=by
    rw[ptF,iN (by rw[hr];simp[bA]),iN (by omega),TE];simp
   unfold Wb at O;rw[bH]at O;obtain⟨C,P⟩:=eX (Zaa F H (j+1) x d);rw[<-P]at O aC aB Z;obtain⟨xl,bK⟩:=eX (x-2^j);obtain⟨xr,bL⟩:=eX (x+2^j);rw[<-bK]at I1 aD;rw[<-bL]at I2 aE;have bP:=Hd I1;have bQ:=Hd I2;have bS:=Hd aD;have bY:=Hd aE;have bW:=Hd O;clear I1 I2 aD aE O bH P TE L1 L2 aS aT kl kr bM bN kx a7 a8 bK bL hX B aJ b1 b2 bA E aF aG aH hr k0 k1 k2 k3 k4 k5 k6 k7 k8 k9;go_wp2_with fail;refine Dj [eF (.agg #[c0,c1,c2,c3,c4,c5,c6,c7,c8,c9]),eF (.agg #[rD rF lv,rD rF ow,.map (some ob),.map (some sb)]),eF (rD rF (x:Nat)),eF (rD rF (xl:Nat)),fun u w'=>Rd w' u (bvs H1),eF (.agg #[rD rF lv,rD rF ow,.map (some ob),.map (some sb)]),eF (rD rF (x:Nat)),eF (rD rF (xr:Nat)),fun u w'=>Rd w' u (bvs H2),fun t w'=>∃u,t=.tuple #[u,rD .u8 0]/\Rd w' u (bvs C),fun t w'=>∃u,t=.tuple #[u,rD .u8 0]/\Rd w' u (bvs C),fun u w'=>Rd w' u (bvs C),eF (rD .u8 0),fun u w'=>Rd w' u (bvs C)] (by kernel_rfl) (by kernel_rfl) (by kernel_rfl)
    (kE (kE (kE (kE (bX (fun v x y h Q=>Rd.below h Q lR) (kE (kE (kE (bX (fun v x y h Q=>Rd.below h Q lR) (bX (fun v x y h Q=>let⟨u,e,k⟩:=h;⟨u,e,Rd.below k Q lR⟩) (bX (fun v x y h Q=>let⟨u,e,k⟩:=h;⟨u,e,Rd.below k Q lR⟩) (bX (fun v x y h Q=>Rd.below h Q lR) (kE (bX (fun v x y h Q=>Rd.below h Q lR) Ag)))))))))))))) ?_ ?_
   ·refine gB ?_ (gB ?_ (gQ ?_ (gB ?_ (gB ?_ (gB ?_ (gQ ?_ (gB ?_ (gB ?_ (gB ?_ (gB ?_ (gB ?_ (gB ?_ (gB ?_ .nil)))))))))))));all_goals
     intro a Y J ho hf;refine⟨rfl,?_⟩;intro K I;try have cA:a.tmps[1]?.getD undef=rD rF (x:Nat):=ho 1 (by kernel_rfl)
     try have a5:a.tmps[2]?.getD undef=rE (some ⟨p,0,rI⟩):=ho 2 (by kernel_rfl)
     try have b0:a.tmps[5]?.getD undef=rE (some ⟨p+1,0,rI⟩):=ho 5 (by kernel_rfl)
     try have b6:=eqn hf.1
     try have b7:=eqn hf.2.1
     try have b8:=eqn hf.2.2.1
     try(refine Hd ?_;go_simp;exact I _ rfl)
    ·exact wp_load_row 52 (.tmp 5) rfl _ (evs b0) _ _ (0,0) _ (g.out.below J g.out.lt) underlying52 rfl (by kernel_rfl) (I _ _ rfl bR)
    ·exact wp_load_row 101 (.tmp 2) rfl _ (evs a5) _ _ (0,0) _ (D.out.below J D.out.lt) underlying101 rfl (by kernel_rfl) (I _ _ rfl bR)
    ·go_simp;refine(bS.out Y).mono ?_;rintro e w2 ⟨rfl,rfl⟩;exact I _ _ rfl bR
    ·go_simp;refine(bP.out Y (b.out.trans (J.mono b.out.size))).mono ?_;rintro e w2 ⟨u,rfl,aY,R⟩;exact I _ _ aY R
    ·exact wp_load_row 101 (.tmp 2) rfl _ (evs a5) _ _ (0,0) _ (D.out.below J D.out.lt) underlying101 rfl (by kernel_rfl) (I _ _ rfl bR)
    ·go_simp;refine(bY.out Y).mono ?_;rintro e w2 ⟨rfl,rfl⟩;exact I _ _ rfl bR
    ·go_simp;refine(bQ.out Y (b.out.trans (J.mono b.out.size))).mono ?_;rintro e w2 ⟨u,rfl,aY,R⟩;exact I _ _ aY R
    ·have o1:Rd Y (a.tmps[37]?.getD undef) (bvs H1):=hf.2.1;have o2:Rd Y (a.tmps[41]?.getD undef) (bvs H2):=hf.2.2.1;obtain⟨v1,A⟩:=eX (a.tmps[37]?.getD undef);obtain⟨v2,a0⟩:=eX (a.tmps[41]?.getD undef);rw[<-A]at o1;rw[<-a0]at o2;have e1:=A.symm;have e2:=a0.symm;clear A a0;go_simp;refine(bW.out Y J v1 v2 o1 o2).mono ?_;rintro e w2 ⟨R,u,rfl,bG⟩;exact I _ _ ⟨_,rfl,bG.rd⟩ R
    ·have o0:∃u,a.tmps[42]?.getD undef=.tuple #[u,rD .u8 0]/\Rd Y u (bvs C):=hf.1;obtain⟨u,e0,o1⟩:=o0;go_simp;exact I _ _ ⟨_,rfl,o1⟩ bR
    ·have o0:∃u,a.tmps[32]?.getD undef=.tuple #[u,rD .u8 0]/\Rd Y u (bvs C):=hf.1;obtain⟨u,e0,o1⟩:=o0;go_simp;exact I _ _ o1 bR
    ·have o0:∃u,a.tmps[32]?.getD undef=.tuple #[u,rD .u8 0]/\Rd Y u (bvs C):=hf.1;obtain⟨u,e0,o1⟩:=o0;go_simp;exact I _ _ rfl bR
    ·have o0:Rd Y (a.tmps[43]?.getD undef) (bvs C):=hf.1;obtain⟨v1,A⟩:=eX (a.tmps[43]?.getD undef);rw[<-A]at o0;have e1:=A.symm;clear A;go_simp;exact I _ _ o0 bR
   ·rintro f w4 q aI;have S7:Rd w4 (f 7) (bvs C):=aI.2.2.2.2.2.2.2.2.2.2.2.2.2.1;clear aI;simp only[Ao,Av,Ej,List.filterMap_cons,List.filterMap_nil,List.contains_cons,List.contains_nil,Nat.reduceBEq,Nat.reduceAdd,Bool.or_false,Bool.or_true,cond_true,cond_false];obtain⟨u,hu⟩:=eX (f 7);rw[<-hu]at S7|-;clear hu;obtain⟨q1,q2,q3,rfl⟩:∃a n c,u=.slice a n c:=(by obtain⟨a,c,e,-⟩:=S7;exact⟨_,_,_,e⟩);have aO:=Hd S7;have l:=Hd (b.out.trans (q.mono b.out.size));clear S7 q;go_wp2_with fail;have N:=Hd (show Rd (w4.alloc (rJ #[rC q1 q2 q3] 28)) (rC q1 q2 q3) (bvs C)from aO.out.alloc _);have aQ:=Hd (Km w4.heap.size (rC q1 q2 q3) C (w4.alloc (rJ #[rC q1 q2 q3] 28)) (Aq rfl) (by simp) N.out aB.out aC.out);refine(aQ.out).mono ?_;rintro e w5 ⟨b5,rfl,-,-,r,S⟩;have M:=Hd r;have aM:=Hd ((l.out.alloc l.out.size _).trans (S.mono (by have:=l.out.size;simp;omega)));clear r S;go_wp2_with fail;go_ret;exact⟨_,rfl,by rw[Z.out];exact M.out,aM.out⟩
theorem Zf9 (F:Int->Option NodeD)(H:Int->Option (List Nat))(hP:PieceOk F H)(hC:PieceCov F H):∀k,Zf8 F H k:=by
 intro k
 induction k with
 |zero=>exact Qv F H hP hC 0 fun j h=>by cases h
 |succ k ih=>exact Qv F H hP hC (k+1) fun j h=>by cases h;exact ih
end Go.Proofs.YtfofaiommeckbaaGreat
namespace Go.Proofs.YtfofaiommeckbaaGreat
open Go.RowKit WalkM WireM
theorem Zga {s:SparseD} {only:Bool}(h:Ar s only=true):PieceCov (Ah s.op) (Ba s.sh):=by
 unfold Ar at h;simp only[Bool.and_eq_true]at h;obtain⟨⟨⟨⟨A,B⟩,e⟩,m⟩,⟨hk,a⟩,b⟩:=h;have a:=oD a;have b:=oD b;simp only[Oj]at a b;generalize Ad (Ah s.op) (bP s.leaves.toNat) s.own.toNat only (bP s.leaves.toNat)=out at a b;have p:∀y:Int,y∈out↔(Ah s.op y).isSome=true:=fun y=>by
  rw[<-Nc,a];exact((fP _ _).mem_iff).symm
 have z:∀y:Int,y∈Dr out↔(Ba s.sh y).isSome=true:=fun y=>by
  rw[<-Iq,b];exact((fP _ _).mem_iff).symm
 have i:∀(x y:Nat),(x:Int)∈out->((y:Int)∈Jb out (x:Int)\/(y:Int)∈out)->Zmy (Ah s.op) (Ba s.sh) y:=by
  intro x y hx g;rcases g with g|g
  ·right
   have o:(y:Int)∈Dr out:=List.mem_flatMap.2 ⟨_,hx,g⟩;rw[z]at o;obtain⟨L,n⟩:=Option.isSome_iff_exists.1 o;have:=oD (List.all_eq_true.1 m _ (Uw n));unfold Iv;rw[n];exact this
  ·left
   exact(p _).1 g
 refine⟨fun x d c q l=> ?_,fun x d c q j=> ?_,fun k x d c r hx=> ?_⟩
 ·exact(Oo (List.all_eq_true.1 e _ (Cd c))).2.2.1 ⟨by show(x:Int)%2=0;omega,l⟩
 ·exact(Oo (List.all_eq_true.1 e _ (Cd c))).2.2.2.1 ⟨by show(x:Int)%2=1;omega,j⟩
 ·obtain⟨t,u,v,w,C⟩:=kids_lev hx r;have f:(x:Int)∈out:=(p _).2 (by rw[c];rfl);refine⟨i x _ f ?_,i x _ f ?_⟩
  ·by_cases hm:((x-2^k:Nat):Int)∈out
   ·exact .inr hm
   ·left
    unfold Jb;rw[fL]
    left
    rw[t,iP ⟨iV _,hm⟩];exact List.mem_singleton.2 rfl
  ·by_cases hm:((x+2^k:Nat):Int)∈out
   ·exact .inr hm
   ·left
    unfold Jb;rw[fL]
    right
    rw[u,iP ⟨iV _,hm⟩];exact List.mem_singleton.2 rfl
open Go.Maps ShaM
def Fd (s:SparseD):List Nat:=Fc (Ah s.op) (Ba s.sh) (bP s.leaves.toNat) (2^bP s.leaves.toNat-1)
