import Derived.Test.YtfofaiommeckbaaGreatZCk15
open Go.Obj renaming cells -> rJ
open Go.Ending renaming returned -> rK
open Go.Value renaming slice -> rC, int -> rD, pointer -> rE
open Go.IntKind renaming i64 -> rF, u8 -> rG
open Option renaming none -> rI
open Go.Proofs.Tryz
open Nat renaming sub_zero -> dR, zero_add -> aD, pow_succ -> bF, pow_le_pow_right -> bQ, log2 -> bP, lt_of_lt_of_le -> cH, add_sub_cancel -> dQ, lt_succ_self -> dU, le_succ -> gI, succ_mul -> gJ, eq_zero_or_pos -> eE, lt_or_ge -> aB, zero_le -> aA
open List renaming getD_eq_getElem?_getD -> aS, take_length -> dD, range_succ -> fF, length_append -> bA, flatMap_append -> gK, length_cons -> dB, getElem_of_mem -> dW, getElem?_eq_getElem -> bB, getElem?_toArray -> cR, getElem?_cons_zero -> cS, getElem?_cons_succ -> aP, getElem_mem -> bC, range -> aN, all_eq_true -> dX, eq_nil_of_length_eq_zero -> cN, getElem?_eq_none -> aQ, flatMap_def -> gL
open Bool renaming false_and -> dP, true_and -> dL, not_eq_true -> cX
open Int renaming tmod -> eC, tmod_eq_emod_of_nonneg -> eD, toNat_natCast -> cV
set_option linter.unusedVariables false
set_option maxRecDepth 100000
set_option maxHeartbeats 40000000
namespace Go.Proofs.YtfofaiommeckbaaGreat
open Go.RowKit WalkM WireM
section
theorem Wt {P:Program} {w:World} {ops:Array Oper} {rest:List Oper} {o:Oper} {a:Act} {Q:Exit->Act->World->Prop} (i:o.guard=none) (s x:Operand) (t:TypeId)
  (q:o.op=.call {callee:=.builtin .append,args:=#[s,x],argTypes:=#[t,t]})
  (B:Nat) (e:TypeId) (z:Value) (b:Nat) (F:Elem P t e z b)
  (v:Value) (xs:List Value) (A:a.eval s=v) (c:Own w B e v xs)
  (r:Value) (f:List Value) (hx:a.eval x=r) (y:Rd w r f) (h1:∀u∈f,u.oneCell'=true)
  (p:xs.length+f.length<1099511627776) (n:B<=w.heap.size)
  (h:∀d w',Own w' B e d (xs++f)->w.grownBy w' v.ownBlock->Below B w w'->Vv w v d->wpList P ops Q rest (a.put o.dst d) w'):wpList P ops Q (o::rest) a w:=by
 refine wpList_plain i fun C g=> ?_;exact Zcc s x t q B e z b F v xs A c r f hx y h1 p n fun d w' j k l m=>g _ _ (h d w' j k l m)
theorem Zl6 {d z j:Nat}(a:d<=16)(b:z+1<2^(d+1))(f:j<d):Zjd ((anc z j:Nat):Int) ((2^d:Nat):Int)=((Jl z j:Nat):Int):=by
 obtain⟨c,e2⟩:=Dh a;have e:=Zl5 a b (j:=j+1) (by omega);have k:=Nat.two_pow_pos (j+1);obtain⟨-,-,h0,-,-,g,i⟩:=kids_two (anc_lev z (j+1)) e c;rw[Zjd,Yf a b (by omega),nxt,iP f,iN (by omega),g,i];unfold Jl
 by_cases h:anc z j<anc z (j+1)
 ·rw[iP (by omega),iP h]
 ·rw[iN (by omega),iN h]
theorem Zkw {d i r:Nat}(a:d<=16)(b:2*i+1<2^(d+1))(c:r<d):(Zhg (2*(i:Int)) ((2^d:Nat):Int)).getD r 0=((Jl (2*i) r:Nat):Int):=by
 obtain⟨f,e2⟩:=Dh a;have e:=Ig (q:=2*i) (by omega) (by omega);rw[show 2*(i:Int)=((2*i:Nat):Int) by omega,Wi a b,e,dR,aS];unfold Zhf;rw[List.getElem?_map,List.getElem?_range c];show Zjd ((anc (2*i) (0+r):Nat):Int) _=_;rw[aD,Zl6 a b c]
theorem Zkx {d i:Nat}(hd:d<=16)(hi:2*i+1<2^(d+1)):(Zhg (2*(i:Int)) ((2^d:Nat):Int)).length=d:=by
 obtain⟨hM,e2⟩:=Dh hd;have hl:=Ig (q:=2*i) (by omega) (by omega);rw[show 2*(i:Int)=((2*i:Nat):Int) by omega,Wi hd hi,Yl,hl,dR]
def okA (FI:Int->Option NodeD)(L:List Int)(r:Nat):Bool:=(L.take r).all fun y=>(FI y).isSome
theorem Zhz {FI:Int->Option NodeD} {L:List Int} {r:Nat}(hr:r<L.length):okA FI L (r+1)=(okA FI L r&&(FI (L.getD r 0)).isSome):=by
 unfold okA;rw[<-Er hr,List.all_append];simp
theorem Zky {FI:Int->Option NodeD} {L:List Int}:okA FI L L.length=L.all fun y=>(FI y).isSome:=by rw[okA,dD]
section
variable {FI:Int->Option NodeD} {d i:Nat}
theorem Zc:Ad FI d i false 0=upL d (i:Int):=by simp[Ad]
theorem Sh (r:Nat):Ad FI d i true r=upL d (i:Int):=by simp[Ad]
theorem Zd (r:Nat):Ad FI d i false (r+1)=Ad FI d i false r++(Bb FI d r (Jl (2*i) r)).1:=by
 simp[Ad,fF]
theorem Zh0 (only:Bool):Ca FI d i only 0=(upL d (i:Int)).all fun y=>(FI y).isSome:=by simp[Ca]
theorem Zh1 (r:Nat):Ca FI d i true r=(upL d (i:Int)).all fun y=>(FI y).isSome:=by simp[Ca]
theorem Zh2 (r:Nat):Ca FI d i false (r+1)=(Ca FI d i false r&&(Bb FI d r (Jl (2*i) r)).2):=by
 simp[Ca,fF,Bool.and_assoc]
end
theorem Zkz {l:List (Int×NodeD)} {d i:Nat}(hd:d<=16)(hK:Lz l):∀r,(Ad (Ah l) d i false r).length<=17+20000*2^(r+1):=by
 intro r
 induction r with
 |zero=>rw[Zc];have:=Jm hd (i:Int);omega
 |succ r ih=>
  rw[Zd,bA];have:=Im hd hK r (Jl (2*i) r);have e:2^(r+1+1)=2*2^(r+1):=(by rw[bF];omega);omega
def Zb4 (out:List Int)(a:Int):List Int:=if 0<=a/\a∉out then [a]else []
theorem Zbg (out:List Int)(z:Int):Jb out z=Zb4 out (Dt z)++Zb4 out (Cb z):=rfl
theorem Dc {out:List Int} {a:Int}(h:¬0<=a):Zb4 out a=[]:=by rw[Zb4,iN fun h2=>h h2.1]
theorem Eh {out:List Int} {a:Int}(h:true=decide (a∈out)):Zb4 out a=[]:=by rw[Zb4,iN fun h2=>h2.2 (oD h.symm)]
theorem Dd {out:List Int} {a:Int}(h0:0<=a)(h:false=decide (a∈out)):Zb4 out a=[a]:=by rw[Zb4,iP ⟨h0,of_decide_eq_false h.symm⟩]
def Iu (out:List Int)(r:Nat):List Int:=(out.take r).flatMap (Jb out)
theorem In {out:List Int} {r:Nat}(hr:r<out.length):Iu out (r+1)=Iu out r++(Zb4 out (Dt (out.getD r 0))++Zb4 out (Cb (out.getD r 0))):=by
 unfold Iu;rw[<-Er hr,gK,<-Zbg];simp
theorem Ol {out:List Int}:Iu out out.length=Dr out:=by rw[Iu,dD];rfl
theorem Ze (out:List Int)(a:Int):(Zb4 out a).length<=1:=by unfold Zb4;split<;>simp
theorem Om {out:List Int}:∀r,r<=out.length->(Iu out r).length<=2*r:=by
 intro r
 induction r with
 |zero=>intro _;simp[Iu]
 |succ r ih=>
  intro hr;rw[In (by omega),bA,bA];have:=ih (by omega);have h1:=Ze out (Dt (out.getD r 0));have h2:=Ze out (Cb (out.getD r 0));omega
theorem Wu (l:List (Int×NodeD))(d i:Nat)(only:Bool)(v:Value)(w:World)(hd:d<=16)(hi:2*i+1<2^(d+1))(h:SpotsR w v l)(hK:Lz l):
  Calls prog 79 #[v,rD rF ((2^d:Nat):Int),rD rF (i:Nat),.bool only] w fun e w'=>∃v1 v2,e=rK (.tuple #[v1,v2,.bool (Ca (Ah l) d i only d)])/\Own w' w.heap.size 3 v1 (ivs .i64 (Fe (Ad (Ah l) d i only d)))/\Own w' w.heap.size 3 v2 (ivs .i64 (Fe (Dr (Ad (Ah l) d i only d))))/\Below w.heap.size w w':=by
 obtain⟨hM,e2⟩:=Dh hd;have a4:=fun(y:Int) (W:World) (Y:Below w.heap.size w W)=>Dm v l y W (h.below Y lR);have WH:=fun(r:Nat) (hr:r<d) (W:World) (Y:Below w.heap.size w W)=>Zd9 l d hd hK r (Jl (2*i) r) v W (h.below Y lR) (Oi hd hi hr).1 (Oi hd hi hr).2;have bE:=fun(r:Nat) (hr:r<d)=>(show(Bb (Ah l) d r (Jl (2*i) r)).1.length<=3000000000 from by
  have:=Im hd hK r (Jl (2*i) r);have dO:2^(r+1)<=2^17:=bQ (by omega) (by omega);have cV:(2:Nat)^17=131072:=rfl
  omega)
 have bD:=fun(r:Nat) (hr:r<=d)=>(show(Ad (Ah l) d i only r).length<=6000000000 from by
  cases only with
  |true=>rw[Sh];have:=Jm hd (i:Int);omega
  |false=>
   have:=Zkz (i:=i) hd hK r;have dO:2^(r+1)<=2^17:=bQ (by omega) (by omega);have cV:(2:Nat)^17=131072:=rfl
   omega)
 have UL:=Jm hd (i:Int);have CL:=Zkx hd hi;have CG:=fun(r:Nat) (hr:r<d)=>Zkw hd hi hr;have d4:i<=131072:=(by omega);have dR:2^d<=131072:=(by omega);clear hK;obtain⟨FI,cW⟩:=eX (Ah l);simp only[<-cW]at a4 WH bE bD|-;obtain⟨n,hn⟩:=eX (2^d);rw[<-hn]at dR CL CG|-;simp only[<-hn]at WH;have b0:=fun(y:Int) (W:World)=>Ob y (n:Int) W (by omega) (by omega);have cE:=fun(y:Int) (W:World)=>Wj y (n:Int) W (by omega) (by omega);have HN:=Hd hn;have a8:=Hd a4;have dN:=Hd WH;have b9:=Hd bE;have aU:=Hd bD;have cS:=Hd UL;have cM:=Hd CL;have dG:=Hd CG;have b4:=Hd b0;have cN:=Hd cE;have d5:wrap64 (2*(i:Int))=2*(i:Int):=(by unfold wrap64;omega);obtain⟨a,cp,rfl,-,-⟩:=h.sl;clear a4 WH bE bD UL CL CG b0 cE cW hn h hi hM e2;go_in;go_wp2_with fail;have dJ:=Hd (show Own (w.alloc (rJ #[rD rF (2*(i:Int))] 3)) w.heap.size 3 (rC (some ⟨w.heap.size,0,rI⟩) 1 1) [rD rF (2*(i:Int))]from Own.full (B:=w.heap.size) (cs:=#[rD rF (2*(i:Int))]) rfl lR (by unfold maxLen;simp) rfl);have cF:=Hd ((Below.refl w.heap.size w).alloc lR (rJ #[rD rF (2*(i:Int))] 3));refine(b4.out (2*(i:Int)) _).mono ?_;rintro e w5 ⟨pv,rfl,cA,U⟩;have dM:=Hd cA.rd;have cP:=Hd (dJ.out.below U lR);have cI:=Hd (cF.out.trans (U.mono cF.out.size));obtain⟨s1,s2,s3,rfl⟩:=Cx cA;clear cA U;go_wp2_with (at_builtin;refine Ak rfl (.tmp 26) (.tmp 30) 48 rfl w.heap.size 3 _ 8 Cg _ [rD rF (2*(i:Int))] rfl cP.out _ _ rfl dM.out ?d1 ?d2 ?d3 ?_);case d1=>exact Ea _
 case d2=>have:=cS.out;rw[upL,dB,List.length_map,<-HN.out]at this;rw[Ld];simp;omega
 case d3=>exact cI.out.size
 rintro uv w6 aW-c4;have b6:=Hd (show Own w6 w.heap.size 3 uv (ivs .i64 (upL d (i:Int)))from by
  have e:Value.int .i64 (2*(i:Int))::nvs (Pg (2*(i:Int)) ((2^d:Nat):Int))=ivs .i64 (upL d (i:Int)):=(by simp[upL,nvs,ivs]);rw[HN.out,e]at aW;exact aW)
 have b2:=Hd (cI.out.trans c4);clear aW c4;obtain⟨ul,bW⟩:=eX ((upL d (i:Int)).length);have a1:=Hd bW;have dS:ul<=17:=(by rw[bW];exact cS.out);obtain⟨v1,v2,rfl⟩:=Qi b6.out bW.symm;clear bW;go_wp2_with fail;refine(cN.out (2*(i:Int)) _).mono ?_;rintro e w7 ⟨av,rfl,bT,bU⟩;have bO:=Hd bT;have cJ:=Hd (b2.out.trans (bU.mono b2.out.size));have cT:=Hd (b6.out.below bU lR);have bN:=Hd (show Ha (rC v1 ul v2) av from fun g e1 e2=>by have:=(b6.out.blockLt e1).1;have:=(bT.blockLt e2).2;omega);have dZ:=Hd (show w.heap.size<=w6.heap.size from b2.out.size);have cU:=Hd (show w6.heap.size<=w7.heap.size from bU.size);obtain⟨z1,z2,rfl⟩:=Qi bT cM.out;have dW:d<=16:=hd;clear bT bU;go_wp2_with fail
 go_loopg [13,14] ul (fun q kv iv wr=>∃r:Nat,r+q=ul/\iv=rD rF (r:Nat)/\kv=.bool (okA FI (upL d (i:Int)) r)/\Below w7.heap.size w7 wr)
 case atStart=>exact⟨0,by omega,rfl,rfl,bR⟩
 case round=>
  obtain⟨r,hr,rfl,rfl,hb⟩:=hrel;have HR:=Hd hr;have HB:=Hd hb;have bP:=Hd (cJ.out.trans (hb.mono cJ.out.size));have bA:=Hd (cT.out.below hb lR);have cG:=Hd (bO.out.below hb lR);obtain⟨bM,bJ⟩:=eX (okA FI (upL d (i:Int)) r);rw[<-bJ];have aY:=Hd bJ;clear hr hb bJ
  by_cases hlt:r<ul
  ·have aC:decide (r<ul)=true:=dT hlt;have bH:(r:Int)<(ul:Int):=(by omega);obtain⟨bu,ou,rfl,dQ,cy⟩:=bA.out.rd.at3 (By (show r<(upL d (i:Int)).length by rw[<-a1.out];exact hlt));have HS:=Hd (Zhz (FI:=FI) (L:=upL d (i:Int)) (r:=r) (by rw[<-a1.out];exact hlt));obtain⟨y,hy⟩:=eX ((upL d (i:Int)).getD r 0);rw[<-hy]at cy HS;clear hy;have dH:=Hd (a8.out y wr bP.out);go_wp2_with fail;refine dH.out.mono ?_;rintro e aE ⟨d0,rfl,aV,aP⟩;obtain⟨fk,bG⟩:=eX ((FI y).isSome);rw[<-bG]at HS|-;have bS:=Hd aV.oneL;obtain⟨y0,y1,y2,y3,y4,y5,y6,y7,y8,y9,rfl⟩:=aV.ten;have aF:=Hd aP;clear aV aP bG;obtain⟨dU,bL⟩:=eX aE.heap.size;have cQ:=Hd bL;have b5:=Hd (show Blk (aE.alloc (rJ #[rD rG 0,rC rI 0 0,rC rI 0 0,rC rI 0 0,rD rG 0,rC rI 0 0,rC rI 0 0,rC rI 0 0,rC rI 0 0,rC rI 0 0] 52)) dU 52 #[rD rG 0,rC rI 0 0,rC rI 0 0,rC rI 0 0,rD rG 0,rC rI 0 0,rC rI 0 0,rC rI 0 0,rC rI 0 0,rC rI 0 0] by rw[bL];exact Blk.new _ _ _);clear bL;go_wp2_with (refine Aa rfl 52 (.tmp 15) (.tmp 49) rfl aE.heap.size #[y0,y1,y2,y3,y4,y5,y6,y7,y8,y9] rfl rfl 52 #[rD rG 0,rC rI 0 0,rC rI 0 0,rC rI 0 0,rD rG 0,rC rI 0 0,rC rI 0 0,rC rI 0 0,rC rI 0 0,rC rI 0 0] (cQ.out▸b5.out) (by kernel_rfl) rfl bS.out ?_);rintro d6 c6 c5 dA cC;have cH:=Hd (aF.out.trans (((Below.refl aE.heap.size aE).alloc lR (rJ #[rD rG 0,rC rI 0 0,rC rI 0 0,rC rI 0 0,rD rG 0,rC rI 0 0,rC rI 0 0,rC rI 0 0,rC rI 0 0,rC rI 0 0] 52)).trans (c5 aE.heap.size lR)|>.mono aF.out.size));have cL:=Hd (HB.out.trans (cH.out.mono HB.out.size));clear c6 c5 dA cC;have cR:=Hd (show okA FI (upL d (i:Int)) (r+1)=(bM&&fk)from by rw[HS.out,aY.out]);clear HS aY;cases bM
   ·go_wp2_with fail;go_roundg (gk-1);case measure=>have:=HR.out;omega
    case rel=>exact⟨r+1,by have:=HR.out;omega,by go_num,by rw[cR.out,dP],cL.out⟩
   ·go_wp2_with fail;go_roundg (gk-1);case measure=>have:=HR.out;omega
    case rel=>exact⟨r+1,by have:=HR.out;omega,by go_num,by rw[cR.out,dL],cL.out⟩
  ·obtain rfl:r=ul:=(by have:=HR.out;omega);have aC:decide (r<r)=false:=dF hlt;have aD:=Hd (show bM=(upL d (i:Int)).all fun y=>(FI y).isSome from by rw[aY.out,a1.out];exact Zky);have dY:=Hd (show w6.heap.size<=wr.heap.size from Nat.le_trans cU.out HB.out.size);clear hlt aY a8;cases only with
   |true=>
    go_wp2_with fail
    go_loopg [11,13,17] 0 (fun q ov kv iv w2=>ov=.slice v1 r v2/\kv=.bool bM/\iv=rD rF 0/\w2=wr)
    case atStart=>exact⟨rfl,rfl,rfl,rfl⟩
    case round=>
     obtain⟨rfl,rfl,rfl,rfl⟩:=hrel;have aZ:=Hd (show bM=Ca FI d i true d from by rw[aD.out,Zh1]);have a0:=Hd (show Own wr w.heap.size 3 (rC v1 r v2) (ivs .i64 (Ad FI d i true d))from by rw[Sh];exact bA.out);have aT:=Hd (aU.out d lR);have T:=Hd (show r=(Ad FI d i true d).length from by rw[Sh];exact a1.out)
     by_cases hd0:0<d
     ·have c7:decide (0<d)=true:=dT hd0;have c8:decide ((0:Int)<(d:Int))=true:=dT (by omega);go_wp2_with fail;obtain⟨X,rfl⟩:∃X:World,X=wr:=⟨_,rfl⟩;have aG:=Hd bP.out;have C:=Hd a0.out;have cX:r<=6000000000:=by rw[T.out];exact aT.out
      go_loopg [20,21] r (fun q ov iv wr=>∃s:Nat,s+q=r/\iv=rD rF (s:Nat)/\Own wr X.heap.size 3 ov (ivs .i64 (Iu (Ad FI d i true d) s))/\Below X.heap.size X wr)
      case atStart=>exact⟨0,by omega,rfl,Own.nil _ _ _,bR⟩
      case round=>
       obtain⟨s,hs,rfl,K,hb⟩:=hrel;have m:=Hd hs;have aM:=Hd K;have Z:=Hd hb;have aK:=Hd (C.out.below hb lR);have Q:=Hd (Om (out:=(Ad FI d i true d)) s (by rw[<-T.out];omega));obtain⟨j1,j2,j3,rfl⟩:=Cx K;clear hs K hb
       by_cases hlt:s<r
       ·have aC:decide (s<r)=true:=dT hlt;have bH:(s:Int)<(r:Int):=(by omega);obtain⟨bo,oo,rfl,bF,co⟩:=aK.out.rd.at3 (By (show s<((Ad FI d i true d)).length by rw[<-T.out];exact hlt));have A:=Hd (In (out:=(Ad FI d i true d)) (r:=s) (by rw[<-T.out];exact hlt));obtain⟨z,hz⟩:=eX (((Ad FI d i true d)).getD s 0);rw[<-hz]at co A;have aJ:=Hd (Gs z wr);obtain⟨a2,aO⟩:=eX (Dt z);obtain⟨b,aQ⟩:=eX (Cb z);rw[<-aO,<-aQ]at aJ A;clear hz aO aQ;go_wp2_with fail;refine aJ.out.mono ?_;rintro e w5 ⟨rfl,U⟩;have c:=Hd (Z.out.trans (U.mono Z.out.size));have H:=Hd (aM.out.below U lR);clear U co bF
        by_cases ha0:0<=a2
        ·have aN:decide (a2>=0)=true:=dT ha0;have P:=Hd (fun W Y=>Bx (rC (some ⟨bo,oo,rI⟩) r v2) (Ad FI d i true d) a2 W Y);obtain⟨ba,M⟩:=eX (decide (a2∈(Ad FI d i true d)));rw[<-M]at P;have aI:=Hd P.out;have I:=Hd M;have a7:=Hd ha0;clear M ha0 P;cases ba with
         |true=>
          have x:=Hd (Eh I.out);clear I;go_wp2_with fail;refine(aI.out _ (C.out.rd.below c.out lR)).mono ?_;rintro e wx ⟨rfl,rfl⟩
          by_cases hb0:0<=b
          ·have G:decide (b>=0)=true:=dT hb0;have o:=Hd (fun W Y=>Bx (rC (some ⟨bo,oo,rI⟩) r v2) (Ad FI d i true d) b W Y);obtain⟨bb,j⟩:=eX (decide (b∈(Ad FI d i true d)));rw[<-j]at o;have E:=Hd o.out;have f:=Hd j;have O:=Hd hb0;clear j hb0 o;cases bb with
           |true=>
            have p:=Hd (Eh f.out);clear f;go_wp2_with fail;refine(E.out _ (C.out.rd.below c.out lR)).mono ?_;rintro e wx ⟨rfl,rfl⟩;go_wp2_with fail;go_roundg (gk-1);case measure=>have:=m.out;omega
            case rel=>
             refine⟨s+1,by have:=m.out;omega,by go_num,?_,c.out⟩;rw[A.out,x.out,p.out];have:=H.out;simpa [ivs]using this
           |false=>
            have p:=Hd (Dd O.out f.out);clear f;go_wp2_with fail;refine(E.out _ (C.out.rd.below c.out lR)).mono ?_;rintro e wx ⟨rfl,rfl⟩;go_wp2_with (at_builtin;refine An rfl (.tmp 116) (.tmp 118) 48 rfl X.heap.size 3 _ 8 Cg _ _ rfl (H.out.alloc _) _ (rD rF b) rfl ?c1 rfl ?c2 ?c3 ?_);case c1=>exact Aq rfl
            case c2=>have:=Q.out;have:=hlt;simp[ivs];omega
            case c3=>have:=c.out.size;simp;omega
            rintro vb wb t-j;have F:=Hd t;have D:=Hd ((c.out.alloc c.out.size (rJ #[rD rF b] 3)).trans j);clear t j;go_wp2_with fail;go_roundg (gk-1);case measure=>have:=m.out;omega
            case rel=>
             refine⟨s+1,by have:=m.out;omega,by go_num,?_,D.out⟩;rw[A.out,x.out,p.out];have:=F.out;simpa [ivs]using this
          ·have G:decide (b>=0)=false:=dF hb0;have p:=Hd (Dc (out:=(Ad FI d i true d)) hb0);clear hb0;go_wp2_with fail;go_roundg (gk-1);case measure=>have:=m.out;omega
           case rel=>
            refine⟨s+1,by have:=m.out;omega,by go_num,?_,c.out⟩;rw[A.out,x.out,p.out];have:=H.out;simpa [ivs]using this
         |false=>
          have x:=Hd (Dd a7.out I.out);clear I;go_wp2_with fail;refine(aI.out _ (C.out.rd.below c.out lR)).mono ?_;rintro e wx ⟨rfl,rfl⟩;go_wp2_with (at_builtin;refine An rfl (.tmp 104) (.tmp 106) 48 rfl X.heap.size 3 _ 8 Cg _ _ rfl (H.out.alloc _) _ (rD rF a2) rfl ?c1 rfl ?c2 ?c3 ?_);case c1=>exact Aq rfl
          case c2=>have:=Q.out;have:=hlt;simp[ivs];omega
          case c3=>have:=c.out.size;simp;omega
          rintro va wa S-M;have V:=Hd S;have u:=Hd ((c.out.alloc c.out.size (rJ #[rD rF a2] 3)).trans M);clear S M;obtain⟨k1,k2,k3,rfl⟩:=Cx V.out
          by_cases hb0:0<=b
          ·have G:decide (b>=0)=true:=dT hb0;have o:=Hd (fun W Y=>Bx (rC (some ⟨bo,oo,rI⟩) r v2) (Ad FI d i true d) b W Y);obtain⟨bb,j⟩:=eX (decide (b∈(Ad FI d i true d)));rw[<-j]at o;have E:=Hd o.out;have f:=Hd j;have O:=Hd hb0;clear j hb0 o;cases bb with
           |true=>
            have p:=Hd (Eh f.out);clear f;go_wp2_with fail;refine(E.out _ (C.out.rd.below u.out lR)).mono ?_;rintro e wx ⟨rfl,rfl⟩;go_wp2_with fail;go_roundg (gk-1);case measure=>have:=m.out;omega
            case rel=>
             refine⟨s+1,by have:=m.out;omega,by go_num,?_,u.out⟩;rw[A.out,x.out,p.out];have:=V.out;simpa [ivs]using this
           |false=>
            have p:=Hd (Dd O.out f.out);clear f;go_wp2_with fail;refine(E.out _ (C.out.rd.below u.out lR)).mono ?_;rintro e wx ⟨rfl,rfl⟩;go_wp2_with (at_builtin;refine An rfl (.tmp 116) (.tmp 118) 48 rfl X.heap.size 3 _ 8 Cg _ _ rfl (V.out.alloc _) _ (rD rF b) rfl ?c1 rfl ?c2 ?c3 ?_);case c1=>exact Aq rfl
            case c2=>have:=Q.out;have:=hlt;simp[ivs];omega
            case c3=>have:=u.out.size;simp;omega
            rintro vb wb t-j;have F:=Hd t;have D:=Hd ((u.out.alloc u.out.size (rJ #[rD rF b] 3)).trans j);clear t j;go_wp2_with fail;go_roundg (gk-1);case measure=>have:=m.out;omega
            case rel=>
             refine⟨s+1,by have:=m.out;omega,by go_num,?_,D.out⟩;rw[A.out,x.out,p.out];have:=F.out;simpa [ivs]using this
          ·have G:decide (b>=0)=false:=dF hb0;have p:=Hd (Dc (out:=(Ad FI d i true d)) hb0);clear hb0;go_wp2_with fail;go_roundg (gk-1);case measure=>have:=m.out;omega
           case rel=>
            refine⟨s+1,by have:=m.out;omega,by go_num,?_,u.out⟩;rw[A.out,x.out,p.out];have:=V.out;simpa [ivs]using this
        ·have aN:decide (a2>=0)=false:=dF ha0;have x:=Hd (Dc (out:=(Ad FI d i true d)) ha0);clear ha0
         by_cases hb0:0<=b
         ·have G:decide (b>=0)=true:=dT hb0;have o:=Hd (fun W Y=>Bx (rC (some ⟨bo,oo,rI⟩) r v2) (Ad FI d i true d) b W Y);obtain⟨bb,j⟩:=eX (decide (b∈(Ad FI d i true d)));rw[<-j]at o;have E:=Hd o.out;have f:=Hd j;have O:=Hd hb0;clear j hb0 o;cases bb with
          |true=>
           have p:=Hd (Eh f.out);clear f;go_wp2_with fail;refine(E.out _ (C.out.rd.below c.out lR)).mono ?_;rintro e wx ⟨rfl,rfl⟩;go_wp2_with fail;go_roundg (gk-1);case measure=>have:=m.out;omega
           case rel=>
            refine⟨s+1,by have:=m.out;omega,by go_num,?_,c.out⟩;rw[A.out,x.out,p.out];have:=H.out;simpa [ivs]using this
          |false=>
           have p:=Hd (Dd O.out f.out);clear f;go_wp2_with fail;refine(E.out _ (C.out.rd.below c.out lR)).mono ?_;rintro e wx ⟨rfl,rfl⟩;go_wp2_with (at_builtin;refine An rfl (.tmp 116) (.tmp 118) 48 rfl X.heap.size 3 _ 8 Cg _ _ rfl (H.out.alloc _) _ (rD rF b) rfl ?c1 rfl ?c2 ?c3 ?_);case c1=>exact Aq rfl
           case c2=>have:=Q.out;have:=hlt;simp[ivs];omega
           case c3=>have:=c.out.size;simp;omega
           rintro vb wb t-j;have F:=Hd t;have D:=Hd ((c.out.alloc c.out.size (rJ #[rD rF b] 3)).trans j);clear t j;go_wp2_with fail;go_roundg (gk-1);case measure=>have:=m.out;omega
           case rel=>
            refine⟨s+1,by have:=m.out;omega,by go_num,?_,D.out⟩;rw[A.out,x.out,p.out];have:=F.out;simpa [ivs]using this
         ·have G:decide (b>=0)=false:=dF hb0;have p:=Hd (Dc (out:=(Ad FI d i true d)) hb0);clear hb0;go_wp2_with fail;go_roundg (gk-1);case measure=>have:=m.out;omega
          case rel=>
           refine⟨s+1,by have:=m.out;omega,by go_num,?_,c.out⟩;rw[A.out,x.out,p.out];have:=H.out;simpa [ivs]using this
       ·obtain rfl:s=r:=(by have:=m.out;omega);have aC:decide (s<s)=false:=dF hlt;have HE:=Hd (show Iu (Ad FI d i true d) s=Dr (Ad FI d i true d)from by rw[T.out];exact Ol);clear hlt;go_wp2_with fail;refine(Dn _ (Ad FI d i true d) _ aK.out.rd (by have:=aT.out;omega)).mono ?_;rintro e dD ⟨vo,rfl,aR,J⟩;have bB:=Hd aR;have bY:=Hd J;have aL:=Hd (aM.out.below J lR);have aA:=Hd (aG.out.trans (Z.out.mono aG.out.size));have N:=Hd (aA.out.trans (J.mono aA.out.size));clear aR J;go_wp2_with fail;refine(Dn _ (Iu (Ad FI d i true d) s) _ aL.out.rd (by have:=Q.out;omega)).mono ?_;rintro e dE ⟨vs,rfl,aS,R⟩;have bC:=Hd aS;have aB:=Hd (bB.out.below R lR);have aH:=Hd (N.out.trans (R.mono N.out.size));clear aS R;go_wp2_with fail
        go_ret3
        rw[<-aZ.out];refine⟨_,_,rfl,aB.out.mono aA.out.size,?_,aH.out⟩;rw[<-HE.out];exact bC.out.mono N.out.size
     ·have c7:decide (0<d)=false:=dF hd0;have c8:decide ((0:Int)<(d:Int))=false:=dF (by omega);go_wp2_with fail;obtain⟨X,rfl⟩:∃X:World,X=wr:=⟨_,rfl⟩;have aG:=Hd bP.out;have C:=Hd a0.out;have cX:r<=6000000000:=by rw[T.out];exact aT.out
      go_loopg [20,21] r (fun q ov iv wr=>∃s:Nat,s+q=r/\iv=rD rF (s:Nat)/\Own wr X.heap.size 3 ov (ivs .i64 (Iu (Ad FI d i true d) s))/\Below X.heap.size X wr)
      case atStart=>exact⟨0,by omega,rfl,Own.nil _ _ _,bR⟩
      case round=>
       obtain⟨s,hs,rfl,K,hb⟩:=hrel;have m:=Hd hs;have aM:=Hd K;have Z:=Hd hb;have aK:=Hd (C.out.below hb lR);have Q:=Hd (Om (out:=(Ad FI d i true d)) s (by rw[<-T.out];omega));obtain⟨j1,j2,j3,rfl⟩:=Cx K;clear hs K hb
       by_cases hlt:s<r
       ·have aC:decide (s<r)=true:=dT hlt;have bH:(s:Int)<(r:Int):=(by omega);obtain⟨bo,oo,rfl,bF,co⟩:=aK.out.rd.at3 (By (show s<((Ad FI d i true d)).length by rw[<-T.out];exact hlt));have A:=Hd (In (out:=(Ad FI d i true d)) (r:=s) (by rw[<-T.out];exact hlt));obtain⟨z,hz⟩:=eX (((Ad FI d i true d)).getD s 0);rw[<-hz]at co A;have aJ:=Hd (Gs z wr);obtain⟨a2,aO⟩:=eX (Dt z);obtain⟨b,aQ⟩:=eX (Cb z);rw[<-aO,<-aQ]at aJ A;clear hz aO aQ;go_wp2_with fail;refine aJ.out.mono ?_;rintro e w5 ⟨rfl,U⟩;have c:=Hd (Z.out.trans (U.mono Z.out.size));have H:=Hd (aM.out.below U lR);clear U co bF
        by_cases ha0:0<=a2
        ·have aN:decide (a2>=0)=true:=dT ha0;have P:=Hd (fun W Y=>Bx (rC (some ⟨bo,oo,rI⟩) r v2) (Ad FI d i true d) a2 W Y);obtain⟨ba,M⟩:=eX (decide (a2∈(Ad FI d i true d)));rw[<-M]at P;have aI:=Hd P.out;have I:=Hd M;have a7:=Hd ha0;clear M ha0 P;cases ba with
         |true=>
          have x:=Hd (Eh I.out);clear I;go_wp2_with fail;refine(aI.out _ (C.out.rd.below c.out lR)).mono ?_;rintro e wx ⟨rfl,rfl⟩
          by_cases hb0:0<=b
          ·have G:decide (b>=0)=true:=dT hb0;have o:=Hd (fun W Y=>Bx (rC (some ⟨bo,oo,rI⟩) r v2) (Ad FI d i true d) b W Y);obtain⟨bb,j⟩:=eX (decide (b∈(Ad FI d i true d)));rw[<-j]at o;have E:=Hd o.out;have f:=Hd j;have O:=Hd hb0;clear j hb0 o;cases bb with
           |true=>
            have p:=Hd (Eh f.out);clear f;go_wp2_with fail;refine(E.out _ (C.out.rd.below c.out lR)).mono ?_;rintro e wx ⟨rfl,rfl⟩;go_wp2_with fail;go_roundg (gk-1);case measure=>have:=m.out;omega
            case rel=>
             refine⟨s+1,by have:=m.out;omega,by go_num,?_,c.out⟩;rw[A.out,x.out,p.out];have:=H.out;simpa [ivs]using this
           |false=>
            have p:=Hd (Dd O.out f.out);clear f;go_wp2_with fail;refine(E.out _ (C.out.rd.below c.out lR)).mono ?_;rintro e wx ⟨rfl,rfl⟩;go_wp2_with (at_builtin;refine An rfl (.tmp 116) (.tmp 118) 48 rfl X.heap.size 3 _ 8 Cg _ _ rfl (H.out.alloc _) _ (rD rF b) rfl ?c1 rfl ?c2 ?c3 ?_);case c1=>exact Aq rfl
            case c2=>have:=Q.out;have:=hlt;simp[ivs];omega
            case c3=>have:=c.out.size;simp;omega
            rintro vb wb t-j;have F:=Hd t;have D:=Hd ((c.out.alloc c.out.size (rJ #[rD rF b] 3)).trans j);clear t j;go_wp2_with fail;go_roundg (gk-1);case measure=>have:=m.out;omega
            case rel=>
             refine⟨s+1,by have:=m.out;omega,by go_num,?_,D.out⟩;rw[A.out,x.out,p.out];have:=F.out;simpa [ivs]using this
          ·have G:decide (b>=0)=false:=dF hb0;have p:=Hd (Dc (out:=(Ad FI d i true d)) hb0);clear hb0;go_wp2_with fail;go_roundg (gk-1);case measure=>have:=m.out;omega
           case rel=>
            refine⟨s+1,by have:=m.out;omega,by go_num,?_,c.out⟩;rw[A.out,x.out,p.out];have:=H.out;simpa [ivs]using this
         |false=>
          have x:=Hd (Dd a7.out I.out);clear I;go_wp2_with fail;refine(aI.out _ (C.out.rd.below c.out lR)).mono ?_;rintro e wx ⟨rfl,rfl⟩;go_wp2_with (at_builtin;refine An rfl (.tmp 104) (.tmp 106) 48 rfl X.heap.size 3 _ 8 Cg _ _ rfl (H.out.alloc _) _ (rD rF a2) rfl ?c1 rfl ?c2 ?c3 ?_);case c1=>exact Aq rfl
          case c2=>have:=Q.out;have:=hlt;simp[ivs];omega
          case c3=>have:=c.out.size;simp;omega
          rintro va wa S-M;have V:=Hd S;have u:=Hd ((c.out.alloc c.out.size (rJ #[rD rF a2] 3)).trans M);clear S M;obtain⟨k1,k2,k3,rfl⟩:=Cx V.out
          by_cases hb0:0<=b
          ·have G:decide (b>=0)=true:=dT hb0;have o:=Hd (fun W Y=>Bx (rC (some ⟨bo,oo,rI⟩) r v2) (Ad FI d i true d) b W Y);obtain⟨bb,j⟩:=eX (decide (b∈(Ad FI d i true d)));rw[<-j]at o;have E:=Hd o.out;have f:=Hd j;have O:=Hd hb0;clear j hb0 o;cases bb with
           |true=>
            have p:=Hd (Eh f.out);clear f;go_wp2_with fail;refine(E.out _ (C.out.rd.below u.out lR)).mono ?_;rintro e wx ⟨rfl,rfl⟩;go_wp2_with fail;go_roundg (gk-1);case measure=>have:=m.out;omega
            case rel=>
             refine⟨s+1,by have:=m.out;omega,by go_num,?_,u.out⟩;rw[A.out,x.out,p.out];have:=V.out;simpa [ivs]using this
           |false=>
            have p:=Hd (Dd O.out f.out);clear f;go_wp2_with fail;refine(E.out _ (C.out.rd.below u.out lR)).mono ?_;rintro e wx ⟨rfl,rfl⟩;go_wp2_with (at_builtin;refine An rfl (.tmp 116) (.tmp 118) 48 rfl X.heap.size 3 _ 8 Cg _ _ rfl (V.out.alloc _) _ (rD rF b) rfl ?c1 rfl ?c2 ?c3 ?_);case c1=>exact Aq rfl
            case c2=>have:=Q.out;have:=hlt;simp[ivs];omega
            case c3=>have:=u.out.size;simp;omega
            rintro vb wb t-j;have F:=Hd t;have D:=Hd ((u.out.alloc u.out.size (rJ #[rD rF b] 3)).trans j);clear t j;go_wp2_with fail;go_roundg (gk-1);case measure=>have:=m.out;omega
            case rel=>
             refine⟨s+1,by have:=m.out;omega,by go_num,?_,D.out⟩;rw[A.out,x.out,p.out];have:=F.out;simpa [ivs]using this
          ·have G:decide (b>=0)=false:=dF hb0;have p:=Hd (Dc (out:=(Ad FI d i true d)) hb0);clear hb0;go_wp2_with fail;go_roundg (gk-1);case measure=>have:=m.out;omega
           case rel=>
            refine⟨s+1,by have:=m.out;omega,by go_num,?_,u.out⟩;rw[A.out,x.out,p.out];have:=V.out;simpa [ivs]using this
        ·have aN:decide (a2>=0)=false:=dF ha0;have x:=Hd (Dc (out:=(Ad FI d i true d)) ha0);clear ha0
         by_cases hb0:0<=b
         ·have G:decide (b>=0)=true:=dT hb0;have o:=Hd (fun W Y=>Bx (rC (some ⟨bo,oo,rI⟩) r v2) (Ad FI d i true d) b W Y);obtain⟨bb,j⟩:=eX (decide (b∈(Ad FI d i true d)));rw[<-j]at o;have E:=Hd o.out;have f:=Hd j;have O:=Hd hb0;clear j hb0 o;cases bb with
          |true=>
           have p:=Hd (Eh f.out);clear f;go_wp2_with fail;refine(E.out _ (C.out.rd.below c.out lR)).mono ?_;rintro e wx ⟨rfl,rfl⟩;go_wp2_with fail;go_roundg (gk-1);case measure=>have:=m.out;omega
           case rel=>
            refine⟨s+1,by have:=m.out;omega,by go_num,?_,c.out⟩;rw[A.out,x.out,p.out];have:=H.out;simpa [ivs]using this
          |false=>
           have p:=Hd (Dd O.out f.out);clear f;go_wp2_with fail;refine(E.out _ (C.out.rd.below c.out lR)).mono ?_;rintro e wx ⟨rfl,rfl⟩;go_wp2_with (at_builtin;refine An rfl (.tmp 116) (.tmp 118) 48 rfl X.heap.size 3 _ 8 Cg _ _ rfl (H.out.alloc _) _ (rD rF b) rfl ?c1 rfl ?c2 ?c3 ?_);case c1=>exact Aq rfl
           case c2=>have:=Q.out;have:=hlt;simp[ivs];omega
           case c3=>have:=c.out.size;simp;omega
           rintro vb wb t-j;have F:=Hd t;have D:=Hd ((c.out.alloc c.out.size (rJ #[rD rF b] 3)).trans j);clear t j;go_wp2_with fail;go_roundg (gk-1);case measure=>have:=m.out;omega
           case rel=>
            refine⟨s+1,by have:=m.out;omega,by go_num,?_,D.out⟩;rw[A.out,x.out,p.out];have:=F.out;simpa [ivs]using this
         ·have G:decide (b>=0)=false:=dF hb0;have p:=Hd (Dc (out:=(Ad FI d i true d)) hb0);clear hb0;go_wp2_with fail;go_roundg (gk-1);case measure=>have:=m.out;omega
          case rel=>
           refine⟨s+1,by have:=m.out;omega,by go_num,?_,c.out⟩;rw[A.out,x.out,p.out];have:=H.out;simpa [ivs]using this
       ·obtain rfl:s=r:=(by have:=m.out;omega);have aC:decide (s<s)=false:=dF hlt;have HE:=Hd (show Iu (Ad FI d i true d) s=Dr (Ad FI d i true d)from by rw[T.out];exact Ol);clear hlt;go_wp2_with fail;refine(Dn _ (Ad FI d i true d) _ aK.out.rd (by have:=aT.out;omega)).mono ?_;rintro e dD ⟨vo,rfl,aR,J⟩;have bB:=Hd aR;have bY:=Hd J;have aL:=Hd (aM.out.below J lR);have aA:=Hd (aG.out.trans (Z.out.mono aG.out.size));have N:=Hd (aA.out.trans (J.mono aA.out.size));clear aR J;go_wp2_with fail;refine(Dn _ (Iu (Ad FI d i true d) s) _ aL.out.rd (by have:=Q.out;omega)).mono ?_;rintro e dE ⟨vs,rfl,aS,R⟩;have bC:=Hd aS;have aB:=Hd (bB.out.below R lR);have aH:=Hd (N.out.trans (R.mono N.out.size));clear aS R;go_wp2_with fail
        go_ret3
        rw[<-aZ.out];refine⟨_,_,rfl,aB.out.mono aA.out.size,?_,aH.out⟩;rw[<-HE.out];exact bC.out.mono N.out.size
   |false=>
    go_wp2_with fail;obtain⟨w8,rfl⟩:∃w8:World,w8=wr:=⟨_,rfl⟩
    go_loopg [11,13,17] d (fun q ov kv iv wr=>∃k:Nat,k+q=d/\iv=rD rF (k:Nat)/\kv=.bool (Ca FI d i false k)/\Own wr w.heap.size 3 ov (ivs .i64 (Ad FI d i false k))/\Own wr w6.heap.size 3 (rC z1 d z2) (ivs .i64 (Zhg (2*(i:Int)) (n:Int)))/\Ha ov (rC z1 d z2)/\Below w.heap.size w wr)
    case atStart=>exact⟨0,by omega,rfl,by rw[Zh0,aD.out],by rw[Zc];exact bA.out,cG.out,bN.out,bP.out⟩
    case round=>
     obtain⟨k,hk,rfl,rfl,K,c0,cZ,hb⟩:=hrel;have HK:=Hd hk;have HO:=Hd K;have bO:=Hd c0;have bN:=Hd cZ;have HB:=Hd hb;obtain⟨cD,bK⟩:=eX (Ca FI d i false k);rw[<-bK];have aD:=Hd bK;clear hk K c0 cZ hb bK
     by_cases hkd:k<d
     ·have c9:decide (k<d)=true:=dT hkd;have dX:(k:Int)<(d:Int):=(by omega);obtain⟨bu,ou,rfl,dQ,cy⟩:=bO.out.rd.at3 (By (show k<(Zhg (2*(i:Int)) (n:Int)).length by rw[cM.out];exact hkd));rw[dG.out k hkd]at cy;have b7:=Hd (dN.out k hkd wr HB.out);have b8:=Hd (b9.out k hkd);have cO:=Hd (aU.out k (by omega));have b3:=Hd (Zd (FI:=FI) (d:=d) (i:=i) k);have a9:=Hd (show Ca FI d i false (k+1)=(cD&&(Bb FI d k (Jl (2*i) k)).2)from by rw[Zh2,aD.out]);obtain⟨sb,dC⟩:=eX (Jl (2*i) k);rw[<-dC]at cy b7 b8 b3 a9;obtain⟨W1,cY⟩:=eX (Bb FI d k sb);rw[<-cY]at b7 b8 b3 a9;obtain⟨p1,p2,p3,rfl⟩:=Cx HO.out;clear dC cY aD;go_wp2_with fail;refine b7.out.mono ?_;rintro e w9 ⟨v9,rfl,aX,bV⟩;have dI:=Hd aX.rd;have cK:=Hd (HB.out.trans (bV.mono HB.out.size));have dK:=Hd (HO.out.below bV lR);have bX:=Hd (bO.out.below bV lR);obtain⟨fk,bG⟩:=eX W1.2;rw[<-bG]at a9|-;obtain⟨t1,t2,t3,rfl⟩:=Cx aX;clear aX bV bG;go_wp2_with (at_builtin;refine Wt rfl (.tmp 75) (.tmp 76) 48 rfl w.heap.size 3 _ 8 Cg _ _ rfl dK.out _ _ rfl dI.out ?d1 ?d2 ?d3 ?_);case d1=>exact Ea _
      case d2=>have:=cO.out;have:=b8.out;simp[ivs];omega
      case d3=>exact cK.out.size
      rintro dV aE a3 b1 aP bI;have bZ:=Hd (show Own aE w.heap.size 3 dV (ivs .i64 (Ad FI d i false (k+1)))from by
       rw[b3.out];simpa [ivs]using a3)
      have a6:=Hd (show Own aE w6.heap.size 3 _ _ from bX.out.grown b1 fun g e1 e2=>bN.out g e2 e1);have a5:=Hd (Ga bI bN.out bX.out);have aF:=Hd (cK.out.trans aP);clear a3 b1 aP bI;cases cD
      ·go_wp2_with fail;go_roundg (gk-1);case measure=>have:=HK.out;omega
       case rel=>exact⟨k+1,by have:=HK.out;omega,by go_num,by rw[a9.out,dP],bZ.out,a6.out,a5.out,aF.out⟩
      ·go_wp2_with fail;go_roundg (gk-1);case measure=>have:=HK.out;omega
       case rel=>exact⟨k+1,by have:=HK.out;omega,by go_num,by rw[a9.out,dL],bZ.out,a6.out,a5.out,aF.out⟩
     ·obtain rfl:k=d:=(by have:=HK.out;omega);have c9:decide (k<k)=false:=dF hkd;have aZ:=Hd (show cD=Ca FI k i false k from aD.out);have aT:=Hd (aU.out k lR);obtain⟨r2,cB⟩:=eX ((Ad FI k i false k).length);have T:=Hd cB;obtain⟨p1,p2,rfl⟩:=Qi HO.out cB.symm;have a0:=Hd HO.out;clear hkd cB;go_wp2_with fail;obtain⟨X,rfl⟩:∃X:World,X=wr:=⟨_,rfl⟩;have aG:=Hd HB.out;have C:=Hd a0.out;have cX:r2<=6000000000:=by rw[T.out];exact aT.out
      go_loopg [20,21] r2 (fun q ov iv wr=>∃s:Nat,s+q=r2/\iv=rD rF (s:Nat)/\Own wr X.heap.size 3 ov (ivs .i64 (Iu (Ad FI k i false k) s))/\Below X.heap.size X wr)
      case atStart=>exact⟨0,by omega,rfl,Own.nil _ _ _,bR⟩
      case round=>
       obtain⟨s,hs,rfl,K,hb⟩:=hrel;have m:=Hd hs;have aM:=Hd K;have Z:=Hd hb;have aK:=Hd (C.out.below hb lR);have Q:=Hd (Om (out:=(Ad FI k i false k)) s (by rw[<-T.out];omega));obtain⟨j1,j2,j3,rfl⟩:=Cx K;clear hs K hb
       by_cases hlt:s<r2
       ·have aC:decide (s<r2)=true:=dT hlt;have bH:(s:Int)<(r2:Int):=(by omega);obtain⟨bo,oo,rfl,bF,co⟩:=aK.out.rd.at3 (By (show s<((Ad FI k i false k)).length by rw[<-T.out];exact hlt));have A:=Hd (In (out:=(Ad FI k i false k)) (r:=s) (by rw[<-T.out];exact hlt));obtain⟨z,hz⟩:=eX (((Ad FI k i false k)).getD s 0);rw[<-hz]at co A;have aJ:=Hd (Gs z wr);obtain⟨a2,aO⟩:=eX (Dt z);obtain⟨b,aQ⟩:=eX (Cb z);rw[<-aO,<-aQ]at aJ A;clear hz aO aQ;go_wp2_with fail;refine aJ.out.mono ?_;rintro e w5 ⟨rfl,U⟩;have c:=Hd (Z.out.trans (U.mono Z.out.size));have H:=Hd (aM.out.below U lR);clear U co bF
        by_cases ha0:0<=a2
        ·have aN:decide (a2>=0)=true:=dT ha0;have P:=Hd (fun W Y=>Bx (rC (some ⟨bo,oo,rI⟩) r2 p2) (Ad FI k i false k) a2 W Y);obtain⟨ba,M⟩:=eX (decide (a2∈(Ad FI k i false k)));rw[<-M]at P;have aI:=Hd P.out;have I:=Hd M;have a7:=Hd ha0;clear M ha0 P;cases ba with
         |true=>
          have x:=Hd (Eh I.out);clear I;go_wp2_with fail;refine(aI.out _ (C.out.rd.below c.out lR)).mono ?_;rintro e wx ⟨rfl,rfl⟩
          by_cases hb0:0<=b
          ·have G:decide (b>=0)=true:=dT hb0;have o:=Hd (fun W Y=>Bx (rC (some ⟨bo,oo,rI⟩) r2 p2) (Ad FI k i false k) b W Y);obtain⟨bb,j⟩:=eX (decide (b∈(Ad FI k i false k)));rw[<-j]at o;have E:=Hd o.out;have f:=Hd j;have O:=Hd hb0;clear j hb0 o;cases bb with
           |true=>
            have p:=Hd (Eh f.out);clear f;go_wp2_with fail;refine(E.out _ (C.out.rd.below c.out lR)).mono ?_;rintro e wx ⟨rfl,rfl⟩;go_wp2_with fail;go_roundg (gk-1);case measure=>have:=m.out;omega
            case rel=>
             refine⟨s+1,by have:=m.out;omega,by go_num,?_,c.out⟩;rw[A.out,x.out,p.out];have:=H.out;simpa [ivs]using this
           |false=>
            have p:=Hd (Dd O.out f.out);clear f;go_wp2_with fail;refine(E.out _ (C.out.rd.below c.out lR)).mono ?_;rintro e wx ⟨rfl,rfl⟩;go_wp2_with (at_builtin;refine An rfl (.tmp 116) (.tmp 118) 48 rfl X.heap.size 3 _ 8 Cg _ _ rfl (H.out.alloc _) _ (rD rF b) rfl ?c1 rfl ?c2 ?c3 ?_);case c1=>exact Aq rfl
            case c2=>have:=Q.out;have:=hlt;simp[ivs];omega
            case c3=>have:=c.out.size;simp;omega
            rintro vb wb t-j;have F:=Hd t;have D:=Hd ((c.out.alloc c.out.size (rJ #[rD rF b] 3)).trans j);clear t j;go_wp2_with fail;go_roundg (gk-1);case measure=>have:=m.out;omega
            case rel=>
             refine⟨s+1,by have:=m.out;omega,by go_num,?_,D.out⟩;rw[A.out,x.out,p.out];have:=F.out;simpa [ivs]using this
          ·have G:decide (b>=0)=false:=dF hb0;have p:=Hd (Dc (out:=(Ad FI k i false k)) hb0);clear hb0;go_wp2_with fail;go_roundg (gk-1);case measure=>have:=m.out;omega
           case rel=>
            refine⟨s+1,by have:=m.out;omega,by go_num,?_,c.out⟩;rw[A.out,x.out,p.out];have:=H.out;simpa [ivs]using this
         |false=>
          have x:=Hd (Dd a7.out I.out);clear I;go_wp2_with fail;refine(aI.out _ (C.out.rd.below c.out lR)).mono ?_;rintro e wx ⟨rfl,rfl⟩;go_wp2_with (at_builtin;refine An rfl (.tmp 104) (.tmp 106) 48 rfl X.heap.size 3 _ 8 Cg _ _ rfl (H.out.alloc _) _ (rD rF a2) rfl ?c1 rfl ?c2 ?c3 ?_);case c1=>exact Aq rfl
          case c2=>have:=Q.out;have:=hlt;simp[ivs];omega
          case c3=>have:=c.out.size;simp;omega
          rintro va wa S-M;have V:=Hd S;have u:=Hd ((c.out.alloc c.out.size (rJ #[rD rF a2] 3)).trans M);clear S M;obtain⟨k1,k2,k3,rfl⟩:=Cx V.out
          by_cases hb0:0<=b
          ·have G:decide (b>=0)=true:=dT hb0;have o:=Hd (fun W Y=>Bx (rC (some ⟨bo,oo,rI⟩) r2 p2) (Ad FI k i false k) b W Y);obtain⟨bb,j⟩:=eX (decide (b∈(Ad FI k i false k)));rw[<-j]at o;have E:=Hd o.out;have f:=Hd j;have O:=Hd hb0;clear j hb0 o;cases bb with
           |true=>
            have p:=Hd (Eh f.out);clear f;go_wp2_with fail;refine(E.out _ (C.out.rd.below u.out lR)).mono ?_;rintro e wx ⟨rfl,rfl⟩;go_wp2_with fail;go_roundg (gk-1);case measure=>have:=m.out;omega
            case rel=>
             refine⟨s+1,by have:=m.out;omega,by go_num,?_,u.out⟩;rw[A.out,x.out,p.out];have:=V.out;simpa [ivs]using this
           |false=>
            have p:=Hd (Dd O.out f.out);clear f;go_wp2_with fail;refine(E.out _ (C.out.rd.below u.out lR)).mono ?_;rintro e wx ⟨rfl,rfl⟩;go_wp2_with (at_builtin;refine An rfl (.tmp 116) (.tmp 118) 48 rfl X.heap.size 3 _ 8 Cg _ _ rfl (V.out.alloc _) _ (rD rF b) rfl ?c1 rfl ?c2 ?c3 ?_);case c1=>exact Aq rfl
            case c2=>have:=Q.out;have:=hlt;simp[ivs];omega
            case c3=>have:=u.out.size;simp;omega
            rintro vb wb t-j;have F:=Hd t;have D:=Hd ((u.out.alloc u.out.size (rJ #[rD rF b] 3)).trans j);clear t j;go_wp2_with fail;go_roundg (gk-1);case measure=>have:=m.out;omega
            case rel=>
             refine⟨s+1,by have:=m.out;omega,by go_num,?_,D.out⟩;rw[A.out,x.out,p.out];have:=F.out;simpa [ivs]using this
          ·have G:decide (b>=0)=false:=dF hb0;have p:=Hd (Dc (out:=(Ad FI k i false k)) hb0);clear hb0;go_wp2_with fail;go_roundg (gk-1);case measure=>have:=m.out;omega
           case rel=>
            refine⟨s+1,by have:=m.out;omega,by go_num,?_,u.out⟩;rw[A.out,x.out,p.out];have:=V.out;simpa [ivs]using this
        ·have aN:decide (a2>=0)=false:=dF ha0;have x:=Hd (Dc (out:=(Ad FI k i false k)) ha0);clear ha0
         by_cases hb0:0<=b
         ·have G:decide (b>=0)=true:=dT hb0;have o:=Hd (fun W Y=>Bx (rC (some ⟨bo,oo,rI⟩) r2 p2) (Ad FI k i false k) b W Y);obtain⟨bb,j⟩:=eX (decide (b∈(Ad FI k i false k)));rw[<-j]at o;have E:=Hd o.out;have f:=Hd j;have O:=Hd hb0;clear j hb0 o;cases bb with
          |true=>
           have p:=Hd (Eh f.out);clear f;go_wp2_with fail;refine(E.out _ (C.out.rd.below c.out lR)).mono ?_;rintro e wx ⟨rfl,rfl⟩;go_wp2_with fail;go_roundg (gk-1);case measure=>have:=m.out;omega
           case rel=>
            refine⟨s+1,by have:=m.out;omega,by go_num,?_,c.out⟩;rw[A.out,x.out,p.out];have:=H.out;simpa [ivs]using this
          |false=>
           have p:=Hd (Dd O.out f.out);clear f;go_wp2_with fail;refine(E.out _ (C.out.rd.below c.out lR)).mono ?_;rintro e wx ⟨rfl,rfl⟩;go_wp2_with (at_builtin;refine An rfl (.tmp 116) (.tmp 118) 48 rfl X.heap.size 3 _ 8 Cg _ _ rfl (H.out.alloc _) _ (rD rF b) rfl ?c1 rfl ?c2 ?c3 ?_);case c1=>exact Aq rfl
           case c2=>have:=Q.out;have:=hlt;simp[ivs];omega
           case c3=>have:=c.out.size;simp;omega
           rintro vb wb t-j;have F:=Hd t;have D:=Hd ((c.out.alloc c.out.size (rJ #[rD rF b] 3)).trans j);clear t j;go_wp2_with fail;go_roundg (gk-1);case measure=>have:=m.out;omega
           case rel=>
            refine⟨s+1,by have:=m.out;omega,by go_num,?_,D.out⟩;rw[A.out,x.out,p.out];have:=F.out;simpa [ivs]using this
         ·have G:decide (b>=0)=false:=dF hb0;have p:=Hd (Dc (out:=(Ad FI k i false k)) hb0);clear hb0;go_wp2_with fail;go_roundg (gk-1);case measure=>have:=m.out;omega
          case rel=>
           refine⟨s+1,by have:=m.out;omega,by go_num,?_,c.out⟩;rw[A.out,x.out,p.out];have:=H.out;simpa [ivs]using this
       ·obtain rfl:s=r2:=(by have:=m.out;omega);have aC:decide (s<s)=false:=dF hlt;have HE:=Hd (show Iu (Ad FI k i false k) s=Dr (Ad FI k i false k)from by rw[T.out];exact Ol);clear hlt;go_wp2_with fail;refine(Dn _ (Ad FI k i false k) _ aK.out.rd (by have:=aT.out;omega)).mono ?_;rintro e dD ⟨vo,rfl,aR,J⟩;have bB:=Hd aR;have bY:=Hd J;have aL:=Hd (aM.out.below J lR);have aA:=Hd (aG.out.trans (Z.out.mono aG.out.size));have N:=Hd (aA.out.trans (J.mono aA.out.size));clear aR J;go_wp2_with fail;refine(Dn _ (Iu (Ad FI k i false k) s) _ aL.out.rd (by have:=Q.out;omega)).mono ?_;rintro e dE ⟨vs,rfl,aS,R⟩;have bC:=Hd aS;have aB:=Hd (bB.out.below R lR);have aH:=Hd (N.out.trans (R.mono N.out.size));clear aS R;go_wp2_with fail
        go_ret3
        rw[<-aZ.out];refine⟨_,_,rfl,aB.out.mono aA.out.size,?_,aH.out⟩;rw[<-HE.out];exact bC.out.mono N.out.size
end
def Db (n:Int)(p:Int×NodeD):Bool:=
 decide (0<=p.1/\p.1<=2*n-2)&&At p.2&& !(decide (p.1%2=0)&&decide (p.2.kind=2))&& !(decide (p.1%2=1)&&decide (p.2.kind=1))&&p.2.par.late.all fun u=>Bv (2*u) p.1
def Si (s:SparseD):Nat:=((Ah s.op (2*s.own)).getD Am).kind
def Ar (s:SparseD)(only:Bool):Bool:=
 fits s.leaves.toNat&&decide (0<=s.own/\s.own<s.leaves)&&s.op.all (Db s.leaves)&&s.sh.all (fun p=>decide (p.2.length=32))&&(decide (Si s=1)&&Ca (Ah s.op) (bP s.leaves.toNat) s.own.toNat only (bP s.leaves.toNat)
  &&decide (s.op.map (·.1)=(Oj (Ah s.op) (bP s.leaves.toNat) s.own.toNat only).1)&&decide (s.sh.map (·.1)=(Oj (Ah s.op) (bP s.leaves.toNat) s.own.toNat only).2.1))
def Ds (s:SparseD):Bool:=decide (s.op.length<=5000)&&decide (s.sh.length<=5000)&&s.op.all (fun p=>Cj p.2)&&s.sh.all fun p=>decide (p.2.length<=100)
theorem Ma {s:SparseD} {only:Bool}(h:fits s.leaves.toNat=false):Ar s only=false:=by rw[Ar,h];rfl
theorem On {s:SparseD} {only:Bool}(h:¬(0<=s.own/\s.own<s.leaves)):Ar s only=false:=by rw[Ar,dF h];simp
theorem Us {s:SparseD} {only:Bool} {i:Nat}(hi:i<s.op.length)(h:Db s.leaves (spt s.op i)=false):Ar s only=false:=by
 have:s.op.all (Db s.leaves)=false:=List.all_eq_false.2 ⟨_,Lm hi,by rw[h];simp⟩;rw[Ar,this];simp
theorem Ut {s:SparseD} {only:Bool} {i:Nat}(hi:i<s.sh.length)(h:(stb s.sh i).2.length≠32):Ar s only=false:=by
 have:s.sh.all (fun p=>decide (p.2.length=32))=false:=List.all_eq_false.2 ⟨_,Se hi,by simpa using h⟩;rw[Ar,this];simp
theorem Uu {s:SparseD} {only:Bool}(h1:fits s.leaves.toNat=true)(h2:0<=s.own/\s.own<s.leaves)(h3:∀i,i<s.op.length->Db s.leaves (spt s.op i)=true)(d:∀i,i<s.sh.length->(stb s.sh i).2.length=32):
  Ar s only=(decide (Si s=1)&&Ca (Ah s.op) (bP s.leaves.toNat) s.own.toNat only (bP s.leaves.toNat)
  &&decide (s.op.map (·.1)=(Oj (Ah s.op) (bP s.leaves.toNat) s.own.toNat only).1)&&decide (s.sh.map (·.1)=(Oj (Ah s.op) (bP s.leaves.toNat) s.own.toNat only).2.1)):=by
 have e3:s.op.all (Db s.leaves)=true:=List.all_eq_true.2 fun p b=>by
  obtain⟨i,a,rfl⟩:=dW b;have:=h3 i a
  rwa [Jc a]at this
 have c:s.sh.all (fun p=>decide (p.2.length=32))=true:=List.all_eq_true.2 fun p b=>by
  obtain⟨i,a,rfl⟩:=dW b;have:=d i a;rw[Ko a]at this;exact dT this
 rw[Ar,h1,dT h2,e3,c];simp
theorem Zbh {n:Int} {p:Int×NodeD}(h:¬(0<=p.1/\p.1<=2*n-2)):Db n p=false:=by rw[Db,dF h];simp
theorem Zbi {n:Int} {p:Int×NodeD}(h:At p.2=false):Db n p=false:=by rw[Db,h];simp
theorem Zea {n:Int} {p:Int×NodeD}(h:p.1%2=0)(hk:p.2.kind=2):Db n p=false:=by rw[Db,dT h,dT hk];simp
theorem Zh3 {n:Int} {p:Int×NodeD}(h:p.1%2=1)(hk:p.2.kind=1):Db n p=false:=by rw[Db,dT h,dT hk];simp
theorem Zeb {n:Int} {p:Int×NodeD} {u:Int}(hu:u∈p.2.par.late)(h:Bv (2*u) p.1=false):Db n p=false:=by
 have:p.2.par.late.all (fun u=>Bv (2*u) p.1)=false:=List.all_eq_false.2 ⟨u,hu,by rw[h];simp⟩;rw[Db,this];simp
theorem Zf {n:Int} {p:Int×NodeD}(h1:0<=p.1/\p.1<=2*n-2)(h2:At p.2=true)(h3:¬(p.1%2=0/\p.2.kind=2))(d:¬(p.1%2=1/\p.2.kind=1))(e:∀i,i<p.2.par.late.length->Bv (2*p.2.par.late.getD i 0) p.1=true):Db n p=true:=by
 have c:p.2.par.late.all (fun u=>Bv (2*u) p.1)=true:=List.all_eq_true.2 fun u f=>by
  obtain⟨i,a,rfl⟩:=dW f;have:=e i a
  rwa [aS,bB a]at this
 have e3:(decide (p.1%2=0)&&decide (p.2.kind=2))=false:=(by rw[<-cX];simpa using h3);have b:(decide (p.1%2=1)&&decide (p.2.kind=1))=false:=(by rw[<-cX];simpa using d);rw[Db,dT h1,h2,e3,b,c];rfl
theorem Oo {n:Int} {p:Int×NodeD}(h:Db n p=true):(0<=p.1/\p.1<=2*n-2)/\At p.2=true/\¬(p.1%2=0/\p.2.kind=2)/\¬(p.1%2=1/\p.2.kind=1)/\∀u∈p.2.par.late,Bv (2*u) p.1=true:=by
 unfold Db at h;simp only[Bool.and_eq_true,Bool.not_eq_true',decide_eq_true_eq]at h;obtain⟨⟨⟨⟨h1,h2⟩,h3⟩,b⟩,c⟩:=h;refine⟨h1,h2,fun a=> ?_,fun a=> ?_,fun u d=>List.all_eq_true.1 c u d⟩
 ·rw[dT a.1,dT a.2]at h3;cases h3
 ·rw[dT a.1,dT a.2]at b;cases b
theorem Wv (v:Value)(s:SparseD)(only:Bool)(w:World)(h:SparseR w v s)(b9:SparseOk s)(h1:s.op.length<=10000)(h2:s.sh.length<=10000)(cL:∀p∈s.op,p.2.par.late.length<=1000):
  Calls prog 62 #[v,.bool only] w fun e w'=>e=rK (.bool (Ar s only))/\Below w.heap.size w w':=by
 obtain⟨o,g,rfl,ho,hg⟩:=h;obtain⟨oa,oc,rfl,fO,f0⟩:=ho.sl;obtain⟨ga,gc,rfl,fN,fV⟩:=hg.sl;have cY:=Hd (Ma (s:=s) (only:=only));have bH:=Hd (On (s:=s) (only:=only));have bZ:=Hd (fun i=>Us (s:=s) (only:=only) (i:=i));have cZ:=Hd (fun i=>Ut (s:=s) (only:=only) (i:=i));have aY:=Hd (Uu (s:=s) (only:=only));have d2:=Hd fun(i:Nat) (M:i<s.op.length)=>ho.at M;have d3:=Hd fun(i:Nat) (M:i<s.sh.length)=>hg.at M;have cW:=Hd fun(i:Nat) (M:i<s.op.length)=>(b9.op _ (Lm M));have cU:=Hd fun(i:Nat) (M:i<s.op.length)=>cL _ (Lm M);have bA:=Hd fun(W:World) (hw:Below w.heap.size w W)=>Ur _ s W (show SparseR W _ s from⟨_,_,rfl,ho.below hw lR,hg.below hw lR⟩) (by omega) (by omega);have cE:=Hd ho;have bW:=b9.leaves;have bX:=b9.own;obtain⟨f7,cI⟩:=eX (Ar s only);rw[<-cI]at cY bH bZ cZ aY|-;obtain⟨lv,aL⟩:=eX s.leaves;obtain⟨ow,how⟩:=eX s.own;obtain⟨n,hn⟩:=eX s.op.length;obtain⟨m,hm⟩:=eX s.sh.length;rw[<-aL]at cY bH bZ aY bW bA|-;rw[<-how]at bH aY bX bA|-;rw[<-hn]at bZ aY d2 cW cU bA h1 fO|-;rw[<-hm]at cZ aY d3 bA h2 fN|-;have HN:=Hd hn;have HM:=Hd hm;have fT:=Hd aL;have d6:=Hd how;unfold inI at bW bX;have fS:=Hd bW;have fU:=Hd bX;clear cI aL how hn hm ho hg b9 cL bW bX;go_in;go_wp2_with fail;obtain⟨N,hN⟩:=eX w.heap.size;have Z:=Hd (show Blk (w.alloc (rJ #[rD rF lv,rD rF ow,rC oa n oc,rC ga m gc] 25)) N 25 #[rD rF lv,rD rF ow,rC oa n oc,rC ga m gc]from by rw[hN];exact Blk.new _ _ _);have aU:=Hd ((Below.refl w.heap.size w).alloc lR (rJ #[rD rF lv,rD rF ow,rC oa n oc,rC ga m gc] 25));rw[<-hN];have fG:=Hd (show N+1=(w.alloc (rJ #[rD rF lv,rD rF ow,rC oa n oc,rC ga m gc] 25)).heap.size from by simp[hN]);generalize hw1:w.alloc (rJ #[rD rF lv,rD rF ow,rC oa n oc,rC ga m gc] 25)=w1 at Z aU fG|-;have fF:=Hd hN;clear hw1 hN;have V:=Z.out.cell 0;have c1:=Z.out.cell 1;simp only[cR,cS,aP]at V c1;have aV:=Hd (Kc lv w1);obtain⟨ft,dL⟩:=eX (fits lv.toNat);rw[<-dL]at aV;have aQ:=Hd dL;clear dL;cases ft with
 |false=>
  have O:=Hd (cY.out aQ.out.symm);go_wp2_with fail;refine aV.out.mono ?_;rintro e w2 ⟨rfl,rfl⟩;go_wp2_with fail;go_ret;exact⟨Do O.out,aU.out⟩
 |true=>
  by_cases ho1:0<=ow
  ·have cM:decide (ow<0)=false:=dF (by omega)
   by_cases ho2:ow<lv
   ·have cN:decide (ow>=lv)=false:=dF (by omega);have aX:=Hd (show 0<=ow/\ow<lv from⟨ho1,ho2⟩);clear ho1 ho2;go_wp2_with fail;refine aV.out.mono ?_;rintro e w2 ⟨rfl,rfl⟩;go_wp2_with fail;have cB:=Hd (show lv<=65536 from by
     obtain⟨d,hd,e⟩:=(fits_iff _).1 aQ.out.symm;have:2^d<=2^16:=bQ (by omega) hd;have f8:(2:Nat)^16=65536:=rfl
     omega)
    clear V c1 cM cN aV
    go_loopg [5] n (fun q iv wr=>∃r:Nat,r+q=n/\iv=rD rF (r:Nat)/\(∀i,i<r->Db lv (spt s.op i)=true)/\Below w1.heap.size w1 wr)
    case atStart=>exact⟨0,by omega,rfl,fun i M=>by omega,bR⟩
    case round=>
     obtain⟨r,hr,rfl,cJ,hb⟩:=hrel;have HR:=Hd hr;have aM:=Hd cJ;have HB:=Hd hb;have aF:=Hd (aU.out.trans (hb.mono aU.out.size));have F:=Hd (Z.out.below hb Z.out.lt);have V:=F.out.cell 0;have c2:=F.out.cell 2;have c3:=F.out.cell 3;simp only[cR,cS,aP]at V c2 c3;have cG:N<wr.heap.size:=F.out.lt;clear hr cJ hb
     by_cases hlt:r<n
     ·have eZ:decide (r<n)=true:=dT hlt;have fX:(r:Int)<(n:Int):=(by omega);obtain⟨b,J,c,rfl,aE,b8,a4⟩:=d2.out r hlt;obtain⟨eS,dN⟩:=cW.out r hlt;have cx:=(aF.out.cell (p:=⟨b,J+r*11,rI⟩) aE).trans (Bt a4);have bD:=Hd (Aj (Dl a4) aF.out aE);have a9:=Hd b8;have bP:=dN.kind;have cC:=Hd dN;obtain⟨x1,x2,x3,x4,x5,x6,x7,x8,b3,e3,rfl,e5⟩:=b8.frame;have aC:=Hd b8.oneL;have bE:=Hd e5;have a8:=Hd (cU.out r hlt);have P:=Hd (fun h=>bZ.out r hlt h);have aH:=Hd (fun h1=>Zf (n:=lv) (p:=spt s.op r) h1);have c4:=Hd (fun h1=>Zbh (n:=lv) (p:=spt s.op r) h1);have eG:=Hd (fun h1=>Zbi (n:=lv) (p:=spt s.op r) h1);have b0:=Hd (fun h1=>Zea (n:=lv) (p:=spt s.op r) h1);have b4:=Hd (fun h1=>Zh3 (n:=lv) (p:=spt s.op r) h1);have bI:=Hd (fun u=>Zeb (n:=lv) (p:=spt s.op r) (u:=u));obtain⟨x,hx⟩:=eX ((spt s.op r).1);obtain⟨D,hD⟩:=eX ((spt s.op r).2);rw[<-hx]at eS cx aH c4 b0 b4 bI;rw[<-hD]at bP cC a9 bD aC bE a8 aH eG b0 b4 bI;obtain⟨R,aK⟩:=eX D.kind;obtain⟨L,hL⟩:=eX D.par.late;rw[<-aK]at bP a9 bD aC aH b0 b4;rw[<-hL]at a9 bD aC bE a8 aH bI;obtain⟨Q,a3⟩:=eX L.length;rw[<-a3]at a9 bD aC bE a8 aH;have aW:=Hd a3;have cT:=Hd aK;have d4:=Hd hL;have f4:=Hd hx;have f3:=Hd hD;unfold inI at eS;clear hx hD aK hL a3 a4 b8 e5 dN;go_wp2_with fail;have cK:b<wr.heap.size:=cH aE (by have:=fF.out;have:=cG;omega);refine Bd [eF (rE (some ⟨N,2,rI⟩)),eF (rC (some ⟨b,J,rI⟩) n oc),eF (rD rF (r:Nat)),eF (rE (some ⟨b,J+r*11,rI⟩)),eF (rE (some ⟨b,J+r*11,rI⟩)),eF (rD rF x),eF (rE (some ⟨N,2,rI⟩)),eF (rC (some ⟨b,J,rI⟩) n oc),eF (rD rF (r:Nat)),eF (rE (some ⟨b,J+r*11,rI⟩)),eF (rE (some ⟨b,J+r*11+1,rI⟩)),eF (.agg #[rD rG (R:Nat),x1,x2,x3,x4,x5,x6,x7,x8,rC b3 Q e3]),fun v w'=>∃g cs,v=rE (some ⟨g,0,rI⟩)/\wr.heap.size<=g/\Blk w' g 52 cs/\cs.size=10,eF (rD rF x),fun v w'=>∃g,v=rE (some ⟨g,0,rI⟩)/\wr.heap.size<=g/\Blk w' g 52 #[rD rG (R:Nat),x1,x2,x3,x4,x5,x6,x7,x8,rC b3 Q e3]]
       (List.replicate 15 true) (fun X=>Below wr.heap.size wr X) (fun X Y=>(∀g t cs,Blk X g t cs->∃aZ,Blk Y g t aZ/\aZ.size=cs.size)/\Below wr.heap.size X Y) (some 14) (by kernel_rfl) ?_ (⟨rfl,rfl,rfl,lR,fun _ _=>rfl⟩) (fun X Y hx h=>⟨fun g t cs k=>⟨cs,k.below h k.lt,rfl⟩,h.mono hx.size⟩) (fun X Y hx hs=>hx.trans hs.2) (by kernel_rfl) (by kernel_rfl) ?_ ?_
      ·exact kE (kE (kE (kE (kE (kE (kE (kE (kE (kE (kE (kE (Cw (fun v x y h M hs=>let⟨g,cs,e,hg,k,hc⟩:=h;let⟨aZ,k2,e2⟩:=hs.1 g _ cs k;⟨g,aZ,e,hg,k2,e2.trans hc⟩) (kE (Cp (fun v x y h M hs=>let⟨g,e,hg,k⟩:=h;⟨g,e,hg,k.below hs k.lt⟩) (Ag)))))))))))))))
      ·refine gPw (by kernel_rfl) ?_ rfl (gPw (by kernel_rfl) ?_ rfl (gPw (by kernel_rfl) ?_ rfl (gPw (by kernel_rfl) ?_ rfl (gPw (by kernel_rfl) ?_ rfl (gPw (by kernel_rfl) ?_ rfl (gPw (by kernel_rfl) ?_ rfl (gPw (by kernel_rfl) ?_ rfl (gPw (by kernel_rfl) ?_ rfl (gPw (by kernel_rfl) ?_ rfl (gPw (by kernel_rfl) ?_ rfl (gOw (by kernel_rfl) ?_ (gOw (by kernel_rfl) ?_ (gPw (by kernel_rfl) ?_ rfl (gOw (by kernel_rfl) ?_ .nil))))))))))))));all_goals
        intro a wx a0 f9 ho hf;have a0:Below wr.heap.size wr wx:=a0;refine⟨rfl,?_⟩;intro K hK;try have f5:a.tmps[2]?.getD undef=rE (some ⟨N,0,rI⟩):=ho 2 (by kernel_rfl)
        try have f6:a.tmps[5]?.getD undef=rD rF (r:Nat):=ho 5 (by kernel_rfl)
        try have fA:=eqn hf.1
        try have fB:=eqn hf.2.1
        try have f1:=(a0.cell (p:=⟨N,2,rI⟩) cG).trans c2
        try have f2:=(a0.cell (p:=⟨b,J+r*11,rI⟩) cK).trans cx
        try(refine Hd ?_;go_simp;exact hK _ rfl)
       ·exact wp_load_mid 52 (.tmp 50) rfl b (J+r*11+1) (evs fA) _ _ (Aj bD.out a0 cK) underlying52 rfl (Bc) (hK _ _ rfl (Ai rfl bR))
       ·
        go_simp;exact hK _ _ ⟨_,_,rfl,a0.size,Blk.new _ _ _,rfl⟩ (Ai rfl (bR.alloc lR _))
       ·have o0:∃g cs,(a.tmps[7]?.getD undef)=rE (some ⟨g,0,rI⟩)/\wr.heap.size<=g/\Blk wx g 52 cs/\cs.size=10:=hf.1;obtain⟨v0,dS⟩:=eX (a.tmps[7]?.getD undef);rw[<-dS]at o0;have e0:=dS.symm;clear dS;obtain⟨g,cs,hv,hg,C,eR⟩:=o0;refine wp_store_row 52 (.tmp 7) (.tmp 51) rfl g #[rD rG (R:Nat),x1,x2,x3,x4,x5,x6,x7,x8,rC b3 Q e3] (evs (e0.trans hv)) (evs fB) _ cs C (by kernel_rfl) (by rw[eR];rfl) (by rw[<-Array.all_toList];exact aC.out) ?_;refine hK undef _ ⟨g,by first|exact e0.trans hv|exact hv,hg,setRow_heap wx g cs _ _ _ C⟩ (Bu rfl ⟨fun g2 t aZ k2=> ?_,⟨rfl,rfl,rfl,by simp,fun i M=>setRow_other wx g i _ (by omega)⟩⟩)
        by_cases e:g2=g
        ·subst e;have eU:=C.symm.trans k2;simp only[Option.some.injEq,Obj.cells.injEq]at eU;obtain⟨rfl,rfl,-⟩:=eU;exact⟨_,setRow_heap wx g2 cs _ _ _ C,eR.symm⟩
        ·exact⟨aZ,(setRow_other wx g g2 _ e).trans k2,rfl⟩
      ·rintro f w9 aI bN;have aI:Below wr.heap.size wr w9:=aI;have S6:f 6=rD rF x:=bN.2.2.2.2.2.2.2.2.2.2.2.2.2.1;have S7:∃g,(f 7)=rE (some ⟨g,0,rI⟩)/\wr.heap.size<=g/\Blk w9 g 52 #[rD rG (R:Nat),x1,x2,x3,x4,x5,x6,x7,x8,rC b3 Q e3]:=bN.2.2.2.2.2.2.2.2.2.2.2.2.2.2.1;clear bN;simp only[Ao,Av,Ej,List.filterMap_cons,List.filterMap_nil,List.contains_cons,List.contains_nil,Nat.reduceBEq,Nat.reduceAdd,Bool.or_false,Bool.or_true,cond_true,cond_false];rw[S6];clear S6;obtain⟨qb,e4,fP,C⟩:=S7;rw[e4];clear e4 fP;have dI:=aI;have E:=Hd (aF.out.trans (aI.mono aF.out.size));have aN:=Hd (HB.out.trans (aI.mono HB.out.size));have z:=Hd C;have d0:=Hd (F.out.below aI F.out.lt);have fE:=Hd (show NodeC w9 D #[rD rG (R:Nat),x1,x2,x3,x4,x5,x6,x7,x8,rC b3 Q e3]from a9.out.below E.out lR);clear aI C dI V c2 c3 cx;have V:=d0.out.cell 0;simp only[cR,cS]at V;have k0:=z.out.cell 0;have k1:=z.out.cell 1;have k2:=z.out.cell 2;have k3:=z.out.cell 3;have k4:=z.out.cell 4;have k5:=z.out.cell 5;have k6:=z.out.cell 6;have k7:=z.out.cell 7;have k8:=z.out.cell 8;have k9:=z.out.cell 9;simp only[cR,cS,aP]at k0 k1 k2 k3 k4 k5 k6 k7 k8 k9;have fY:0<lv:=(by have:=aX.out;omega);have fZ:lv<=65536:=cB.out
       by_cases hx0:0<=x
       ·have e8:decide (x<0)=false:=dF (by omega)
        by_cases hx2:x<=2*lv-2
        ·have e9:decide (x>2*lv-2)=false:=dF (by omega);have eL:=Hd (show 0<=x/\x<=2*lv-2 from⟨hx0,hx2⟩);have RR:=Zav D _ w9 fE.out cC.out;obtain⟨rb,dP⟩:=eX (At D);rw[<-dP]at RR;have bG:=Hd RR;have cD:=Hd dP;clear RR dP;cases rb with
         |false=>
          have O:=Hd (P.out (eG.out cD.out.symm));go_wp2_with fail;refine bG.out.mono ?_;rintro e U ⟨rfl,l⟩;have A:=Hd (E.out.trans (l.mono E.out.size));clear l;go_wp2_with fail;go_ret;exact⟨Do O.out,A.out⟩
         |true=>
          have bY:=Hd (show At D=true from cD.out.symm)
          by_cases hev:x%2=0
          ·have dJ:(x%2==0)=true:=(by rw[beq_iff_eq];exact hev);have fL:(eC x 2==0)=true:=(by rw[eD hx0];exact dJ);have dK:(x%2==1)=false:=(by rw[qN];omega);have fM:(eC x 2==1)=false:=by rw[eD hx0];exact dK
           by_cases hk2:R=2
           ·have bO:((R:Int)==2)=true:=(by rw[beq_iff_eq];omega);have O:=Hd (P.out (b0.out hev hk2));clear hk2 hev;go_wp2_with fail;refine bG.out.mono ?_;rintro e U ⟨rfl,l⟩;clear k0 k1 k2 k3 k4 k5 k6 k7 k8 k9;have A:=Hd (E.out.trans (l.mono E.out.size));have q0:=(z.out.below l z.out.lt).cell 0;simp only[cR,cS]at q0;clear l;go_wp2_with fail;go_ret;exact⟨Do O.out,A.out⟩
           ·have bO:((R:Int)==2)=false:=(by rw[qN];omega);have cQ:=Hd (show¬(x%2=0/\R=2)from fun h=>hk2 h.2);have cX:=Hd (show¬(x%2=1/\R=1)from fun h=>by omega);clear hk2 hev;go_wp2_with fail;refine bG.out.mono ?_;rintro e U ⟨rfl,l⟩;have A:=Hd (E.out.trans (l.mono E.out.size));have H:=Hd (aN.out.trans (l.mono aN.out.size));have z:=Hd (z.out.below l z.out.lt);have q0:=z.out.cell 0;simp only[cR,cS]at q0;clear l V k0 k1 k2 k3 k4 k5 k6 k7 k8 k9;go_wp2_with fail;clear q0;have c9:=z.out.cell 9;simp only[cR,cS,aP]at c9;have bJ:=Hd (Fo (Cy bY.out));rw[<-d4.out]at bJ;obtain⟨g1,rfl⟩:=eX gk;obtain⟨wo,rfl⟩:∃wo:World,wo=wr:=⟨_,rfl⟩;have eY:Q<=1000:=a8.out
            go_loopg [8] Q (fun q iv W=>∃k:Nat,k+q=Q/\iv=rD rF (k:Nat)/\(∀i,i<k->Bv (2*L.getD i 0) x=true)/\Below U.heap.size U W)
            case atStart=>exact⟨0,by omega,rfl,fun i M=>by omega,bR⟩
            case round=>
             obtain⟨k,hk,rfl,bV,hb⟩:=hrel;have HK:=Hd hk;have bK:=Hd bV;have S:=Hd hb;have a7:=Hd (z.out.below hb z.out.lt);have d9:=a7.out.cell 9;simp only[cR,cS,aP]at d9;have I:=Hd (A.out.trans (hb.mono A.out.size));clear hk bV hb
             by_cases hkl:k<Q
             ·have bS:decide (k<Q)=true:=dT hkl;have eV:(k:Int)<(Q:Int):=(by omega);obtain⟨bl,ol,rfl,eQ,cu⟩:=(bE.out.below I.out lR).at3 (By (show k<L.length by rw[<-aW.out];exact hkl));have bU:=bJ.out (L.getD k 0) (by rw[aS,bB (show k<L.length by rw[<-aW.out];exact hkl)];exact bC _);have aB:=Hd (show L.getD k 0∈L from by rw[aS,bB (show k<L.length by rw[<-aW.out];exact hkl)];exact bC _);obtain⟨u,hu⟩:=eX (L.getD k 0);rw[<-hu]at cu bU aB;have HU:=Hd hu;obtain⟨fQ,fR⟩:=bU;have hw:wrap64 (2*u)=2*u:=(by unfold wrap64;omega);have UN:=If (2*u) x;obtain⟨bb,aJ⟩:=eX (Bv (2*u) x);rw[<-aJ]at UN;have aD:=Hd UN;have a6:=Hd aJ;clear UN aJ hu;cases bb with
              |false=>
               have O:=Hd (P.out (bI.out u aB.out a6.out.symm));go_wp2_with fail;refine(aD.out _).mono ?_;rintro e dX ⟨rfl,B⟩;have G:=Hd (I.out.trans (B.mono I.out.size));clear B;go_wp2_with fail;go_ret;exact⟨Do O.out,G.out⟩
              |true=>
               go_wp2_with fail;refine(aD.out _).mono ?_;rintro e dX ⟨rfl,B⟩;have G:=Hd (S.out.trans (B.mono S.out.size));clear B;go_wp2_with fail;go_roundg (gk-1);case measure=>have:=HK.out;omega
               case rel=>
                refine⟨k+1,by have:=HK.out;omega,by go_num,fun i M=> ?_,G.out⟩
                by_cases e:i=k
                ·rw[e,<-HU.out];exact a6.out.symm
                ·exact bK.out i (by omega)
             ·obtain rfl:k=Q:=(by have:=HK.out;omega);have bS:decide (k<k)=false:=dF hkl;have c5:=Hd (aH.out eL.out bY.out cQ.out cX.out bK.out);have cO:=Hd (H.out.trans (S.out.mono H.out.size));clear hkl;go_wp2_with fail;go_roundg (g1-1);case measure=>have:=HR.out;omega
              case rel=>
               refine⟨r+1,by have:=HR.out;omega,by go_num,fun i M=> ?_,cO.out⟩
               by_cases e:i=r
               ·rw[e];exact c5.out
               ·exact aM.out i (by omega)
          ·have aT:x%2=1:=(by omega);have dJ:(x%2==0)=false:=(by rw[qN];exact hev);have fL:(eC x 2==0)=false:=(by rw[eD hx0];exact dJ);have dK:(x%2==1)=true:=(by rw[beq_iff_eq];exact aT);have fM:(eC x 2==1)=true:=by rw[eD hx0];exact dK
           by_cases hk2:R=1
           ·have bO:((R:Int)==1)=true:=(by rw[beq_iff_eq];omega);have O:=Hd (P.out (b4.out aT hk2));clear hk2 hev aT;go_wp2_with fail;refine bG.out.mono ?_;rintro e U ⟨rfl,l⟩;clear k0 k1 k2 k3 k4 k5 k6 k7 k8 k9;have A:=Hd (E.out.trans (l.mono E.out.size));have q0:=(z.out.below l z.out.lt).cell 0;simp only[cR,cS]at q0;clear l;go_wp2_with fail;go_ret;exact⟨Do O.out,A.out⟩
           ·have bO:((R:Int)==1)=false:=(by rw[qN];omega);have cQ:=Hd (show¬(x%2=0/\R=2)from fun h=>hev h.1);have cX:=Hd (show¬(x%2=1/\R=1)from fun h=>hk2 h.2);clear hk2 hev aT;go_wp2_with fail;refine bG.out.mono ?_;rintro e U ⟨rfl,l⟩;have A:=Hd (E.out.trans (l.mono E.out.size));have H:=Hd (aN.out.trans (l.mono aN.out.size));have z:=Hd (z.out.below l z.out.lt);have q0:=z.out.cell 0;simp only[cR,cS]at q0;clear l V k0 k1 k2 k3 k4 k5 k6 k7 k8 k9;go_wp2_with fail;clear q0;have c9:=z.out.cell 9;simp only[cR,cS,aP]at c9;have bJ:=Hd (Fo (Cy bY.out));rw[<-d4.out]at bJ;obtain⟨g1,rfl⟩:=eX gk;obtain⟨wo,rfl⟩:∃wo:World,wo=wr:=⟨_,rfl⟩;have eY:Q<=1000:=a8.out
            go_loopg [8] Q (fun q iv W=>∃k:Nat,k+q=Q/\iv=rD rF (k:Nat)/\(∀i,i<k->Bv (2*L.getD i 0) x=true)/\Below U.heap.size U W)
            case atStart=>exact⟨0,by omega,rfl,fun i M=>by omega,bR⟩
            case round=>
             obtain⟨k,hk,rfl,bV,hb⟩:=hrel;have HK:=Hd hk;have bK:=Hd bV;have S:=Hd hb;have a7:=Hd (z.out.below hb z.out.lt);have d9:=a7.out.cell 9;simp only[cR,cS,aP]at d9;have I:=Hd (A.out.trans (hb.mono A.out.size));clear hk bV hb
             by_cases hkl:k<Q
             ·have bS:decide (k<Q)=true:=dT hkl;have eV:(k:Int)<(Q:Int):=(by omega);obtain⟨bl,ol,rfl,eQ,cu⟩:=(bE.out.below I.out lR).at3 (By (show k<L.length by rw[<-aW.out];exact hkl));have bU:=bJ.out (L.getD k 0) (by rw[aS,bB (show k<L.length by rw[<-aW.out];exact hkl)];exact bC _);have aB:=Hd (show L.getD k 0∈L from by rw[aS,bB (show k<L.length by rw[<-aW.out];exact hkl)];exact bC _);obtain⟨u,hu⟩:=eX (L.getD k 0);rw[<-hu]at cu bU aB;have HU:=Hd hu;obtain⟨fQ,fR⟩:=bU;have hw:wrap64 (2*u)=2*u:=(by unfold wrap64;omega);have UN:=If (2*u) x;obtain⟨bb,aJ⟩:=eX (Bv (2*u) x);rw[<-aJ]at UN;have aD:=Hd UN;have a6:=Hd aJ;clear UN aJ hu;cases bb with
              |false=>
               have O:=Hd (P.out (bI.out u aB.out a6.out.symm));go_wp2_with fail;refine(aD.out _).mono ?_;rintro e dX ⟨rfl,B⟩;have G:=Hd (I.out.trans (B.mono I.out.size));clear B;go_wp2_with fail;go_ret;exact⟨Do O.out,G.out⟩
              |true=>
               go_wp2_with fail;refine(aD.out _).mono ?_;rintro e dX ⟨rfl,B⟩;have G:=Hd (S.out.trans (B.mono S.out.size));clear B;go_wp2_with fail;go_roundg (gk-1);case measure=>have:=HK.out;omega
               case rel=>
                refine⟨k+1,by have:=HK.out;omega,by go_num,fun i M=> ?_,G.out⟩
                by_cases e:i=k
                ·rw[e,<-HU.out];exact a6.out.symm
                ·exact bK.out i (by omega)
             ·obtain rfl:k=Q:=(by have:=HK.out;omega);have bS:decide (k<k)=false:=dF hkl;have c5:=Hd (aH.out eL.out bY.out cQ.out cX.out bK.out);have cO:=Hd (H.out.trans (S.out.mono H.out.size));clear hkl;go_wp2_with fail;go_roundg (g1-1);case measure=>have:=HR.out;omega
              case rel=>
               refine⟨r+1,by have:=HR.out;omega,by go_num,fun i M=> ?_,cO.out⟩
               by_cases e:i=r
               ·rw[e];exact c5.out
               ·exact aM.out i (by omega)
        ·have e9:decide (x>2*lv-2)=true:=dT (by omega);have O:=Hd (P.out (c4.out fun h=>hx2 h.2));clear hx2;go_wp2_with fail;go_ret;exact⟨Do O.out,E.out⟩
       ·have e8:decide (x<0)=true:=dT (by omega);have O:=Hd (P.out (c4.out fun h=>hx0 h.1));clear hx0;go_wp2_with fail;go_ret;exact⟨Do O.out,E.out⟩
     ·obtain rfl:r=n:=(by have:=HR.out;omega);have eZ:decide (r<r)=false:=dF hlt;obtain⟨wo,rfl⟩:∃wo:World,wo=wr:=⟨_,rfl⟩;clear hlt V c2 c3;have c2:=F.out.cell 2;simp only[cR,cS,aP]at c2;go_wp2_with fail;clear c2
      go_loopg [9] m (fun q iv W=>∃k:Nat,k+q=m/\iv=rD rF (k:Nat)/\(∀i,i<k->(stb s.sh i).2.length=32)/\W=wo)
      case atStart=>exact⟨0,by omega,rfl,fun i M=>by omega,rfl⟩
      case round=>
       obtain⟨k,hk,rfl,e7,rfl⟩:=hrel;have HK:=Hd hk;have eI:=Hd e7;clear hk e7;have c3:=F.out.cell 3;simp only[cR,cS,aP]at c3
       by_cases hkm:k<m
       ·have eW:decide (k<m)=true:=dT hkm;have fW:(k:Int)<(m:Int):=(by omega);obtain⟨b,J,u,rfl,aE,e6,a4⟩:=d3.out k hkm;have cu:=(aF.out.cell (p:=⟨b,J+k*2+1,rI⟩) aE).trans (Bt (Dl a4));obtain⟨ua,uc,rfl⟩:∃a c,u=.slice a (stb s.sh k).2.length c:=(by obtain⟨a,c,e,_⟩:=e6;exact⟨a,c,by rw[e,bvs_len]⟩);have P:=Hd (cZ.out k hkm);obtain⟨ul,dR⟩:=eX ((stb s.sh k).2.length);rw[<-dR]at cu P;have fI:=Hd dR;clear dR e6 a4
        by_cases h32:ul=32
        ·have eM:((ul:Int) !=32)=false:=(by simp;omega);have fC:=Hd h32;clear h32;go_wp2_with fail;go_roundg (gk-1);case measure=>have:=HK.out;omega
         case rel=>
          refine⟨k+1,by have:=HK.out;omega,by go_num,fun i M=> ?_,rfl⟩
          by_cases e:i=k
          ·rw[e,<-fI.out];exact fC.out
          ·exact eI.out i (by omega)
        ·have eM:((ul:Int) !=32)=true:=(by simp;omega);have O:=Hd (P.out h32);clear h32;go_wp2_with fail;go_ret;exact⟨Do O.out,aF.out⟩
       ·obtain rfl:k=m:=(by have:=HK.out;omega);have eW:decide (k<k)=false:=dF hkm;obtain⟨d,hd,aL⟩:∃d,d<=16/\lv=((2^d:Nat):Int):=by
         obtain⟨d,hd,e⟩:=(fits_iff _).1 aQ.out.symm;exact⟨d,hd,by have:=aX.out;omega⟩
        obtain⟨i,rfl⟩:∃i:Nat,ow=(i:Int):=⟨ow.toNat,by have:=aX.out.1;omega⟩;have M:2*i+1<2^(d+1):=(by have:=aX.out.2;rw[bF];omega);have gA:i<=65536:=(by have:=aX.out.2;have:=cB.out;omega);have SK:Lz s.op:=by
         intro p hp;obtain⟨j,hj,rfl⟩:=dW hp;have dM:j<r:=(by rw[HN.out];exact hj);have h1:=Oo (aM.out j dM);have h2:=cU.out j dM;have h3:=cW.out j dM;rw[Jc hj]at h1 h2 h3;exact⟨h3.2.kind,h2,Fo (Cy h1.2.1)⟩
        have T:=aY.out aQ.out.symm aX.out aM.out eI.out;rw[aL,cV,Nat.log2_two_pow,cV]at T;have b6:=fun(W:World) (hw:Below w.heap.size w W)=>Wu s.op d i only _ W hd M (cE.out.below hw lR) SK;rw[<-HN.out,<-aL]at b6;have a5:=fun(W:World) (hw:Below w.heap.size w W)=>Dm _ s.op (2*(i:Int)) W (cE.out.below hw lR);rw[<-HN.out]at a5;unfold Si at T;rw[<-d6.out]at T;obtain⟨OK,dB⟩:=eX (Ah s.op (2*(i:Int)));rw[<-dB]at a5 T;obtain⟨OD,dA⟩:=eX (OK.getD Am);rw[<-dA]at a5 T;simp only[Oj]at T;obtain⟨O1,eN⟩:=eX (Fe (Ad (Ah s.op) d i only d));obtain⟨O2,eO⟩:=eX (Fe (Dr (Ad (Ah s.op) d i only d)));obtain⟨O3,eP⟩:=eX (Ca (Ah s.op) d i only d);simp only[<-eN,<-eO,<-eP]at b6 T;have KK:OD.kind<256:=by
         rw[dA,dB];cases hf:Ah s.op (2*(i:Int))with
         |none=>decide
         |some D=>exact(SK _ (Cd hf)).1
        have aR:=Hd T;have d5:=Hd b6;have d1:=Hd a5;have c8:=Hd (show Below w.heap.size w wr from aF.out);have d7:=Hd bA.out;have gB:wrap64 (2*(i:Int))=2*(i:Int):=(by unfold wrap64;omega);clear hkm T b6 a5 dB dA eN eO eP SK aL M hd;have c1:=F.out.cell 1;have c2:=F.out.cell 2;have V:=F.out.cell 0;simp only[cR,cS,aP]at V c1 c2;go_wp2_with fail;refine(d1.out _ c8.out).mono ?_;rintro e w5 ⟨cc,rfl,bT,dH⟩;have aG:=Hd bT.oneL;obtain⟨x1,x2,x3,x4,x5,x6,x7,x8,b3,e3,rfl,-⟩:=bT.frame;obtain⟨R,aK⟩:=eX OD.kind;obtain⟨Q,a3⟩:=eX OD.par.late.length;rw[<-aK]at KK aG|-;rw[<-a3]at aG|-;have cT:=Hd aK;have eK:=Hd (c8.out.trans (dH.mono c8.out.size));have cA:=Hd (F.out.below dH F.out.lt);clear bT dH aK a3 V c1 c2 c3;obtain⟨q5,dO⟩:=eX w5.heap.size;have d8:=Hd dO;have eE:=Hd (show Blk (w5.alloc (rJ #[rD rG 0,rC rI 0 0,rC rI 0 0,rC rI 0 0,rD rG 0,rC rI 0 0,rC rI 0 0,rC rI 0 0,rC rI 0 0,rC rI 0 0] 52)) q5 52 #[rD rG 0,rC rI 0 0,rC rI 0 0,rC rI 0 0,rD rG 0,rC rI 0 0,rC rI 0 0,rC rI 0 0,rC rI 0 0,rC rI 0 0] by rw[dO];exact Blk.new _ _ _);clear dO;go_wp2_with (refine Aa rfl 52 (.tmp 10) (.tmp 127) rfl w5.heap.size #[rD rG (R:Nat),x1,x2,x3,x4,x5,x6,x7,x8,rC b3 Q e3] rfl rfl 52 #[rD rG 0,rC rI 0 0,rC rI 0 0,rC rI 0 0,rD rG 0,rC rI 0 0,rC rI 0 0,rC rI 0 0,rC rI 0 0,rC rI 0 0] (d8.out▸eE.out) (by kernel_rfl) rfl aG.out ?_);rintro w6 C aE e1 dQ;rw[<-d8.out]at C|-;have bL:=((Below.refl w5.heap.size w5).alloc lR (rJ #[rD rG 0,rC rI 0 0,rC rI 0 0,rC rI 0 0,rD rG 0,rC rI 0 0,rC rI 0 0,rC rI 0 0,rC rI 0 0,rC rI 0 0] 52)).trans (aE w5.heap.size lR);have eA:=Hd C;have c6:=Hd (eK.out.trans (bL.mono eK.out.size));have aA:=Hd (cA.out.below bL cA.out.lt);clear C aE e1 dQ bL;have c1:=aA.out.cell 1;have c2:=aA.out.cell 2;have V:=aA.out.cell 0;simp only[cR,cS,aP]at V c1 c2;go_wp2_with fail;refine(d5.out _ c6.out).mono ?_;rintro e w7 ⟨v1,v2,rfl,dU,dV,b7⟩;have c7:=Hd (c6.out.trans (b7.mono c6.out.size));have eB:=Hd (eA.out.below b7 eA.out.lt);have aO:=Hd (aA.out.below b7 aA.out.lt);have fJ:=Hd dU.rd;have fK:=Hd dV.rd;obtain⟨s1,s2,s3,rfl⟩:=Cx dU;obtain⟨t1,t2,t3,rfl⟩:=Cx dV;clear dU dV b7 V c1 c2;have V:=aO.out.cell 0;have c1:=aO.out.cell 1;have c2:=aO.out.cell 2;have c3:=aO.out.cell 3;simp only[cR,cS,aP]at V c1 c2 c3;go_wp2_with fail;refine(d7.out _ c7.out).mono ?_;rintro e w8 ⟨a1,a2,rfl,dC,dD,bM⟩;have b5:=Hd (c7.out.trans (bM.mono c7.out.size));have cF:=Hd (fJ.out.below bM lR);have eJ:=Hd (fK.out.below bM lR);have dY:=Hd dC.rd;have fD:=Hd dD.rd;have k0:=(eB.out.below bM eB.out.lt).cell 0;simp only[cR,cS]at k0;obtain⟨m1,m2,m3,rfl⟩:=Cx dC;obtain⟨n1,n2,n3,rfl⟩:=Cx dD;clear dC dD bM
        by_cases hk1:R=1
        ·have eT:((R:Int)==1)=true:=(by rw[beq_iff_eq];omega);have cP:=Hd (show decide (OD.kind=1)=true from dT (by rw[<-cT.out];exact hk1));clear hk1;cases O3 with
         |false=>
          go_wp2_with fail;go_ret;exact⟨Do (by rw[aR.out];simp),b5.out⟩
         |true=>
          have SA:=fun W (h1:Rd W (rC m1 m2 m3) (ivs .i64 (s.op.map (·.1)))) (h2:Rd W (rC s1 s2 s3) (ivs .i64 O1))=>Nj _ _ _ _ W h1 h2;obtain⟨b1,dE⟩:=eX (decide (s.op.map (·.1)=O1));rw[<-dE]at SA;have eH:=Hd SA;have dZ:=Hd dE;clear SA dE;cases b1 with
          |false=>
           go_wp2_with fail;refine(eH.out _ dY.out cF.out).mono ?_;rintro e w9 ⟨rfl,n9,rfl⟩;go_wp2_with fail;go_ret;exact⟨Do (by rw[aR.out,<-dZ.out];simp),Ab b5.out _⟩
          |true=>
           have SB:=fun W (h1:Rd W (rC n1 n2 n3) (ivs .i64 (s.sh.map (·.1)))) (h2:Rd W (rC t1 t2 t3) (ivs .i64 O2))=>Nj _ _ _ _ W h1 h2;obtain⟨b2,dG⟩:=eX (decide (s.sh.map (·.1)=O2));rw[<-dG]at SB;have fH:=Hd SB;have S:=Hd dG;clear SB dG;go_wp2_with fail;refine(eH.out _ dY.out cF.out).mono ?_;rintro e w9 ⟨rfl,n9,rfl⟩;go_wp2_with fail;refine(fH.out _ (fD.out.drewN n9) (eJ.out.drewN n9)).mono ?_;rintro e U ⟨rfl,gC,rfl⟩;go_wp2_with fail;go_ret;exact⟨Do (by rw[aR.out,<-dZ.out,<-S.out,cP.out];simp),Ab b5.out _⟩
        ·have eT:((R:Int)==1)=false:=(by rw[qN];omega);have cP:=Hd (show decide (OD.kind=1)=false from dF (by rw[<-cT.out];exact hk1));clear hk1;go_wp2_with fail;go_ret;exact⟨Do (by rw[aR.out,cP.out];simp),b5.out⟩
   ·have cN:decide (ow>=lv)=true:=dT (by omega);have O:=Hd (bH.out fun h=>ho2 h.2);clear ho1 ho2;go_wp2_with fail;refine aV.out.mono ?_;rintro e w2 ⟨rfl,rfl⟩;go_wp2_with fail;go_ret;exact⟨Do O.out,aU.out⟩
  ·have cM:decide (ow<0)=true:=dT (by omega);have O:=Hd (bH.out fun h=>ho1 h.1);clear ho1;go_wp2_with fail;refine aV.out.mono ?_;rintro e w2 ⟨rfl,rfl⟩;go_wp2_with fail;go_ret;exact⟨Do O.out,aU.out⟩
def Fq (f:Nat->Int)(i:Nat):Int:=if i=0 then-1 else f (i-1)
def Hb (f:Nat->Int)(n:Nat):Bool:=(aN n).all fun i=>decide (Fq f i<f i)
theorem Uv {f:Nat->Int} {n i:Nat}(hi:i<n)(h:f i<=Fq f i):Hb f n=false:=by
 rw[Hb,List.all_eq_false];exact⟨i,List.mem_range.2 hi,by simpa using h⟩
theorem Lo {f:Nat->Int} {n:Nat}(h:∀i,i<n->Fq f i<f i):Hb f n=true:=by
 rw[Hb,dX];exact fun i hi=>dT (h i (List.mem_range.1 hi))
theorem Lp {f:Nat->Int} {n:Nat}(h:Hb f n=true):∀i,i<n->Fq f i<f i:=by
 rw[Hb,dX]at h;exact fun i hi=>oD (h i (List.mem_range.2 hi))
theorem Sj {f:Nat->Int} {n:Nat}(h:∀i,i<n->Fq f i<f i):∀j,j<n->0<=f j/\∀i,i<j->f i<f j:=by
 intro j
 induction j with
 |zero=>intro a;have:=h 0 a;unfold Fq at this;rw[iP rfl]at this;exact⟨by omega,fun i b=>by omega⟩
 |succ j ih=>
  intro a;have h1:=h (j+1) a;unfold Fq at h1;rw[iN (by omega),dQ]at h1;obtain⟨h2,h3⟩:=ih (by omega);refine⟨by omega,fun i b=> ?_⟩
  by_cases e:i=j
  ·rw[e];exact h1
  ·have:=h3 i (by omega);omega
def Ff (f:Nat->Int):Nat->Int->Option Nat
 |0,_=>none
 |r+1,y=>if y=f r then some r else Ff f r y
theorem Io {f:Nat->Int}:∀ {n:Nat} {y:Int} {i:Nat},Ff f n y=some i->i<n/\f i=y:=by
 intro n
 induction n with
 |zero=>intro y i h;cases h
 |succ n ih=>
  intro y i h;rw[Ff]at h
  split at h
  ·rename_i e;cases h;exact⟨by omega,e.symm⟩
  ·obtain⟨h1,h2⟩:=ih h;exact⟨by omega,h2⟩
theorem Qk {f:Nat->Int}:∀ {n:Nat} {y:Int},Ff f n y=none->∀i,i<n->f i≠y:=by
 intro n
 induction n with
 |zero=>intro y _ i hi;omega
 |succ n ih=>
  intro y h i hi;rw[Ff]at h
  split at h
  ·cases h
  ·rename_i e
   by_cases e2:i=n
   ·rw[e2];exact fun h=>e h.symm
   ·exact ih h i (by omega)
def Ba:List (Int×List Nat)->Int->Option (List Nat)
 |[],_=>none
 |p::l,x=>if p.1=x then some p.2 else Ba l x
theorem Sk {l:List (Int×List Nat)} {x:Int}:∀ {r:Nat},r<l.length->(∀i,i<r->(stb l i).1≠x)->(stb l r).1=x->Ba l x=some (stb l r).2:=by
 induction l with
 |nil=>intro r b;simp at b
 |cons p l ih=>
  intro r b a c;cases r with
  |zero=>have e:p.1=x:=c;rw[Ba,iP e];rfl
  |succ r=>
   have h0:p.1≠x:=a 0 (by omega);rw[Ba,iN h0];exact ih (r:=r) (by simpa using b) (fun i d=>a (i+1) (by omega)) c
theorem Ql {l:List (Int×List Nat)} {x:Int}:(∀i,i<l.length->(stb l i).1≠x)->Ba l x=none:=by
 induction l with
 |nil=>intro _;rfl
 |cons p l ih=>
  intro h;rw[Ba,iN (show¬p.1=x from h 0 (by simp))];exact ih fun i hi=>h (i+1) (by simp;omega)
theorem Uw {l:List (Int×List Nat)} {x:Int} {d:List Nat}(h:Ba l x=some d):(x,d)∈l:=by
 induction l with
 |nil=>cases h
 |cons p l ih=>
  rw[Ba]at h
  split at h
  ·rename_i e
   cases h;rw[<-e];exact List.mem_cons_self
  ·exact List.mem_cons_of_mem _ (ih h)
def spK (l:List (Int×NodeD))(i:Nat):Int:=(spt l i).1
def stK (l:List (Int×List Nat))(i:Nat):Int:=(stb l i).1
theorem Zec {l:List (Int×NodeD)}(h:Hb (spK l) l.length=true)(y:Int):Ah l y=(Ff (spK l) l.length y).map fun i=>(spt l i).2:=by
 have c:=Sj (Lp h);cases hl:Ff (spK l) l.length y with
 |none=>exact Qg fun i a=>Qk hl i a
 |some i=>
  obtain⟨h1,h2⟩:=Io hl;exact Sf h1 (fun j b e=>by have h3:spK l j<spK l i:=(c i h1).2 j b;have d:spK l j=y:=e;omega) h2
theorem Zbj {l:List (Int×List Nat)}(h:Hb (stK l) l.length=true)(y:Int):Ba l y=(Ff (stK l) l.length y).map fun i=>(stb l i).2:=by
 have c:=Sj (Lp h);cases hl:Ff (stK l) l.length y with
 |none=>exact Ql fun i a=>Qk hl i a
 |some i=>
  obtain⟨h1,h2⟩:=Io hl;exact Sk h1 (fun j b e=>by have h3:stK l j<stK l i:=(c i h1).2 j b;have d:stK l j=y:=e;omega) h2
theorem Blk.range {w:World} {g:Nat} {t:TypeId} {cs:List Value}(h:Blk w g t cs.toArray)(o:Nat):w.rangeAt g (0+o) (cs.drop o):=by
 intro j u hu;rw[h.cell];rw[List.getElem?_drop]at hu;simpa [Nat.add_comm]using hu
def Cu (s:SparseD):Bool:=Hb (spK s.op) s.op.length&&Hb (stK s.sh) s.sh.length
def NodesG (w:World)(G:Int->Option Value)(F:Int->Option NodeD):Prop:=∀x,match F x with
 |none=>G x=none
 |some d=>∃c,G x=some (.agg c)/\NodeC w d c
def RunsH (w:World)(G:Int->Option Value)(H:Int->Option (List Nat)):Prop:=∀x,match H x with
 |none=>G x=none
 |some L=>∃v,G x=some v/\Rd w v (bvs L)
theorem NodesG.below {w w':World} {G:Int->Option Value} {B:Nat} {F:Int->Option NodeD}(h:NodesG w G F)(hb:Below B w w')(hB:w.heap.size<=B):NodesG w' G F:=by
 intro x;have:=h x;revert this;cases F x with
 |none=>exact id
 |some d=>rintro⟨c,hc,hn⟩;exact⟨c,hc,hn.below hb hB⟩
theorem RunsH.below {w w':World} {G:Int->Option Value} {B:Nat} {F:Int->Option (List Nat)}(h:RunsH w G F)(hb:Below B w w')(hB:w.heap.size<=B):RunsH w' G F:=by
 intro x;have:=h x;revert this;cases F x with
 |none=>exact id
 |some d=>rintro⟨c,hc,hn⟩;exact⟨c,hc,hn.below hb hB⟩
def PieceN (w:World)(b n:Nat)(F:Int->Option NodeD):Prop:=∃G:Int->Option Value,MapF w b n G/\∀x,match F x with
 |none=>G x=none
 |some d=>∃c,G x=some (.agg c)/\NodeC w d c
def PieceH (w:World)(b n:Nat)(H:Int->Option (List Nat)):Prop:=∃G:Int->Option Value,MapF w b n G/\∀x,match H x with
 |none=>G x=none
 |some L=>∃v,G x=some v/\Rd w v (bvs L)
theorem PieceN.below {w w':World} {b n B:Nat} {F:Int->Option NodeD}(h:PieceN w b n F)(e:Below B w w')(a:w.heap.size<=B):PieceN w' b n F:=by
 obtain⟨G,h1,h2⟩:=h;refine⟨G,h1.below e a,fun x=> ?_⟩;have:=h2 x;revert this;cases F x with
 |none=>exact id
 |some d=>rintro⟨c,f,g⟩;exact⟨c,f,g.below e a⟩
theorem PieceH.below {w w':World} {b n B:Nat} {F:Int->Option (List Nat)}(h:PieceH w b n F)(e:Below B w w')(a:w.heap.size<=B):PieceH w' b n F:=by
 obtain⟨G,h1,h2⟩:=h;refine⟨G,h1.below e a,fun x=> ?_⟩;have:=h2 x;revert this;cases F x with
 |none=>exact id
 |some d=>rintro⟨c,f,g⟩;exact⟨c,f,g.below e a⟩
theorem Ux:(prog.info? 87).map (·.size)=some 11:=by kernel_rfl
theorem Uy:(prog.info? 89).map (·.size)=some 2:=by kernel_rfl
theorem Ip {α:Type} [Inhabited α] {n:Nat} {P:Nat->α->Prop}(h:∀i,i<n->∃c,P i c):∃C:Nat->α,∀i,i<n->P i (C i):=by
 refine⟨fun i=>if hi:i<n then Classical.choose (h i hi)else default,fun i hi=> ?_⟩;simp only[hi,dif_pos];exact Classical.choose_spec (h i hi)
theorem Blk.grownR {w w':World} {g:Nat} {t:TypeId} {cs:Array Value} {row:Nat}(h:Blk w g t cs)(hg:w.grownBy w' (some row))(hne:g≠row):Blk w' g t cs:=(hg.block g h.lt fun e=>hne (by cases e;rfl)).trans h
def Kp (s:SparseD)(w0 w:World)(e:Ending)(w':World):Prop:=Below w.heap.size w w'/\
 if Cu s=true then∃ob sb,e=rK (.tuple #[.agg #[rD rF s.leaves,rD rF s.own,.map (some ob),.map (some sb)],.bool true])/\w.heap.size<=ob/\w.heap.size<=sb/\ob≠sb/\∃G G',MapF w' ob s.op.length G/\NodesG w0 G (Ah s.op)/\MapF w' sb s.sh.length G'/\RunsH w0 G' (Ba s.sh)
 else e=rK (.tuple #[.agg #[rD rF 0,rD rF 0,.map none,.map none],.bool false])
theorem Zed {s:SparseD} {w0 w w':World}(h:Cu s=false)(hb:Below w.heap.size w w'):Kp s w0 w (rK (.tuple #[.agg #[rD rF 0,rD rF 0,.map none,.map none],.bool false])) w':=⟨hb,by rw[iN (by rw[h];simp)]⟩
theorem Ww (w:World)(lv ow:Int)(c a:Option Addr)(n d m b h:Nat)(e:h=w.heap.size)(cs:Array Value)(k:cs=#[rD rF lv,rD rF ow,.map (some (h+1+1)),.map (some (h+1+1+1))]):
  Blk (((((w.alloc (rJ #[rD rF lv,rD rF ow,rC c n d,rC a m b] 25)).alloc (rJ #[rD rF 0,rD rF 0,.map none,.map none] 101)).alloc (.map #[] 0)).alloc (.map #[] 0)).alloc (.cells cs 101)) h 25 #[rD rF lv,rD rF ow,rC c n d,rC a m b]/\Blk (((((w.alloc (rJ #[rD rF lv,rD rF ow,rC c n d,rC a m b] 25)).alloc (rJ #[rD rF 0,rD rF 0,.map none,.map none] 101)).alloc (.map #[] 0)).alloc (.map #[] 0)).alloc (.cells cs 101)) (h+1) 101 #[rD rF 0,rD rF 0,.map none,.map none]/\MapF (((((w.alloc (rJ #[rD rF lv,rD rF ow,rC c n d,rC a m b] 25)).alloc (rJ #[rD rF 0,rD rF 0,.map none,.map none] 101)).alloc (.map #[] 0)).alloc (.map #[] 0)).alloc (.cells cs 101)) (h+1+1) 0 (fun _=>none)/\MapF (((((w.alloc (rJ #[rD rF lv,rD rF ow,rC c n d,rC a m b] 25)).alloc (rJ #[rD rF 0,rD rF 0,.map none,.map none] 101)).alloc (.map #[] 0)).alloc (.map #[] 0)).alloc (.cells cs 101)) (h+1+1+1) 0 (fun _=>none)/\Blk (((((w.alloc (rJ #[rD rF lv,rD rF ow,rC c n d,rC a m b] 25)).alloc (rJ #[rD rF 0,rD rF 0,.map none,.map none] 101)).alloc (.map #[] 0)).alloc (.map #[] 0)).alloc (.cells cs 101)) (h+1+1+1+1) 101 cs/\Below h w (((((w.alloc (rJ #[rD rF lv,rD rF ow,rC c n d,rC a m b] 25)).alloc (rJ #[rD rF 0,rD rF 0,.map none,.map none] 101)).alloc (.map #[] 0)).alloc (.map #[] 0)).alloc (.cells cs 101))/\(((((w.alloc (rJ #[rD rF lv,rD rF ow,rC c n d,rC a m b] 25)).alloc (rJ #[rD rF 0,rD rF 0,.map none,.map none] 101)).alloc (.map #[] 0)).alloc (.map #[] 0)).alloc (.cells cs 101)).heap.size=h+5:=by
 have l:(w.alloc (rJ #[rD rF lv,rD rF ow,rC c n d,rC a m b] 25)).heap.size=h+1:=(by simp[e]);have o:((w.alloc (rJ #[rD rF lv,rD rF ow,rC c n d,rC a m b] 25)).alloc (rJ #[rD rF 0,rD rF 0,.map none,.map none] 101)).heap.size=h+1+1:=(by simp[e]);have p:(((w.alloc (rJ #[rD rF lv,rD rF ow,rC c n d,rC a m b] 25)).alloc (rJ #[rD rF 0,rD rF 0,.map none,.map none] 101)).alloc (.map #[] 0)).heap.size=h+1+1+1:=(by simp[e]);have q:((((w.alloc (rJ #[rD rF lv,rD rF ow,rC c n d,rC a m b] 25)).alloc (rJ #[rD rF 0,rD rF 0,.map none,.map none] 101)).alloc (.map #[] 0)).alloc (.map #[] 0)).heap.size=h+1+1+1+1:=(by simp[e]);have f:=Blk.new w 25 #[rD rF lv,rD rF ow,rC c n d,rC a m b];have b1:=Blk.new (w.alloc (rJ #[rD rF lv,rD rF ow,rC c n d,rC a m b] 25)) 101 #[rD rF 0,rD rF 0,.map none,.map none];have g:=MapF.made ((w.alloc (rJ #[rD rF lv,rD rF ow,rC c n d,rC a m b] 25)).alloc (rJ #[rD rF 0,rD rF 0,.map none,.map none] 101));have i:=MapF.made (((w.alloc (rJ #[rD rF lv,rD rF ow,rC c n d,rC a m b] 25)).alloc (rJ #[rD rF 0,rD rF 0,.map none,.map none] 101)).alloc (.map #[] 0));have j:=Blk.new ((((w.alloc (rJ #[rD rF lv,rD rF ow,rC c n d,rC a m b] 25)).alloc (rJ #[rD rF 0,rD rF 0,.map none,.map none] 101)).alloc (.map #[] 0)).alloc (.map #[] 0)) 101 cs;rw[<-e]at f;rw[l]at b1;rw[o]at g;rw[p]at i;rw[q]at j;have B:=(((((Below.refl h w).alloc (by omega) (rJ #[rD rF lv,rD rF ow,rC c n d,rC a m b] 25)).alloc (by omega) (rJ #[rD rF 0,rD rF 0,.map none,.map none] 101)).alloc (by omega) (.map #[] 0)).alloc (by omega) (.map #[] 0)).alloc (by omega) (.cells cs 101);exact⟨(((f.alloc _).alloc _).alloc _).alloc _,((b1.alloc _).alloc _).alloc _,(g.alloc _).alloc _,i.alloc _,j,B,by simp[e]⟩
theorem Wx (v:Value)(s:SparseD)(w0 w:World)(h:SparseR w0 v s)(bY:Below w0.heap.size w0 w)(a6:SparseOk s)(h1:s.op.length<=10000)(h2:s.sh.length<=10000):
  Calls prog 148 #[v] w (Kp s w0 w):=by
 obtain⟨o,g,rfl,ho,hg⟩:=h;obtain⟨oa,oc,rfl,bX,b6⟩:=ho.sl;obtain⟨ga,gc,rfl,bW,b5⟩:=hg.sl;obtain⟨C,hC⟩:=Ip (n:=s.op.length) (P:=fun i c=>∃b z,oa=some ⟨b,z,rI⟩/\b<w0.heap.size/\NodeC w0 (spt s.op i).2 c/\w0.rangeAt b (z+i*11) (rD rF (spK s.op i)::c.toList)) fun i V=>by
  obtain⟨b,z,c,e,h1,h2,h3⟩:=ho.at V;exact⟨c,b,z,e,h1,h2,h3⟩
 obtain⟨U,hU⟩:=Ip (n:=s.sh.length) (P:=fun i u=>∃b z,ga=some ⟨b,z,rI⟩/\b<w0.heap.size/\Rd w0 u (bvs (stb s.sh i).2)/\w0.rangeAt b (z+i*2) [rD rF (stK s.sh i),u]) fun i V=>by
  obtain⟨b,z,c,e,h1,h2,h3⟩:=hg.at V;exact⟨c,b,z,e,h1,h2,h3⟩
 have aS:=Hd bY;have HC:=Hd hC;have HU:=Hd hU;have aQ:=Hd fun(i:Nat) (V:i<s.op.length)=>(show inI (spK s.op i)from(a6.op _ (Lm V)).1);have aO:=Hd fun(i:Nat) (V:i<s.sh.length)=>(show inI (stK s.sh i)from(a6.sh _ (Se V)).1);have bF:=fun(i:Nat) (V:i<s.op.length) (h:spK s.op i<=Fq (spK s.op) i)=>(show Cu s=false from by rw[Cu,Uv V h];rfl);have bG:=fun(i:Nat) (V:i<s.sh.length) (h:stK s.sh i<=Fq (stK s.sh) i)=>(show Cu s=false from by rw[Cu,Uv V h];simp);have a9:=fun(w':World) (ob sb:Nat) (S:Below w.heap.size w w') (r1:∀i,i<s.op.length->Fq (spK s.op) i<spK s.op i) (r2:∀i,i<s.sh.length->Fq (stK s.sh) i<stK s.sh i) (k1:w.heap.size<=ob) (k2:w.heap.size<=sb) (k3:ob≠sb)
   (m1:MapF w' ob s.op.length fun y=>(Ff (spK s.op) s.op.length y).map fun i=> .agg (C i)) (m2:MapF w' sb s.sh.length fun y=>(Ff (stK s.sh) s.sh.length y).map fun i=>U i)=>
  (show Kp s w0 w (rK (.tuple #[.agg #[rD rF s.leaves,rD rF s.own,.map (some ob),.map (some sb)],.bool true])) w' from by
   have f1:=Lo r1;have f2:=Lo r2;refine⟨S,?_⟩;rw[iP (by rw[Cu,f1,f2];rfl)];refine⟨ob,sb,rfl,k1,k2,k3,_,_,m1,fun x=> ?_,m2,fun x=> ?_⟩
   ·rw[Zec f1];try dsimp only
    cases hl:Ff (spK s.op) s.op.length x with
    |none=>rfl
    |some i=>
     obtain⟨b,z,-,-,hn,-⟩:=hC i (Io hl).1;exact⟨C i,rfl,hn⟩
   ·rw[Zbj f2];try dsimp only
    cases hl:Ff (stK s.sh) s.sh.length x with
    |none=>rfl
    |some i=>
     obtain⟨b,z,-,-,hn,-⟩:=hU i (Io hl).1;exact⟨U i,rfl,hn⟩)
 have Y:=Hd bF;have Z:=Hd bG;have H:=Hd a9;have aR:=Hd fun(w':World)=>Zed (s:=s) (w0:=w0) (w:=w) (w':=w');clear bF bG a9 hC hU a6;obtain⟨PB,bH⟩:=eX (Cu s);rw[<-bH]at Y Z aR;obtain⟨QP,bI⟩:=eX (Kp s w0 w);rw[<-bI]at H aR|-;obtain⟨lv,bK⟩:=eX s.leaves;obtain⟨ow,how⟩:=eX s.own;obtain⟨f,hf⟩:=eX (spK s.op);obtain⟨k,hk⟩:=eX (stK s.sh);obtain⟨n,hn⟩:=eX s.op.length;obtain⟨m,hm⟩:=eX s.sh.length;rw[<-bK,<-how]at H|-;rw[<-hf]at HC aQ Y H;rw[<-hk]at HU aO Z H;rw[<-hn]at HC aQ Y H bX h1|-;rw[<-hm]at HU aO Z H bW h2|-;clear bH bI bK how hf hk hn hm ho hg;obtain⟨N,hN⟩:=eX w.heap.size;have b7:=Hd hN;have bU:∀w,(Instr.makeMap 98 none).run prog w=.ok (.map (some w.heap.size)) (w.alloc (.map #[] 0)):=fun w=>rfl;have bV:∀w,(Instr.makeMap 99 none).run prog w=.ok (.map (some w.heap.size)) (w.alloc (.map #[] 0)):=fun w=>rfl;go_in;go_wp2_with fail;obtain⟨h,hh⟩:=eX w.heap.size;have HH:=Hd hh;have ST:=Ww w lv ow oa ga n oc m gc h hh #[rD rF lv,rD rF ow,.map (some (h+1+1)),.map (some (h+1+1+1))] rfl;rw[<-hh];generalize hw5:(((((w.alloc (rJ #[rD rF lv,rD rF ow,rC oa n oc,rC ga m gc] 25)).alloc (rJ #[rD rF 0,rD rF 0,.map none,.map none] 101)).alloc (.map #[] 0)).alloc (.map #[] 0)).alloc (rJ #[rD rF lv,rD rF ow,.map (some (h+1+1)),.map (some (h+1+1+1))] 101))=w5 at ST|-;obtain⟨b0,b1,b2,b3,b4,B5,bM⟩:=ST;have bC:=Hd b0;have aT:=Hd b1;have bO:=Hd b2;have bS:=Hd b3;have bD:=Hd b4;have bA:=Hd B5;have bT:=Hd bM;clear hw5 hh b0 b1 b2 b3 b4 B5 bM bU bV
 go_loopg [5,20] n (fun q X iv wr=>∃r:Nat,r+q=n/\iv=rD rF (r:Nat)/\X=rD rF (Fq f r)/\(∀i,i<r->Fq f i<f i)/\MapF wr (h+1+1) r (fun y=>(Ff f r y).map fun i=> .agg (C i))/\MapF wr (h+1+1+1) 0 (fun _=>none)/\Blk wr (h+1+1+1+1) 101 #[rD rF lv,rD rF ow,.map (some (h+1+1)),.map (some (h+1+1+1))]/\Below (h+1+1) w5 wr/\h+5<=wr.heap.size)
 case atStart=>exact⟨0,by omega,rfl,rfl,fun i V=>by omega,bO.out,bS.out,bD.out,bR,by rw[bT.out];exact lR⟩
 case round=>
  obtain⟨r,hr,rfl,rfl,aL,aH,aI,aK,S,aM⟩:=hrel;have HR:=Hd hr;have a0:=Hd aL;have M:=Hd aH;have O:=Hd aI;have t:=Hd aK;have HB:=Hd S;have E:=Hd aM;have J:=Hd (bA.out.trans (S.mono (show h<=h+1+1 by omega)));have K:=Hd (aT.out.below S (dU _));clear hr aL aH aI aK S aM
  by_cases hlt:r<n
  ·have aG:decide (r<n)=true:=dT hlt;have bJ:(r:Int)<(n:Int):=(by omega);obtain⟨b,z,rfl,F,aA,W⟩:=HC.out r hlt;obtain⟨x0,x1,x2,x3,x4,x5,x6,x7,x8,x9,T⟩:=aA.ten;have L:=Hd aA.oneL;rw[T]at W L;have L:=Hd (show(#[Value.int .i64 (f r),x0,x1,x2,x3,x4,x5,x6,x7,x8,x9]:Array Value).toList.all (·.oneCell')=true from by
    change(true&&(#[x0,x1,x2,x3,x4,x5,x6,x7,x8,x9]:Array Value).toList.all (·.oneCell'))=true;rw[dL];exact L.out)
   have aX:=Hd T;have R:=Hd (Aj W (aS.out.trans (J.out.mono (by rw[HH.out];exact aS.out.size))) F);obtain⟨a7,a8⟩:=aQ.out r hlt;have aC:=Hd (show inI (f r)from aQ.out r hlt);have bZ:=Hd (show∀i,i<r+1->i≠r->Fq f i<f i from fun i V bL=>a0.out i (by omega));obtain⟨x,hx⟩:=eX (f r);rw[<-hx]at R L a7 a8 aC;have HX:=Hd hx;obtain⟨p,hp⟩:=eX (Fq f r);rw[<-hp];have HP:=Hd hp;clear aA W T hx hp
   by_cases hxp:x<=p
   ·have aN:decide (x<=p)=true:=dT hxp;have HE:=Hd (fun(w':World) (S:Below w.heap.size w w')=>aR.out w' (Y.out r hlt (by rw[<-HX.out,<-HP.out];exact hxp)) S);clear hxp;obtain⟨q,hq⟩:=eX wr.heap.size;have HQ:=Hd hq;have aZ:=Hd (show Blk (wr.alloc (rJ #[rD rF 0,rD rG 0,rC rI 0 0,rC rI 0 0,rC rI 0 0,rD rG 0,rC rI 0 0,rC rI 0 0,rC rI 0 0,rC rI 0 0,rC rI 0 0] 87)) q 87 #[rD rF 0,rD rG 0,rC rI 0 0,rC rI 0 0,rC rI 0 0,rD rG 0,rC rI 0 0,rC rI 0 0,rC rI 0 0,rC rI 0 0,rC rI 0 0] by rw[hq];exact Blk.new _ _ _);clear hq;go_wp2_with (first|(refine wpList_load_mid rfl 87 (.tmp 22) rfl b (z+r*11) rfl [rD rF x,x0,x1,x2,x3,x4,x5,x6,x7,x8,x9] _ R.out underlying87 rfl Ux ?_)|(refine Aa rfl 87 (.tmp 7) (.tmp 23) rfl wr.heap.size #[rD rF x,x0,x1,x2,x3,x4,x5,x6,x7,x8,x9] rfl rfl 87 #[rD rF 0,rD rG 0,rC rI 0 0,rC rI 0 0,rC rI 0 0,rD rG 0,rC rI 0 0,rC rI 0 0,rC rI 0 0,rC rI 0 0,rC rI 0 0] (HQ.out▸aZ.out) (by kernel_rfl) rfl L.out ?_));rintro w7 d Q A l;rw[<-HQ.out]at d|-;have B:=Hd (((Below.refl wr.heap.size wr).alloc lR (rJ #[rD rF 0,rD rG 0,rC rI 0 0,rC rI 0 0,rC rI 0 0,rD rG 0,rC rI 0 0,rC rI 0 0,rC rI 0 0,rC rI 0 0,rC rI 0 0] 87)).trans (Q wr.heap.size lR));have J:=Hd (J.out.trans (B.out.mono (by have:=E.out;omega)));have K:=Hd (K.out.below B.out K.out.lt);have aF:=Hd (show w7.heap.size=q+1 from by rw[l];simp[HQ.out]);have bN:=Hd d;have M:=Hd (M.out.below B.out lR);have O:=Hd (O.out.below B.out lR);have t:=Hd (t.out.below B.out t.out.lt);have bB:=Hd (HB.out.trans (B.out.mono (by have:=E.out;omega)));have k0:=d.cell 0;simp only[cR,cS]at k0;have bE:=Hd (show w7.rangeAt q (0+1) [x0,x1,x2,x3,x4,x5,x6,x7,x8,x9]from d.range 1);clear d Q A l;go_wp2_with (refine Aa rfl 101 (.tmp 2) (.tmp 28) rfl (h+1) #[rD rF 0,rD rF 0,.map none,.map none] rfl rfl 101 #[rD rF 0,rD rF 0,.map none,.map none] K.out (by kernel_rfl) rfl rfl ?_);rintro w9 d F A l;have HK:=Hd d;have aB:=Hd (J.out.trans (F h (gI h)));clear d F A l;go_wp2_with fail;refine bodyPost_ret (v:=.tuple #[.agg #[rD rF 0,rD rF 0,.map none,.map none],.bool false]) (Ac results148 _ _ (h+1) _ _ _ rfl HK.out underlying101 rfl (by kernel_rfl)) rfl ?_;exact HE.out _ (by rw[<-HH.out];exact aB.out)
   ·have aN:decide (x<=p)=false:=dF hxp;have a2:=Hd (show p<x by omega);clear hxp;obtain⟨q,hq⟩:=eX wr.heap.size;have HQ:=Hd hq;have aZ:=Hd (show Blk (wr.alloc (rJ #[rD rF 0,rD rG 0,rC rI 0 0,rC rI 0 0,rC rI 0 0,rD rG 0,rC rI 0 0,rC rI 0 0,rC rI 0 0,rC rI 0 0,rC rI 0 0] 87)) q 87 #[rD rF 0,rD rG 0,rC rI 0 0,rC rI 0 0,rC rI 0 0,rD rG 0,rC rI 0 0,rC rI 0 0,rC rI 0 0,rC rI 0 0,rC rI 0 0] by rw[hq];exact Blk.new _ _ _);clear hq;go_wp2_with (first|(refine wpList_load_mid rfl 87 (.tmp 22) rfl b (z+r*11) rfl [rD rF x,x0,x1,x2,x3,x4,x5,x6,x7,x8,x9] _ R.out underlying87 rfl Ux ?_)|(refine Aa rfl 87 (.tmp 7) (.tmp 23) rfl wr.heap.size #[rD rF x,x0,x1,x2,x3,x4,x5,x6,x7,x8,x9] rfl rfl 87 #[rD rF 0,rD rG 0,rC rI 0 0,rC rI 0 0,rC rI 0 0,rD rG 0,rC rI 0 0,rC rI 0 0,rC rI 0 0,rC rI 0 0,rC rI 0 0] (HQ.out▸aZ.out) (by kernel_rfl) rfl L.out ?_));rintro w7 d Q A l;rw[<-HQ.out]at d|-;have B:=Hd (((Below.refl wr.heap.size wr).alloc lR (rJ #[rD rF 0,rD rG 0,rC rI 0 0,rC rI 0 0,rC rI 0 0,rD rG 0,rC rI 0 0,rC rI 0 0,rC rI 0 0,rC rI 0 0,rC rI 0 0] 87)).trans (Q wr.heap.size lR));have J:=Hd (J.out.trans (B.out.mono (by have:=E.out;omega)));have K:=Hd (K.out.below B.out K.out.lt);have aF:=Hd (show w7.heap.size=q+1 from by rw[l];simp[HQ.out]);have bN:=Hd d;have M:=Hd (M.out.below B.out lR);have O:=Hd (O.out.below B.out lR);have t:=Hd (t.out.below B.out t.out.lt);have bB:=Hd (HB.out.trans (B.out.mono (by have:=E.out;omega)));have k0:=d.cell 0;simp only[cR,cS]at k0;have bE:=Hd (show w7.rangeAt q (0+1) [x0,x1,x2,x3,x4,x5,x6,x7,x8,x9]from d.range 1);clear d Q A l;have a5:r<maxLen:=(by unfold maxLen;omega);have p2:=t.out.cell 2;simp only[cR,cS,aP]at p2;go_wp2_with (first|(refine wpList_load_mid rfl 52 (.tmp 35) rfl q 1 rfl [x0,x1,x2,x3,x4,x5,x6,x7,x8,x9] _ bE.out underlying52 rfl Bc ?_)|(refine Ep rfl (.tmp 32) (.tmp 34) (.tmp 36) rfl underlying98 rfl M.out rfl aC.out a5 _ rfl ?_));rintro w8 aJ I;have aY:=Hd (aJ.congr (G:=fun y=>(Ff f (r+1) y).map fun i=>Value.agg (C i)) (fun y=>by
     show(Ff f (r+1) y).map _=_;rw[Ff,<-HX.out]
     by_cases e:y=x
     ·rw[iP e,iP e,<-aX.out];rfl
     ·rw[iN e,iN e]))
    have aD:=Hd (O.out.grown I (by intro e;cases e));have aE:=Hd (t.out.grownR I (by omega));have aW:=Hd (bB.out.trans ((Below.refl (h+1+1) w7).grown I (by have:=aF.out;have:=HQ.out;have:=E.out;omega) (by intro k e;cases e;exact lR)));have a1:=Hd (show h+5<=w8.heap.size from by have:=I.size;have:=aF.out;have:=HQ.out;have:=E.out;omega);clear aJ I;go_wp2_with fail;go_roundg (gk-1);case measure=>have:=HR.out;omega
    case rel=>
     refine⟨r+1,by have:=HR.out;omega,by go_num,?_,fun i V=> ?_,aY.out,aD.out,aE.out,aW.out,a1.out⟩
     ·unfold Fq;rw[iN (by omega),dQ,<-HX.out]
     ·by_cases e:i=r
      ·rw[e,<-HX.out,<-HP.out];exact a2.out
      ·exact a0.out i (by omega)
  ·obtain rfl:r=n:=(by have:=HR.out;omega);have aG:decide (r<r)=false:=dF hlt;have c3:=(bC.out.below HB.out (by omega)).cell 3;have c2:=(bC.out.below HB.out (by omega)).cell 2;simp only[cR,cS,aP]at c2 c3;obtain⟨wo,rfl⟩:∃wo:World,wo=wr:=⟨_,rfl⟩;clear hlt;go_wp2_with fail;clear c2 c3
   go_loopg [5,41] m (fun q X iv wr=>∃i:Nat,i+q=m/\iv=rD rF (i:Nat)/\X=rD rF (Fq k i)/\(∀j,j<i->Fq k j<k j)/\MapF wr (h+1+1) r (fun y=>(Ff f r y).map fun i=> .agg (C i))/\MapF wr (h+1+1+1) i (fun y=>(Ff k i y).map fun i=>U i)/\Blk wr (h+1+1+1+1) 101 #[rD rF lv,rD rF ow,.map (some (h+1+1)),.map (some (h+1+1+1))]/\Below (h+1+1) w5 wr/\h+5<=wr.heap.size)
   case atStart=>exact⟨0,by omega,rfl,rfl,fun i V=>by omega,M.out,O.out,t.out,HB.out,E.out⟩
   case round=>
    obtain⟨i,hr,rfl,rfl,aL,aH,aI,aK,S,aM⟩:=hrel;have HR:=Hd hr;have aV:=Hd aL;have M:=Hd aH;have O:=Hd aI;have t:=Hd aK;have HB:=Hd S;have E:=Hd aM;have J:=Hd (bA.out.trans (S.mono (show h<=h+1+1 by omega)));have K:=Hd (aT.out.below S (dU _));clear hr aL aH aI aK S aM
    by_cases hlt:i<m
    ·have aG:decide (i<m)=true:=dT hlt;have bJ:(i:Int)<(m:Int):=(by omega);obtain⟨b,z,rfl,F,aA,W⟩:=HU.out i hlt;obtain⟨ua,un,uc,T⟩:∃a n c,U i=.slice a n c:=(by obtain⟨a,c,e,_⟩:=aA;exact⟨_,_,_,e⟩);rw[T]at W;have aX:=Hd T;have R:=Hd (Aj W (aS.out.trans (J.out.mono (by rw[HH.out];exact aS.out.size))) F);obtain⟨a7,a8⟩:=aO.out i hlt;have aC:=Hd (show inI (k i)from aO.out i hlt);have aU:=Hd (K.out.alloc (rJ #[rD rF (k i),rC ua un uc] 89));obtain⟨x,hx⟩:=eX (k i);rw[<-hx]at R a7 a8 aC aU;have HX:=Hd hx;obtain⟨p,hp⟩:=eX (Fq k i);rw[<-hp];have HP:=Hd hp;clear aA W T hx hp
     by_cases hxp:x<=p
     ·have aN:decide (x<=p)=true:=dT hxp;have HE:=Hd (fun(w':World) (S:Below w.heap.size w w')=>aR.out w' (Z.out i hlt (by rw[<-HX.out,<-HP.out];exact hxp)) S);clear hxp;go_wp2_with (first|(refine wpList_load_mid rfl 89 (.tmp 43) rfl b (z+i*2) rfl [rD rF x,rC ua un uc] _ R.out underlying89 rfl Uy ?_)|(refine Aa rfl 101 (.tmp 2) (.tmp 49) rfl (h+1) #[rD rF 0,rD rF 0,.map none,.map none] rfl rfl 101 #[rD rF 0,rD rF 0,.map none,.map none] aU.out (by kernel_rfl) rfl rfl ?_));rintro w9 d F A l;have HK:=Hd d;have aB:=Hd ((J.out.alloc (by have:=E.out;omega) (rJ #[rD rF x,rC ua un uc] 89)).trans (F h (gI h)));clear d F A l;go_wp2_with fail;refine bodyPost_ret (v:=.tuple #[.agg #[rD rF 0,rD rF 0,.map none,.map none],.bool false]) (Ac results148 _ _ (h+1) _ _ _ rfl HK.out underlying101 rfl (by kernel_rfl)) rfl ?_;exact HE.out _ (by rw[<-HH.out];exact aB.out)
     ·have aN:decide (x<=p)=false:=dF hxp;have a2:=Hd (show p<x by omega);have a5:i<maxLen:=(by unfold maxLen;omega);have p3:=t.out.cell 3;simp only[cR,cS,aP]at p3;have b8:=t.out.lt;clear hxp;go_wp2_with (first|(refine wpList_load_mid rfl 89 (.tmp 43) rfl b (z+i*2) rfl [rD rF x,rC ua un uc] _ R.out underlying89 rfl Uy ?_)|(refine Ep rfl (.tmp 53) (.tmp 55) (.tmp 57) rfl underlying99 rfl (O.out.alloc _) rfl aC.out a5 _ rfl ?_));rintro w8 aJ I;have aY:=Hd (aJ.congr (G:=fun y=>(Ff k (i+1) y).map fun i=>U i) (fun y=>by
       show(Ff k (i+1) y).map _=_;rw[Ff,<-HX.out]
       by_cases e:y=x
       ·rw[iP e,iP e,<-aX.out];rfl
       ·rw[iN e,iN e]))
      have aD:=Hd ((M.out.alloc (rJ #[rD rF x,rC ua un uc] 89)).grown I (by intro e;simp at e));have aE:=Hd ((t.out.alloc (rJ #[rD rF x,rC ua un uc] 89)).grownR I (by omega));have aW:=Hd ((HB.out.alloc (by have:=E.out;omega) (rJ #[rD rF x,rC ua un uc] 89)).trans ((Below.refl (h+1+1) _).grown I (by have:=E.out;simp;omega) (by intro k e;cases e;omega)));have a1:=Hd (show h+5<=w8.heap.size from by have:=I.size;simp at this;have:=E.out;omega);clear aJ I;go_wp2_with fail;go_roundg (gk-1);case measure=>have:=HR.out;omega
      case rel=>
       refine⟨i+1,by have:=HR.out;omega,by go_num,?_,fun j hj=> ?_,aD.out,aY.out,aE.out,aW.out,a1.out⟩
       ·unfold Fq;rw[iN (by omega),dQ,<-HX.out]
       ·by_cases e:j=i
        ·rw[e,<-HX.out,<-HP.out];exact a2.out
        ·exact aV.out j (by omega)
    ·obtain rfl:i=m:=(by have:=HR.out;omega);have aG:decide (i<i)=false:=dF hlt;have p0:=t.out.cell 0;have p1:=t.out.cell 1;have p2:=t.out.cell 2;have p3:=t.out.cell 3;simp only[cR,cS,aP]at p0 p1 p2 p3;clear hlt;go_wp2_with (refine Aa rfl 101 (.tmp 2) (.tmp 59) rfl (h+1) #[rD rF lv,rD rF ow,.map (some (h+1+1)),.map (some (h+1+1+1))] rfl rfl 101 #[rD rF 0,rD rF 0,.map none,.map none] K.out (by kernel_rfl) rfl rfl ?_);rintro w9 d F A l;have HK:=Hd d;have aB:=Hd (J.out.trans (F h (gI h)));have a4:∀ {b:Nat} {n:Nat} {G:Int->Option Value},MapF wr b n G->b≠h+1->MapF w9 b n G:=fun {b n G} hm bL=>by
      obtain⟨D,⟨es,a3,h0,h1⟩,h2⟩:=hm;exact⟨D,⟨es,a3,(A b bL).trans h0,h1⟩,h2⟩
     have bP:=Hd (a4 M.out (by omega));have bQ:=Hd (a4 O.out (by omega));clear d F A l a4;go_wp2_with fail;refine bodyPost_ret (v:=.tuple #[.agg #[rD rF lv,rD rF ow,.map (some (h+1+1)),.map (some (h+1+1+1))],.bool true]) (Ac results148 _ _ (h+1) _ _ _ rfl HK.out underlying101 rfl (by kernel_rfl)) rfl ?_;exact H.out _ _ _ (by rw[<-HH.out];exact aB.out) a0.out aV.out (by rw[<-HH.out];omega) (by rw[<-HH.out];omega) (by omega) bP.out bQ.out
def Zjq (x:Int):Nat:=if eC x 2=1 then 1 else 2
def Ce (x:Int)(d:NodeD):Bool:=At d&&(decide (d.kind≠Zjq x)&& !(d.par.late.any fun u=> !Bv (2*u) x))
theorem Zk0 {d:NodeD}(h:At d=true):∀u∈d.par.late,0<=u/\u<1000000:=fun u hu=>by have:=Fo (Cy h) u hu;omega
theorem Wy (x:Int)(d:NodeD)(c:Array Value)(w:World)(h:NodeC w d c)(hk:NodeOk d)(Y:Cj d=true)(hx:inI x):
  Calls prog 180 #[rD rF x,.agg c] w fun e w'=>e=rK (.bool (Ce x d))/\Below w.heap.size w w':=by
 have q:=Hd fun(W:World) (Z:Below w.heap.size w W) (r:Bool) (hr:At d=r)=>Nw d c W (h.below Z lR) hk Y r hr;have C:=hk.kind;have A:=Hd (Zk0 (d:=d));have I:=Hd (show d.par.late.length<=1000000 by have:=oD Y;omega);obtain⟨x1,x2,x3,x4,x5,x6,x7,x8,N,e3,rfl,y⟩:=h.frame;unfold Ce;obtain⟨o,P⟩:=eX d.kind;obtain⟨L,hL⟩:=eX d.par.late;rw[<-P]at q C|-;rw[<-hL]at q A I y|-;obtain⟨Q,D⟩:=eX L.length;rw[<-D]at q y|-;have aA:=Hd D;have M:=Hd y;obtain⟨rb,G⟩:=eX (At d);have m:=Hd fun(W:World) (Z:Below w.heap.size w W)=>q.out W Z rb G.symm;rw[<-G]at A|-;unfold inI at hx;obtain⟨nk,E⟩:=eX (Zjq x);rw[<-E];have K:=Hd E;have n:=Hd (show Below w.heap.size w ((w.alloc (rJ #[rD rF x] 3)).alloc (rJ #[rD rG (o:Nat),x1,x2,x3,x4,x5,x6,x7,x8,rC N Q e3] 52))from(bR.alloc lR _).alloc (by simp) _);have j:=Hd (show Blk ((w.alloc (rJ #[rD rF x] 3)).alloc (rJ #[rD rG (o:Nat),x1,x2,x3,x4,x5,x6,x7,x8,rC N Q e3] 52)) w.heap.size 3 #[rD rF x]from(Blk.new w _ _).alloc _);have k:=Hd (show Blk ((w.alloc (rJ #[rD rF x] 3)).alloc (rJ #[rD rG (o:Nat),x1,x2,x3,x4,x5,x6,x7,x8,rC N Q e3] 52)) (w.heap.size+1) 52 #[rD rG (o:Nat),x1,x2,x3,x4,x5,x6,x7,x8,rC N Q e3]from by
  have h1:=Blk.new (w.alloc (rJ #[rD rF x] 3)) 52 #[rD rG (o:Nat),x1,x2,x3,x4,x5,x6,x7,x8,rC N Q e3];simpa using h1)
 clear q hk Y h y P hL D G E;cases rb with
 |false=>
  have HE:=Hd (show(false&&(decide (o≠nk)&& !(L.any fun u=> !Bv (2*u) x)))=false from rfl)
  by_cases ht:eC x 2=1
  ·have H:(eC x 2==1)=true:=(by rw[beq_iff_eq];exact ht);clear ht;go_in;go_wp2_with fail;refine(m.out _ n.out).mono ?_;rintro e V ⟨a,U,rfl,f⟩;have i:=Hd (n.out.trans (a.mono n.out.size));have l:=Hd (j.out.below a j.out.lt);have b:=Hd (k.out.below a k.out.lt);have p:=l.out.cell 0;have s:=b.out.cell 0;have t:=b.out.cell 9;simp only[cR,cS,aP]at p s t;obtain⟨R,S,T,rfl⟩:=Cx f;clear a f;go_wp2_with fail;go_ret;exact⟨Do (by simp),i.out⟩
  ·have H:(eC x 2==1)=false:=(by rw[qN];exact ht);clear ht;go_in;go_wp2_with fail;refine(m.out _ n.out).mono ?_;rintro e V ⟨a,U,rfl,f⟩;have i:=Hd (n.out.trans (a.mono n.out.size));have l:=Hd (j.out.below a j.out.lt);have b:=Hd (k.out.below a k.out.lt);have p:=l.out.cell 0;have s:=b.out.cell 0;have t:=b.out.cell 9;simp only[cR,cS,aP]at p s t;obtain⟨R,S,T,rfl⟩:=Cx f;clear a f;go_wp2_with fail;go_ret;exact⟨Do (by simp),i.out⟩
 |true=>
  have J:=Hd (A.out rfl);obtain⟨AN,O⟩:=eX (L.any fun u=> !Bv (2*u) x);have z:=Hd fun(v:Value) (W:World) (g:Nat) (h:Rd W v (ivs .i64 L)) (hx:W.cell? ⟨g,0,rI⟩=some (rD rF x))=>Zc1 v L x g W h hx J.out I.out;rw[<-O]at z|-;clear O
  by_cases ht:eC x 2=1
  ·have H:(eC x 2==1)=true:=(by rw[beq_iff_eq];exact ht);have X:nk=1:=(by rw[K.out,Zjq,iP ht]);subst X;clear ht
   by_cases hq:o=1
   ·have F:((o:Int) !=1)=false:=(by simp;omega);have B:=Hd (show decide (o≠1)=false from by simpa using hq);clear hq;go_in;go_wp2_with fail;refine(m.out _ n.out).mono ?_;rintro e V ⟨a,U,rfl,f⟩;have i:=Hd (n.out.trans (a.mono n.out.size));have l:=Hd (j.out.below a j.out.lt);have b:=Hd (k.out.below a k.out.lt);have p:=l.out.cell 0;have s:=b.out.cell 0;have t:=b.out.cell 9;simp only[cR,cS,aP]at p s t;obtain⟨R,S,T,rfl⟩:=Cx f;clear a f;go_wp2_with fail;go_ret;exact⟨Do (by rw[B.out];rfl),i.out⟩
   ·have F:((o:Int) !=1)=true:=(by simp;omega);have B:=Hd (show decide (o≠1)=true from by simpa using hq);clear hq;go_in;go_wp2_with fail;refine(m.out _ n.out).mono ?_;rintro e V ⟨a,U,rfl,f⟩;have i:=Hd (n.out.trans (a.mono n.out.size));have l:=Hd (j.out.below a j.out.lt);have b:=Hd (k.out.below a k.out.lt);have p:=l.out.cell 0;have s:=b.out.cell 0;have t:=b.out.cell 9;simp only[cR,cS,aP]at p s t;obtain⟨R,S,T,rfl⟩:=Cx f;clear a f;go_wp2_with fail;refine(z.out _ _ _ (M.out.below i.out lR) p).mono ?_;rintro e w4 ⟨rfl,rfl⟩;go_wp2_with fail;go_ret;exact⟨Do (by rw[B.out];rfl),i.out⟩
  ·have H:(eC x 2==1)=false:=(by rw[qN];exact ht);have X:nk=2:=(by rw[K.out,Zjq,iN ht]);subst X;clear ht
   by_cases hq:o=2
   ·have F:((o:Int) !=2)=false:=(by simp;omega);have B:=Hd (show decide (o≠2)=false from by simpa using hq);clear hq;go_in;go_wp2_with fail;refine(m.out _ n.out).mono ?_;rintro e V ⟨a,U,rfl,f⟩;have i:=Hd (n.out.trans (a.mono n.out.size));have l:=Hd (j.out.below a j.out.lt);have b:=Hd (k.out.below a k.out.lt);have p:=l.out.cell 0;have s:=b.out.cell 0;have t:=b.out.cell 9;simp only[cR,cS,aP]at p s t;obtain⟨R,S,T,rfl⟩:=Cx f;clear a f;go_wp2_with fail;go_ret;exact⟨Do (by rw[B.out];rfl),i.out⟩
   ·have F:((o:Int) !=2)=true:=(by simp;omega);have B:=Hd (show decide (o≠2)=true from by simpa using hq);clear hq;go_in;go_wp2_with fail;refine(m.out _ n.out).mono ?_;rintro e V ⟨a,U,rfl,f⟩;have i:=Hd (n.out.trans (a.mono n.out.size));have l:=Hd (j.out.below a j.out.lt);have b:=Hd (k.out.below a k.out.lt);have p:=l.out.cell 0;have s:=b.out.cell 0;have t:=b.out.cell 9;simp only[cR,cS,aP]at p s t;obtain⟨R,S,T,rfl⟩:=Cx f;clear a f;go_wp2_with fail;refine(z.out _ _ _ (M.out.below i.out lR) p).mono ?_;rintro e w4 ⟨rfl,rfl⟩;go_wp2_with fail;go_ret;exact⟨Do (by rw[B.out];rfl),i.out⟩
theorem Zh4 {α:Type} {f:Nat->List α} {k:Nat}(hf:∀i,(f i).length=k):∀r,((aN r).flatMap f).length=r*k:=by
 intro r
 induction r with
 |zero=>simp
 |succ r ih=>rw[fF,gK,bA,ih];simp[hf,gJ]
theorem Op {α:Type}(f:Nat->List α)(r:Nat):(aN (r+1)).flatMap f=(aN r).flatMap f++f r:=by
 rw[fF,gK];simp
theorem Zg {α:Type} {f:Nat->List α} {k:Nat}(b:∀i,(f i).length=k) {i j:Nat}(c:j<k):∀ {r:Nat},i<r->((aN r).flatMap f)[i*k+j]? =(f i)[j]? :=by
 intro r
 induction r with
 |zero=>intro h;omega
 |succ r ih=>
  intro h;rw[Op];have a:=Zh4 b r
  by_cases e:i=r
  ·rw[List.getElem?_append_right (by rw[a,e];omega),a,e,Nat.add_sub_cancel_left]
  ·have:i*k+j<r*k:=by
    have:=Nat.mul_le_mul_right k (show i+1<=r by omega);rw[gJ]at this;omega
   rw[List.getElem?_append_left (by rw[a];exact this)];exact ih (by omega)
def Ez (l:List (Int×NodeD))(C:Nat->Array Value)(i:Nat):List Value:=rD rF (spt l i).1::(C i).toList
def Ht (l:List (Int×List Nat))(U:Nat->Value)(i:Nat):List Value:=[rD rF (stb l i).1,U i]
theorem Zh {w:World} {B:Nat} {v:Value} {l:List (Int×NodeD)} {C:Nat->Array Value}(c:∀i,(C i).size=10)(o:∀i,i<l.length->NodeC w (spt l i).2 (C i))(h:OwnK w B 87 11 v l.length ((aN l.length).flatMap (Ez l C))):SpotsR w v l:=by
 rcases eE l.length with h0|r
 ·have e:l=[]:=cN h0;subst e;rcases h.2 with⟨rfl,_⟩|⟨g,cap,n,rfl,t,x,k,f,y,ht⟩
  ·exact SpotsR.nil w
  ·exact⟨_,cap,rfl,k,f,fun i b=>absurd b (by simp)⟩
 ·obtain⟨g,cap,rfl,s,d,k,f,p,_⟩:=h.out r;refine⟨_,cap,rfl,k,f,fun i b=>⟨g,0,C i,rfl,d,o i b,?_⟩⟩;intro j u m;have a:∀i,(Ez l C i).length=11:=fun i=>(by rw[Ez,dB,Array.length_toList,c]);have q:j<11:=by
   rcases aB j 11 with h|h
   ·exact h
   ·rw[aQ (by have:=a i;rw[Ez]at this;omega)]at m;cases m
  have:=p (i*11+j) u (by rw[Zg a q b];exact m);rw[show 0+i*11+j=i*11+j by omega];exact this
theorem Zi {w:World} {B:Nat} {v:Value} {l:List (Int×List Nat)} {U:Nat->Value}(n:∀i,i<l.length->Rd w (U i) (bvs (stb l i).2))(h:OwnK w B 89 2 v l.length ((aN l.length).flatMap (Ht l U))):StubsR w v l:=by
 rcases eE l.length with h0|q
 ·have e:l=[]:=cN h0;subst e;rcases h.2 with⟨rfl,_⟩|⟨g,cap,m,rfl,s,t,f,d,x,ht⟩
  ·exact StubsR.nil w
  ·exact⟨_,cap,rfl,f,d,fun i b=>absurd b (by simp)⟩
 ·obtain⟨g,cap,rfl,r,c,f,d,o,_⟩:=h.out q;refine⟨_,cap,rfl,f,d,fun i b=>⟨g,0,U i,rfl,c,n i b,?_⟩⟩;intro j u k;have a:∀i,(Ht l U i).length=2:=fun i=>rfl;have p:j<2:=by
   rcases aB j 2 with h|h
   ·exact h
   ·rw[aQ (by simp;omega)]at k;cases k
  have:=o (i*2+j) u (by rw[Zg a p b];exact k);rw[show 0+i*2+j=i*2+j by omega];exact this
theorem Zjr:ElemK prog 22 87 (.agg #[rD rF 0,rD rG 0,rC rI 0 0,rC rI 0 0,rC rI 0 0,rD rG 0,rC rI 0 0,rC rI 0 0,rC rI 0 0,rC rI 0 0,rC rI 0 0]) 11 216:=⟨underlying22,by kernel_rfl,rfl,by omega,by omega⟩
theorem Zjs:ElemK prog 23 89 (.agg #[rD rF 0,rC rI 0 0]) 2 32:=⟨underlying23,by kernel_rfl,rfl,by omega,by omega⟩
structure ButO (w:World) (V:Value) (B:Nat) (X:World):Prop where
 low:Below B w X
 blk:∀i,i<w.heap.size->V.ownBlock≠some i->X.heap[i]? =w.heap[i]?
def StepO (V:Value)(B:Nat)(X Y:World):Prop:=Below B X Y/\∀i,i<X.heap.size->V.ownBlock≠some i->Y.heap[i]? =X.heap[i]?
theorem ButO.start (w:World)(V:Value)(B:Nat):ButO w V B w.drew:=⟨⟨rfl,rfl,rfl,lR,fun _ _=>rfl⟩,fun _ _ _=>rfl⟩
theorem StepO.of {V:Value} {B:Nat} {X Y:World}(h:Below X.heap.size X Y)(hB:B<=X.heap.size):StepO V B X Y:=⟨h.mono hB,fun i hi _=>h.block i hi⟩
theorem ButO.step {w:World} {V:Value} {B:Nat} {X Y:World}(h:ButO w V B X)(k:StepO V B X Y):ButO w V B Y:=⟨h.low.trans k.1,fun i hi hne=>(k.2 i (cH hi h.low.size) hne).trans (h.blk i hi hne)⟩
theorem OwnK.lt {w:World} {B:Nat} {e:TypeId} {k n:Nat} {v:Value} {xs:List Value}(h:OwnK w B e k v n xs) {g:Nat}(a:v.ownBlock=some g):g<w.heap.size/\B<=g:=by
 rcases h.2 with⟨rfl,_⟩|⟨d,i,c,rfl,f,b,_⟩
 ·simp[Value.ownBlock]at a
 ·simp[Value.ownBlock]at a;subst a;refine⟨?_,f⟩;rcases aB d w.heap.size with h|h
  ·exact h
  ·rw[Array.getElem?_eq_none h]at b;cases b
theorem OwnK.onlyQ {w w':World} {B C:Nat} {e:TypeId} {k n:Nat} {v:Value} {xs:List Value}(h:OwnK w B e k v n xs)(hb:Only C w w')(hC:C<B):OwnK w' B e k v n xs:=
 World.ownsRow.kept h hb (.inr fun e=>by have:=(h.lt e).2;omega)
theorem OwnK.sl {w:World} {B:Nat} {e:TypeId} {k n:Nat} {v:Value} {xs:List Value}(h:OwnK w B e k v n xs):∃a c,v=.slice a n c:=by
 rcases h.2 with⟨rfl,h0⟩|⟨g',cp,cur,rfl,hb,hh,_⟩
 ·exact⟨none,0,by rw[h0]⟩
 ·exact⟨_,_,rfl⟩
theorem Uz {P:Program} {w:World} {o:Oper} {a:Act} {K:Act->World->Prop} {Q:Exit->Act->World->Prop} (s x:Operand) (t:TypeId)
  (C:o.op=.call {callee:=.builtin .append,args:=#[s,x],argTypes:=#[t,t]})
  (B:Nat) (e:TypeId) (z:Value) (k b:Nat) (F:ElemK P t e z k b) (v:Value) (n:Nat) (xs:List Value) (D:a.eval s=v) (c:OwnK w B e k v n xs)
  (g:Nat) (d:List Value) (hx:a.eval x=rC (some ⟨g,0,rI⟩) 1 1) (A:d.length=k) (E:∀(j:Nat) u,d[j]? =some u->w.cell? ⟨g,j,rI⟩=some u) (h1:∀u∈d,u.oneCell'=true) (H:n<137438953472) (y:B<=w.heap.size)
  (h:∀f w',OwnK w' B e k f (n+1) (xs++d)->StepO v B w w'->K (a.put o.dst f) w'):o.wp P a w K Q:=by
 obtain⟨i,m,G,r,l⟩:=Jd F.inf;have low:=F.low;refine wp_append_own w s x t C B e i z k b F.ty m G r l F.one F.pos v n xs D c ⟨g,0,rI⟩ 1 1 d hx (by rw[A,Nat.one_mul]) (fun j u p=>by rw[Addr.add_lit,aD];exact E j u p) h1 ?_ ?_ y ?_
 ·unfold maxLen;omega
 ·have:(n+1)*b<=(n+1)*512:=Nat.mul_le_mul_left _ low;omega
 ·intro f w' h2 h3 _;refine h f w' h2 ⟨(Below.refl B w).grown h3 y fun j p=>(c.lt p).2,fun i m q=>h3.block i m (fun e=>q e.symm)⟩
theorem StepO.grown {V:Value} {B:Nat} {X Y:World}(h:StepO V B X Y):X.grownBy Y V.ownBlock:=⟨h.1.os,h.1.tape,h.1.output,h.1.size,fun i hi hne=>h.2 i hi fun e=>hne e.symm⟩
theorem StepO.own {V:Value} {B B':Nat} {X Y:World} {T:TypeId} {v:Value} {xs:List Value}(h:StepO V B X Y)(k:Own X B' T v xs)(hV:∀g,V.ownBlock=some g->g<B'):Own Y B' T v xs:=by
 refine Own.grown k h.grown fun g hg e=> ?_;have:=(k.blockLt hg).2;have:=hV g e;omega
structure CutS (w:World) (V:Value) (q:Nat) (X:World):Prop where
 low:Below q w X
 blk:∀i,i<w.heap.size->i≠q->V.ownBlock≠some i->X.heap[i]? =w.heap[i]?
theorem ButO.put {w:World} {V:Value} {q:Nat} {X:World}(h:ButO w V (q+1) X)(e:q<=X.heap.size)(j:Nat)(u:Value):CutS w V q (X.setCell ⟨q,j,rI⟩ u):=by
 refine⟨(h.low.mono (gI q)).trans ((Only.set (a:=X) (B:=q) j u).below lR e),fun i d b c=> ?_⟩;rw[Below.heap_setCell X ⟨q,j,rI⟩ u i b];exact h.blk i d c
theorem OwnK.apartK {w:World} {B B':Nat} {e f:TypeId} {k r n n':Nat} {v i:Value} {xs s:List Value}(h:OwnK w B e k v n xs)(m:OwnK w B' f r i n' s)(p:e≠f):∀g,v.ownBlock=some g->i.ownBlock≠some g:=by
 intro g b a;rcases h.2 with⟨rfl,_⟩|⟨u,t,l,rfl,x,q,_⟩
 ·simp[Value.ownBlock]at b
 rcases m.2 with⟨rfl,_⟩|⟨g2,j,d,rfl,o,c,_⟩
 ·simp[Value.ownBlock]at a
 simp[Value.ownBlock]at b a;subst b a;have:=q.symm.trans c;simp only[Option.some.injEq,Obj.cells.injEq]at this;exact p this.2.1
theorem CutS.ownK {w X:World} {V:Value} {q B:Nat} {e:TypeId} {k n:Nat} {v:Value} {xs:List Value}(h:CutS w V q X)(o:OwnK w B e k v n xs)(j:q<B)(b:∀g,v.ownBlock=some g->V.ownBlock≠some g):OwnK X B e k v n xs:=by
 have i:= @OwnK.lt _ _ _ _ _ _ _ o;obtain⟨h1,h2|⟨g,c,a,rfl,d,f,rest⟩⟩:=o
 ·exact⟨h1,.inl h2⟩
 ·refine⟨h1,.inr ⟨g,c,a,rfl,d,?_,rest⟩⟩;rw[h.blk g (i rfl).1 (by omega) (b g rfl)];exact f
theorem Only.storeQ {g:Nat} {w w2:World}(h:∀B,B<=g->Below B w w2)(hot:∀i,i≠g->w2.heap[i]? =w.heap[i]?):Only g w w2:=
 ⟨(h 0 (aA _)).os,(h 0 (aA _)).tape,(h 0 (aA _)).output,(h 0 (aA _)).size,fun i hi hne=>hot i fun e=>hne (by rw[e])⟩
theorem Zh5 {U:Nat->Value} {g:Nat->Value->List Value}(r:Nat)(u:Value):((aN (r+1)).flatMap fun k=>g k (if k<r then U k else u))=((aN r).flatMap fun k=>g k (U k))++g r u:=by
 rw[Op,iN (Nat.lt_irrefl r)]
 congr 1
 rw[gL,gL]
 congr 1
 exact List.map_congr_left fun k hk=>by rw[iP (List.mem_range.1 hk)]
section
def Iv (H:Int->Option (List Nat))(x:Nat):List Nat:=(H (x:Int)).getD []
def putS (F:Int->Option NodeD)(H:Int->Option (List Nat)):Nat->Nat->List Nat
 |0,x=>match F (x:Int)with
  |none=>0::Iv H x
  |some d=>1::Bz d
 |k+1,x=>match F (x:Int)with
  |none=>0::Iv H x
  |some d=>(1::Bz d)++(putS F H k (x-2^k)++putS F H k (x+2^k))
section
variable {F:Int->Option NodeD} {H:Int->Option (List Nat)} {k x:Nat} {d:NodeD}
structure PieceOk (F:Int->Option NodeD) (H:Int->Option (List Nat)):Prop where
 ok:∀x d,F x=some d->NodeOk d/\Cj d=true/\At d=true
 hash:∀x L,H x=some L->L.length<=32/\∀y∈L,y<256
theorem Va (h:PieceOk F H)(x:Nat):(Iv H x).length<=32:=by
 unfold Iv;cases e:H (x:Int)with
 |none=>simp
 |some L=>exact(h.hash _ _ e).1
end
end
theorem Gc (x y:Value)(A B:List Nat)(w:World)(hx:Rd w x (bvs A))(j:Rd w y (bvs B))(n:A.length+B.length<1000000000):
  Calls prog 77 #[x,y] w fun e w'=>∃v',e=rK v'/\Own w' w.heap.size 5 v' (bvs (A++B))/\Below w.heap.size w w':=by
 have l:=Hd hx;have m:=Hd j;clear hx j;go_in;go_wp2_with (at_builtin;refine Ak rfl (.tmp 5) (.tmp 6) 28 rfl w.heap.size 5 _ 1 Cq _ [] rfl (Own.lit0 rfl lR) _ (bvs A) rfl (l.out.alloc _) (Ch _) ?c2 ?c3 ?_);case c2=>rw[bvs_len];simp;omega
 case c3=>simp
 rintro o q a-c;have b:=((Below.refl w.heap.size w).alloc lR (rJ #[] 5)).trans c;have k:=Hd a;have i:=Hd b;have h:=Hd (m.out.below b lR);clear a c b;go_wp2_with (at_builtin;refine Ak rfl (.tmp 7) (.tmp 8) 28 rfl w.heap.size 5 _ 1 Cq _ _ rfl k.out _ (bvs B) rfl h.out (Ch _) ?c4 ?c5 ?_);case c4=>simp only[bvs_len];omega
 case c5=>exact i.out.size
 rintro p r a-d;have g:=Hd a;have f:=Hd (i.out.trans d);clear a d;go_wp2_with fail;go_ret;refine⟨_,rfl,?_,f.out⟩;rw[Cl];exact g.out
theorem Zbk (lv ow:Int)(o v:Value)(l:List (Int×List Nat))(x:Int)(w:World)(h:StubsR w v l):
  Calls prog 136 #[.agg #[rD rF lv,rD rF ow,o,v],rD rF x] w fun e w'=>∃u,e=rK u/\Rd w' u (bvs ((Ba l x).getD []))/\Below w.heap.size w w':=by
 obtain⟨a,L,rfl,Y,Z⟩:=h.sl;have G:=fun(i:Nat) (T:i<l.length)=>h.at T;have s:=fun(r:Nat) (E:r<l.length) (c:∀i,i<r->(stb l i).1≠x) (d:(stb l r).1=x)=>Sk E c d;have t:=Ql (l:=l) (x:=x);obtain⟨n,V⟩:=eX l.length;obtain⟨R,P⟩:=eX (Ba l x);obtain⟨S,Q⟩:∃S:Nat->Int×List Nat,S=stb l:=⟨_,rfl⟩;rw[<-V]at G s t Y|-;rw[<-P]at s t|-;rw[<-Q]at G s t;have X:=Hd G;have H:=Hd s;have I:=Hd t;obtain⟨p,W⟩:=eX w.heap.size;have HP:=Hd W;have z:=Hd (Blk.new w 25 #[rD rF lv,rD rF ow,o,rC a n L]);have m:=Hd ((Below.refl w.heap.size w).alloc lR (rJ #[rD rF lv,rD rF ow,o,rC a n L] 25));clear G s t h V P Q W;go_in;go_wp2_with fail;generalize hw1:w.alloc (rJ #[rD rF lv,rD rF ow,o,rC a n L] 25)=w1 at z m|-;clear hw1;have c3:=z.out.cell 3;simp only[cR,cS,aP]at c3
 go_loopg [5] n (fun q iv wr=>∃r:Nat,r+q=n/\iv=rD rF (r:Nat)/\(∀i,i<r->(S i).1≠x)/\wr=w1)
 case atStart=>exact⟨0,by omega,rfl,fun k hk=>by omega,rfl⟩
 case round=>
  obtain⟨r,E,rfl,c,rfl⟩:=hrel;have J:=Hd E;have f:=Hd c;clear E c
  by_cases hlt:r<n
  ·have B:decide (r<n)=true:=dT hlt;have U:(r:Int)<(n:Int):=(by omega);obtain⟨b,N,u,rfl,A,C,j⟩:=X.out r hlt;have g:=(m.out.cell (p:=⟨b,N+r*2,rI⟩) A).trans (Bt j);have D:=Aj (Dl j) m.out A 0 u rfl;obtain⟨y,M⟩:=eX ((S r).1);rw[<-M]at g;have O:=Hd M;have K:=Hd (C.below m.out lR);clear M j C
   by_cases d:y=x
   ·have hq:(y==x)=true:=(by rw[beq_iff_eq];exact d);have F:=Hd d;clear d;go_wp2_with fail;go_ret;rw[H.out r hlt f.out (by rw[<-O.out];exact F.out)];exact⟨_,rfl,K.out,m.out⟩
   ·have hq:(y==x)=false:=(by rw[qN];exact d);have F:=Hd d;clear d;go_wp2_with fail;go_roundg (gk-1);case measure=>have:=J.out;omega
    case rel=>
     refine⟨r+1,by have:=J.out;omega,by go_num,fun i T=> ?_,rfl⟩
     by_cases e:i=r
     ·rw[e,<-O.out];exact F.out
     ·exact f.out i (by omega)
  ·obtain rfl:r=n:=(by have:=J.out;omega);have B:decide (r<r)=false:=dF hlt;go_wp2_with fail;go_ret;rw[I.out f.out];exact⟨_,rfl,(Own.nil _ 0 5).rd,m.out⟩
