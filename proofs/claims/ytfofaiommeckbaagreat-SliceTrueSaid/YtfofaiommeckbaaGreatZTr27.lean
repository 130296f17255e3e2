import Derived.Test.YtfofaiommeckbaaGreatZTr18
import Derived.Test.YtfofaiommeckbaaGreatZTr26
open Go.Obj renaming cells -> rK
open Go.Ending renaming returned -> rM
open Go.Value renaming slice -> rD, int -> rE, pointer -> rF
open Go.IntKind renaming u8 -> rH
open Option renaming none -> rJ
open Go.Proofs.Tryz
open List renaming length_nil -> bU, length_cons -> dB, mem_singleton -> gA, all_cons -> eY, all_nil -> eZ
open Nat renaming pow_zero -> iS, le_trans -> eN, le_of_lt -> fE, le_succ -> gJ
set_option linter.unusedVariables false
set_option maxRecDepth 100000
set_option maxHeartbeats 40000000
namespace Go.Proofs.YtfofaiommeckbaaGreat
open Go.RowKit WalkM WireM
structure RdR where
 er:Nat
 op:List (Int×NodeD)
 sh:List (Int×List Nat)
 rest:List Nat
def Ql (e:Nat):RdR:=⟨e,[],[],[]⟩
def Ol (x:Nat)(M:List Nat)(K:NodeD->List Nat->RdR):RdR:=
 if(Cp M 0).1≠0 then Ql (Cp M 0).1 else
 if x%2=0/\(Cp M 0).2.1.kind=2\/x%2=1/\(Cp M 0).2.1.kind=1 then Ql 3 else K (Cp M 0).2.1 (Cp M 0).2.2.1
def Zcv (x:Nat)(L:List Nat)(K:NodeD->List Nat->RdR):RdR:=
 match L with
 |[]=>Ql 4
 |b::M=>if 1<b then Ql 3 else if b=0 then(if M.length<32 then Ql 4 else⟨0,[],[((x:Int),M.take 32)],M.drop 32⟩)else Ol x M K
def Zcl (x:Nat)(d:NodeD)(l:RdR)(r:RdR):RdR:=
 if l.er≠0 then Ql l.er else if r.er≠0 then Ql r.er else⟨0,l.op++((x:Int),d)::r.op,l.sh++r.sh,r.rest⟩
def rdP:Nat->Nat->List Nat->RdR
 |0,x,L=>Zcv x L fun d R=>⟨0,[((x:Int),d)],[],R⟩
 |k+1,x,L=>Zcv x L fun d R=>Zcl x d (rdP k (x-2^k) R) (rdP k (x+2^k) (rdP k (x-2^k) R).rest)
structure RdOk (L:List Nat) (lo hi:Int) (r:RdR):Prop where
 sub:Sub r.rest L
 len:r.op.length+r.sh.length+r.rest.length<=L.length
 opIn:∀p∈r.op,lo<p.1/\p.1<hi
 shIn:∀p∈r.sh,lo<p.1/\p.1<hi
 opUp:r.op.Pairwise fun p q=>p.1<q.1
 shUp:r.sh.Pairwise fun p q=>p.1<q.1
 node:∀p∈r.op,Aq p.2=true/\4*p.2.par.late.length<=L.length/\((∀n∈L,n<256)->NodeOk p.2)
 hash:∀p∈r.sh,p.2.length=32/\Sub p.2 L
theorem Zak {α:Type} {R: α->α->Prop} {l m:List α}(hl:l.Pairwise R)(hm:m.Pairwise R)(h:∀a∈l,∀b∈m,R a b):(l++m).Pairwise R:=List.pairwise_append.2 ⟨hl,hm,h⟩
theorem Zf7 {x:Nat} {L:List Nat} {K:NodeD->List Nat->RdR} {g f:Int} (q:g<x) (r:(x:Int)<f) (h:(Zcv x L K).er=0)
  (s:∀M d R,TkOk M d R->L.length=M.length+1->(K d R).er=0->RdOk M g f (K d R)):RdOk L g f (Zcv x L K):=by
 unfold Zcv at h|-;cases L with
 |nil=>cases h
 |cons b M=>
  have c:Sub M (b::M):=⟨by simp,fun x hx=>List.mem_cons_of_mem _ hx⟩;simp only at h|-
  by_cases c1:1<b
  ·rw[iP c1]at h;cases h
  ·rw[iN c1]at h|-
   by_cases c2:b=0
   ·rw[iP c2]at h|-
    by_cases c3:M.length<32
    ·rw[iP c3]at h;cases h
    ·rw[iN c3];exact⟨(Sub.drop _ _).trans c,by simp only[bU,dB,List.length_drop];omega,fun p a=>(by simp at a),fun p a=>by simp only[gA]at a;rw[a];exact⟨q,r⟩,List.Pairwise.nil,by simp,fun p a=>(by simp at a),fun p a=>by simp only[gA]at a;rw[a];exact⟨by simp only[List.length_take];omega,(Sub.take _ _).trans c⟩⟩
   ·rw[iN c2]at h|-;unfold Ol at h|-
    by_cases c3:(Cp M 0).1≠0
    ·rw[iP c3]at h;exact absurd h c3
    ·rw[iN c3]at h|-;have hk:=Vb (L:=M) (by omega)
     split at h
     ·cases h
     ·rename_i c4
      rw[iN c4];obtain⟨j,v,k,l,m,o,e,i⟩:=s M _ _ hk.2 (by simp) h;exact⟨j.trans c,by simp only[dB];omega,k,l,m,o,fun p a=>⟨(e p a).1,by have:=(e p a).2.1;simp only[dB];omega,fun t=>(e p a).2.2 fun n u=>t n (c.2 n u)⟩,fun p a=>⟨(i p a).1,(i p a).2.trans c⟩⟩
theorem Zal:∀k x (L:List Nat),2^k<=x+1->(rdP k x L).er=0->RdOk L ((x:Int)-((2^k:Nat):Int)) ((x:Int)+((2^k:Nat):Int)) (rdP k x L):=by
 intro k
 induction k with
 |zero=>
  intro x L hx h;unfold rdP at h|-;refine Zf7 (by simp only[iS];omega) (by simp only[iS];omega) h fun M d R b I _=> ?_;exact⟨b.sub,by have:=b.len;simp only[dB,bU];omega,fun p a=>by simp only[gA]at a;rw[a];simp only[iS];omega,fun p a=>by simp at a,by simp,List.Pairwise.nil,fun p a=>by simp only[gA]at a;rw[a];exact⟨b.right,b.late,b.ok⟩,fun p a=>by simp at a⟩
 |succ k ih=>
  intro x L hx h;have e2:2^(k+1)=2*2^k:=(by rw[Nat.pow_succ];omega);have a:=Nat.two_pow_pos k;unfold rdP at h|-;refine Zf7 (by omega) (by omega) h fun M d R b I f=> ?_;unfold Zcl at f|-
  split at f
  ·rename_i c;exact absurd f c
  ·rename_i c1
   split at f
   ·rename_i c;exact absurd f c
   ·rename_i c2
    rw[iN c1,iN c2];generalize hl1:rdP k (x-2^k) R=l at c1 c2|-;have z:=ih (x-2^k) R (by omega) (by rw[hl1];omega);rw[hl1]at z;generalize hr1:rdP k (x+2^k) l.rest=r at c2|-;have h2:=ih (x+2^k) l.rest (by omega) (by rw[hr1];omega);rw[hr1]at h2;have e3:((x-2^k:Nat):Int)+((2^k:Nat):Int)=(x:Int):=(by omega);have F:((x+2^k:Nat):Int)-((2^k:Nat):Int)=(x:Int):=(by omega);have G:((x-2^k:Nat):Int)-((2^k:Nat):Int)=(x:Int)-((2^(k+1):Nat):Int):=(by omega);have H:((x+2^k:Nat):Int)+((2^k:Nat):Int)=(x:Int)+((2^(k+1):Nat):Int):=(by omega);obtain⟨g,K,i,m,A,B,o,w⟩:=z;obtain⟨C,N,j,s,D,E,t,y⟩:=h2;rw[e3,G]at i m;rw[F,H]at j s;have J:=C.trans g;have O:=b.len;have g2:=b.sub;have g3:=g.1;refine⟨J.trans g2,by simp only[List.length_append,dB];omega,fun p a=> ?_,fun p a=> ?_,?_,?_,fun p a=> ?_,fun p a=> ?_⟩
    ·rcases List.mem_append.1 a with a|a
     ·have:=i p a;omega
     ·rcases List.mem_cons.1 a with rfl|a
      ·simp only;omega
      ·have:=j p a;omega
    ·rcases List.mem_append.1 a with a|a
     ·have:=m p a;omega
     ·have:=s p a;omega
    ·refine Zak A (List.pairwise_cons.2 ⟨fun q e=>(j q e).1,D⟩) fun p a q e=> ?_;rcases List.mem_cons.1 e with rfl|e
     ·exact(i p a).2
     ·have:=(i p a).2;have:=(j q e).1;omega
    ·refine Zak B E fun p a q e=> ?_;have:=(m p a).2;have:=(s q e).1;omega
    ·rcases List.mem_append.1 a with a|a
     ·exact⟨(o p a).1,by have:=(o p a).2.1;omega,fun u=>(o p a).2.2 fun n v=>u n (g2.2 n v)⟩
     ·rcases List.mem_cons.1 a with rfl|a
      ·exact⟨b.right,b.late,b.ok⟩
      ·exact⟨(t p a).1,by have:=(t p a).2.1;omega,fun u=>(t p a).2.2 fun n v=>u n (g2.2 n (g.2 n v))⟩
    ·rcases List.mem_append.1 a with a|a
     ·exact⟨(w p a).1,(w p a).2.trans g2⟩
     ·exact⟨(y p a).1,(y p a).2.trans (g.trans g2)⟩
def Iv (L:List Nat):Nat:=Ge (L.take 4)
def Iq:SparseD:=⟨0,0,[],[]⟩
def ofS (only:Bool)(m:Nat)(b:List Nat):Nat×SparseD:=
 if 1048576<b.length then(6,Iq)else
 match b with
 |[]=>(4,Iq)
 |c::L=>if c≠m then(3,Iq)else
  if L.length<4 then(4,Iq)else
  if fits (Iv L)=false then(3,Iq)else
  if L.length<8 then(4,Iq)else
  if Iv L<=Iv (L.drop 4)then(3,Iq)else
  let r:=rdP (Nat.log2 (Iv L)) (Iv L-1) (L.drop 8)
  if r.er≠0 then(r.er,Iq)else
  if r.rest≠[]then(5,Iq)else
  if Ah ⟨Iv L,Iv (L.drop 4),r.op,r.sh⟩ only=true then(0,⟨Iv L,Iv (L.drop 4),r.op,r.sh⟩)else(3,Iq)
end Go.Proofs.YtfofaiommeckbaaGreat
namespace Go.Proofs.YtfofaiommeckbaaGreat
open Go.RowKit WireM
theorem NodeO.none (w:World)(B:Nat):NodeO w B Ap #[rE rH 0,rD rJ 0 0,rD rJ 0 0,rD rJ 0 0,rE rH 0,rD rJ 0 0,rD rJ 0 0,rD rJ 0 0,rD rJ 0 0,rD rJ 0 0]:=⟨_,_,_,_,_,_,_,_,rfl,Own.nil _ _ _,Own.nil _ _ _,Own.nil _ _ _,Own.nil _ _ _,Own.nil _ _ _,Own.nil _ _ _,Own.nil _ _ _,Own.nil _ _ _⟩
def Zl2 (B:Nat)(w:World)(r:Nat×NodeD×List Nat×Nat)(e:Ending)(w':World):Prop:=
 ∃c,e=rM (.tuple #[.agg c,rE rH (r.1:Nat)])/\NodeO w' w.heap.size r.2.1 c/\RS w' B r.2.2.1 r.2.2.2/\Only B w w'
theorem Xu (L0 L1:List Nat) (A k B:Nat) (Y:Nat×LeafD×List Nat×Nat) (Z:Nat×ParD×List Nat×Nat) (r:Nat×NodeD×List Nat×Nat) (w:World) (h:RS w B L0 0)
  (C1:∀W,RS W B L0 0->Calls prog 154 #[rF (some ⟨B,0,rJ⟩),rE .i64 1] W fun e W'=>e=rM (rE .u64 (k:Nat))/\RS W' B L1 A/\Only B W W')
  (hk:k<256)
  (CL:A=0->∀W,RS W B L1 A->Calls prog 218 #[rF (some ⟨B,0,rJ⟩)] W (Zjm B W Y))
  (CP:A=0->∀W,RS W B L1 A->Calls prog 219 #[rF (some ⟨B,0,rJ⟩)] W (Zjn B W Z))
  (X1:A≠0->r=(A,Ap,L1,A)) (X0:A=0->k=0->r=(0,Ap,L1,A))
  (XL:A=0->k=1->r=if Y.1=0 then(0,⟨1,Y.2.1,noParD⟩,Y.2.2.1,Y.2.2.2)else(Y.1,Ap,Y.2.2.1,Y.2.2.2))
  (XP:A=0->k=2->r=if Z.1=0 then(0,⟨2,noLeafD,Z.2.1⟩,Z.2.2.1,Z.2.2.2)else(Z.1,Ap,Z.2.2.1,Z.2.2.2))
  (XX:A=0->k≠0->k≠1->k≠2->r=(3,Ap,L1,A)):
  Calls prog 179 #[rF (some ⟨B,0,rJ⟩)] w (Zl2 B w r):=by
 obtain⟨rc,⟨bx,sn,aX,s,a1,a2⟩,rL,re⟩:=Y;obtain⟨pc,⟨aY,aZ,a0⟩,pL,pe⟩:=Z;simp only at XL XP;have hB:=h.lt;obtain⟨g,hg⟩:=eX w.heap.size;have K:=Hd hg;have H:=Hd (show B<g by omega);obtain⟨w0,J⟩:=eX (w.alloc (rK #[rE rH 0,rD rJ 0 0,rD rJ 0 0,rD rJ 0 0,rE rH 0,rD rJ 0 0,rD rJ 0 0,rD rJ 0 0,rD rJ 0 0,rD rJ 0 0] 52));have aM:=Hd J;have aS:=Hd (show g+1<=w0.heap.size by rw[J,hg];simp);have G0:=Hd (show Blk w0 g 52 #[rE rH 0,rD rJ 0 0,rD rJ 0 0,rD rJ 0 0,rE rH 0,rD rJ 0 0,rD rJ 0 0,rD rJ 0 0,rD rJ 0 0,rD rJ 0 0] by rw[J,hg];exact Blk.new _ _ _);have O0:=Hd (show Only B w w0 by rw[J];exact(Only.refl _ _).alloc _);have R0:=Hd (show RS w0 B L0 0 by rw[J];exact h.low ((Below.refl w.heap.size w).alloc lR (rK #[rE rH 0,rD rJ 0 0,rD rJ 0 0,rD rJ 0 0,rE rH 0,rD rJ 0 0,rD rJ 0 0,rD rJ 0 0,rD rJ 0 0,rD rJ 0 0] 52)) hB);have aH:=Hd C1;have aI:=Hd CL;have aJ:=Hd CP;have aO:=Hd X1;have aN:=Hd X0;have aP:=Hd XL;have aQ:=Hd XP;have aR:=Hd XX;have aK:=Hd fun(L:List Nat) (er:Nat) W=>Gv B L er W;obtain⟨S,hS⟩:=eX (Zl2 B w r);rw[<-hS];have HS:=Hd (show∀(e:Ending) (w':World) {c:Array Value} {k:Nat} {d:NodeD} {R:List Nat} {re:Nat},e=rM (.tuple #[.agg c,rE rH (k:Nat)])->r=(k,d,R,re)->NodeO w' w.heap.size d c->RS w' B R re->Only B w w'->S e w' from by
  rintro e w' c k d R re rfl rfl h1 h2 h3;rw[hS];exact⟨c,rfl,h1,h2,h3⟩)
 clear h hB hg J C1 CL CP X1 X0 XL XP XX hS;go_in;go_wp2_with fail;rw[<-aM.out,<-K.out];refine(aH.out w0 R0.out).mono ?_;rintro e w1 ⟨rfl,F,l⟩;have aG:=Hd (eN aS.out l.size);have G1:=Hd (G0.out.only l (by have:=H.out;omega));have O1:=Hd (O0.out.trans l);have R1:=Hd F;clear F l;obtain⟨q,hq⟩:=eX w1.heap.size;have HQ:=Hd hq;have o:=Hd (show g+1<=q by rw[hq];exact aG.out);have aU:IntKind.u8.wrap (k:Int)=(k:Int):=(by rw[IntKind.wrap_u8];omega);clear hq hk;go_wp2_with (refine Aa rfl 52 (.tmp 4) (.tmp 9) rfl w1.heap.size #[rE rH k,rD rJ 0 0,rD rJ 0 0,rD rJ 0 0,rE rH 0,rD rJ 0 0,rD rJ 0 0,rD rJ 0 0,rD rJ 0 0,rD rJ 0 0] rfl rfl 52 #[rE rH 0,rD rJ 0 0,rD rJ 0 0,rD rJ 0 0,rE rH 0,rD rJ 0 0,rD rJ 0 0,rD rJ 0 0,rD rJ 0 0,rD rJ 0 0] (Blk.new _ _ _) (by kernel_rfl) rfl rfl ?_);rintro w2 a j b f;have hb:Below w1.heap.size w1 w2:=(bR.alloc lR _).trans (j _ lR);have aW:=Hd (eN aG.out hb.size);have G2:=Hd (G1.out.below hb G1.out.lt);have O2:=Hd (Qk O1.out hb);have R2:=Hd (R1.out.below hb);rw[<-HQ.out]at a|-;have Q2:=Hd a;have E:=Hd (show q<w2.heap.size from a.lt);have y0:=a.cell 0;simp only[List.getElem?_toArray,List.getElem?_cons_zero]at y0;clear a j b f hb aU;go_wp2_with fail;refine(aK.out _ _ _ R2.out).mono ?_;rintro e w' ⟨rfl,rfl⟩
 by_cases h1:A=0
 ·have aT:((A:Int) !=0)=false:=(by rw[bne_eq_false_iff_eq];omega);have I:=Hd h1;clear h1
  by_cases k0:k=0
  ·have q0:((k:Int)==0)=true:=(by rw[beq_iff_eq];omega);have O:=Hd (aN.out I.out k0);have aL:=Hd k0;clear k0;go_wp2_with (first
    |(refine As rfl 52 (.tmp 4) rfl q rfl 52 #[rE rH k,rD rJ 0 0,rD rJ 0 0,rD rJ 0 0,rE rH 0,rD rJ 0 0,rD rJ 0 0,rD rJ 0 0,rD rJ 0 0,rD rJ 0 0] (0,0) _ Q2.out underlying52 rfl (by kernel_rfl) ?_)
    |(refine Aa rfl 52 (.tmp 2) (.tmp 20) rfl g #[rE rH k,rD rJ 0 0,rD rJ 0 0,rD rJ 0 0,rE rH 0,rD rJ 0 0,rD rJ 0 0,rD rJ 0 0,rD rJ 0 0,rD rJ 0 0] rfl rfl 52 #[rE rH 0,rD rJ 0 0,rD rJ 0 0,rD rJ 0 0,rE rH 0,rD rJ 0 0,rD rJ 0 0,rD rJ 0 0,rD rJ 0 0,rD rJ 0 0] G2.out (by kernel_rfl) rfl rfl ?_))
   rintro aA a j b f;have x:=Hd a;have u:=Hd (Bo O2.out (j w.heap.size (by rw[K.out];exact lR)));have y:=Hd (R2.out.low (j g lR) H.out);clear a j b f;go_wp2_with fail;refine bodyPost_ret (v:=.tuple #[.agg #[rE rH k,rD rJ 0 0,rD rJ 0 0,rD rJ 0 0,rE rH 0,rD rJ 0 0,rD rJ 0 0,rD rJ 0 0,rD rJ 0 0,rD rJ 0 0],rE rH 0]) (Ad results179 _ _ g _ _ _ rfl x.out underlying52 rfl (by kernel_rfl)) rfl ?_;refine HS.out _ _ rfl O.out ?_ y.out u.out;rw[aL.out];exact NodeO.none _ _
  ·have q0:((k:Int)==0)=false:=by rw[qN];omega
   by_cases k1:k=1
   ·have q1:((k:Int)==1)=true:=(by rw[beq_iff_eq];omega);have O:=Hd (aP.out I.out k1);have aB:=Hd k1;have HC:=Hd (aI.out I.out);clear k0 k1;go_wp2_with fail;refine(HC.out w2 R2.out).mono ?_;rintro e w6 ⟨c,rfl,hl,F,l⟩;obtain⟨x0,x1,x2,x3,x4,rfl,U,V,X,o3,o4⟩:=hl;have m:=Hd (Q2.out.only l (by have:=H.out;have:=o.out;omega));have G6:=Hd (G2.out.only l (by have:=H.out;omega));have O6:=Hd (O2.out.trans l);have R6:=Hd F;have D:=Hd (show(#[x0,x1,x2,rE rH s,x3,x4]:Array Value).all (·.oneCell')=true by
     rw[<-Array.all_toList];simp only[eY,eZ,U.oneCell,V.oneCell,X.oneCell,o3.oneCell,o4.oneCell];rfl)
    have M:=Hd (show(#[rE rH k,x0,x1,x2,rE rH s,x3,x4,rD rJ 0 0,rD rJ 0 0,rD rJ 0 0]:Array Value).toList.all (·.oneCell')=true by
     simp only[eY,eZ,U.oneCell,V.oneCell,X.oneCell,o3.oneCell,o4.oneCell];rfl)
    have P:=Hd (U.mono (B':=g+1) (by have:=E.out;have:=o.out;omega));have Q:=Hd (V.mono (B':=g+1) (by have:=E.out;have:=o.out;omega));have T:=Hd (X.mono (B':=g+1) (by have:=E.out;have:=o.out;omega));have I3:=Hd (o3.mono (B':=g+1) (by have:=E.out;have:=o.out;omega));have I4:=Hd (o4.mono (B':=g+1) (by have:=E.out;have:=o.out;omega));clear l F U V X o3 o4;obtain⟨wr,z⟩:=eX (w6.setCells q 1 [x0,x1,x2,rE rH s,x3,x4]);have N:=Hd z;have n:Only q w6 wr:=(by rw[z];exact Hn _ _);have PF:=Hd (show Blk wr q 52 #[rE rH k,x0,x1,x2,rE rH s,x3,x4,rD rJ 0 0,rD rJ 0 0,rD rJ 0 0] by
     rw[z];exact((((((m.out.set 1 x0).set 2 x1).set 3 x2).set 4 (rE rH s)).set 5 x3).set 6 x4))
    have GF:=Hd (G6.out.only n (by have:=o.out;omega));have RF:=Hd (R6.out.only n (by have:=H.out;have:=o.out;omega) (fE m.out.lt));have OF:=Hd (O6.out.then (n.below (C:=w.heap.size) (by have:=o.out;have:=K.out;omega) O6.out.size));replace P:=Hd (P.out.other m.out (by decide) (fun i p t=>n.block i p (fun e=>t (by simpa using e))));replace Q:=Hd (Q.out.other m.out (by decide) (fun i p t=>n.block i p (fun e=>t (by simpa using e))));replace T:=Hd (T.out.other m.out (by decide) (fun i p t=>n.block i p (fun e=>t (by simpa using e))));replace I3:=Hd (I3.out.other m.out (by decide) (fun i p t=>n.block i p (fun e=>t (by simpa using e))));replace I4:=Hd (I4.out.other m.out (by decide) (fun i p t=>n.block i p (fun e=>t (by simpa using e))));clear n z
    by_cases hr1:rc=0
    ·have aF:((rc:Int) !=0)=false:=(by rw[bne_eq_false_iff_eq];omega);have G:=Hd (show r=(0,_,rL,re) by have:=O.out;rw[iP hr1]at this;exact this);clear hr1;go_wp2_with (first
      |(refine wpList_store_mid rfl 44 (.tmp 28) (.tmp 26) rfl q 1 #[x0,x1,x2,rE rH s,x3,x4] rfl rfl (m.out.there 1 6 (by simp)) (by kernel_rfl) D.out ?_;rw[<-N.out])
      |(refine As rfl 52 (.tmp 4) rfl q rfl 52 #[rE rH k,x0,x1,x2,rE rH s,x3,x4,rD rJ 0 0,rD rJ 0 0,rD rJ 0 0] (0,0) _ PF.out underlying52 rfl (by kernel_rfl) ?_)
      |(refine Aa rfl 52 (.tmp 2) (.tmp 41) rfl g #[rE rH k,x0,x1,x2,rE rH s,x3,x4,rD rJ 0 0,rD rJ 0 0,rD rJ 0 0] rfl rfl 52 #[rE rH 0,rD rJ 0 0,rD rJ 0 0,rD rJ 0 0,rE rH 0,rD rJ 0 0,rD rJ 0 0,rD rJ 0 0,rD rJ 0 0,rD rJ 0 0] GF.out (by kernel_rfl) rfl M.out ?_))
     rintro aV a j b f;have aD:=Hd a;have aE:=Hd (RF.out.low (j g lR) H.out);have aC:=Hd (Bo OF.out (j w.heap.size (by rw[K.out];exact lR)));replace P:=Hd ((P.out.other GF.out (by decide) (fun i _ p=>b i p)).mono (B':=g) (gJ _));replace Q:=Hd ((Q.out.other GF.out (by decide) (fun i _ p=>b i p)).mono (B':=g) (gJ _));replace T:=Hd ((T.out.other GF.out (by decide) (fun i _ p=>b i p)).mono (B':=g) (gJ _));replace I3:=Hd ((I3.out.other GF.out (by decide) (fun i _ p=>b i p)).mono (B':=g) (gJ _));replace I4:=Hd ((I4.out.other GF.out (by decide) (fun i _ p=>b i p)).mono (B':=g) (gJ _));clear a j b f;go_wp2_with fail;refine bodyPost_ret (v:=.tuple #[.agg #[rE rH k,x0,x1,x2,rE rH s,x3,x4,rD rJ 0 0,rD rJ 0 0,rD rJ 0 0],rE rH 0]) (Ad results179 _ _ g _ _ _ rfl aD.out underlying52 rfl (by kernel_rfl)) rfl ?_;refine HS.out _ _ rfl G.out ?_ aE.out aC.out;rw[<-K.out];exact⟨_,_,_,_,_,_,_,_,by rw[aB.out],P.out,Q.out,T.out,I3.out,I4.out,Own.nil _ _ _,Own.nil _ _ _,Own.nil _ _ _⟩
    ·have aF:((rc:Int) !=0)=true:=(by rw[bne_iff_ne];omega);have G:=Hd (show r=(rc,Ap,rL,re) by have:=O.out;rw[iN hr1]at this;exact this);clear hr1;go_wp2_with (first|(refine wpList_store_mid rfl 44 (.tmp 28) (.tmp 26) rfl q 1 #[x0,x1,x2,rE rH s,x3,x4] rfl rfl (m.out.there 1 6 (by simp)) (by kernel_rfl) D.out ?_;rw[<-N.out])|(refine Aa rfl 52 (.tmp 2) (.tmp 39) rfl g #[rE rH 0,rD rJ 0 0,rD rJ 0 0,rD rJ 0 0,rE rH 0,rD rJ 0 0,rD rJ 0 0,rD rJ 0 0,rD rJ 0 0,rD rJ 0 0] rfl rfl 52 #[rE rH 0,rD rJ 0 0,rD rJ 0 0,rD rJ 0 0,rE rH 0,rD rJ 0 0,rD rJ 0 0,rD rJ 0 0,rD rJ 0 0,rD rJ 0 0] GF.out (by kernel_rfl) rfl rfl ?_));rintro aA a j b f;have x:=Hd a;have u:=Hd (Bo OF.out (j w.heap.size (by rw[K.out];exact lR)));have y:=Hd (RF.out.low (j g lR) H.out);clear a j b f;go_wp2_with fail;refine bodyPost_ret (v:=.tuple #[.agg #[rE rH 0,rD rJ 0 0,rD rJ 0 0,rD rJ 0 0,rE rH 0,rD rJ 0 0,rD rJ 0 0,rD rJ 0 0,rD rJ 0 0,rD rJ 0 0],rE rH (rc:Nat)]) (Ad results179 _ _ g _ _ _ rfl x.out underlying52 rfl (by kernel_rfl)) rfl ?_;exact HS.out _ _ rfl G.out (NodeO.none _ _) y.out u.out
   ·have q1:((k:Int)==1)=false:=by rw[qN];omega
    by_cases k2:k=2
    ·have q2:((k:Int)==2)=true:=(by rw[beq_iff_eq];omega);have O:=Hd (aQ.out I.out k2);have aB:=Hd k2;have HC:=Hd (aJ.out I.out);clear k0 k1 k2;go_wp2_with fail;refine(HC.out w2 R2.out).mono ?_;rintro e w6 ⟨c,rfl,hl,F,l⟩;obtain⟨x0,x1,x2,rfl,U,V,X⟩:=hl;have m:=Hd (Q2.out.only l (by have:=H.out;have:=o.out;omega));have G6:=Hd (G2.out.only l (by have:=H.out;omega));have O6:=Hd (O2.out.trans l);have R6:=Hd F;have D:=Hd (show(#[x0,x1,x2]:Array Value).all (·.oneCell')=true by
      rw[<-Array.all_toList];simp only[eY,eZ,U.oneCell,V.oneCell,X.oneCell];rfl)
     have M:=Hd (show(#[rE rH k,rD rJ 0 0,rD rJ 0 0,rD rJ 0 0,rE rH 0,rD rJ 0 0,rD rJ 0 0,x0,x1,x2]:Array Value).toList.all (·.oneCell')=true by
      simp only[eY,eZ,U.oneCell,V.oneCell,X.oneCell];rfl)
     have P:=Hd (U.mono (B':=g+1) (by have:=E.out;have:=o.out;omega));have Q:=Hd (V.mono (B':=g+1) (by have:=E.out;have:=o.out;omega));have T:=Hd (X.mono (B':=g+1) (by have:=E.out;have:=o.out;omega));clear l F U V X;obtain⟨wr,z⟩:=eX (w6.setCells q 7 [x0,x1,x2]);have N:=Hd z;have n:Only q w6 wr:=(by rw[z];exact Hn _ _);have PF:=Hd (show Blk wr q 52 #[rE rH k,rD rJ 0 0,rD rJ 0 0,rD rJ 0 0,rE rH 0,rD rJ 0 0,rD rJ 0 0,x0,x1,x2] by
      rw[z];exact(((m.out.set 7 x0).set 8 x1).set 9 x2))
     have GF:=Hd (G6.out.only n (by have:=o.out;omega));have RF:=Hd (R6.out.only n (by have:=H.out;have:=o.out;omega) (fE m.out.lt));have OF:=Hd (O6.out.then (n.below (C:=w.heap.size) (by have:=o.out;have:=K.out;omega) O6.out.size));replace P:=Hd (P.out.other m.out (by decide) (fun i p t=>n.block i p (fun e=>t (by simpa using e))));replace Q:=Hd (Q.out.other m.out (by decide) (fun i p t=>n.block i p (fun e=>t (by simpa using e))));replace T:=Hd (T.out.other m.out (by decide) (fun i p t=>n.block i p (fun e=>t (by simpa using e))));clear n z
     by_cases hr1:pc=0
     ·have aF:((pc:Int) !=0)=false:=(by rw[bne_eq_false_iff_eq];omega);have G:=Hd (show r=(0,_,pL,pe) by have:=O.out;rw[iP hr1]at this;exact this);clear hr1;go_wp2_with (first
       |(refine wpList_store_mid rfl 50 (.tmp 36) (.tmp 34) rfl q 7 #[x0,x1,x2] rfl rfl (m.out.there 7 3 (by simp)) (by kernel_rfl) D.out ?_;rw[<-N.out])
       |(refine As rfl 52 (.tmp 4) rfl q rfl 52 #[rE rH k,rD rJ 0 0,rD rJ 0 0,rD rJ 0 0,rE rH 0,rD rJ 0 0,rD rJ 0 0,x0,x1,x2] (0,0) _ PF.out underlying52 rfl (by kernel_rfl) ?_)
       |(refine Aa rfl 52 (.tmp 2) (.tmp 41) rfl g #[rE rH k,rD rJ 0 0,rD rJ 0 0,rD rJ 0 0,rE rH 0,rD rJ 0 0,rD rJ 0 0,x0,x1,x2] rfl rfl 52 #[rE rH 0,rD rJ 0 0,rD rJ 0 0,rD rJ 0 0,rE rH 0,rD rJ 0 0,rD rJ 0 0,rD rJ 0 0,rD rJ 0 0,rD rJ 0 0] GF.out (by kernel_rfl) rfl M.out ?_))
      rintro aV a j b f;have aD:=Hd a;have aE:=Hd (RF.out.low (j g lR) H.out);have aC:=Hd (Bo OF.out (j w.heap.size (by rw[K.out];exact lR)));replace P:=Hd ((P.out.other GF.out (by decide) (fun i _ p=>b i p)).mono (B':=g) (gJ _));replace Q:=Hd ((Q.out.other GF.out (by decide) (fun i _ p=>b i p)).mono (B':=g) (gJ _));replace T:=Hd ((T.out.other GF.out (by decide) (fun i _ p=>b i p)).mono (B':=g) (gJ _));clear a j b f;go_wp2_with fail;refine bodyPost_ret (v:=.tuple #[.agg #[rE rH k,rD rJ 0 0,rD rJ 0 0,rD rJ 0 0,rE rH 0,rD rJ 0 0,rD rJ 0 0,x0,x1,x2],rE rH 0]) (Ad results179 _ _ g _ _ _ rfl aD.out underlying52 rfl (by kernel_rfl)) rfl ?_;refine HS.out _ _ rfl G.out ?_ aE.out aC.out;rw[<-K.out];exact⟨_,_,_,_,_,_,_,_,by rw[aB.out];rfl,Own.nil _ _ _,Own.nil _ _ _,Own.nil _ _ _,Own.nil _ _ _,Own.nil _ _ _,P.out,Q.out,T.out⟩
     ·have aF:((pc:Int) !=0)=true:=(by rw[bne_iff_ne];omega);have G:=Hd (show r=(pc,Ap,pL,pe) by have:=O.out;rw[iN hr1]at this;exact this);clear hr1;go_wp2_with (first|(refine wpList_store_mid rfl 50 (.tmp 36) (.tmp 34) rfl q 7 #[x0,x1,x2] rfl rfl (m.out.there 7 3 (by simp)) (by kernel_rfl) D.out ?_;rw[<-N.out])|(refine Aa rfl 52 (.tmp 2) (.tmp 39) rfl g #[rE rH 0,rD rJ 0 0,rD rJ 0 0,rD rJ 0 0,rE rH 0,rD rJ 0 0,rD rJ 0 0,rD rJ 0 0,rD rJ 0 0,rD rJ 0 0] rfl rfl 52 #[rE rH 0,rD rJ 0 0,rD rJ 0 0,rD rJ 0 0,rE rH 0,rD rJ 0 0,rD rJ 0 0,rD rJ 0 0,rD rJ 0 0,rD rJ 0 0] GF.out (by kernel_rfl) rfl rfl ?_));rintro aA a j b f;have x:=Hd a;have u:=Hd (Bo OF.out (j w.heap.size (by rw[K.out];exact lR)));have y:=Hd (RF.out.low (j g lR) H.out);clear a j b f;go_wp2_with fail;refine bodyPost_ret (v:=.tuple #[.agg #[rE rH 0,rD rJ 0 0,rD rJ 0 0,rD rJ 0 0,rE rH 0,rD rJ 0 0,rD rJ 0 0,rD rJ 0 0,rD rJ 0 0,rD rJ 0 0],rE rH (pc:Nat)]) (Ad results179 _ _ g _ _ _ rfl x.out underlying52 rfl (by kernel_rfl)) rfl ?_;exact HS.out _ _ rfl G.out (NodeO.none _ _) y.out u.out
    ·have q2:((k:Int)==2)=false:=(by rw[qN];omega);have O:=Hd (aR.out I.out k0 k1 k2);clear k0 k1 k2;go_wp2_with (refine Aa rfl 52 (.tmp 2) (.tmp 39) rfl g #[rE rH 0,rD rJ 0 0,rD rJ 0 0,rD rJ 0 0,rE rH 0,rD rJ 0 0,rD rJ 0 0,rD rJ 0 0,rD rJ 0 0,rD rJ 0 0] rfl rfl 52 #[rE rH 0,rD rJ 0 0,rD rJ 0 0,rD rJ 0 0,rE rH 0,rD rJ 0 0,rD rJ 0 0,rD rJ 0 0,rD rJ 0 0,rD rJ 0 0] G2.out (by kernel_rfl) rfl rfl ?_);rintro aA a j b f;have x:=Hd a;have u:=Hd (Bo O2.out (j w.heap.size (by rw[K.out];exact lR)));have y:=Hd (R2.out.low (j g lR) H.out);clear a j b f;go_wp2_with fail;refine bodyPost_ret (v:=.tuple #[.agg #[rE rH 0,rD rJ 0 0,rD rJ 0 0,rD rJ 0 0,rE rH 0,rD rJ 0 0,rD rJ 0 0,rD rJ 0 0,rD rJ 0 0,rD rJ 0 0],rE rH 3]) (Ad results179 _ _ g _ _ _ rfl x.out underlying52 rfl (by kernel_rfl)) rfl ?_;exact HS.out _ _ rfl O.out (NodeO.none _ _) y.out u.out
 ·have aT:((A:Int) !=0)=true:=(by rw[bne_iff_ne];omega);have O:=Hd (aO.out h1);clear h1;go_wp2_with (refine Aa rfl 52 (.tmp 2) (.tmp 14) rfl g #[rE rH 0,rD rJ 0 0,rD rJ 0 0,rD rJ 0 0,rE rH 0,rD rJ 0 0,rD rJ 0 0,rD rJ 0 0,rD rJ 0 0,rD rJ 0 0] rfl rfl 52 #[rE rH 0,rD rJ 0 0,rD rJ 0 0,rD rJ 0 0,rE rH 0,rD rJ 0 0,rD rJ 0 0,rD rJ 0 0,rD rJ 0 0,rD rJ 0 0] G2.out (by kernel_rfl) rfl rfl ?_);rintro aA a j b f;have x:=Hd a;have u:=Hd (Bo O2.out (j w.heap.size (by rw[K.out];exact lR)));have y:=Hd (R2.out.low (j g lR) H.out);clear a j b f;go_wp2_with fail;refine bodyPost_ret (v:=.tuple #[.agg #[rE rH 0,rD rJ 0 0,rD rJ 0 0,rD rJ 0 0,rE rH 0,rD rJ 0 0,rD rJ 0 0,rD rJ 0 0,rD rJ 0 0,rD rJ 0 0],rE rH (A:Nat)]) (Ad results179 _ _ g _ _ _ rfl x.out underlying52 rfl (by kernel_rfl)) rfl ?_;exact HS.out _ _ rfl O.out (NodeO.none _ _) y.out u.out
theorem Zcm (B:Nat)(L:List Nat)(w:World)(h:RS w B L 0)(j:L.length<1000000000)(b:∀n∈L,n<256):
  Calls prog 179 #[rF (some ⟨B,0,rJ⟩)] w (Zl2 B w (Cp L 0)):=by
 have g:=Gs L 0 1;have f:=fun W a=>Nk B L 0 1 W a b;have hk:=Zf4 L 0 b;unfold Cp;simp only;generalize Gt L 0 1=r1 at g f hk|-;obtain⟨k,c,-⟩:=g;refine Xu L r1.2.1 r1.2.2 (Ge r1.1) B (Eh r1.2.1 0) (Hz r1.2.1 0) _ w h f hk (fun e W a=> ?_) (fun e W a=> ?_) (fun e=> ?_) (fun e e2=> ?_) (fun e e2=> ?_) (fun e e2=> ?_) (fun e e2 e3 i=> ?_)
 ·rw[e]at a;exact Zcj B _ W a (by have:=c.1;omega) fun n d=>b n (c.2 n d)
 ·rw[e]at a;exact Zf6 B _ W a (by have:=c.1;omega) fun n d=>b n (c.2 n d)
 ·rw[iP e]
 ·rw[iN (by omega),iP e2]
 ·rw[iN (by omega),iN (by omega),iP e2,e]
 ·rw[iN (by omega),iN (by omega),iN (by omega),iP e2,e]
 ·rw[iN (by omega),iN e2,iN e3,iN i]
open WalkM
