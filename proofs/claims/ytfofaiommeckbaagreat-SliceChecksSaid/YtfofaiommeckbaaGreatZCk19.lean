import Derived.Deep.Cut
import Derived.Test.YtfofaiommeckbaaGreatZCk18
open Go.Obj renaming cells -> rJ
open Go.Ending renaming returned -> rK
open Go.Value renaming slice -> rC, int -> rD, pointer -> rE
open Go.IntKind renaming i64 -> rF, u8 -> rG, u64 -> rH
open Option renaming none -> rI
open List renaming replicate -> eK, length_cons -> dB, length_nil -> cO, getD_eq_getElem?_getD -> aS, mem_cons -> aZ, not_mem_nil -> dC, filterMap_cons -> dG, filterMap_nil -> dH, contains_cons -> dJ, contains_nil -> dK
open Nat renaming zero_le -> aA, pow_le_pow_right -> bQ, le_trans -> eT, lt_or_ge -> aB
open Int renaming tmod -> eC, tmod_eq_emod_of_nonneg -> eD, tdiv -> gX, tdiv_eq_ediv_of_nonneg -> gY
set_option linter.unusedVariables false
set_option maxRecDepth 100000
set_option maxHeartbeats 40000000
namespace Go.Proofs.YtfofaiommeckbaaGreat
open Go.RowKit ShaM WireM
theorem Zic (v vh vk:Value)(L:List Nat)(w:World)(h:Rd w v (bvs L))(hh:Rd w vh (qvs HL0))(hk:Rd w vk (qvs KL))(hL:∀x∈L,x<256)(hl:L.length<=1000000):
  Calls Tryz.prog 144 #[v,vh,vk] w fun e w'=>∃v',e=rK v'/\Own w' w.heap.size 5 v' (bvs (shaF L))/\Below w.heap.size w w':=by
 have hv:∃a c,v=.slice a L.length c:=(by obtain⟨a,c,e,_⟩:=h;exact⟨a,c,by rw[e,bvs_len]⟩);obtain⟨a0,c0,rfl⟩:=hv;obtain⟨a1,n1,c1,rfl⟩:=Zne hh;obtain⟨a2,n2,c2,rfl⟩:=Zne hk;obtain⟨n,hn⟩:=eX L.length;rw[<-hn]at h hl|-;obtain⟨Z,hZ⟩:=eX ((119-n%64)%64);have cS:tailL n=([128]++eK Z 0)++beN 8 (8*n):=(by rw[tailL,<-hZ];simp);have HN:=Hd hn;have HZ:=Hd hZ;have d6:=Hd cS;have H:=Hd h;have HH:=Hd hh;have HK:=Hd hk;have HL:=Hd hL;clear hn hZ cS h hh hk hL;go_in;go_wp2_with (first|(at_builtin;refine Ak rfl (.tmp 31) (.tmp 32) 181 rfl w.heap.size 92 _ 8 Zmr _ [] rfl (Own.lit0 rfl lR) _ (qvs HL0) rfl (HH.out.alloc _) (Vx _) ?c2 ?c3 ?_));case c2=>rw[qvs_len,HL0_len];simp
 case c3=>simp
 rintro v1 I d-bD;have bT:=Hd d;have a7:=Hd (((Below.refl w.heap.size w).alloc lR (rJ #[] 92)).trans bD);obtain⟨b1,b2,b3,rfl⟩:=Cx d;have R1:=Hd (show Rd (I.alloc (rJ #[] 5)) (rC a0 n c0) (bvs L)from(H.out.below a7.out lR).alloc _);have O1:=Hd (show Own (I.alloc (rJ #[] 5)) I.heap.size 5 (rC (some ⟨I.heap.size,0,rI⟩) 0 0) []from Own.lit0 rfl lR);clear d bD;go_wp2_with (first|(at_builtin;refine Ak rfl (.tmp 34) (.tmp 35) 28 rfl I.heap.size 5 _ 1 Cq _ [] rfl O1.out _ (bvs L) rfl R1.out (Ch _) ?d2 ?d3 ?_));case d2=>rw[bvs_len,<-HN.out];simp;omega
 case d3=>simp
 rintro v2 w2 d-bE;have cE:=Hd d;have a8:=Hd (((Below.refl I.heap.size I).alloc lR (rJ #[] 5)).trans bE);obtain⟨d1,d2,d3,rfl⟩:=Cx d;clear d bE;have O2:=Hd (cE.out.alloc (rJ #[rD rG 128] 5));have R2:=Hd (show Rd (w2.alloc (rJ #[rD rG 128] 5)) (rC (some ⟨w2.heap.size,0,rI⟩) 1 1) (bvs [128])from(Own.full (B:=0) (cs:=#[rD rG 128]) rfl (aA _) (by unfold maxLen;simp) rfl).rd);go_wp2_with (first|(at_builtin;refine Ak rfl (.tmp 36) (.tmp 37) 28 rfl I.heap.size 5 _ 1 Cq _ (bvs L) rfl O2.out _ (bvs [128]) rfl R2.out (Ch _) ?e2 ?e3 ?_));case e2=>rw[bvs_len,<-HN.out,bvs_len];simp;omega
 case e3=>have:=a8.out.size;simp;omega
 rintro v3 w3 d-cU;rw[<-Cl]at d;have cF:=Hd d;have cC:=Hd ((a8.out.alloc a8.out.size (rJ #[rD rG 128] 5)).trans cU);obtain⟨e1,e2,e3,rfl⟩:=Cx d;clear d cU O1 R1 O2 R2 a8 cE;go_wp2_with fail
 go_loopg [8] Z (fun q m wr=>∃j:Nat,j+q=Z/\Own wr I.heap.size 5 m (bvs (Zb5 L j))/\Below I.heap.size I wr)
 case atStart=>exact⟨0,by omega,by rw[Zek];exact cF.out,cC.out⟩
 case round=>
  obtain⟨j,hj,d,z⟩:=hrel;obtain⟨m1,m2,m3,rfl⟩:=Cx d;have eN:m2=n+1+j:=by
   obtain⟨_,_,e,_⟩:=d.rd;simp only[Value.slice.injEq,bvs_len,Sl]at e;have:=HN.out;omega
  subst eN;have HJ:=Hd hj;have bU:=Hd d;have aU:=Hd z;have hz:=HZ.out
  by_cases hlt:j<Z
  ·have hc:(((n+1+j:Nat):Int)%64 !=56)=true:=(by simp;omega);have OJ:=Hd (bU.out.alloc (rJ #[rD rG 0] 5));have RJ:=Hd (show Rd (wr.alloc (rJ #[rD rG 0] 5)) (rC (some ⟨wr.heap.size,0,rI⟩) 1 1) (bvs [0])from(Own.full (B:=0) (cs:=#[rD rG 0]) rfl (aA _) (by unfold maxLen;simp) rfl).rd);clear hj d z hz;go_wp2_with (first|(at_builtin;refine Ak rfl (.tmp 43) (.tmp 44) 28 rfl I.heap.size 5 _ 1 Cq _ _ rfl OJ.out _ (bvs [0]) rfl RJ.out (Ch _) ?f2 ?f3 ?_));case f2=>simp only[bvs_len,Sl,dB,cO];have:=HN.out;have:=HZ.out;omega
   case f3=>have:=aU.out.size;simp;omega
   rintro v4 w4 d-J;rw[<-Cl,<-Zel]at d;have U:=Hd d;have T:=Hd ((aU.out.alloc aU.out.size (rJ #[rD rG 0] 5)).trans J);obtain⟨f1,f2,f3,rfl⟩:=Cx d;clear d J OJ RJ;go_wp2_with fail;go_roundg (gk-1);case measure=>have:=HJ.out;omega
   case rel=>exact⟨j+1,by have:=HJ.out;omega,U.out,T.out⟩
  ·obtain rfl:j=Z:=(by omega);have hc:(((n+1+j:Nat):Int)%64 !=56)=false:=(by simp;omega);clear hj d z hz hlt;obtain⟨C,rfl⟩:∃C:World,C=wr:=⟨_,rfl⟩;go_wp2_with fail;have cW:(((n:Int)+1+(j:Int))%64 !=56)=false:=(by simpa using hc);simp only[cW];clear cW hc;have HQ:=Hd (show Own C I.heap.size 5 (.slice m1 (n+1+j) m3) (bvs (Zbn L j 0)) by rw[Zem];exact bU.out)
   go_loopg [8,10] 8 (fun q m iv wr=>∃i:Nat,i+q=8/\iv=rD rF (i:Nat)/\Own wr I.heap.size 5 m (bvs (Zbn L j i))/\Below I.heap.size I wr)
   case atStart=>exact⟨0,rfl,rfl,HQ.out,aU.out⟩
   case round=>
    obtain⟨i,hi,rfl,d,z⟩:=hrel;have HI:=Hd hi;have V:=Hd d;have aN:=Hd z;obtain⟨p1,p2,p3,rfl⟩:=Cx d;clear d z;obtain⟨wi,rfl⟩:∃wi:World,wi=wr:=⟨_,rfl⟩;obtain⟨g2,rfl⟩:=eX gk
    by_cases hlt:i<8
    ·have aY:decide ((i:Int)<8)=true:=(by rw[dI];omega);clear hi;go_wp2_with fail
     go_loopg [11,12] (7-i) (fun q uv kv wr=>∃k u:Nat,k+q=7-i/\kv=rD rF (k:Nat)/\uv=rD rH (u:Nat)/\u=256^k/\wi=wr)
     case atStart=>exact⟨0,1,by omega,rfl,rfl,rfl,rfl⟩
     case round=>
      obtain⟨k,u,hk,rfl,rfl,X,rfl⟩:=hrel;have dD:u<=256^7:=(by rw[X];exact bQ (by omega) (by omega));have fQ:0<u:=(by rw[X];exact Nat.pow_pos (by omega));have HU:=Hd X;have cD:=Hd hk
      by_cases hlk:k<7-i
      ·have c5:decide ((k:Int)<7-(i:Int))=true:=(by rw[dI];omega);have fP:u<=256^6:=(by rw[X];exact bQ (by omega) (by omega));clear hk X dD;go_wp2_with fail;go_roundg (gk-1);case measure=>have:=cD.out;omega
       case rel=>exact⟨k+1,u*256,by have:=cD.out;omega,by go_num,by go_num,by rw[HU.out,Nat.pow_succ],rfl⟩
      ·have c5:decide ((k:Int)<7-(i:Int))=false:=(by rw[dN];omega);obtain rfl:k=7-i:=(by omega);obtain⟨x,hx⟩:∃x:Nat,x=8*n/u:=⟨_,rfl⟩;have fT:x<=8000000:=(by rw[hx];exact eT (Nat.div_le_self _ _) (by omega));have fU:(n:Int)*8/(u:Int)=(x:Int):=(by rw[hx,Int.natCast_ediv,Nat.mul_comm 8 n];rfl);have HX:=Hd hx;have aR:p2=n+1+j+i:=by
        obtain⟨_,_,e,_⟩:=V.out.rd;simp only[Value.slice.injEq,bvs_len]at e;rw[Zo _ _ (by omega)]at e;have:=HN.out;omega
       subst aR;have fN:¬u=0:=(by omega);have fO:¬(u:Int)=0:=(by omega);clear hk X hx dD;have OI:=Hd (V.out.alloc (rJ #[rD rG ((x:Int)%256)] 5));have RI:=Hd (show Rd (wi.alloc (rJ #[rD rG ((x:Int)%256)] 5)) (rC (some ⟨wi.heap.size,0,rI⟩) 1 1) (bvs [x%256])from(Own.full (B:=0) (cs:=#[rD rG ((x:Int)%256)]) rfl (aA _) (by unfold maxLen;simp) rfl).rd);go_wp2_with (first|(at_builtin;refine Ak rfl (.tmp 62) (.tmp 68) 28 rfl I.heap.size 5 _ 1 Cq _ _ rfl OI.out _ (bvs [x%256]) rfl RI.out (Ch _) ?g2 ?g3 ?_));case g2=>simp only[bvs_len,dB,cO];rw[Zo _ _ (by omega)];have:=HN.out;have:=HZ.out;omega
       case g3=>have:=aN.out.size;simp;omega
       rintro v4 w4 d-J;have ex:x=8*L.length/256^(7-i):=(by rw[HX.out,HU.out,HN.out]);rw[<-Cl,ex,<-Zen _ _ hlt]at d;have U:=Hd d;have T:=Hd ((aN.out.alloc aN.out.size (rJ #[rD rG ((x:Int)%256)] 5)).trans J);obtain⟨f1,f2,f3,rfl⟩:=Cx d;clear d J OI RI ex;go_wp2_with fail;go_roundg (g2-1);case measure=>have:=HI.out;omega
       case rel=>exact⟨i+1,by have:=HI.out;omega,by go_num,U.out,T.out⟩
    ·obtain rfl:i=8:=(by omega);clear hi;go_wp2_with fail;have cQ:Zbn L j 8=padL L:=(by have e1:=HZ.out;have e2:=HN.out;rw[e1,e2];exact Zh9 L);rw[cQ]at V;have c8:=padL_len L;have b7:=Zdj HL.out;have a4:=Ub L;obtain⟨P,hP⟩:=eX (padL L);rw[<-hP]at V c8 b7 a4;obtain⟨nb,bZ⟩:∃nb,P.length=64*nb:=⟨P.length/64,by omega⟩;have e8:0<nb:=by
      rcases Nat.eq_zero_or_pos nb with h|h
      ·have:P.length=0:=(by rw[bZ,h]);rw[hP,padL,List.length_append,tailL,dB]at this;omega
      ·exact h
     have aR:p2=64*nb:=by
      obtain⟨_,_,e,_⟩:=V.out.rd;simp only[Value.slice.injEq,bvs_len]at e;omega
     obtain⟨mb,aL,fL,e7⟩:∃mb,p1=some ⟨mb,0,rI⟩/\I.heap.size<=mb/\mb<wi.heap.size:=by
      rcases V.out.2 with⟨e,e0⟩|⟨g,cp,cJ,e,z,hg,_⟩
      ·simp only[Value.slice.injEq]at e;omega
      ·simp only[Value.slice.injEq]at e;refine⟨g,e.1,z,?_⟩;rcases aB g wi.heap.size with h|h
       ·exact h
       ·rw[Array.getElem?_eq_none h]at hg;cases hg
     obtain⟨z,bD,eI,fJ,bE⟩:∃z,b1=some ⟨z,0,rI⟩/\w.heap.size<=z/\z<I.heap.size/\b2=8:=by
      rcases bT.out.2 with⟨e,e0⟩|⟨g,cp,cJ,e,z,hg,_⟩
      ·simp[HL0_len]at e0
      ·simp only[Value.slice.injEq]at e;refine⟨g,e.1,z,?_,by rw[e.2.1];simp[HL0_len]⟩;rcases aB g I.heap.size with h|h
       ·exact h
       ·rw[Array.getElem?_eq_none h]at hg;cases hg
     subst aR aL bD bE;obtain⟨N,hN⟩:=eX (64*nb);have bA:=Hd hN;have fI:N<=1000072:=(by have:=HN.out;omega);rw[<-hN]at V;have dU:=Hd (show Own wi w.heap.size 92 (rC (some ⟨z,0,rI⟩) 8 b3) (qvs HL0)from bT.out.below aN.out lR);have dW:=Hd V.out.rd;have dQ:=Hd (a7.out.trans (aN.out.mono a7.out.size));have dY:=Hd hP;have bS:=Hd bZ;have fG:=Hd a4;rw[<-hN];clear c8 hP cQ bZ a4 aN V cF cC bT hN;clear a7 HQ bU aU d6;go_wp2_with fail
     go_loopg [13] nb (fun q av wr=>∃b a:Nat,b+q=nb/\a=64*b/\av=rD rF (a:Nat)/\Own wr w.heap.size 92 (rC (some ⟨z,0,rI⟩) 8 b3) (qvs (blocksN P HL0 b))/\Rd wr (rC (some ⟨mb,0,rI⟩) N p3) (bvs P)/\Below w.heap.size w wr)
     case atStart=>exact⟨0,0,by omega,rfl,rfl,dU.out,dW.out,dQ.out⟩
     case round=>
      obtain⟨b,a,bX,bC,rfl,c6,c9,cV⟩:=hrel;have bB:=Hd c6;have dX:=Hd c9;have aJ:=Hd cV;have cH:=Hd bX;have bP:=Hd bC;clear c6 c9 cV;obtain⟨C,rfl⟩:∃C:World,C=wr:=⟨_,rfl⟩;obtain⟨g4,rfl⟩:=eX gk
      by_cases hlb:b<nb
      ·have cT:a+64<=N:=(by have:=bA.out;omega);have e5:decide ((a:Int)<(N:Int))=true:=(by rw[dI];omega);have eM:decide (a<N)=true:=(by rw[dI];omega);obtain⟨B,hB⟩:=eX ((P.drop (64*b)).take 64);have cP:B.length=64:=(by rw[hB,List.length_take,List.length_drop,bS.out,<-bA.out,<-bP.out];omega);have cM:∀x∈B,x<256:=fun x hx=>b7 x (List.mem_of_mem_drop (List.mem_of_mem_take (hB▸hx)));have cN:∀j,j<64->B.getD j 0=P.getD (a+j) 0:=by
        intro j hj;rw[hB,aS,List.getElem?_take,iP hj,List.getElem?_drop,<-bP.out,aS]
       have dP:=Hd cN;have dO:=Hd hB;have fF:=Hd cP;have a9:=Hd cM;clear hB bX cN cP cM bC;go_wp2_with fail
       go_loopg [14,15] 64 (fun q wl tv wr=>∃t:Nat,t+q=64/\tv=rD rF (t:Nat)/\Own wr C.heap.size 92 wl (qvs (wL B t))/\Below C.heap.size C wr)
       case atStart=>exact⟨0,rfl,rfl,Own.nil _ _ _,bR⟩
       case round=>
        obtain⟨t,ht,rfl,d,bY⟩:=hrel;have HT:=Hd ht;have aW:=Hd d;have aC:=Hd bY;obtain⟨q1,l,q3,rfl⟩:=Cx d;obtain⟨wt,rfl⟩:∃wt:World,wt=wr:=⟨_,rfl⟩;obtain⟨g5,rfl⟩:=eX gk;obtain rfl:l=t:=by
         obtain⟨_,_,e,_⟩:=d.rd;simp only[Value.slice.injEq,qvs_len,wL_len]at e;exact e.2.1
        have cI:=Hd (dX.out.below bY lR);clear d bY
        by_cases hlt:l<64
        ·have aY:decide ((l:Int)<64)=true:=(by rw[dI];omega);clear ht
         by_cases h16:l<16
         ·have cK:decide ((l:Int)<16)=true:=(by rw[dI];omega);go_wp2_with fail
          go_loopg [16,17] 4 (fun q xv iv wr=>∃i x:Nat,i+q=4/\iv=rD rF (i:Nat)/\xv=rD rH (x:Nat)/\x=xN B l i/\wt=wr)
          case atStart=>exact⟨0,0,rfl,rfl,rfl,rfl,rfl⟩
          case round=>
           obtain⟨i,x,hi,rfl,rfl,hx,rfl⟩:=hrel;have HI:=Hd hi;have HX:=Hd hx
           by_cases hli:i<4
           ·have e6:decide ((i:Int)<4)=true:=(by rw[dI];omega);have fR:x<16777216:=(by rw[hx];exact Zl9 a9.out l hli);obtain⟨p0,a3⟩:=eX (a+4*l);obtain⟨p1,aL⟩:=eX (p0+i);have i0:(a:Int)+4*(l:Int)=(p0:Int):=(by omega);have i1:(p0:Int)+(i:Int)=(p1:Int):=(by omega);have l0:p0<N:=(by omega);have l1:p1<N:=(by omega);have hy:=cI.out.at3 (Rc (show p1<P.length by rw[bS.out,<-bA.out];exact l1));obtain⟨_,_,e,fM,hc⟩:=hy;simp only[Option.some.injEq,Addr.mk.injEq,and_true]at e;obtain⟨rfl,rfl⟩:=e;rw[Nat.zero_add]at hc;obtain⟨y,bL⟩:=eX (P.getD p1 0);rw[<-bL]at hc;have eR:y<256:=(by rw[bL];exact Gl b7 (by omega) _);have HY:=Hd (show y=B.getD (4*l+i) 0 by rw[dP.out _ (by omega),bL,aL,a3,Nat.add_assoc]);clear hi hx a3 aL bL;go_wp2_with fail;go_roundg (gk-1);case measure=>have:=HI.out;omega
            case rel=>exact⟨i+1,256*x+y,by have:=HI.out;omega,by go_num,by go_num,by rw[xN,<-HX.out,<-HY.out],rfl⟩
           ·obtain rfl:i=4:=(by omega);have fS:x<4294967296:=(by rw[hx];exact Zma a9.out l);clear hi hx hli;have d7:=Hd (show x=wNext B (wL B l) l by rw[HX.out];exact Zk8 _ _ h16);have OT:=Hd (aW.out.alloc (rJ #[rD rH (x:Int)] 92));have RT:=Hd (show Rd (wt.alloc (rJ #[rD rH (x:Int)] 92)) (rC (some ⟨wt.heap.size,0,rI⟩) 1 1) (qvs [x])from Rd.lit _ _ _ _ _ rfl rfl (by unfold maxLen;simp));go_wp2_with (first|(at_builtin;refine Ak rfl (.tmp 99) (.tmp 101) 181 rfl C.heap.size 92 _ 8 Zmr _ _ rfl OT.out _ (qvs [x]) rfl RT.out (Vx _) ?h2 ?h3 ?_));case h2=>simp only[qvs_len,wL_len,dB,cO];omega
            case h3=>have:=aC.out.size;simp;omega
            rintro v4 w4 d-J;rw[<-Zao,d7.out]at d;have U:=Hd (show Own w4 C.heap.size 92 v4 (qvs (wL B (l+1)))from d);have T:=Hd ((aC.out.alloc aC.out.size (rJ #[rD rH (x:Int)] 92)).trans J);clear d J OT RT;go_wp2_with fail;go_roundg (g5-1);case measure=>have:=HT.out;omega
            case rel=>exact⟨l+1,by have:=HT.out;omega,by go_num,U.out,T.out⟩
         ·have cK:decide ((l:Int)<16)=false:=(by rw[dN];omega);obtain⟨gw,eP⟩:∃g,q1=some ⟨g,0,rI⟩:=by
           rcases aW.out.2 with⟨e,e0⟩|⟨g,cp,cJ,e,_⟩
           ·simp only[Value.slice.injEq]at e;omega
           ·simp only[Value.slice.injEq]at e;exact⟨g,e.1⟩
          subst eP;have CC:=fun(j:Nat) (hj:j<l)=>(aW.out.at).1 j _ (Hl (L:=wL B l) (i:=j) (by rw[wL_len];exact hj));have wl:=wL_lt a9.out l;obtain⟨p0,a3⟩:=eX (l-15);obtain⟨p1,aL⟩:=eX (l-2);obtain⟨p2,aR⟩:=eX (l-7);obtain⟨p4,c7⟩:=eX (l-16);have i0:(l:Int)-15=(p0:Int):=(by omega);have i1:(l:Int)-2=(p1:Int):=(by omega);have i2:(l:Int)-7=(p2:Int):=(by omega);have i4:(l:Int)-16=(p4:Int):=(by omega);have l0:p0<l:=(by omega);have l1:p1<l:=(by omega);have l2:p2<l:=(by omega);have l4:p4<l:=(by omega);have m0:(p0:Int)<(l:Int):=(by omega);have m1:(p1:Int)<(l:Int):=(by omega);have m2:(p2:Int)<(l:Int):=(by omega);have m4:(p4:Int)<(l:Int):=(by omega);have c0:=CC p0 l0;have c1:=CC p1 l1;have c2:=CC p2 l2;have c4:=CC p4 l4;obtain⟨E,aE⟩:=eX ((wL B l).getD p0 0);obtain⟨F,aF⟩:=eX ((wL B l).getD p1 0);obtain⟨r,aG⟩:=eX ((wL B l).getD p2 0);obtain⟨y4,bK⟩:=eX ((wL B l).getD p4 0);rw[<-aE]at c0;rw[<-aF]at c1;rw[<-aG]at c2;rw[<-bK]at c4;have x0:E<4294967296:=(by rw[aE];exact getD_lt32 wl _);have x1:F<4294967296:=(by rw[aF];exact getD_lt32 wl _);have x2:r<4294967296:=(by rw[aG];exact getD_lt32 wl _);have x4:y4<4294967296:=(by rw[bK];exact getD_lt32 wl _);obtain⟨r1,bG⟩:=eX (rot E 7);obtain⟨r2,bH⟩:=eX (rot E 18);obtain⟨r3,bI⟩:=eX (rot F 17);obtain⟨r4,bJ⟩:=eX (rot F 19);obtain⟨s1,b8⟩:=eX (E/8);obtain⟨s2,b9⟩:=eX (F/1024);have R1:=Hd (fun W=>Pm E 7 r1 7 rfl x0 (by omega) bG W);have R2:=Hd (fun W=>Pm E 18 r2 18 rfl x0 (by omega) bH W);have R3:=Hd (fun W=>Pm F 17 r3 17 rfl x1 (by omega) bI W);have R4:=Hd (fun W=>Pm F 19 r4 19 rfl x1 (by omega) bJ W);have S1:=Hd (fun W=>Zjw E 3 s1 3 rfl x0 (by omega) b8 W);have S2:=Hd (fun W=>Zjw F 10 s2 10 rfl x1 (by omega) b9 W);have b1:r1<4294967296:=(by rw[bG];exact rot_lt x0 (by omega));have b2:r2<4294967296:=(by rw[bH];exact rot_lt x0 (by omega));have b3:r3<4294967296:=(by rw[bI];exact rot_lt x1 (by omega));have b4:r4<4294967296:=(by rw[bJ];exact rot_lt x1 (by omega));have X1:=u64_xor_nat r1 r2 (by omega) (by omega);have X2:=u64_xor_nat (r1^^^r2) s1 (by have:=xor_lt32 b1 b2;omega) (by omega);have X3:=u64_xor_nat r3 r4 (by omega) (by omega);have X4:=u64_xor_nat (r3^^^r4) s2 (by have:=xor_lt32 b3 b4;omega) (by omega);obtain⟨z1,aH⟩:=eX (r1^^^r2);obtain⟨z3,bM⟩:=eX (r3^^^r4);rw[<-aH]at X1 X2;rw[<-bM]at X3 X4;obtain⟨A,aI⟩:=eX (z1^^^s1);obtain⟨D,bN⟩:=eX (z3^^^s2);rw[<-aI]at X2;rw[<-bN]at X4;have HV:=Hd (show(D+r+A+y4)%4294967296=wNext B (wL B l) l by
           unfold wNext;rw[iN h16,s0N,s1N,<-a3,<-aL,<-aR,<-c7,<-aE,<-aF,<-aG,<-bK,<-bG,<-bH,<-bI,<-bJ,<-aH,<-bM,<-b8,<-b9,<-aI,<-bN])
          have b5:A<4294967296:=(by rw[aI,aH];exact xor_lt32 (xor_lt32 b1 b2) (by omega));have b6:D<4294967296:=(by rw[bN,bM];exact xor_lt32 (xor_lt32 b3 b4) (by omega));clear a3 aL aR c7 aE aF aG bK CC wl b8 b9 bG bH bI bJ aH aI bM bN;go_wp2_with fail
          go_quiet ((first|(go_at_call 195;first|with_reducible exact Calls.quiet_of_same (R1.out _)|with_reducible exact Calls.quiet_of_same (R2.out _))|(go_at_call 196;with_reducible exact Calls.quiet_of_same (S1.out _))))
          obtain⟨na,rfl⟩:=eX nq;go_wp2_with fail
          go_quiet ((first|(go_at_call 195;first|with_reducible exact Eu (R3.out _)|with_reducible exact Eu (R4.out _))|(go_at_call 196;with_reducible exact Eu (S2.out _))))
          obtain⟨nd,rfl⟩:=eX nq;go_wp2_with fail;obtain⟨Y,aT⟩:=eX ((wt.drewN na).drewN nd);rw[<-aT];have dV:=Hd (show Own Y C.heap.size 92 (rC (some ⟨gw,0,rI⟩) l q3) (qvs (wL B l)) by rw[aT];exact(aW.out.drewN _).drewN _);have aV:=Hd (show Below C.heap.size C Y by rw[aT];exact Ab (Ab aC.out _) _);have k2:Y.cell? ⟨gw,p2,rI⟩=some (rD rH (r:Int)):=(by rw[aT];exact c2);have k4:Y.cell? ⟨gw,p4,rI⟩=some (rD rH (y4:Int)):=(by rw[aT];exact c4);clear c0 c1 c2 c4 aT;obtain⟨xx,cA⟩:∃x:Nat,x=wNext B (wL B l) l:=⟨_,rfl⟩;have d8:=Hd cA;have e9:((D:Int)+(r:Int)+(A:Int)+(y4:Int))%4294967296=(xx:Int):=(by rw[cA,<-HV.out];omega);have cX:gw<Y.heap.size:=World.block_lt_of_cell? _ _ k2;clear cA;refine Ja [eF (rC (some ⟨gw,0,rI⟩) l q3),eF (rD rH (D:Nat)),eF (rC (some ⟨gw,0,rI⟩) l q3),eF (rD rF (l:Nat)),eF (rD rF (p2:Nat)),eF (rE (some ⟨gw,p2,rI⟩)),eF (rD rH (r:Nat)),eF (rD rH ((D:Int)+(r:Int))),eF (rD rH (A:Nat)),eF (rD rH ((D:Int)+(r:Int)+(A:Int))),eF (rC (some ⟨gw,0,rI⟩) l q3),eF (rD rF (l:Nat)),eF (rD rF (p4:Nat)),eF (rE (some ⟨gw,p4,rI⟩)),eF (rD rH (y4:Nat)),eF (rD rH ((D:Int)+(r:Int)+(A:Int)+(y4:Int))),eF (rD rH (xx:Nat)),fun v w'=>∃g,v=rC (some ⟨g,0,rI⟩) 1 1/\Rd w' v [rD rH (xx:Nat)],fun v w'=>Own w' C.heap.size 92 v (qvs (wL B l)++[rD rH (xx:Nat)])/\Below C.heap.size Y w',fun v w'=>Own w' C.heap.size 92 v (qvs (wL B l)++[rD rH (xx:Nat)])/\Below C.heap.size Y w']
           ((eK 20 false).set 19 true) ((eK 20 false).set 19 true) 18 (by kernel_rfl) ?_ (by kernel_rfl) (by kernel_rfl) (by kernel_rfl) ?_ ?_
          ·exact kT (kT (kT (kT (kT (kT (kT (kT (kT (kT (kT (kT (kT (kT (kT (kT (kT (Dv (fun v I w2 h z=>let⟨g,e,h2⟩:=h;⟨g,e,h2.below z lR⟩) (Dv (fun v I w2 h z=>⟨Own.below h.1 z lR,h.2.trans (z.mono (eT (aV.out.size) h.2.size))⟩) (Dv (fun v I w2 h z=>⟨Own.below h.1 z lR,h.2.trans (z.mono (eT (aV.out.size) h.2.size))⟩) (Tc))))))))))))))))))))
          ·refine gT rfl ?_ (gT rfl ?_ (gT rfl ?_ (gT rfl ?_ (gU rfl ?_ (gT rfl ?_ (gT rfl ?_ (gU rfl ?_ (gT rfl ?_ (gU rfl ?_ (gT rfl ?_ (gT rfl ?_ (gU rfl ?_ (gT rfl ?_ (gT rfl ?_ (gU rfl ?_ (gU rfl ?_ (gU rfl ?_ (gU rfl ?_ (.cons (Rs ?_) .nil)))))))))))))))))));all_goals
            intro a wx Q ho hf;refine⟨rfl,?_⟩;intro K O;try have eS:a.tmps[14]?.getD undef=rC (some ⟨gw,0,rI⟩) l q3:=ho 14 (by kernel_rfl)
            try have eU:a.tmps[15]?.getD undef=rD rF (l:Nat):=ho 15 (by kernel_rfl)
            try have eV:a.tmps[18]?.getD undef=rD rH (A:Nat):=ho 18 (by kernel_rfl)
            try have eW:a.tmps[19]?.getD undef=rD rH (D:Nat):=ho 19 (by kernel_rfl)
            try have bO:=eqn hf.1
            try have dL:=eqn hf.2.1
            try have dE:=(Q.cell (p:=⟨gw,p2,rI⟩) cX).trans k2
            try have dF:=(Q.cell (p:=⟨gw,p4,rI⟩) cX).trans k4
            try(refine Hd ?_;go_simp;exact O _ rfl)
           ·have o:IntKind.i64.wrap ((p2:Int))=(p2:Int):=(by rw[IntKind.wrap_i64];omega);have s:(l:Int)-7=(p2:Int):=(by omega);have M:IntKind.i64.wrap ((l:Int)-7)=(p2:Int):=(by rw[s];exact o);go_simp;exact O _ _ rfl (fun _=>bR)
           ·have o:IntKind.u64.wrap (((D:Int)+(r:Int)))=((D:Int)+(r:Int)):=(by rw[IntKind.wrap_u64];omega);have s:(D:Int)+(r:Int)=((D:Int)+(r:Int)):=(by omega);have M:IntKind.u64.wrap ((D:Int)+(r:Int))=((D:Int)+(r:Int)):=(by rw[s];exact o);go_simp;exact O _ _ rfl (fun _=>bR)
           ·have o:IntKind.u64.wrap (((D:Int)+(r:Int)+(A:Int)))=((D:Int)+(r:Int)+(A:Int)):=(by rw[IntKind.wrap_u64];omega);have s:((D:Int)+(r:Int))+(A:Int)=((D:Int)+(r:Int)+(A:Int)):=(by omega);have M:IntKind.u64.wrap (((D:Int)+(r:Int))+(A:Int))=((D:Int)+(r:Int)+(A:Int)):=(by rw[s];exact o);go_simp;exact O _ _ rfl (fun _=>bR)
           ·have o:IntKind.i64.wrap ((p4:Int))=(p4:Int):=(by rw[IntKind.wrap_i64];omega);have s:(l:Int)-16=(p4:Int):=(by omega);have M:IntKind.i64.wrap ((l:Int)-16)=(p4:Int):=(by rw[s];exact o);go_simp;exact O _ _ rfl (fun _=>bR)
           ·have o:IntKind.u64.wrap (((D:Int)+(r:Int)+(A:Int)+(y4:Int)))=((D:Int)+(r:Int)+(A:Int)+(y4:Int)):=(by rw[IntKind.wrap_u64];omega);have s:((D:Int)+(r:Int)+(A:Int))+(y4:Int)=((D:Int)+(r:Int)+(A:Int)+(y4:Int)):=(by omega);have M:IntKind.u64.wrap (((D:Int)+(r:Int)+(A:Int))+(y4:Int))=((D:Int)+(r:Int)+(A:Int)+(y4:Int)):=(by rw[s];exact o);go_simp;exact O _ _ rfl (fun _=>bR)
           ·have o:IntKind.u64.wrap ((xx:Int))=(xx:Int):=(by rw[IntKind.wrap_u64];omega);have s:((D:Int)+(r:Int)+(A:Int)+(y4:Int))%4294967296=(xx:Int):=(by omega);have M:IntKind.u64.wrap (((D:Int)+(r:Int)+(A:Int)+(y4:Int))%4294967296)=(xx:Int):=(by rw[s];exact o);have G:eC (((D:Int)+(r:Int)+(A:Int)+(y4:Int))) 4294967296=(xx:Int):=(by rw[eD (by omega)];omega);have aQ:IntKind.u64.wrap (eC (((D:Int)+(r:Int)+(A:Int)+(y4:Int))) 4294967296)=(xx:Int):=(by rw[G];exact o);go_simp;exact O _ _ rfl (fun _=>bR)
           ·go_simp;exact O _ _ ⟨_,rfl,(Own.full (B:=wx.heap.size) (cs:=#[rD rH (xx:Nat)]) rfl lR (by unfold maxLen;simp) rfl).rd⟩ (fun _=>bR.alloc lR _)
           ·obtain⟨ga,a6,o1⟩:∃g,a.tmps[160]?.getD undef=rC (some ⟨g,0,rI⟩) 1 1/\Rd wx (a.tmps[160]?.getD undef) [rD rH (xx:Nat)]:=hf.2.1;rw[a6]at o1;refine Zcd (.tmp 143) (.tmp 160) 181 rfl (C.heap.size) 92 _ 8 Zmr _ (qvs (wL B l)) (evs bO) ((dV.out).below Q lR) _ [rD rH (xx:Nat)] (evs a6) o1 ?_ ?_ ?_ ?_
            ·intro u X;simp only[aZ,dC,or_false]at X;subst X;rfl
            ·simp only[qvs_len,wL_len,dB,cO];omega
            ·exact eT (aV.out.size) Q.size
            ·intro v' w4 aK J;exact O _ _ ⟨aK,(Q.mono (aV.out.size)).trans J⟩ (fun b0=>absurd rfl b0)
           ·have o0:(fun v w'=>Own w' C.heap.size 92 v (qvs (wL B l)++[rD rH (xx:Nat)])/\Below C.heap.size Y w') (a.tmps[161]?.getD undef) wx:=hf.1;obtain⟨v0,aM⟩:=eX (a.tmps[161]?.getD undef);rw[<-aM]at o0;have e0:=aM.symm;clear aM;go_simp;exact O _ _ o0 (fun _=>bR)
          ·rintro f w9 aD;have S9:Own w9 C.heap.size 92 (f 14) (qvs (wL B l)++[rD rH (xx:Nat)])/\Below C.heap.size Y w9:=aD.2.2.2.2.2.2.2.2.2.2.2.2.2.2.2.2.2.2.2.1;clear aD;simp only[Ao,Av,Ej,dG,dH,dJ,dK,Nat.reduceBEq,Nat.reduceAdd,Bool.or_false,Bool.or_true,cond_true,cond_false];obtain⟨u,X⟩:=eX (f 14);rw[<-X]at S9|-;rw[<-Zgs,d8.out]at S9;have U:=Hd (show Own w9 C.heap.size 92 u (qvs (wL B (l+1)))from S9.1);have T:=Hd (aV.out.trans S9.2);clear S9 X;go_wp2_with fail;go_roundg (g5-1);case measure=>have:=HT.out;omega
           case rel=>exact⟨l+1,by have:=HT.out;omega,by go_num,U.out,T.out⟩
        ·obtain rfl:l=64:=(by omega);clear ht hlt;obtain⟨S,hS⟩:=eX (blocksN P HL0 b);have ok:=blocksN_ok P HL0_len HL0_lt b;rw[<-hS]at bB ok;have dA:stepN S B=blocksN P HL0 (b+1):=(by rw[dO.out,blocksN,<-hS]);have aP:=Hd dA;obtain rfl:n2=64:=by
          obtain⟨_,_,e,_⟩:=HK.out;simp only[Value.slice.injEq,qvs_len,KL_len]at e;exact e.2.1
         have cZ:Rd wt (rC a2 64 c2) (qvs KL):=(HK.out.below aJ.out lR).below aC.out lR;have dS:=Hd cZ;have cY:=bB.out.below aC.out lR;have dR:=Hd cY;have cG:=Hd ok;have eO:mb≠z:=(by omega);have eQ:w.heap.size<=wt.heap.size:=eT aJ.out.size aC.out.size;clear hS ok dA cZ cY
         go_upto_region 32 with(fail)
         refine Zeq _ _ _ _ _ _ _ _ _ _ _ _ _ _ _ _ _ _ _ _ _ _ _ _ _ _ _ _ _ _ _ _ _ _ _ _ _ _ _ _ _ _ _ _ _ _ _ _ _ _ _ _ _ _ _ _ _ _ _ _ _ _ _ _ _ _ _ _ _ _ _ _ _ _ _ _ _ _ _ _ _ _ _ _ _ _ _ _ _ _ _ _ _ _ _ _ _ _ _ _ _ _ _ _ _ _ _ _ _ _ _ _ _ _ _ _ _ _ _ _ _ _ _ _ _ _ _ _ _ _ _ _ _ _ _ _ _ _ _ _ _ _ _ _ _ _ _ _ _ _ _ _ _ _ _ _ _ _ _ _ _ _ _ _ _ _ _ _ _ _ _ _ _ _ _ _ _ _ _ _ _ _ _ _ _ _ _ _ _ _ _ _ _ _ _ _ _ _ _ _ _ _ _ _ _ _ _ _ _ _ _ _ _ _ _ _ _ _ _ _ _ _ _ _ _ _ _ _ _ _ _ _ _ _ _ _ _ _ _ _ _ _ _ _ _ _ _ _ _ _ _ _ _ _ _ _ _ _ _ _ _ _ _ _ _ _ _ _ _ _ _ _ _ _ _ _ _ _ _ _ _ _ _ _ _ _ _ _ _ _ _ _ _ _ _ _ _ _ _ _ _ _ _ _ _ _ _ _ _ _ _ _ _ _ _ _ _ _ _ _ _ _ _ _ _ _ _ _ _ _ _ _ _ _ _ _ _ _ _ _ _ _ _ _ _ _ _ _ _ _ _ wt w.heap.size C.heap.size z b3 mb N p3 q3 c2 q1 a2 P S B ?hk aW.out dS.out dR.out cI.out a9.out cG.out.2 cG.out.1 eO eI eQ ?_;case hk=>assumption
         intro f w9 bW cR cL;rw[aP.out]at bW;have dT:=Hd bW;have dZ:=Hd cR;have dM:=Hd (aJ.out.trans ((aC.out.mono aJ.out.size).trans cL));clear bW cR cL;go_wp2_with fail;go_roundg (g4-1);case measure=>have:=cH.out;omega
         case rel=>exact⟨b+1,a+64,by have:=cH.out;omega,by have:=bP.out;omega,by go_num,dT.out,dZ.out,dM.out⟩
      ·obtain rfl:b=nb:=(by omega);clear bX;have cT:a=N:=(by rw[bC,bA.out]);subst cT;obtain⟨S,hS⟩:=eX (blocksN P HL0 b);have ok:=blocksN_ok P HL0_len HL0_lt b;rw[<-hS]at bB ok;have d0:=Hd (show(S.map (beN 4)).flatten=shaF L by
        rw[hS,shaF,<-dY.out,bS.out,Nat.mul_div_cancel_left _ (by omega)])
       have d4:=Hd ok.2;have aP:=Hd ok.1;have e4:decide ((a:Int)<(a:Int))=false:=(by rw[dN];omega);have eL:decide (a<a)=false:=(by rw[dN];omega);clear hS ok bC hlb;go_wp2_with fail
       go_loopg [29,30] 8 (fun q ov iv wr=>∃i:Nat,i+q=8/\iv=rD rF (i:Nat)/\Own wr C.heap.size 5 ov (bvs (Zp S i))/\Below C.heap.size C wr)
       case atStart=>exact⟨0,rfl,rfl,Own.nil _ _ _,bR⟩
       case round=>
        obtain⟨i,hi,rfl,d,bF⟩:=hrel;have HI:=Hd hi;have bV:=Hd d;have aO:=Hd bF;obtain⟨o1,o2,o3,rfl⟩:=Cx d;obtain⟨Y,rfl⟩:∃Y:World,Y=wr:=⟨_,rfl⟩
        by_cases hlt:i<8
        ·have aY:decide ((i:Int)<8)=true:=(by rw[dI];omega);have k0:=((bB.out.below bF lR).at).1 i _ (Hl (L:=S) (by rw[aP.out];exact hlt));have eJ:z<Y.heap.size:=World.block_lt_of_cell? Y ⟨z,i,rI⟩ k0;have fK:(i:Int)<8:=(by omega);have xl:=getD_lt32 d4.out i;have a5:=fun(x:Nat) (hx:x=S.getD i 0) (hl:x<4294967296)=>Zeo aP.out hlt hx hl;obtain⟨x,hx⟩:=eX (S.getD i 0);rw[<-hx]at k0 xl;have a5:=a5 x hx xl;obtain⟨E,aE⟩:=eX (x/16777216);obtain⟨z1,aH⟩:=eX (x/65536);obtain⟨A,aI⟩:=eX (x/256);obtain⟨F,aF⟩:=eX (z1%256);obtain⟨r,aG⟩:=eX (A%256);obtain⟨R,cB⟩:=eX (x%256);rw[<-aE,<-aH,<-aI,<-aF,<-aG,<-cB]at a5;have g0:E<256:=(by omega);have g1:F<256:=(by omega);have g2:r<256:=(by omega);have g3:R<256:=(by omega);have q1:z1<4294967296:=(by omega);have l:A<4294967296:=(by omega);have d5:=Hd a5;have d9:=Hd aE;have eG:=Hd aH;have eH:=Hd aI;have eA:=Hd aF;have eB:=Hd aG;have eE:=Hd cB;clear hi d bF hx a5 aE aH aI aF aG cB;go_wp2_with fail;refine Ja [eF (rC o1 o2 o3),eF (rC (some ⟨z,0,rI⟩) 8 b3),eF (rD rF (i:Nat)),eF (rE (some ⟨z,i,rI⟩)),eF (rD rH (x:Nat)),eF (rD rH (E:Nat)),eF (rD rG (E:Nat)),eF (rC (some ⟨z,0,rI⟩) 8 b3),eF (rD rF (i:Nat)),eF (rE (some ⟨z,i,rI⟩)),eF (rD rH (x:Nat)),eF (rD rH (z1:Nat)),eF (rD rH (F:Nat)),eF (rD rG (F:Nat)),eF (rC (some ⟨z,0,rI⟩) 8 b3),eF (rD rF (i:Nat)),eF (rE (some ⟨z,i,rI⟩)),eF (rD rH (x:Nat)),eF (rD rH (A:Nat)),eF (rD rH (r:Nat)),eF (rD rG (r:Nat)),eF (rC (some ⟨z,0,rI⟩) 8 b3),eF (rD rF (i:Nat)),eF (rE (some ⟨z,i,rI⟩)),eF (rD rH (x:Nat)),eF (rD rH (R:Nat)),eF (rD rG (R:Nat)),fun v w'=>∃g,v=rC (some ⟨g,0,rI⟩) 4 4/\Rd w' v [rD rG (E:Nat),rD rG (F:Nat),rD rG (r:Nat),rD rG (R:Nat)],fun v w'=>Own w' C.heap.size 5 v ((bvs (Zp S i))++[rD rG (E:Nat),rD rG (F:Nat),rD rG (r:Nat),rD rG (R:Nat)])/\Below C.heap.size Y w',fun v w'=>Own w' C.heap.size 5 v ((bvs (Zp S i))++[rD rG (E:Nat),rD rG (F:Nat),rD rG (r:Nat),rD rG (R:Nat)])/\Below C.heap.size Y w']
          ((eK 30 false).set 29 true) ((eK 30 false).set 29 true) 28 (by kernel_rfl) ?_ (by kernel_rfl) (by kernel_rfl) (by kernel_rfl) ?_ ?_
         ·exact kT (kT (kT (kT (kT (kT (kT (kT (kT (kT (kT (kT (kT (kT (kT (kT (kT (kT (kT (kT (kT (kT (kT (kT (kT (kT (kT (Dv (fun v I w2 h z=>let⟨g,e,h2⟩:=h;⟨g,e,h2.below z lR⟩) (Dv (fun v I w2 h z=>⟨Own.below h.1 z lR,h.2.trans (z.mono (eT (aO.out.size) h.2.size))⟩) (Dv (fun v I w2 h z=>⟨Own.below h.1 z lR,h.2.trans (z.mono (eT (aO.out.size) h.2.size))⟩) (Tc))))))))))))))))))))))))))))))
         ·refine gT rfl ?_ (gT rfl ?_ (gT rfl ?_ (gT rfl ?_ (gT rfl ?_ (gU rfl ?_ (gT rfl ?_ (gT rfl ?_ (gT rfl ?_ (gT rfl ?_ (gT rfl ?_ (gU rfl ?_ (gU rfl ?_ (gT rfl ?_ (gT rfl ?_ (gT rfl ?_ (gT rfl ?_ (gT rfl ?_ (gU rfl ?_ (gU rfl ?_ (gT rfl ?_ (gT rfl ?_ (gT rfl ?_ (gT rfl ?_ (gT rfl ?_ (gU rfl ?_ (gT rfl ?_ (gU rfl ?_ (gU rfl ?_ (.cons (Rs ?_) .nil)))))))))))))))))))))))))))));all_goals
           intro a wx Q ho hf;refine⟨rfl,?_⟩;intro K O;try have fH:a.tmps[7]?.getD undef=rC (some ⟨z,0,rI⟩) 8 b3:=ho 7 (by kernel_rfl)
           try have eY:a.tmps[29]?.getD undef=.slice o1 o2 o3:=ho 29 (by kernel_rfl)
           try have eZ:a.tmps[30]?.getD undef=rD rF (i:Nat):=ho 30 (by kernel_rfl)
           try have bO:=eqn hf.1
           try have dL:=eqn hf.2.1
           try have fD:=eqn hf.2.2.1
           try have fE:=eqn hf.2.2.2.1
           try have dE:=(Q.cell (p:=⟨z,i,rI⟩) eJ).trans k0
           try have dF:IntKind.u8.wrap ((E:Int))=(E:Int):=by rw[IntKind.wrap_u8];omega
           try have fA:IntKind.u8.wrap ((F:Int))=(F:Int):=by rw[IntKind.wrap_u8];omega
           try have fB:IntKind.u8.wrap ((r:Int))=(r:Int):=by rw[IntKind.wrap_u8];omega
           try have fC:IntKind.u8.wrap ((R:Int))=(R:Int):=by rw[IntKind.wrap_u8];omega
           try(refine Hd ?_;go_simp;exact O _ rfl)
          ·have aX:(x:Int)/16777216=(E:Int):=(by have:=d9.out;omega);have o:IntKind.u64.wrap ((E:Int))=(E:Int):=(by rw[IntKind.wrap_u64];omega);have s:(x:Int)/16777216=(E:Int):=(by omega);have M:IntKind.u64.wrap ((x:Int)/16777216)=(E:Int):=(by rw[s];exact o);have G:gX ((x:Int)) 16777216=(E:Int):=(by rw[gY (by omega)];omega);have aQ:IntKind.u64.wrap (gX ((x:Int)) 16777216)=(E:Int):=(by rw[G];exact o);go_simp;exact O _ _ rfl (fun _=>bR)
          ·have aX:(x:Int)/65536=(z1:Int):=(by have:=eG.out;omega);have o:IntKind.u64.wrap ((z1:Int))=(z1:Int):=(by rw[IntKind.wrap_u64];omega);have s:(x:Int)/65536=(z1:Int):=(by omega);have M:IntKind.u64.wrap ((x:Int)/65536)=(z1:Int):=(by rw[s];exact o);have G:gX ((x:Int)) 65536=(z1:Int):=(by rw[gY (by omega)];omega);have aQ:IntKind.u64.wrap (gX ((x:Int)) 65536)=(z1:Int):=(by rw[G];exact o);go_simp;exact O _ _ rfl (fun _=>bR)
          ·have aX:(z1:Int)%256=(F:Int):=(by have:=eA.out;omega);have o:IntKind.u64.wrap ((F:Int))=(F:Int):=(by rw[IntKind.wrap_u64];omega);have s:(z1:Int)%256=(F:Int):=(by omega);have M:IntKind.u64.wrap ((z1:Int)%256)=(F:Int):=(by rw[s];exact o);have G:eC ((z1:Int)) 256=(F:Int):=(by rw[eD (by omega)];omega);have aQ:IntKind.u64.wrap (eC ((z1:Int)) 256)=(F:Int):=(by rw[G];exact o);go_simp;exact O _ _ rfl (fun _=>bR)
          ·have aX:(x:Int)/256=(A:Int):=(by have:=eH.out;omega);have o:IntKind.u64.wrap ((A:Int))=(A:Int):=(by rw[IntKind.wrap_u64];omega);have s:(x:Int)/256=(A:Int):=(by omega);have M:IntKind.u64.wrap ((x:Int)/256)=(A:Int):=(by rw[s];exact o);have G:gX ((x:Int)) 256=(A:Int):=(by rw[gY (by omega)];omega);have aQ:IntKind.u64.wrap (gX ((x:Int)) 256)=(A:Int):=(by rw[G];exact o);go_simp;exact O _ _ rfl (fun _=>bR)
          ·have aX:(A:Int)%256=(r:Int):=(by have:=eB.out;omega);have o:IntKind.u64.wrap ((r:Int))=(r:Int):=(by rw[IntKind.wrap_u64];omega);have s:(A:Int)%256=(r:Int):=(by omega);have M:IntKind.u64.wrap ((A:Int)%256)=(r:Int):=(by rw[s];exact o);have G:eC ((A:Int)) 256=(r:Int):=(by rw[eD (by omega)];omega);have aQ:IntKind.u64.wrap (eC ((A:Int)) 256)=(r:Int):=(by rw[G];exact o);go_simp;exact O _ _ rfl (fun _=>bR)
          ·have aX:(x:Int)%256=(R:Int):=(by have:=eE.out;omega);have o:IntKind.u64.wrap ((R:Int))=(R:Int):=(by rw[IntKind.wrap_u64];omega);have s:(x:Int)%256=(R:Int):=(by omega);have M:IntKind.u64.wrap ((x:Int)%256)=(R:Int):=(by rw[s];exact o);have G:eC ((x:Int)) 256=(R:Int):=(by rw[eD (by omega)];omega);have aQ:IntKind.u64.wrap (eC ((x:Int)) 256)=(R:Int):=(by rw[G];exact o);go_simp;exact O _ _ rfl (fun _=>bR)
          ·go_simp;exact O _ _ ⟨_,rfl,(Own.full (B:=wx.heap.size) (cs:=#[rD rG (E:Nat),rD rG (F:Nat),rD rG (r:Nat),rD rG (R:Nat)]) rfl lR (by unfold maxLen;simp) rfl).rd⟩ (fun _=>bR.alloc lR _)
          ·obtain⟨ga,a6,o1⟩:∃g,a.tmps[349]?.getD undef=rC (some ⟨g,0,rI⟩) 4 4/\Rd wx (a.tmps[349]?.getD undef) [rD rG (E:Nat),rD rG (F:Nat),rD rG (r:Nat),rD rG (R:Nat)]:=hf.2.1;rw[a6]at o1;refine Zcd (.tmp 322) (.tmp 349) 28 rfl (C.heap.size) 5 _ 1 Cq _ ((bvs (Zp S i))) (evs bO) ((bV.out).below Q lR) _ [rD rG (E:Nat),rD rG (F:Nat),rD rG (r:Nat),rD rG (R:Nat)] (evs a6) o1 ?_ ?_ ?_ ?_
           ·intro u X;simp only[aZ,dC,or_false]at X;rcases X with rfl|rfl|rfl|rfl<;>rfl
           ·have:=Zia aP.out (show i<=8 by omega);simp only[bvs_len,dB,cO];omega
           ·exact eT (aO.out.size) Q.size
           ·intro v' w4 aK J;exact O _ _ ⟨aK,(Q.mono (aO.out.size)).trans J⟩ (fun b0=>absurd rfl b0)
          ·have o0:(fun v w'=>Own w' C.heap.size 5 v ((bvs (Zp S i))++[rD rG (E:Nat),rD rG (F:Nat),rD rG (r:Nat),rD rG (R:Nat)])/\Below C.heap.size Y w') (a.tmps[350]?.getD undef) wx:=hf.1;obtain⟨v0,aM⟩:=eX (a.tmps[350]?.getD undef);rw[<-aM]at o0;have e0:=aM.symm;clear aM;go_simp;exact O _ _ o0 (fun _=>bR)
         ·rintro f w9 aD;have S9:Own w9 C.heap.size 5 (f 29) ((bvs (Zp S i))++[rD rG (E:Nat),rD rG (F:Nat),rD rG (r:Nat),rD rG (R:Nat)])/\Below C.heap.size Y w9:=aD.2.2.2.2.2.2.2.2.2.2.2.2.2.2.2.2.2.2.2.2.2.2.2.2.2.2.2.2.2.1;clear aD;simp only[Ao,Av,Ej,dG,dH,dJ,dK,Nat.reduceBEq,Nat.reduceAdd,Bool.or_false,Bool.or_true,cond_true,cond_false];obtain⟨u,X⟩:=eX (f 29);rw[<-X]at S9|-;have U:=Hd (show Own w9 C.heap.size 5 u (bvs (Zp S (i+1))) by rw[d5.out,Cl];exact S9.1);have T:=Hd (aO.out.trans S9.2);clear S9 X;go_wp2_with fail;go_roundg (gk-1);case measure=>have:=HI.out;omega
          case rel=>exact⟨i+1,by have:=HI.out;omega,by go_num,U.out,T.out⟩
        ·obtain rfl:i=8:=(by omega);have aY:decide (((8:Nat):Int)<8)=false:=(by decide);rw[Zib aP.out,d0.out]at bV;clear hi d bF hlt;go_wp2_with fail;go_ret;exact⟨_,rfl,bV.out.mono aJ.out.size,aJ.out.trans (aO.out.mono aJ.out.size)⟩
