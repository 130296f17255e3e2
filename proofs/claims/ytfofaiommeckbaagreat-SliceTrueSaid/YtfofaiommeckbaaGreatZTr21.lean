import Derived.Deep.Cut
import Derived.Test.YtfofaiommeckbaaGreatZTr20
open Go.Obj renaming cells -> rK
open Go.Ending renaming returned -> rM
open Go.Value renaming slice -> rD, int -> rE, pointer -> rF
open Go.IntKind renaming i64 -> rG, u8 -> rH, u64 -> rI
open Option renaming none -> rJ
open List renaming replicate -> cJ, length_cons -> dB, length_nil -> bU, getD_eq_getElem?_getD -> aE, mem_cons -> aB, not_mem_nil -> dC, filterMap_cons -> dG, filterMap_nil -> dH, contains_cons -> dJ, contains_nil -> dK
open Nat renaming zero_le -> aI, pow_le_pow_right -> aZ, le_trans -> eN, lt_or_ge -> aJ
open Int renaming tmod -> eL, tmod_eq_emod_of_nonneg -> eM, tdiv -> fR, tdiv_eq_ediv_of_nonneg -> fS
set_option linter.unusedVariables false
set_option maxRecDepth 100000
set_option maxHeartbeats 40000000
namespace Go.Proofs.YtfofaiommeckbaaGreat
open Go.RowKit ShaM WireM
theorem Zi9 (v vh vk:Value)(L:List Nat)(w:World)(h:Rd w v (bvs L))(hh:Rd w vh (qvs HL0))(hk:Rd w vk (qvs KL))(hL:∀x∈L,x<256)(hl:L.length<=1000000):
  Calls Tryz.prog 144 #[v,vh,vk] w fun e w'=>∃v',e=rM v'/\Own w' w.heap.size 5 v' (bvs (shaF L))/\Below w.heap.size w w':=by
 have hv:∃a c,v=.slice a L.length c:=(by obtain⟨a,c,e,_⟩:=h;exact⟨a,c,by rw[e,bvs_len]⟩);obtain⟨a0,c0,rfl⟩:=hv;obtain⟨a1,n1,c1,rfl⟩:=Znq hh;obtain⟨a2,n2,c2,rfl⟩:=Znq hk;obtain⟨n,hn⟩:=eX L.length;rw[<-hn]at h hl|-;obtain⟨Z,hZ⟩:=eX ((119-n%64)%64);have cT:tailL n=([128]++cJ Z 0)++beN 8 (8*n):=(by rw[tailL,<-hZ];simp);have HN:=Hd hn;have HZ:=Hd hZ;have d7:=Hd cT;have H:=Hd h;have HH:=Hd hh;have HK:=Hd hk;have HL:=Hd hL;clear hn hZ cT h hh hk hL;go_in;go_wp2_with (first|(at_builtin;refine An rfl (.tmp 31) (.tmp 32) 181 rfl w.heap.size 92 _ 8 Znb _ [] rfl (Own.lit0 rfl lR) _ (qvs HL0) rfl (HH.out.alloc _) (Vm _) ?c2 ?c3 ?_));case c2=>rw[qvs_len,HL0_len];simp
 case c3=>simp
 rintro v1 I d-bE;have bT:=Hd d;have a8:=Hd (((Below.refl w.heap.size w).alloc lR (rK #[] 92)).trans bE);obtain⟨b1,b2,b3,rfl⟩:=Dr d;have R1:=Hd (show Rd (I.alloc (rK #[] 5)) (rD a0 n c0) (bvs L)from(H.out.below a8.out lR).alloc _);have O1:=Hd (show Own (I.alloc (rK #[] 5)) I.heap.size 5 (rD (some ⟨I.heap.size,0,rJ⟩) 0 0) []from Own.lit0 rfl lR);clear d bE;go_wp2_with (first|(at_builtin;refine An rfl (.tmp 34) (.tmp 35) 28 rfl I.heap.size 5 _ 1 Ca _ [] rfl O1.out _ (bvs L) rfl R1.out (By _) ?d2 ?d3 ?_));case d2=>rw[bvs_len,<-HN.out];simp;omega
 case d3=>simp
 rintro v2 w2 d-bF;have cF:=Hd d;have a9:=Hd (((Below.refl I.heap.size I).alloc lR (rK #[] 5)).trans bF);obtain⟨d1,d2,d3,rfl⟩:=Dr d;clear d bF;have O2:=Hd (cF.out.alloc (rK #[rE rH 128] 5));have R2:=Hd (show Rd (w2.alloc (rK #[rE rH 128] 5)) (rD (some ⟨w2.heap.size,0,rJ⟩) 1 1) (bvs [128])from(Own.full (B:=0) (cs:=#[rE rH 128]) rfl (aI _) (by unfold maxLen;simp) rfl).rd);go_wp2_with (first|(at_builtin;refine An rfl (.tmp 36) (.tmp 37) 28 rfl I.heap.size 5 _ 1 Ca _ (bvs L) rfl O2.out _ (bvs [128]) rfl R2.out (By _) ?e2 ?e3 ?_));case e2=>rw[bvs_len,<-HN.out,bvs_len];simp;omega
 case e3=>have:=a9.out.size;simp;omega
 rintro v3 w3 d-cV;rw[<-Cj]at d;have cG:=Hd d;have cD:=Hd ((a9.out.alloc a9.out.size (rK #[rE rH 128] 5)).trans cV);obtain⟨e1,e2,e3,rfl⟩:=Dr d;clear d cV O1 R1 O2 R2 a9 cF;go_wp2_with fail
 go_loopg [8] Z (fun q m wr=>∃j:Nat,j+q=Z/\Own wr I.heap.size 5 m (bvs (Zcu L j))/\Below I.heap.size I wr)
 case atStart=>exact⟨0,by omega,by rw[Zfg];exact cG.out,cD.out⟩
 case round=>
  obtain⟨j,hj,d,z⟩:=hrel;obtain⟨m1,m2,m3,rfl⟩:=Dr d;have eO:m2=n+1+j:=by
   obtain⟨_,_,e,_⟩:=d.rd;simp only[Value.slice.injEq,bvs_len,Sd]at e;have:=HN.out;omega
  subst eO;have HJ:=Hd hj;have bV:=Hd d;have aV:=Hd z;have hz:=HZ.out
  by_cases hlt:j<Z
  ·have hc:(((n+1+j:Nat):Int)%64 !=56)=true:=(by simp;omega);have OJ:=Hd (bV.out.alloc (rK #[rE rH 0] 5));have RJ:=Hd (show Rd (wr.alloc (rK #[rE rH 0] 5)) (rD (some ⟨wr.heap.size,0,rJ⟩) 1 1) (bvs [0])from(Own.full (B:=0) (cs:=#[rE rH 0]) rfl (aI _) (by unfold maxLen;simp) rfl).rd);clear hj d z hz;go_wp2_with (first|(at_builtin;refine An rfl (.tmp 43) (.tmp 44) 28 rfl I.heap.size 5 _ 1 Ca _ _ rfl OJ.out _ (bvs [0]) rfl RJ.out (By _) ?f2 ?f3 ?_));case f2=>simp only[bvs_len,Sd,dB,bU];have:=HN.out;have:=HZ.out;omega
   case f3=>have:=aV.out.size;simp;omega
   rintro v4 w4 d-J;rw[<-Cj,<-Zfh]at d;have U:=Hd d;have T:=Hd ((aV.out.alloc aV.out.size (rK #[rE rH 0] 5)).trans J);obtain⟨f1,f2,f3,rfl⟩:=Dr d;clear d J OJ RJ;go_wp2_with fail;go_roundg (gk-1);case measure=>have:=HJ.out;omega
   case rel=>exact⟨j+1,by have:=HJ.out;omega,U.out,T.out⟩
  ·obtain rfl:j=Z:=(by omega);have hc:(((n+1+j:Nat):Int)%64 !=56)=false:=(by simp;omega);clear hj d z hz hlt;obtain⟨C,rfl⟩:∃C:World,C=wr:=⟨_,rfl⟩;go_wp2_with fail;have cX:(((n:Int)+1+(j:Int))%64 !=56)=false:=(by simpa using hc);simp only[cX];clear cX hc;have HQ:=Hd (show Own C I.heap.size 5 (.slice m1 (n+1+j) m3) (bvs (Zb7 L j 0)) by rw[Zfi];exact bV.out)
   go_loopg [8,10] 8 (fun q m iv wr=>∃i:Nat,i+q=8/\iv=rE rG (i:Nat)/\Own wr I.heap.size 5 m (bvs (Zb7 L j i))/\Below I.heap.size I wr)
   case atStart=>exact⟨0,rfl,rfl,HQ.out,aV.out⟩
   case round=>
    obtain⟨i,hi,rfl,d,z⟩:=hrel;have HI:=Hd hi;have V:=Hd d;have aP:=Hd z;obtain⟨p1,p2,p3,rfl⟩:=Dr d;clear d z;obtain⟨wi,rfl⟩:∃wi:World,wi=wr:=⟨_,rfl⟩;obtain⟨g2,rfl⟩:=eX gk
    by_cases hlt:i<8
    ·have a3:decide ((i:Int)<8)=true:=(by rw[dI];omega);clear hi;go_wp2_with fail
     go_loopg [11,12] (7-i) (fun q uv kv wr=>∃k u:Nat,k+q=7-i/\kv=rE rG (k:Nat)/\uv=rE rI (u:Nat)/\u=256^k/\wi=wr)
     case atStart=>exact⟨0,1,by omega,rfl,rfl,rfl,rfl⟩
     case round=>
      obtain⟨k,u,hk,rfl,rfl,X,rfl⟩:=hrel;have dE:u<=256^7:=(by rw[X];exact aZ (by omega) (by omega));have fQ:0<u:=(by rw[X];exact Nat.pow_pos (by omega));have HU:=Hd X;have cE:=Hd hk
      by_cases hlk:k<7-i
      ·have c6:decide ((k:Int)<7-(i:Int))=true:=(by rw[dI];omega);have fP:u<=256^6:=(by rw[X];exact aZ (by omega) (by omega));clear hk X dE;go_wp2_with fail;go_roundg (gk-1);case measure=>have:=cE.out;omega
       case rel=>exact⟨k+1,u*256,by have:=cE.out;omega,by go_num,by go_num,by rw[HU.out,Nat.pow_succ],rfl⟩
      ·have c6:decide ((k:Int)<7-(i:Int))=false:=(by rw[dN];omega);obtain rfl:k=7-i:=(by omega);obtain⟨x,hx⟩:∃x:Nat,x=8*n/u:=⟨_,rfl⟩;have fV:x<=8000000:=(by rw[hx];exact eN (Nat.div_le_self _ _) (by omega));have fW:(n:Int)*8/(u:Int)=(x:Int):=(by rw[hx,Int.natCast_ediv,Nat.mul_comm 8 n];rfl);have HX:=Hd hx;have aT:p2=n+1+j+i:=by
        obtain⟨_,_,e,_⟩:=V.out.rd;simp only[Value.slice.injEq,bvs_len]at e;rw[Zad _ _ (by omega)]at e;have:=HN.out;omega
       subst aT;have fN:¬u=0:=(by omega);have fO:¬(u:Int)=0:=(by omega);clear hk X hx dE;have OI:=Hd (V.out.alloc (rK #[rE rH ((x:Int)%256)] 5));have RI:=Hd (show Rd (wi.alloc (rK #[rE rH ((x:Int)%256)] 5)) (rD (some ⟨wi.heap.size,0,rJ⟩) 1 1) (bvs [x%256])from(Own.full (B:=0) (cs:=#[rE rH ((x:Int)%256)]) rfl (aI _) (by unfold maxLen;simp) rfl).rd);go_wp2_with (first|(at_builtin;refine An rfl (.tmp 62) (.tmp 68) 28 rfl I.heap.size 5 _ 1 Ca _ _ rfl OI.out _ (bvs [x%256]) rfl RI.out (By _) ?g2 ?g3 ?_));case g2=>simp only[bvs_len,dB,bU];rw[Zad _ _ (by omega)];have:=HN.out;have:=HZ.out;omega
       case g3=>have:=aP.out.size;simp;omega
       rintro v4 w4 d-J;have ex:x=8*L.length/256^(7-i):=(by rw[HX.out,HU.out,HN.out]);rw[<-Cj,ex,<-Zfj _ _ hlt]at d;have U:=Hd d;have T:=Hd ((aP.out.alloc aP.out.size (rK #[rE rH ((x:Int)%256)] 5)).trans J);obtain⟨f1,f2,f3,rfl⟩:=Dr d;clear d J OI RI ex;go_wp2_with fail;go_roundg (g2-1);case measure=>have:=HI.out;omega
       case rel=>exact⟨i+1,by have:=HI.out;omega,by go_num,U.out,T.out⟩
    ·obtain rfl:i=8:=(by omega);clear hi;go_wp2_with fail;have cR:Zb7 L j 8=padL L:=(by have e1:=HZ.out;have e2:=HN.out;rw[e1,e2];exact Zi6 L);rw[cR]at V;have c9:=padL_len L;have b8:=Zei HL.out;have a5:=Uc L;obtain⟨P,hP⟩:=eX (padL L);rw[<-hP]at V c9 b8 a5;obtain⟨nb,b0⟩:∃nb,P.length=64*nb:=⟨P.length/64,by omega⟩;have e8:0<nb:=by
      rcases Nat.eq_zero_or_pos nb with h|h
      ·have:P.length=0:=(by rw[b0,h]);rw[hP,padL,List.length_append,tailL,dB]at this;omega
      ·exact h
     have aT:p2=64*nb:=by
      obtain⟨_,_,e,_⟩:=V.out.rd;simp only[Value.slice.injEq,bvs_len]at e;omega
     obtain⟨mb,aN,fL,e7⟩:∃mb,p1=some ⟨mb,0,rJ⟩/\I.heap.size<=mb/\mb<wi.heap.size:=by
      rcases V.out.2 with⟨e,e0⟩|⟨g,cp,cL,e,z,hg,_⟩
      ·simp only[Value.slice.injEq]at e;omega
      ·simp only[Value.slice.injEq]at e;refine⟨g,e.1,z,?_⟩;rcases aJ g wi.heap.size with h|h
       ·exact h
       ·rw[Array.getElem?_eq_none h]at hg;cases hg
     obtain⟨z,bE,eH,fJ,bF⟩:∃z,b1=some ⟨z,0,rJ⟩/\w.heap.size<=z/\z<I.heap.size/\b2=8:=by
      rcases bT.out.2 with⟨e,e0⟩|⟨g,cp,cL,e,z,hg,_⟩
      ·simp[HL0_len]at e0
      ·simp only[Value.slice.injEq]at e;refine⟨g,e.1,z,?_,by rw[e.2.1];simp[HL0_len]⟩;rcases aJ g I.heap.size with h|h
       ·exact h
       ·rw[Array.getElem?_eq_none h]at hg;cases hg
     subst aT aN bE bF;obtain⟨N,hN⟩:=eX (64*nb);have bB:=Hd hN;have fI:N<=1000072:=(by have:=HN.out;omega);rw[<-hN]at V;have dV:=Hd (show Own wi w.heap.size 92 (rD (some ⟨z,0,rJ⟩) 8 b3) (qvs HL0)from bT.out.below aP.out lR);have dX:=Hd V.out.rd;have dR:=Hd (a8.out.trans (aP.out.mono a8.out.size));have dZ:=Hd hP;have bS:=Hd b0;have fG:=Hd a5;rw[<-hN];clear c9 hP cR b0 a5 aP V cG cD bT hN;clear a8 HQ bV aV d7;go_wp2_with fail
     go_loopg [13] nb (fun q av wr=>∃b a:Nat,b+q=nb/\a=64*b/\av=rE rG (a:Nat)/\Own wr w.heap.size 92 (rD (some ⟨z,0,rJ⟩) 8 b3) (qvs (blocksN P HL0 b))/\Rd wr (rD (some ⟨mb,0,rJ⟩) N p3) (bvs P)/\Below w.heap.size w wr)
     case atStart=>exact⟨0,0,by omega,rfl,rfl,dV.out,dX.out,dR.out⟩
     case round=>
      obtain⟨b,a,bY,bD,rfl,c7,dA,cW⟩:=hrel;have bC:=Hd c7;have dY:=Hd dA;have aL:=Hd cW;have cI:=Hd bY;have bQ:=Hd bD;clear c7 dA cW;obtain⟨C,rfl⟩:∃C:World,C=wr:=⟨_,rfl⟩;obtain⟨g4,rfl⟩:=eX gk
      by_cases hlb:b<nb
      ·have cU:a+64<=N:=(by have:=bB.out;omega);have e5:decide ((a:Int)<(N:Int))=true:=(by rw[dI];omega);have eK:decide (a<N)=true:=(by rw[dI];omega);obtain⟨B,hB⟩:=eX ((P.drop (64*b)).take 64);have cQ:B.length=64:=(by rw[hB,List.length_take,List.length_drop,bS.out,<-bB.out,<-bQ.out];omega);have cO:∀x∈B,x<256:=fun x hx=>b8 x (List.mem_of_mem_drop (List.mem_of_mem_take (hB▸hx)));have cP:∀j,j<64->B.getD j 0=P.getD (a+j) 0:=by
        intro j hj;rw[hB,aE,List.getElem?_take,iP hj,List.getElem?_drop,<-bQ.out,aE]
       have dQ:=Hd cP;have dP:=Hd hB;have fF:=Hd cQ;have bA:=Hd cO;clear hB bY cP cQ cO bD;go_wp2_with fail
       go_loopg [14,15] 64 (fun q wl tv wr=>∃t:Nat,t+q=64/\tv=rE rG (t:Nat)/\Own wr C.heap.size 92 wl (qvs (wL B t))/\Below C.heap.size C wr)
       case atStart=>exact⟨0,rfl,rfl,Own.nil _ _ _,bR⟩
       case round=>
        obtain⟨t,ht,rfl,d,bZ⟩:=hrel;have HT:=Hd ht;have aX:=Hd d;have aA:=Hd bZ;obtain⟨q1,l,q3,rfl⟩:=Dr d;obtain⟨wt,rfl⟩:∃wt:World,wt=wr:=⟨_,rfl⟩;obtain⟨g5,rfl⟩:=eX gk;obtain rfl:l=t:=by
         obtain⟨_,_,e,_⟩:=d.rd;simp only[Value.slice.injEq,qvs_len,wL_len]at e;exact e.2.1
        have cK:=Hd (dY.out.below bZ lR);clear d bZ
        by_cases hlt:l<64
        ·have a3:decide ((l:Int)<64)=true:=(by rw[dI];omega);clear ht
         by_cases h16:l<16
         ·have cM:decide ((l:Int)<16)=true:=(by rw[dI];omega);go_wp2_with fail
          go_loopg [16,17] 4 (fun q xv iv wr=>∃i x:Nat,i+q=4/\iv=rE rG (i:Nat)/\xv=rE rI (x:Nat)/\x=xN B l i/\wt=wr)
          case atStart=>exact⟨0,0,rfl,rfl,rfl,rfl,rfl⟩
          case round=>
           obtain⟨i,x,hi,rfl,rfl,hx,rfl⟩:=hrel;have HI:=Hd hi;have HX:=Hd hx
           by_cases hli:i<4
           ·have e6:decide ((i:Int)<4)=true:=(by rw[dI];omega);have fT:x<16777216:=(by rw[hx];exact Zmz bA.out l hli);obtain⟨p0,a4⟩:=eX (a+4*l);obtain⟨p1,aN⟩:=eX (p0+i);have i0:(a:Int)+4*(l:Int)=(p0:Int):=(by omega);have i1:(p0:Int)+(i:Int)=(p1:Int):=(by omega);have l0:p0<N:=(by omega);have l1:p1<N:=(by omega);have hy:=cK.out.at3 (Qs (show p1<P.length by rw[bS.out,<-bB.out];exact l1));obtain⟨_,_,e,fM,hc⟩:=hy;simp only[Option.some.injEq,Addr.mk.injEq,and_true]at e;obtain⟨rfl,rfl⟩:=e;rw[Nat.zero_add]at hc;obtain⟨y,bM⟩:=eX (P.getD p1 0);rw[<-bM]at hc;have eS:y<256:=(by rw[bM];exact Gu b8 (by omega) _);have HY:=Hd (show y=B.getD (4*l+i) 0 by rw[dQ.out _ (by omega),bM,aN,a4,Nat.add_assoc]);clear hi hx a4 aN bM;go_wp2_with fail;go_roundg (gk-1);case measure=>have:=HI.out;omega
            case rel=>exact⟨i+1,256*x+y,by have:=HI.out;omega,by go_num,by go_num,by rw[xN,<-HX.out,<-HY.out],rfl⟩
           ·obtain rfl:i=4:=(by omega);have fU:x<4294967296:=(by rw[hx];exact Zm0 bA.out l);clear hi hx hli;have d8:=Hd (show x=wNext B (wL B l) l by rw[HX.out];exact Zlu _ _ h16);have OT:=Hd (aX.out.alloc (rK #[rE rI (x:Int)] 92));have RT:=Hd (show Rd (wt.alloc (rK #[rE rI (x:Int)] 92)) (rD (some ⟨wt.heap.size,0,rJ⟩) 1 1) (qvs [x])from Rd.lit _ _ _ _ _ rfl rfl (by unfold maxLen;simp));go_wp2_with (first|(at_builtin;refine An rfl (.tmp 99) (.tmp 101) 181 rfl C.heap.size 92 _ 8 Znb _ _ rfl OT.out _ (qvs [x]) rfl RT.out (Vm _) ?h2 ?h3 ?_));case h2=>simp only[qvs_len,wL_len,dB,bU];omega
            case h3=>have:=aA.out.size;simp;omega
            rintro v4 w4 d-J;rw[<-Za4,d8.out]at d;have U:=Hd (show Own w4 C.heap.size 92 v4 (qvs (wL B (l+1)))from d);have T:=Hd ((aA.out.alloc aA.out.size (rK #[rE rI (x:Int)] 92)).trans J);clear d J OT RT;go_wp2_with fail;go_roundg (g5-1);case measure=>have:=HT.out;omega
            case rel=>exact⟨l+1,by have:=HT.out;omega,by go_num,U.out,T.out⟩
         ·have cM:decide ((l:Int)<16)=false:=(by rw[dN];omega);obtain⟨gw,eQ⟩:∃g,q1=some ⟨g,0,rJ⟩:=by
           rcases aX.out.2 with⟨e,e0⟩|⟨g,cp,cL,e,_⟩
           ·simp only[Value.slice.injEq]at e;omega
           ·simp only[Value.slice.injEq]at e;exact⟨g,e.1⟩
          subst eQ;have CC:=fun(j:Nat) (hj:j<l)=>(aX.out.at).1 j _ (Hq (L:=wL B l) (i:=j) (by rw[wL_len];exact hj));have wl:=wL_lt bA.out l;obtain⟨p0,a4⟩:=eX (l-15);obtain⟨p1,aN⟩:=eX (l-2);obtain⟨p2,aT⟩:=eX (l-7);obtain⟨p4,c8⟩:=eX (l-16);have i0:(l:Int)-15=(p0:Int):=(by omega);have i1:(l:Int)-2=(p1:Int):=(by omega);have i2:(l:Int)-7=(p2:Int):=(by omega);have i4:(l:Int)-16=(p4:Int):=(by omega);have l0:p0<l:=(by omega);have l1:p1<l:=(by omega);have l2:p2<l:=(by omega);have l4:p4<l:=(by omega);have m0:(p0:Int)<(l:Int):=(by omega);have m1:(p1:Int)<(l:Int):=(by omega);have m2:(p2:Int)<(l:Int):=(by omega);have m4:(p4:Int)<(l:Int):=(by omega);have c0:=CC p0 l0;have c1:=CC p1 l1;have c2:=CC p2 l2;have c4:=CC p4 l4;obtain⟨E,aD⟩:=eX ((wL B l).getD p0 0);obtain⟨F,aF⟩:=eX ((wL B l).getD p1 0);obtain⟨r,aG⟩:=eX ((wL B l).getD p2 0);obtain⟨y4,bL⟩:=eX ((wL B l).getD p4 0);rw[<-aD]at c0;rw[<-aF]at c1;rw[<-aG]at c2;rw[<-bL]at c4;have x0:E<4294967296:=(by rw[aD];exact getD_lt32 wl _);have x1:F<4294967296:=(by rw[aF];exact getD_lt32 wl _);have x2:r<4294967296:=(by rw[aG];exact getD_lt32 wl _);have x4:y4<4294967296:=(by rw[bL];exact getD_lt32 wl _);obtain⟨r1,bH⟩:=eX (rot E 7);obtain⟨r2,bI⟩:=eX (rot E 18);obtain⟨r3,bJ⟩:=eX (rot F 17);obtain⟨r4,bK⟩:=eX (rot F 19);obtain⟨s1,b9⟩:=eX (E/8);obtain⟨s2,cA⟩:=eX (F/1024);have R1:=Hd (fun W=>Pa E 7 r1 7 rfl x0 (by omega) bH W);have R2:=Hd (fun W=>Pa E 18 r2 18 rfl x0 (by omega) bI W);have R3:=Hd (fun W=>Pa F 17 r3 17 rfl x1 (by omega) bJ W);have R4:=Hd (fun W=>Pa F 19 r4 19 rfl x1 (by omega) bK W);have S1:=Hd (fun W=>Zkk E 3 s1 3 rfl x0 (by omega) b9 W);have S2:=Hd (fun W=>Zkk F 10 s2 10 rfl x1 (by omega) cA W);have b1:r1<4294967296:=(by rw[bH];exact rot_lt x0 (by omega));have b2:r2<4294967296:=(by rw[bI];exact rot_lt x0 (by omega));have b3:r3<4294967296:=(by rw[bJ];exact rot_lt x1 (by omega));have b4:r4<4294967296:=(by rw[bK];exact rot_lt x1 (by omega));have X1:=u64_xor_nat r1 r2 (by omega) (by omega);have X2:=u64_xor_nat (r1^^^r2) s1 (by have:=xor_lt32 b1 b2;omega) (by omega);have X3:=u64_xor_nat r3 r4 (by omega) (by omega);have X4:=u64_xor_nat (r3^^^r4) s2 (by have:=xor_lt32 b3 b4;omega) (by omega);obtain⟨z1,aH⟩:=eX (r1^^^r2);obtain⟨z3,bN⟩:=eX (r3^^^r4);rw[<-aH]at X1 X2;rw[<-bN]at X3 X4;obtain⟨A,aK⟩:=eX (z1^^^s1);obtain⟨D,bO⟩:=eX (z3^^^s2);rw[<-aK]at X2;rw[<-bO]at X4;have HV:=Hd (show(D+r+A+y4)%4294967296=wNext B (wL B l) l by
           unfold wNext;rw[iN h16,s0N,s1N,<-a4,<-aN,<-aT,<-c8,<-aD,<-aF,<-aG,<-bL,<-bH,<-bI,<-bJ,<-bK,<-aH,<-bN,<-b9,<-cA,<-aK,<-bO])
          have b5:A<4294967296:=(by rw[aK,aH];exact xor_lt32 (xor_lt32 b1 b2) (by omega));have b6:D<4294967296:=(by rw[bO,bN];exact xor_lt32 (xor_lt32 b3 b4) (by omega));clear a4 aN aT c8 aD aF aG bL CC wl b9 cA bH bI bJ bK aH aK bN bO;go_wp2_with fail
          go_quiet ((first|(go_at_call 195;first|with_reducible exact Calls.quiet_of_same (R1.out _)|with_reducible exact Calls.quiet_of_same (R2.out _))|(go_at_call 196;with_reducible exact Calls.quiet_of_same (S1.out _))))
          obtain⟨na,rfl⟩:=eX nq;go_wp2_with fail
          go_quiet ((first|(go_at_call 195;first|with_reducible exact Fd (R3.out _)|with_reducible exact Fd (R4.out _))|(go_at_call 196;with_reducible exact Fd (S2.out _))))
          obtain⟨nd,rfl⟩:=eX nq;go_wp2_with fail;obtain⟨Y,aU⟩:=eX ((wt.drewN na).drewN nd);rw[<-aU];have dW:=Hd (show Own Y C.heap.size 92 (rD (some ⟨gw,0,rJ⟩) l q3) (qvs (wL B l)) by rw[aU];exact(aX.out.drewN _).drewN _);have aW:=Hd (show Below C.heap.size C Y by rw[aU];exact Ab (Ab aA.out _) _);have k2:Y.cell? ⟨gw,p2,rJ⟩=some (rE rI (r:Int)):=(by rw[aU];exact c2);have k4:Y.cell? ⟨gw,p4,rJ⟩=some (rE rI (y4:Int)):=(by rw[aU];exact c4);clear c0 c1 c2 c4 aU;obtain⟨xx,cB⟩:∃x:Nat,x=wNext B (wL B l) l:=⟨_,rfl⟩;have d9:=Hd cB;have e9:((D:Int)+(r:Int)+(A:Int)+(y4:Int))%4294967296=(xx:Int):=(by rw[cB,<-HV.out];omega);have cY:gw<Y.heap.size:=World.block_lt_of_cell? _ _ k2;clear cB;refine Iu [eF (rD (some ⟨gw,0,rJ⟩) l q3),eF (rE rI (D:Nat)),eF (rD (some ⟨gw,0,rJ⟩) l q3),eF (rE rG (l:Nat)),eF (rE rG (p2:Nat)),eF (rF (some ⟨gw,p2,rJ⟩)),eF (rE rI (r:Nat)),eF (rE rI ((D:Int)+(r:Int))),eF (rE rI (A:Nat)),eF (rE rI ((D:Int)+(r:Int)+(A:Int))),eF (rD (some ⟨gw,0,rJ⟩) l q3),eF (rE rG (l:Nat)),eF (rE rG (p4:Nat)),eF (rF (some ⟨gw,p4,rJ⟩)),eF (rE rI (y4:Nat)),eF (rE rI ((D:Int)+(r:Int)+(A:Int)+(y4:Int))),eF (rE rI (xx:Nat)),fun v w'=>∃g,v=rD (some ⟨g,0,rJ⟩) 1 1/\Rd w' v [rE rI (xx:Nat)],fun v w'=>Own w' C.heap.size 92 v (qvs (wL B l)++[rE rI (xx:Nat)])/\Below C.heap.size Y w',fun v w'=>Own w' C.heap.size 92 v (qvs (wL B l)++[rE rI (xx:Nat)])/\Below C.heap.size Y w']
           ((cJ 20 false).set 19 true) ((cJ 20 false).set 19 true) 18 (by kernel_rfl) ?_ (by kernel_rfl) (by kernel_rfl) (by kernel_rfl) ?_ ?_
          ·exact kT (kT (kT (kT (kT (kT (kT (kT (kT (kT (kT (kT (kT (kT (kT (kT (kT (Dt (fun v I w2 h z=>let⟨g,e,h2⟩:=h;⟨g,e,h2.below z lR⟩) (Dt (fun v I w2 h z=>⟨Own.below h.1 z lR,h.2.trans (z.mono (eN (aW.out.size) h.2.size))⟩) (Dt (fun v I w2 h z=>⟨Own.below h.1 z lR,h.2.trans (z.mono (eN (aW.out.size) h.2.size))⟩) (Sy))))))))))))))))))))
          ·refine gT rfl ?_ (gT rfl ?_ (gT rfl ?_ (gT rfl ?_ (gU rfl ?_ (gT rfl ?_ (gT rfl ?_ (gU rfl ?_ (gT rfl ?_ (gU rfl ?_ (gT rfl ?_ (gT rfl ?_ (gU rfl ?_ (gT rfl ?_ (gT rfl ?_ (gU rfl ?_ (gU rfl ?_ (gU rfl ?_ (gU rfl ?_ (.cons (Rn ?_) .nil)))))))))))))))))));all_goals
            intro a wx Q ho hf;refine⟨rfl,?_⟩;intro K O;try have eT:a.tmps[14]?.getD undef=rD (some ⟨gw,0,rJ⟩) l q3:=ho 14 (by kernel_rfl)
            try have eU:a.tmps[15]?.getD undef=rE rG (l:Nat):=ho 15 (by kernel_rfl)
            try have eV:a.tmps[18]?.getD undef=rE rI (A:Nat):=ho 18 (by kernel_rfl)
            try have eW:a.tmps[19]?.getD undef=rE rI (D:Nat):=ho 19 (by kernel_rfl)
            try have bP:=eqn hf.1
            try have dM:=eqn hf.2.1
            try have dF:=(Q.cell (p:=⟨gw,p2,rJ⟩) cY).trans k2
            try have dL:=(Q.cell (p:=⟨gw,p4,rJ⟩) cY).trans k4
            try(refine Hd ?_;go_simp;exact O _ rfl)
           ·have o:IntKind.i64.wrap ((p2:Int))=(p2:Int):=(by rw[IntKind.wrap_i64];omega);have s:(l:Int)-7=(p2:Int):=(by omega);have M:IntKind.i64.wrap ((l:Int)-7)=(p2:Int):=(by rw[s];exact o);go_simp;exact O _ _ rfl (fun _=>bR)
           ·have o:IntKind.u64.wrap (((D:Int)+(r:Int)))=((D:Int)+(r:Int)):=(by rw[IntKind.wrap_u64];omega);have s:(D:Int)+(r:Int)=((D:Int)+(r:Int)):=(by omega);have M:IntKind.u64.wrap ((D:Int)+(r:Int))=((D:Int)+(r:Int)):=(by rw[s];exact o);go_simp;exact O _ _ rfl (fun _=>bR)
           ·have o:IntKind.u64.wrap (((D:Int)+(r:Int)+(A:Int)))=((D:Int)+(r:Int)+(A:Int)):=(by rw[IntKind.wrap_u64];omega);have s:((D:Int)+(r:Int))+(A:Int)=((D:Int)+(r:Int)+(A:Int)):=(by omega);have M:IntKind.u64.wrap (((D:Int)+(r:Int))+(A:Int))=((D:Int)+(r:Int)+(A:Int)):=(by rw[s];exact o);go_simp;exact O _ _ rfl (fun _=>bR)
           ·have o:IntKind.i64.wrap ((p4:Int))=(p4:Int):=(by rw[IntKind.wrap_i64];omega);have s:(l:Int)-16=(p4:Int):=(by omega);have M:IntKind.i64.wrap ((l:Int)-16)=(p4:Int):=(by rw[s];exact o);go_simp;exact O _ _ rfl (fun _=>bR)
           ·have o:IntKind.u64.wrap (((D:Int)+(r:Int)+(A:Int)+(y4:Int)))=((D:Int)+(r:Int)+(A:Int)+(y4:Int)):=(by rw[IntKind.wrap_u64];omega);have s:((D:Int)+(r:Int)+(A:Int))+(y4:Int)=((D:Int)+(r:Int)+(A:Int)+(y4:Int)):=(by omega);have M:IntKind.u64.wrap (((D:Int)+(r:Int)+(A:Int))+(y4:Int))=((D:Int)+(r:Int)+(A:Int)+(y4:Int)):=(by rw[s];exact o);go_simp;exact O _ _ rfl (fun _=>bR)
           ·have o:IntKind.u64.wrap ((xx:Int))=(xx:Int):=(by rw[IntKind.wrap_u64];omega);have s:((D:Int)+(r:Int)+(A:Int)+(y4:Int))%4294967296=(xx:Int):=(by omega);have M:IntKind.u64.wrap (((D:Int)+(r:Int)+(A:Int)+(y4:Int))%4294967296)=(xx:Int):=(by rw[s];exact o);have G:eL (((D:Int)+(r:Int)+(A:Int)+(y4:Int))) 4294967296=(xx:Int):=(by rw[eM (by omega)];omega);have aS:IntKind.u64.wrap (eL (((D:Int)+(r:Int)+(A:Int)+(y4:Int))) 4294967296)=(xx:Int):=(by rw[G];exact o);go_simp;exact O _ _ rfl (fun _=>bR)
           ·go_simp;exact O _ _ ⟨_,rfl,(Own.full (B:=wx.heap.size) (cs:=#[rE rI (xx:Nat)]) rfl lR (by unfold maxLen;simp) rfl).rd⟩ (fun _=>bR.alloc lR _)
           ·obtain⟨ga,a7,o1⟩:∃g,a.tmps[160]?.getD undef=rD (some ⟨g,0,rJ⟩) 1 1/\Rd wx (a.tmps[160]?.getD undef) [rE rI (xx:Nat)]:=hf.2.1;rw[a7]at o1;refine Zdk (.tmp 143) (.tmp 160) 181 rfl (C.heap.size) 92 _ 8 Znb _ (qvs (wL B l)) (evs bP) ((dW.out).below Q lR) _ [rE rI (xx:Nat)] (evs a7) o1 ?_ ?_ ?_ ?_
            ·intro u X;simp only[aB,dC,or_false]at X;subst X;rfl
            ·simp only[qvs_len,wL_len,dB,bU];omega
            ·exact eN (aW.out.size) Q.size
            ·intro v' w4 aM J;exact O _ _ ⟨aM,(Q.mono (aW.out.size)).trans J⟩ (fun b7=>absurd rfl b7)
           ·have o0:(fun v w'=>Own w' C.heap.size 92 v (qvs (wL B l)++[rE rI (xx:Nat)])/\Below C.heap.size Y w') (a.tmps[161]?.getD undef) wx:=hf.1;obtain⟨v0,aO⟩:=eX (a.tmps[161]?.getD undef);rw[<-aO]at o0;have e0:=aO.symm;clear aO;go_simp;exact O _ _ o0 (fun _=>bR)
          ·rintro f w9 aC;have S9:Own w9 C.heap.size 92 (f 14) (qvs (wL B l)++[rE rI (xx:Nat)])/\Below C.heap.size Y w9:=aC.2.2.2.2.2.2.2.2.2.2.2.2.2.2.2.2.2.2.2.1;clear aC;simp only[Ak,At,Ei,dG,dH,dJ,dK,Nat.reduceBEq,Nat.reduceAdd,Bool.or_false,Bool.or_true,cond_true,cond_false];obtain⟨u,X⟩:=eX (f 14);rw[<-X]at S9|-;rw[<-Zhf,d9.out]at S9;have U:=Hd (show Own w9 C.heap.size 92 u (qvs (wL B (l+1)))from S9.1);have T:=Hd (aW.out.trans S9.2);clear S9 X;go_wp2_with fail;go_roundg (g5-1);case measure=>have:=HT.out;omega
           case rel=>exact⟨l+1,by have:=HT.out;omega,by go_num,U.out,T.out⟩
        ·obtain rfl:l=64:=(by omega);clear ht hlt;obtain⟨S,hS⟩:=eX (blocksN P HL0 b);have ok:=blocksN_ok P HL0_len HL0_lt b;rw[<-hS]at bC ok;have dD:stepN S B=blocksN P HL0 (b+1):=(by rw[dP.out,blocksN,<-hS]);have aR:=Hd dD;obtain rfl:n2=64:=by
          obtain⟨_,_,e,_⟩:=HK.out;simp only[Value.slice.injEq,qvs_len,KL_len]at e;exact e.2.1
         have c5:Rd wt (rD a2 64 c2) (qvs KL):=(HK.out.below aL.out lR).below aA.out lR;have dT:=Hd c5;have cZ:=bC.out.below aA.out lR;have dS:=Hd cZ;have cH:=Hd ok;have eP:mb≠z:=(by omega);have eR:w.heap.size<=wt.heap.size:=eN aL.out.size aA.out.size;clear hS ok dD c5 cZ
         go_upto_region 32 with(fail)
         refine Zfm _ _ _ _ _ _ _ _ _ _ _ _ _ _ _ _ _ _ _ _ _ _ _ _ _ _ _ _ _ _ _ _ _ _ _ _ _ _ _ _ _ _ _ _ _ _ _ _ _ _ _ _ _ _ _ _ _ _ _ _ _ _ _ _ _ _ _ _ _ _ _ _ _ _ _ _ _ _ _ _ _ _ _ _ _ _ _ _ _ _ _ _ _ _ _ _ _ _ _ _ _ _ _ _ _ _ _ _ _ _ _ _ _ _ _ _ _ _ _ _ _ _ _ _ _ _ _ _ _ _ _ _ _ _ _ _ _ _ _ _ _ _ _ _ _ _ _ _ _ _ _ _ _ _ _ _ _ _ _ _ _ _ _ _ _ _ _ _ _ _ _ _ _ _ _ _ _ _ _ _ _ _ _ _ _ _ _ _ _ _ _ _ _ _ _ _ _ _ _ _ _ _ _ _ _ _ _ _ _ _ _ _ _ _ _ _ _ _ _ _ _ _ _ _ _ _ _ _ _ _ _ _ _ _ _ _ _ _ _ _ _ _ _ _ _ _ _ _ _ _ _ _ _ _ _ _ _ _ _ _ _ _ _ _ _ _ _ _ _ _ _ _ _ _ _ _ _ _ _ _ _ _ _ _ _ _ _ _ _ _ _ _ _ _ _ _ _ _ _ _ _ _ _ _ _ _ _ _ _ _ _ _ _ _ _ _ _ _ _ _ _ _ _ _ _ _ _ _ _ _ _ _ _ _ _ _ _ _ _ _ _ _ _ _ _ _ _ _ _ _ _ wt w.heap.size C.heap.size z b3 mb N p3 q3 c2 q1 a2 P S B ?hk aX.out dT.out dS.out cK.out bA.out cH.out.2 cH.out.1 eP eH eR ?_;case hk=>assumption
         intro f w9 bX cS cN;rw[aR.out]at bX;have dU:=Hd bX;have d0:=Hd cS;have dO:=Hd (aL.out.trans ((aA.out.mono aL.out.size).trans cN));clear bX cS cN;go_wp2_with fail;go_roundg (g4-1);case measure=>have:=cI.out;omega
         case rel=>exact⟨b+1,a+64,by have:=cI.out;omega,by have:=bQ.out;omega,by go_num,dU.out,d0.out,dO.out⟩
      ·obtain rfl:b=nb:=(by omega);clear bY;have cU:a=N:=(by rw[bD,bB.out]);subst cU;obtain⟨S,hS⟩:=eX (blocksN P HL0 b);have ok:=blocksN_ok P HL0_len HL0_lt b;rw[<-hS]at bC ok;have d4:=Hd (show(S.map (beN 4)).flatten=shaF L by
        rw[hS,shaF,<-dZ.out,bS.out,Nat.mul_div_cancel_left _ (by omega)])
       have d5:=Hd ok.2;have aR:=Hd ok.1;have e4:decide ((a:Int)<(a:Int))=false:=(by rw[dN];omega);have eJ:decide (a<a)=false:=(by rw[dN];omega);clear hS ok bD hlb;go_wp2_with fail
       go_loopg [29,30] 8 (fun q ov iv wr=>∃i:Nat,i+q=8/\iv=rE rG (i:Nat)/\Own wr C.heap.size 5 ov (bvs (Zae S i))/\Below C.heap.size C wr)
       case atStart=>exact⟨0,rfl,rfl,Own.nil _ _ _,bR⟩
       case round=>
        obtain⟨i,hi,rfl,d,bG⟩:=hrel;have HI:=Hd hi;have bW:=Hd d;have aQ:=Hd bG;obtain⟨o1,o2,o3,rfl⟩:=Dr d;obtain⟨Y,rfl⟩:∃Y:World,Y=wr:=⟨_,rfl⟩
        by_cases hlt:i<8
        ·have a3:decide ((i:Int)<8)=true:=(by rw[dI];omega);have k0:=((bC.out.below bG lR).at).1 i _ (Hq (L:=S) (by rw[aR.out];exact hlt));have eI:z<Y.heap.size:=World.block_lt_of_cell? Y ⟨z,i,rJ⟩ k0;have fK:(i:Int)<8:=(by omega);have xl:=getD_lt32 d5.out i;have a6:=fun(x:Nat) (hx:x=S.getD i 0) (hl:x<4294967296)=>Zfk aR.out hlt hx hl;obtain⟨x,hx⟩:=eX (S.getD i 0);rw[<-hx]at k0 xl;have a6:=a6 x hx xl;obtain⟨E,aD⟩:=eX (x/16777216);obtain⟨z1,aH⟩:=eX (x/65536);obtain⟨A,aK⟩:=eX (x/256);obtain⟨F,aF⟩:=eX (z1%256);obtain⟨r,aG⟩:=eX (A%256);obtain⟨R,cC⟩:=eX (x%256);rw[<-aD,<-aH,<-aK,<-aF,<-aG,<-cC]at a6;have g0:E<256:=(by omega);have g1:F<256:=(by omega);have g2:r<256:=(by omega);have g3:R<256:=(by omega);have q1:z1<4294967296:=(by omega);have l:A<4294967296:=(by omega);have d6:=Hd a6;have eA:=Hd aD;have eE:=Hd aH;have eG:=Hd aK;have eB:=Hd aF;have eC:=Hd aG;have eD:=Hd cC;clear hi d bG hx a6 aD aH aK aF aG cC;go_wp2_with fail;refine Iu [eF (rD o1 o2 o3),eF (rD (some ⟨z,0,rJ⟩) 8 b3),eF (rE rG (i:Nat)),eF (rF (some ⟨z,i,rJ⟩)),eF (rE rI (x:Nat)),eF (rE rI (E:Nat)),eF (rE rH (E:Nat)),eF (rD (some ⟨z,0,rJ⟩) 8 b3),eF (rE rG (i:Nat)),eF (rF (some ⟨z,i,rJ⟩)),eF (rE rI (x:Nat)),eF (rE rI (z1:Nat)),eF (rE rI (F:Nat)),eF (rE rH (F:Nat)),eF (rD (some ⟨z,0,rJ⟩) 8 b3),eF (rE rG (i:Nat)),eF (rF (some ⟨z,i,rJ⟩)),eF (rE rI (x:Nat)),eF (rE rI (A:Nat)),eF (rE rI (r:Nat)),eF (rE rH (r:Nat)),eF (rD (some ⟨z,0,rJ⟩) 8 b3),eF (rE rG (i:Nat)),eF (rF (some ⟨z,i,rJ⟩)),eF (rE rI (x:Nat)),eF (rE rI (R:Nat)),eF (rE rH (R:Nat)),fun v w'=>∃g,v=rD (some ⟨g,0,rJ⟩) 4 4/\Rd w' v [rE rH (E:Nat),rE rH (F:Nat),rE rH (r:Nat),rE rH (R:Nat)],fun v w'=>Own w' C.heap.size 5 v ((bvs (Zae S i))++[rE rH (E:Nat),rE rH (F:Nat),rE rH (r:Nat),rE rH (R:Nat)])/\Below C.heap.size Y w',fun v w'=>Own w' C.heap.size 5 v ((bvs (Zae S i))++[rE rH (E:Nat),rE rH (F:Nat),rE rH (r:Nat),rE rH (R:Nat)])/\Below C.heap.size Y w']
          ((cJ 30 false).set 29 true) ((cJ 30 false).set 29 true) 28 (by kernel_rfl) ?_ (by kernel_rfl) (by kernel_rfl) (by kernel_rfl) ?_ ?_
         ·exact kT (kT (kT (kT (kT (kT (kT (kT (kT (kT (kT (kT (kT (kT (kT (kT (kT (kT (kT (kT (kT (kT (kT (kT (kT (kT (kT (Dt (fun v I w2 h z=>let⟨g,e,h2⟩:=h;⟨g,e,h2.below z lR⟩) (Dt (fun v I w2 h z=>⟨Own.below h.1 z lR,h.2.trans (z.mono (eN (aQ.out.size) h.2.size))⟩) (Dt (fun v I w2 h z=>⟨Own.below h.1 z lR,h.2.trans (z.mono (eN (aQ.out.size) h.2.size))⟩) (Sy))))))))))))))))))))))))))))))
         ·refine gT rfl ?_ (gT rfl ?_ (gT rfl ?_ (gT rfl ?_ (gT rfl ?_ (gU rfl ?_ (gT rfl ?_ (gT rfl ?_ (gT rfl ?_ (gT rfl ?_ (gT rfl ?_ (gU rfl ?_ (gU rfl ?_ (gT rfl ?_ (gT rfl ?_ (gT rfl ?_ (gT rfl ?_ (gT rfl ?_ (gU rfl ?_ (gU rfl ?_ (gT rfl ?_ (gT rfl ?_ (gT rfl ?_ (gT rfl ?_ (gT rfl ?_ (gU rfl ?_ (gT rfl ?_ (gU rfl ?_ (gU rfl ?_ (.cons (Rn ?_) .nil)))))))))))))))))))))))))))));all_goals
           intro a wx Q ho hf;refine⟨rfl,?_⟩;intro K O;try have fH:a.tmps[7]?.getD undef=rD (some ⟨z,0,rJ⟩) 8 b3:=ho 7 (by kernel_rfl)
           try have eY:a.tmps[29]?.getD undef=.slice o1 o2 o3:=ho 29 (by kernel_rfl)
           try have eZ:a.tmps[30]?.getD undef=rE rG (i:Nat):=ho 30 (by kernel_rfl)
           try have bP:=eqn hf.1
           try have dM:=eqn hf.2.1
           try have fD:=eqn hf.2.2.1
           try have fE:=eqn hf.2.2.2.1
           try have dF:=(Q.cell (p:=⟨z,i,rJ⟩) eI).trans k0
           try have dL:IntKind.u8.wrap ((E:Int))=(E:Int):=by rw[IntKind.wrap_u8];omega
           try have fA:IntKind.u8.wrap ((F:Int))=(F:Int):=by rw[IntKind.wrap_u8];omega
           try have fB:IntKind.u8.wrap ((r:Int))=(r:Int):=by rw[IntKind.wrap_u8];omega
           try have fC:IntKind.u8.wrap ((R:Int))=(R:Int):=by rw[IntKind.wrap_u8];omega
           try(refine Hd ?_;go_simp;exact O _ rfl)
          ·have aY:(x:Int)/16777216=(E:Int):=(by have:=eA.out;omega);have o:IntKind.u64.wrap ((E:Int))=(E:Int):=(by rw[IntKind.wrap_u64];omega);have s:(x:Int)/16777216=(E:Int):=(by omega);have M:IntKind.u64.wrap ((x:Int)/16777216)=(E:Int):=(by rw[s];exact o);have G:fR ((x:Int)) 16777216=(E:Int):=(by rw[fS (by omega)];omega);have aS:IntKind.u64.wrap (fR ((x:Int)) 16777216)=(E:Int):=(by rw[G];exact o);go_simp;exact O _ _ rfl (fun _=>bR)
          ·have aY:(x:Int)/65536=(z1:Int):=(by have:=eE.out;omega);have o:IntKind.u64.wrap ((z1:Int))=(z1:Int):=(by rw[IntKind.wrap_u64];omega);have s:(x:Int)/65536=(z1:Int):=(by omega);have M:IntKind.u64.wrap ((x:Int)/65536)=(z1:Int):=(by rw[s];exact o);have G:fR ((x:Int)) 65536=(z1:Int):=(by rw[fS (by omega)];omega);have aS:IntKind.u64.wrap (fR ((x:Int)) 65536)=(z1:Int):=(by rw[G];exact o);go_simp;exact O _ _ rfl (fun _=>bR)
          ·have aY:(z1:Int)%256=(F:Int):=(by have:=eB.out;omega);have o:IntKind.u64.wrap ((F:Int))=(F:Int):=(by rw[IntKind.wrap_u64];omega);have s:(z1:Int)%256=(F:Int):=(by omega);have M:IntKind.u64.wrap ((z1:Int)%256)=(F:Int):=(by rw[s];exact o);have G:eL ((z1:Int)) 256=(F:Int):=(by rw[eM (by omega)];omega);have aS:IntKind.u64.wrap (eL ((z1:Int)) 256)=(F:Int):=(by rw[G];exact o);go_simp;exact O _ _ rfl (fun _=>bR)
          ·have aY:(x:Int)/256=(A:Int):=(by have:=eG.out;omega);have o:IntKind.u64.wrap ((A:Int))=(A:Int):=(by rw[IntKind.wrap_u64];omega);have s:(x:Int)/256=(A:Int):=(by omega);have M:IntKind.u64.wrap ((x:Int)/256)=(A:Int):=(by rw[s];exact o);have G:fR ((x:Int)) 256=(A:Int):=(by rw[fS (by omega)];omega);have aS:IntKind.u64.wrap (fR ((x:Int)) 256)=(A:Int):=(by rw[G];exact o);go_simp;exact O _ _ rfl (fun _=>bR)
          ·have aY:(A:Int)%256=(r:Int):=(by have:=eC.out;omega);have o:IntKind.u64.wrap ((r:Int))=(r:Int):=(by rw[IntKind.wrap_u64];omega);have s:(A:Int)%256=(r:Int):=(by omega);have M:IntKind.u64.wrap ((A:Int)%256)=(r:Int):=(by rw[s];exact o);have G:eL ((A:Int)) 256=(r:Int):=(by rw[eM (by omega)];omega);have aS:IntKind.u64.wrap (eL ((A:Int)) 256)=(r:Int):=(by rw[G];exact o);go_simp;exact O _ _ rfl (fun _=>bR)
          ·have aY:(x:Int)%256=(R:Int):=(by have:=eD.out;omega);have o:IntKind.u64.wrap ((R:Int))=(R:Int):=(by rw[IntKind.wrap_u64];omega);have s:(x:Int)%256=(R:Int):=(by omega);have M:IntKind.u64.wrap ((x:Int)%256)=(R:Int):=(by rw[s];exact o);have G:eL ((x:Int)) 256=(R:Int):=(by rw[eM (by omega)];omega);have aS:IntKind.u64.wrap (eL ((x:Int)) 256)=(R:Int):=(by rw[G];exact o);go_simp;exact O _ _ rfl (fun _=>bR)
          ·go_simp;exact O _ _ ⟨_,rfl,(Own.full (B:=wx.heap.size) (cs:=#[rE rH (E:Nat),rE rH (F:Nat),rE rH (r:Nat),rE rH (R:Nat)]) rfl lR (by unfold maxLen;simp) rfl).rd⟩ (fun _=>bR.alloc lR _)
          ·obtain⟨ga,a7,o1⟩:∃g,a.tmps[349]?.getD undef=rD (some ⟨g,0,rJ⟩) 4 4/\Rd wx (a.tmps[349]?.getD undef) [rE rH (E:Nat),rE rH (F:Nat),rE rH (r:Nat),rE rH (R:Nat)]:=hf.2.1;rw[a7]at o1;refine Zdk (.tmp 322) (.tmp 349) 28 rfl (C.heap.size) 5 _ 1 Ca _ ((bvs (Zae S i))) (evs bP) ((bW.out).below Q lR) _ [rE rH (E:Nat),rE rH (F:Nat),rE rH (r:Nat),rE rH (R:Nat)] (evs a7) o1 ?_ ?_ ?_ ?_
           ·intro u X;simp only[aB,dC,or_false]at X;rcases X with rfl|rfl|rfl|rfl<;>rfl
           ·have:=Zi7 aR.out (show i<=8 by omega);simp only[bvs_len,dB,bU];omega
           ·exact eN (aQ.out.size) Q.size
           ·intro v' w4 aM J;exact O _ _ ⟨aM,(Q.mono (aQ.out.size)).trans J⟩ (fun b7=>absurd rfl b7)
          ·have o0:(fun v w'=>Own w' C.heap.size 5 v ((bvs (Zae S i))++[rE rH (E:Nat),rE rH (F:Nat),rE rH (r:Nat),rE rH (R:Nat)])/\Below C.heap.size Y w') (a.tmps[350]?.getD undef) wx:=hf.1;obtain⟨v0,aO⟩:=eX (a.tmps[350]?.getD undef);rw[<-aO]at o0;have e0:=aO.symm;clear aO;go_simp;exact O _ _ o0 (fun _=>bR)
         ·rintro f w9 aC;have S9:Own w9 C.heap.size 5 (f 29) ((bvs (Zae S i))++[rE rH (E:Nat),rE rH (F:Nat),rE rH (r:Nat),rE rH (R:Nat)])/\Below C.heap.size Y w9:=aC.2.2.2.2.2.2.2.2.2.2.2.2.2.2.2.2.2.2.2.2.2.2.2.2.2.2.2.2.2.1;clear aC;simp only[Ak,At,Ei,dG,dH,dJ,dK,Nat.reduceBEq,Nat.reduceAdd,Bool.or_false,Bool.or_true,cond_true,cond_false];obtain⟨u,X⟩:=eX (f 29);rw[<-X]at S9|-;have U:=Hd (show Own w9 C.heap.size 5 u (bvs (Zae S (i+1))) by rw[d6.out,Cj];exact S9.1);have T:=Hd (aQ.out.trans S9.2);clear S9 X;go_wp2_with fail;go_roundg (gk-1);case measure=>have:=HI.out;omega
          case rel=>exact⟨i+1,by have:=HI.out;omega,by go_num,U.out,T.out⟩
        ·obtain rfl:i=8:=(by omega);have a3:decide (((8:Nat):Int)<8)=false:=(by decide);rw[Zi8 aR.out,d4.out]at bW;clear hi d bG hlt;go_wp2_with fail;go_ret;exact⟨_,rfl,bW.out.mono aL.out.size,aL.out.trans (aQ.out.mono aL.out.size)⟩
