import Derived.Deep.Cut
import Derived.Test.YtfofaiommeckbaaGreatZSliceProves34
open Go.Value renaming slice → q9, int → rA, pointer → rB
open Go.IntKind renaming i64 → rC, u8 → rD, u64 → rE
open Option renaming none → rF
open List renaming replicate → cI, length_cons → bY, length_nil → bT, getD_eq_getElem?_getD → aH, mem_cons → aE, not_mem_nil → eZ, filterMap_cons → cX, filterMap_nil → cY, contains_cons → cZ, contains_nil → dA
open Nat renaming zero_le → aA, pow_le_pow_right → aY, le_trans → bM, lt_or_ge → aB
open Int renaming tmod → fC, tmod_eq_emod_of_nonneg → fD, tdiv → eU, tdiv_eq_ediv_of_nonneg → eV
set_option linter.unusedVariables false
set_option maxRecDepth 100000
set_option maxHeartbeats 40000000
namespace Go.Proofs.YtfofaiommeckbaaGreat
open Go.RowKit ShaM WireM
theorem Zi4 (v vh vk:Value)(L:List Nat)(w:World)(h:Rd w v (bvs L))(hh:Rd w vh (qvs HL0))(hk:Rd w vk (qvs KL))(hL:∀x∈L,x<256)(hl:L.length≤1000000):
  Calls Tryz.prog 144 #[v,vh,vk] w fun e w'=>∃v',e=.returned v'∧Own w' w.heap.size 5 v' (bvs (shaF L))∧Below w.heap.size w w':=by
 have hv:∃a c,v=.slice a L.length c:=(by obtain⟨a,c,e,_⟩:=h;exact⟨a,c,by rw[e,bvs_len]⟩);obtain⟨a0,c0,rfl⟩:=hv;obtain⟨a1,n1,c1,rfl⟩:=Zno hh;obtain⟨a2,n2,c2,rfl⟩:=Zno hk;obtain⟨n,hn⟩:=eX L.length;rw[←hn]at h hl⊢;obtain⟨Z,hZ⟩:=eX ((119-n%64)%64);have cM:tailL n=([128]++cI Z 0)++beN 8 (8*n):=(by rw[tailL,←hZ];simp);have HN:=Hd hn;have HZ:=Hd hZ;have eJ:=Hd cM;have H:=Hd h;have HH:=Hd hh;have HK:=Hd hk;have HL:=Hd hL;clear hn hZ cM h hh hk hL;go_enter Tryz.func144,Tryz.ntmps144;go_wp2_with (first|(at_builtin;refine Aj rfl (.tmp 31) (.tmp 32) 181 rfl w.heap.size 92 _ 8 Zm7 _ [] rfl (Own.lit0 rfl lR) _ (qvs HL0) rfl (HH.out.alloc _) (Wd _) ?c2 ?c3 ?_));case c2=>rw[qvs_len,HL0_len];simp
 case c3=>simp
 rintro v1 I d-bE;have b0:=Hd d;have bO:=Hd (((Below.refl w.heap.size w).alloc lR (.cells #[] 92)).trans bE);obtain⟨b1,b2,b3,rfl⟩:=Dg d;have R1:=Hd (show Rd (I.alloc (.cells #[] 5)) (q9 a0 n c0) (bvs L)from(H.out.below bO.out lR).alloc _);have O1:=Hd (show Own (I.alloc (.cells #[] 5)) I.heap.size 5 (q9 (some ⟨I.heap.size,0,rF⟩) 0 0) []from Own.lit0 rfl lR);clear d bE;go_wp2_with (first|(at_builtin;refine Aj rfl (.tmp 34) (.tmp 35) 28 rfl I.heap.size 5 _ 1 Bz _ [] rfl O1.out _ (bvs L) rfl R1.out (Bu _) ?d2 ?d3 ?_));case d2=>rw[bvs_len,←HN.out];simp;omega
 case d3=>simp
 rintro v2 w2 d-bJ;have cO:=Hd d;have bN:=Hd (((Below.refl I.heap.size I).alloc lR (.cells #[] 5)).trans bJ);obtain⟨d1,d2,d3,rfl⟩:=Dg d;clear d bJ;have O2:=Hd (cO.out.alloc (.cells #[rA rD 128] 5));have R2:=Hd (show Rd (w2.alloc (.cells #[rA rD 128] 5)) (q9 (some ⟨w2.heap.size,0,rF⟩) 1 1) (bvs [128])from(Own.full (B:=0) (cs:=#[rA rD 128]) rfl (aA _) (by unfold maxLen;simp) rfl).rd);go_wp2_with (first|(at_builtin;refine Aj rfl (.tmp 36) (.tmp 37) 28 rfl I.heap.size 5 _ 1 Bz _ (bvs L) rfl O2.out _ (bvs [128]) rfl R2.out (Bu _) ?e2 ?e3 ?_));case e2=>rw[bvs_len,←HN.out,bvs_len];simp;omega
 case e3=>have:=bN.out.size;simp;omega
 rintro v3 w3 d-cJ;rw[←Cf]at d;have dB:=Hd d;have dF:=Hd ((bN.out.alloc bN.out.size (.cells #[rA rD 128] 5)).trans cJ);obtain⟨e1,e2,e3,rfl⟩:=Dg d;clear d cJ O1 R1 O2 R2 bN cO;go_wp2_with fail
 go_loopg [8] Z (fun q m wr=>∃j:Nat,j+q=Z∧Own wr I.heap.size 5 m (bvs (Zct L j))∧Below I.heap.size I wr)
 case atStart=>exact⟨0,by omega,by rw[Zfb];exact dB.out,dF.out⟩
 case round=>
  obtain⟨j,hj,d,z⟩:=hrel;obtain⟨m1,m2,m3,rfl⟩:=Dg d;have eA:m2=n+1+j:=by
   obtain⟨_,_,e,_⟩:=d.rd;simp only[Value.slice.injEq,bvs_len,Sz]at e;have:=HN.out;omega
  subst eA;have HJ:=Hd hj;have cB:=Hd d;have aV:=Hd z;have hz:=HZ.out
  by_cases hlt:j<Z
  ·have hc:(((n+1+j:Nat):Int)%64 !=56)=true:=(by simp;omega);have OJ:=Hd (cB.out.alloc (.cells #[rA rD 0] 5));have RJ:=Hd (show Rd (wr.alloc (.cells #[rA rD 0] 5)) (q9 (some ⟨wr.heap.size,0,rF⟩) 1 1) (bvs [0])from(Own.full (B:=0) (cs:=#[rA rD 0]) rfl (aA _) (by unfold maxLen;simp) rfl).rd);clear hj d z hz;go_wp2_with (first|(at_builtin;refine Aj rfl (.tmp 43) (.tmp 44) 28 rfl I.heap.size 5 _ 1 Bz _ _ rfl OJ.out _ (bvs [0]) rfl RJ.out (Bu _) ?f2 ?f3 ?_));case f2=>simp only[bvs_len,Sz,bY,bT];have:=HN.out;have:=HZ.out;omega
   case f3=>have:=aV.out.size;simp;omega
   rintro v4 w4 d-J;rw[←Cf,←Zfc]at d;have V:=Hd d;have U:=Hd ((aV.out.alloc aV.out.size (.cells #[rA rD 0] 5)).trans J);obtain⟨f1,f2,f3,rfl⟩:=Dg d;clear d J OJ RJ;go_wp2_with fail;go_roundg (gk-1);case measure=>have:=HJ.out;omega
   case rel=>exact⟨j+1,by have:=HJ.out;omega,V.out,U.out⟩
  ·obtain rfl:j=Z:=(by omega);have hc:(((n+1+j:Nat):Int)%64 !=56)=false:=(by simp;omega);clear hj d z hz hlt;obtain⟨C,rfl⟩:∃C:World,C=wr:=⟨_,rfl⟩;go_wp2_with fail;have cW:(((n:Int)+1+(j:Int))%64 !=56)=false:=(by simpa using hc);simp only[cW];clear cW hc;have HQ:=Hd (show Own C I.heap.size 5 (.slice m1 (n+1+j) m3) (bvs (Zb4 L j 0)) by rw[Zfd];exact cB.out)
   go_loopg [8,10] 8 (fun q m iv wr=>∃i:Nat,i+q=8∧iv=rA rC (i:Nat)∧Own wr I.heap.size 5 m (bvs (Zb4 L j i))∧Below I.heap.size I wr)
   case atStart=>exact⟨0,rfl,rfl,HQ.out,aV.out⟩
   case round=>
    obtain⟨i,hi,rfl,d,z⟩:=hrel;have HI:=Hd hi;have T:=Hd d;have aR:=Hd z;obtain⟨p1,p2,p3,rfl⟩:=Dg d;clear d z;obtain⟨wi,rfl⟩:∃wi:World,wi=wr:=⟨_,rfl⟩;obtain⟨g2,rfl⟩:=eX gk
    by_cases hlt:i<8
    ·have a4:decide ((i:Int)<8)=true:=(by rw[decide_eq_true_iff];omega);clear hi;go_wp2_with fail
     go_loopg [11,12] (7-i) (fun q uv kv wr=>∃k u:Nat,k+q=7-i∧kv=rA rC (k:Nat)∧uv=rA rE (u:Nat)∧u=256^k∧wi=wr)
     case atStart=>exact⟨0,1,by omega,rfl,rfl,rfl,rfl⟩
     case round=>
      obtain⟨k,u,hk,rfl,rfl,Y,rfl⟩:=hrel;have dH:u≤256^7:=(by rw[Y];exact aY (by omega) (by omega));have fS:0<u:=(by rw[Y];exact Nat.pow_pos (by omega));have HU:=Hd Y;have c5:=Hd hk
      by_cases hlk:k<7-i
      ·have cR:decide ((k:Int)<7-(i:Int))=true:=(by rw[decide_eq_true_iff];omega);have fM:u≤256^6:=(by rw[Y];exact aY (by omega) (by omega));clear hk Y dH;go_wp2_with fail;go_roundg (gk-1);case measure=>have:=c5.out;omega
       case rel=>exact⟨k+1,u*256,by have:=c5.out;omega,by go_num,by go_num,by rw[HU.out,Nat.pow_succ],rfl⟩
      ·have cR:decide ((k:Int)<7-(i:Int))=false:=(by rw[decide_eq_false_iff_not];omega);obtain rfl:k=7-i:=(by omega);obtain⟨x,hx⟩:∃x:Nat,x=8*n/u:=⟨_,rfl⟩;have fQ:x≤8000000:=(by rw[hx];exact bM (Nat.div_le_self _ _) (by omega));have fU:(n:Int)*8/(u:Int)=(x:Int):=(by rw[hx,Int.natCast_ediv,Nat.mul_comm 8 n];rfl);have HX:=Hd hx;have aT:p2=n+1+j+i:=by
        obtain⟨_,_,e,_⟩:=T.out.rd;simp only[Value.slice.injEq,bvs_len]at e;rw[Zad _ _ (by omega)]at e;have:=HN.out;omega
       subst aT;have fR:¬u=0:=(by omega);have e7:¬(u:Int)=0:=(by omega);clear hk Y hx dH;have OI:=Hd (T.out.alloc (.cells #[rA rD ((x:Int)%256)] 5));have RI:=Hd (show Rd (wi.alloc (.cells #[rA rD ((x:Int)%256)] 5)) (q9 (some ⟨wi.heap.size,0,rF⟩) 1 1) (bvs [x%256])from(Own.full (B:=0) (cs:=#[rA rD ((x:Int)%256)]) rfl (aA _) (by unfold maxLen;simp) rfl).rd);go_wp2_with (first|(at_builtin;refine Aj rfl (.tmp 62) (.tmp 68) 28 rfl I.heap.size 5 _ 1 Bz _ _ rfl OI.out _ (bvs [x%256]) rfl RI.out (Bu _) ?g2 ?g3 ?_));case g2=>simp only[bvs_len,bY,bT];rw[Zad _ _ (by omega)];have:=HN.out;have:=HZ.out;omega
       case g3=>have:=aR.out.size;simp;omega
       rintro v4 w4 d-J;have ex:x=8*L.length/256^(7-i):=(by rw[HX.out,HU.out,HN.out]);rw[←Cf,ex,←Zfe _ _ hlt]at d;have V:=Hd d;have U:=Hd ((aR.out.alloc aR.out.size (.cells #[rA rD ((x:Int)%256)] 5)).trans J);obtain⟨f1,f2,f3,rfl⟩:=Dg d;clear d J OI RI ex;go_wp2_with fail;go_roundg (g2-1);case measure=>have:=HI.out;omega
       case rel=>exact⟨i+1,by have:=HI.out;omega,by go_num,V.out,U.out⟩
    ·obtain rfl:i=8:=(by omega);clear hi;go_wp2_with fail;have c6:Zb4 L j 8=padL L:=(by have e1:=HZ.out;have e2:=HN.out;rw[e1,e2];exact Zi1 L);rw[c6]at T;have cG:=padL_len L;have bV:=Zd5 HL.out;have aX:=Ur L;obtain⟨P,hP⟩:=eX (padL L);rw[←hP]at T cG bV aX;obtain⟨nb,bQ⟩:∃nb,P.length=64*nb:=⟨P.length/64,by omega⟩;have eO:0<nb:=by
      rcases Nat.eq_zero_or_pos nb with h|h
      ·have:P.length=0:=(by rw[bQ,h]);rw[hP,padL,List.length_append,tailL,bY]at this;omega
      ·exact h
     have aT:p2=64*nb:=by
      obtain⟨_,_,e,_⟩:=T.out.rd;simp only[Value.slice.injEq,bvs_len]at e;omega
     obtain⟨mb,aM,fI,eS⟩:∃mb,p1=some ⟨mb,0,rF⟩∧I.heap.size≤mb∧mb<wi.heap.size:=by
      rcases T.out.2 with⟨e,e0⟩|⟨g,cp,c8,e,z,hg,_⟩
      ·simp only[Value.slice.injEq]at e;omega
      ·simp only[Value.slice.injEq]at e;refine⟨g,e.1,z,?_⟩;rcases aB g wi.heap.size with h|h
       ·exact h
       ·rw[Array.getElem?_eq_none h]at hg;cases hg
     obtain⟨z,bE,dQ,fH,bJ⟩:∃z,b1=some ⟨z,0,rF⟩∧w.heap.size≤z∧z<I.heap.size∧b2=8:=by
      rcases b0.out.2 with⟨e,e0⟩|⟨g,cp,c8,e,z,hg,_⟩
      ·simp[HL0_len]at e0
      ·simp only[Value.slice.injEq]at e;refine⟨g,e.1,z,?_,by rw[e.2.1];simp[HL0_len]⟩;rcases aB g I.heap.size with h|h
       ·exact h
       ·rw[Array.getElem?_eq_none h]at hg;cases hg
     subst aT aM bE bJ;obtain⟨N,hN⟩:=eX (64*nb);have a9:=Hd hN;have fT:N≤1000072:=(by have:=HN.out;omega);rw[←hN]at T;have dR:=Hd (show Own wi w.heap.size 92 (q9 (some ⟨z,0,rF⟩) 8 b3) (qvs HL0)from b0.out.below aR.out lR);have d4:=Hd T.out.rd;have dP:=Hd (bO.out.trans (aR.out.mono bO.out.size));have d0:=Hd hP;have cA:=Hd bQ;have fF:=Hd aX;rw[←hN];clear cG hP c6 bQ aX aR T dB dF b0 hN;clear bO HQ cB aV eJ;go_wp2_with fail
     go_loopg [13] nb (fun q av wr=>∃b a:Nat,b+q=nb∧a=64*b∧av=rA rC (a:Nat)∧Own wr w.heap.size 92 (q9 (some ⟨z,0,rF⟩) 8 b3) (qvs (blocksN P HL0 b))∧Rd wr (q9 (some ⟨mb,0,rF⟩) N p3) (bvs P)∧Below w.heap.size w wr)
     case atStart=>exact⟨0,0,by omega,rfl,rfl,dR.out,d4.out,dP.out⟩
     case round=>
      obtain⟨b,a,b8,bL,rfl,cV,dE,cQ⟩:=hrel;have bH:=Hd cV;have dM:=Hd dE;have aO:=Hd cQ;have cN:=Hd b8;have cE:=Hd bL;clear cV dE cQ;obtain⟨C,rfl⟩:∃C:World,C=wr:=⟨_,rfl⟩;obtain⟨g4,rfl⟩:=eX gk
      by_cases hlb:b<nb
      ·have dG:a+64≤N:=(by have:=a9.out;omega);have e6:decide ((a:Int)<(N:Int))=true:=(by rw[decide_eq_true_iff];omega);have dK:decide (a<N)=true:=(by rw[decide_eq_true_iff];omega);obtain⟨B,hB⟩:=eX ((P.drop (64*b)).take 64);have dC:B.length=64:=(by rw[hB,List.length_take,List.length_drop,cA.out,←a9.out,←cE.out];omega);have c7:∀x∈B,x<256:=fun x hx=>bV x (List.mem_of_mem_drop (List.mem_of_mem_take (hB▸hx)));have cL:∀j,j<64→B.getD j 0=P.getD (a+j) 0:=by
        intro j hj;rw[hB,aH,List.getElem?_take,if_pos hj,List.getElem?_drop,←cE.out,aH]
       have eB:=Hd cL;have dX:=Hd hB;have fJ:=Hd dC;have a8:=Hd c7;clear hB b8 cL dC c7 bL;go_wp2_with fail
       go_loopg [14,15] 64 (fun q wl tv wr=>∃t:Nat,t+q=64∧tv=rA rC (t:Nat)∧Own wr C.heap.size 92 wl (qvs (wL B t))∧Below C.heap.size C wr)
       case atStart=>exact⟨0,rfl,rfl,Own.nil _ _ _,bR⟩
       case round=>
        obtain⟨t,ht,rfl,d,cC⟩:=hrel;have HT:=Hd ht;have aW:=Hd d;have aJ:=Hd cC;obtain⟨q1,l,q3,rfl⟩:=Dg d;obtain⟨wt,rfl⟩:∃wt:World,wt=wr:=⟨_,rfl⟩;obtain⟨g5,rfl⟩:=eX gk;obtain rfl:l=t:=by
         obtain⟨_,_,e,_⟩:=d.rd;simp only[Value.slice.injEq,qvs_len,wL_len]at e;exact e.2.1
        have cT:=Hd (dM.out.below cC lR);clear d cC
        by_cases hlt:l<64
        ·have a4:decide ((l:Int)<64)=true:=(by rw[decide_eq_true_iff];omega);clear ht
         by_cases h16:l<16
         ·have dD:decide ((l:Int)<16)=true:=(by rw[decide_eq_true_iff];omega);go_wp2_with fail
          go_loopg [16,17] 4 (fun q xv iv wr=>∃i x:Nat,i+q=4∧iv=rA rC (i:Nat)∧xv=rA rE (x:Nat)∧x=xN B l i∧wt=wr)
          case atStart=>exact⟨0,0,rfl,rfl,rfl,rfl,rfl⟩
          case round=>
           obtain⟨i,x,hi,rfl,rfl,hx,rfl⟩:=hrel;have HI:=Hd hi;have HX:=Hd hx
           by_cases hli:i<4
           ·have eR:decide ((i:Int)<4)=true:=(by rw[decide_eq_true_iff];omega);have fK:x<16777216:=(by rw[hx];exact Zmv a8.out l hli);obtain⟨p0,a5⟩:=eX (a+4*l);obtain⟨p1,aM⟩:=eX (p0+i);have i0:(a:Int)+4*(l:Int)=(p0:Int):=(by omega);have i1:(p0:Int)+(i:Int)=(p1:Int):=(by omega);have l0:p0<N:=(by omega);have l1:p1<N:=(by omega);have hy:=cT.out.at3 (Rk (show p1<P.length by rw[cA.out,←a9.out];exact l1));obtain⟨_,_,e,fO,hc⟩:=hy;simp only[Option.some.injEq,Addr.mk.injEq,and_true]at e;obtain⟨rfl,rfl⟩:=e;rw[Nat.zero_add]at hc;obtain⟨y,bG⟩:=eX (P.getD p1 0);rw[←bG]at hc;have eL:y<256:=(by rw[bG];exact Hh bV (by omega) _);have HY:=Hd (show y=B.getD (4*l+i) 0 by rw[eB.out _ (by omega),bG,aM,a5,Nat.add_assoc]);clear hi hx a5 aM bG;go_wp2_with fail;go_roundg (gk-1);case measure=>have:=HI.out;omega
            case rel=>exact⟨i+1,256*x+y,by have:=HI.out;omega,by go_num,by go_num,by rw[xN,←HX.out,←HY.out],rfl⟩
           ·obtain rfl:i=4:=(by omega);have e8:x<4294967296:=(by rw[hx];exact Zmw a8.out l);clear hi hx hli;have dJ:=Hd (show x=wNext B (wL B l) l by rw[HX.out];exact Zln _ _ h16);have OT:=Hd (aW.out.alloc (.cells #[rA rE (x:Int)] 92));have RT:=Hd (show Rd (wt.alloc (.cells #[rA rE (x:Int)] 92)) (q9 (some ⟨wt.heap.size,0,rF⟩) 1 1) (qvs [x])from Rd.lit _ _ _ _ _ rfl rfl (by unfold maxLen;simp));go_wp2_with (first|(at_builtin;refine Aj rfl (.tmp 99) (.tmp 101) 181 rfl C.heap.size 92 _ 8 Zm7 _ _ rfl OT.out _ (qvs [x]) rfl RT.out (Wd _) ?h2 ?h3 ?_));case h2=>simp only[qvs_len,wL_len,bY,bT];omega
            case h3=>have:=aJ.out.size;simp;omega
            rintro v4 w4 d-J;rw[←Za7,dJ.out]at d;have V:=Hd (show Own w4 C.heap.size 92 v4 (qvs (wL B (l+1)))from d);have U:=Hd ((aJ.out.alloc aJ.out.size (.cells #[rA rE (x:Int)] 92)).trans J);clear d J OT RT;go_wp2_with fail;go_roundg (g5-1);case measure=>have:=HT.out;omega
            case rel=>exact⟨l+1,by have:=HT.out;omega,by go_num,V.out,U.out⟩
         ·have dD:decide ((l:Int)<16)=false:=(by rw[decide_eq_false_iff_not];omega);obtain⟨gw,dY⟩:∃g,q1=some ⟨g,0,rF⟩:=by
           rcases aW.out.2 with⟨e,e0⟩|⟨g,cp,c8,e,_⟩
           ·simp only[Value.slice.injEq]at e;omega
           ·simp only[Value.slice.injEq]at e;exact⟨g,e.1⟩
          subst dY;have CC:=fun(j:Nat) (hj:j<l)=>(aW.out.at).1 j _ (Ic (L:=wL B l) (i:=j) (by rw[wL_len];exact hj));have wl:=wL_lt a8.out l;obtain⟨p0,a5⟩:=eX (l-15);obtain⟨p1,aM⟩:=eX (l-2);obtain⟨p2,aT⟩:=eX (l-7);obtain⟨p4,cS⟩:=eX (l-16);have i0:(l:Int)-15=(p0:Int):=(by omega);have i1:(l:Int)-2=(p1:Int):=(by omega);have i2:(l:Int)-7=(p2:Int):=(by omega);have i4:(l:Int)-16=(p4:Int):=(by omega);have l0:p0<l:=(by omega);have l1:p1<l:=(by omega);have l2:p2<l:=(by omega);have l4:p4<l:=(by omega);have m0:(p0:Int)<(l:Int):=(by omega);have m1:(p1:Int)<(l:Int):=(by omega);have m2:(p2:Int)<(l:Int):=(by omega);have m4:(p4:Int)<(l:Int):=(by omega);have c0:=CC p0 l0;have c1:=CC p1 l1;have c2:=CC p2 l2;have c4:=CC p4 l4;obtain⟨F,aG⟩:=eX ((wL B l).getD p0 0);obtain⟨E,aD⟩:=eX ((wL B l).getD p1 0);obtain⟨r,aF⟩:=eX ((wL B l).getD p2 0);obtain⟨y4,bP⟩:=eX ((wL B l).getD p4 0);rw[←aG]at c0;rw[←aD]at c1;rw[←aF]at c2;rw[←bP]at c4;have x0:F<4294967296:=(by rw[aG];exact getD_lt32 wl _);have x1:E<4294967296:=(by rw[aD];exact getD_lt32 wl _);have x2:r<4294967296:=(by rw[aF];exact getD_lt32 wl _);have x4:y4<4294967296:=(by rw[bP];exact getD_lt32 wl _);obtain⟨r1,bI⟩:=eX (rot F 7);obtain⟨r2,bA⟩:=eX (rot F 18);obtain⟨r3,bF⟩:=eX (rot E 17);obtain⟨r4,bD⟩:=eX (rot E 19);obtain⟨s1,bZ⟩:=eX (F/8);obtain⟨s2,bW⟩:=eX (E/1024);have R1:=Hd (fun W=>Pq F 7 r1 7 rfl x0 (by omega) bI W);have R2:=Hd (fun W=>Pq F 18 r2 18 rfl x0 (by omega) bA W);have R3:=Hd (fun W=>Pq E 17 r3 17 rfl x1 (by omega) bF W);have R4:=Hd (fun W=>Pq E 19 r4 19 rfl x1 (by omega) bD W);have S1:=Hd (fun W=>Zkf F 3 s1 3 rfl x0 (by omega) bZ W);have S2:=Hd (fun W=>Zkf E 10 s2 10 rfl x1 (by omega) bW W);have b1:r1<4294967296:=(by rw[bI];exact rot_lt x0 (by omega));have b2:r2<4294967296:=(by rw[bA];exact rot_lt x0 (by omega));have b3:r3<4294967296:=(by rw[bF];exact rot_lt x1 (by omega));have b4:r4<4294967296:=(by rw[bD];exact rot_lt x1 (by omega));have X1:=u64_xor_nat r1 r2 (by omega) (by omega);have X2:=u64_xor_nat (r1^^^r2) s1 (by have:=xor_lt32 b1 b2;omega) (by omega);have X3:=u64_xor_nat r3 r4 (by omega) (by omega);have X4:=u64_xor_nat (r3^^^r4) s2 (by have:=xor_lt32 b3 b4;omega) (by omega);obtain⟨z1,aK⟩:=eX (r1^^^r2);obtain⟨z3,bB⟩:=eX (r3^^^r4);rw[←aK]at X1 X2;rw[←bB]at X3 X4;obtain⟨A,aI⟩:=eX (z1^^^s1);obtain⟨D,bK⟩:=eX (z3^^^s2);rw[←aI]at X2;rw[←bK]at X4;have HV:=Hd (show(D+r+A+y4)%4294967296=wNext B (wL B l) l by
           unfold wNext;rw[if_neg h16,s0N,s1N,←a5,←aM,←aT,←cS,←aG,←aD,←aF,←bP,←bI,←bA,←bF,←bD,←aK,←bB,←bZ,←bW,←aI,←bK])
          have b5:A<4294967296:=(by rw[aI,aK];exact xor_lt32 (xor_lt32 b1 b2) (by omega));have b6:D<4294967296:=(by rw[bK,bB];exact xor_lt32 (xor_lt32 b3 b4) (by omega));clear a5 aM aT cS aG aD aF bP CC wl bZ bW bI bA bF bD aK aI bB bK;go_wp2_with fail
          go_quiet ((first|(go_at_call 195;first|with_reducible exact Calls.quiet_of_same (R1.out _)|with_reducible exact Calls.quiet_of_same (R2.out _))|(go_at_call 196;with_reducible exact Calls.quiet_of_same (S1.out _))))
          obtain⟨na,rfl⟩:=eX nq;go_wp2_with fail
          go_quiet ((first|(go_at_call 195;first|with_reducible exact Fp (R3.out _)|with_reducible exact Fp (R4.out _))|(go_at_call 196;with_reducible exact Fp (S2.out _))))
          obtain⟨nd,rfl⟩:=eX nq;go_wp2_with fail;obtain⟨X,aQ⟩:=eX ((wt.drewN na).drewN nd);rw[←aQ];have eE:=Hd (show Own X C.heap.size 92 (q9 (some ⟨gw,0,rF⟩) l q3) (qvs (wL B l)) by rw[aQ];exact(aW.out.drewN _).drewN _);have a6:=Hd (show Below C.heap.size C X by rw[aQ];exact Ab (Ab aJ.out _) _);have k2:X.cell? ⟨gw,p2,rF⟩=some (rA rE (r:Int)):=(by rw[aQ];exact c2);have k4:X.cell? ⟨gw,p4,rF⟩=some (rA rE (y4:Int)):=(by rw[aQ];exact c4);clear c0 c1 c2 c4 aQ;obtain⟨xx,b9⟩:∃x:Nat,x=wNext B (wL B l) l:=⟨_,rfl⟩;have eD:=Hd b9;have e9:((D:Int)+(r:Int)+(A:Int)+(y4:Int))%4294967296=(xx:Int):=(by rw[b9,←HV.out];omega);have c9:gw<X.heap.size:=World.block_lt_of_cell? _ _ k2;clear b9;refine Jq [eF (q9 (some ⟨gw,0,rF⟩) l q3),eF (rA rE (D:Nat)),eF (q9 (some ⟨gw,0,rF⟩) l q3),eF (rA rC (l:Nat)),eF (rA rC (p2:Nat)),eF (rB (some ⟨gw,p2,rF⟩)),eF (rA rE (r:Nat)),eF (rA rE ((D:Int)+(r:Int))),eF (rA rE (A:Nat)),eF (rA rE ((D:Int)+(r:Int)+(A:Int))),eF (q9 (some ⟨gw,0,rF⟩) l q3),eF (rA rC (l:Nat)),eF (rA rC (p4:Nat)),eF (rB (some ⟨gw,p4,rF⟩)),eF (rA rE (y4:Nat)),eF (rA rE ((D:Int)+(r:Int)+(A:Int)+(y4:Int))),eF (rA rE (xx:Nat)),fun v w'=>∃g,v=q9 (some ⟨g,0,rF⟩) 1 1∧Rd w' v [rA rE (xx:Nat)],fun v w'=>Own w' C.heap.size 92 v (qvs (wL B l)++[rA rE (xx:Nat)])∧Below C.heap.size X w',fun v w'=>Own w' C.heap.size 92 v (qvs (wL B l)++[rA rE (xx:Nat)])∧Below C.heap.size X w']
           ((cI 20 false).set 19 true) ((cI 20 false).set 19 true) 18 (by kernel_rfl) ?_ (by kernel_rfl) (by kernel_rfl) (by kernel_rfl) ?_ ?_
          ·exact kT (kT (kT (kT (kT (kT (kT (kT (kT (kT (kT (kT (kT (kT (kT (kT (kT (Ef (fun v I w2 h z=>let⟨g,e,h2⟩:=h;⟨g,e,h2.below z lR⟩) (Ef (fun v I w2 h z=>⟨Own.below h.1 z lR,h.2.trans (z.mono (bM (a6.out.size) h.2.size))⟩) (Ef (fun v I w2 h z=>⟨Own.below h.1 z lR,h.2.trans (z.mono (bM (a6.out.size) h.2.size))⟩) (Tt))))))))))))))))))))
          ·refine gT rfl ?_ (gT rfl ?_ (gT rfl ?_ (gT rfl ?_ (gU rfl ?_ (gT rfl ?_ (gT rfl ?_ (gU rfl ?_ (gT rfl ?_ (gU rfl ?_ (gT rfl ?_ (gT rfl ?_ (gU rfl ?_ (gT rfl ?_ (gT rfl ?_ (gU rfl ?_ (gU rfl ?_ (gU rfl ?_ (gU rfl ?_ (.cons (Ry ?_) .nil)))))))))))))))))));all_goals
            intro a wx O ho hf;refine⟨rfl,?_⟩;intro K Q;try have e5:a.tmps[14]?.getD undef=q9 (some ⟨gw,0,rF⟩) l q3:=ho 14 (by kernel_rfl)
            try have eQ:a.tmps[15]?.getD undef=rA rC (l:Nat):=ho 15 (by kernel_rfl)
            try have eP:a.tmps[18]?.getD undef=rA rE (A:Nat):=ho 18 (by kernel_rfl)
            try have eT:a.tmps[19]?.getD undef=rA rE (D:Nat):=ho 19 (by kernel_rfl)
            try have bU:=eqn hf.1
            try have dS:=eqn hf.2.1
            try have eN:=(O.cell (p:=⟨gw,p2,rF⟩) c9).trans k2
            try have d6:=(O.cell (p:=⟨gw,p4,rF⟩) c9).trans k4
            try(refine Hd ?_;go_simp;exact Q _ rfl)
           ·have o:IntKind.i64.wrap ((p2:Int))=(p2:Int):=(by rw[IntKind.wrap_i64];omega);have s:(l:Int)-7=(p2:Int):=(by omega);have M:IntKind.i64.wrap ((l:Int)-7)=(p2:Int):=(by rw[s];exact o);go_simp;exact Q _ _ rfl (fun _=>bR)
           ·have o:IntKind.u64.wrap (((D:Int)+(r:Int)))=((D:Int)+(r:Int)):=(by rw[IntKind.wrap_u64];omega);have s:(D:Int)+(r:Int)=((D:Int)+(r:Int)):=(by omega);have M:IntKind.u64.wrap ((D:Int)+(r:Int))=((D:Int)+(r:Int)):=(by rw[s];exact o);go_simp;exact Q _ _ rfl (fun _=>bR)
           ·have o:IntKind.u64.wrap (((D:Int)+(r:Int)+(A:Int)))=((D:Int)+(r:Int)+(A:Int)):=(by rw[IntKind.wrap_u64];omega);have s:((D:Int)+(r:Int))+(A:Int)=((D:Int)+(r:Int)+(A:Int)):=(by omega);have M:IntKind.u64.wrap (((D:Int)+(r:Int))+(A:Int))=((D:Int)+(r:Int)+(A:Int)):=(by rw[s];exact o);go_simp;exact Q _ _ rfl (fun _=>bR)
           ·have o:IntKind.i64.wrap ((p4:Int))=(p4:Int):=(by rw[IntKind.wrap_i64];omega);have s:(l:Int)-16=(p4:Int):=(by omega);have M:IntKind.i64.wrap ((l:Int)-16)=(p4:Int):=(by rw[s];exact o);go_simp;exact Q _ _ rfl (fun _=>bR)
           ·have o:IntKind.u64.wrap (((D:Int)+(r:Int)+(A:Int)+(y4:Int)))=((D:Int)+(r:Int)+(A:Int)+(y4:Int)):=(by rw[IntKind.wrap_u64];omega);have s:((D:Int)+(r:Int)+(A:Int))+(y4:Int)=((D:Int)+(r:Int)+(A:Int)+(y4:Int)):=(by omega);have M:IntKind.u64.wrap (((D:Int)+(r:Int)+(A:Int))+(y4:Int))=((D:Int)+(r:Int)+(A:Int)+(y4:Int)):=(by rw[s];exact o);go_simp;exact Q _ _ rfl (fun _=>bR)
           ·have o:IntKind.u64.wrap ((xx:Int))=(xx:Int):=(by rw[IntKind.wrap_u64];omega);have s:((D:Int)+(r:Int)+(A:Int)+(y4:Int))%4294967296=(xx:Int):=(by omega);have M:IntKind.u64.wrap (((D:Int)+(r:Int)+(A:Int)+(y4:Int))%4294967296)=(xx:Int):=(by rw[s];exact o);have G:fC (((D:Int)+(r:Int)+(A:Int)+(y4:Int))) 4294967296=(xx:Int):=(by rw[fD (by omega)];omega);have aS:IntKind.u64.wrap (fC (((D:Int)+(r:Int)+(A:Int)+(y4:Int))) 4294967296)=(xx:Int):=(by rw[G];exact o);go_simp;exact Q _ _ rfl (fun _=>bR)
           ·go_simp;exact Q _ _ ⟨_,rfl,(Own.full (B:=wx.heap.size) (cs:=#[rA rE (xx:Nat)]) rfl lR (by unfold maxLen;simp) rfl).rd⟩ (fun _=>bR.alloc lR _)
           ·obtain⟨ga,a7,o1⟩:∃g,a.tmps[160]?.getD undef=q9 (some ⟨g,0,rF⟩) 1 1∧Rd wx (a.tmps[160]?.getD undef) [rA rE (xx:Nat)]:=hf.2.1;rw[a7]at o1;refine Zed (.tmp 143) (.tmp 160) 181 rfl (C.heap.size) 92 _ 8 Zm7 _ (qvs (wL B l)) (evs bU) ((eE.out).below O lR) _ [rA rE (xx:Nat)] (evs a7) o1 ?_ ?_ ?_ ?_
            ·intro u Y;simp only[aE,eZ,or_false]at Y;subst Y;rfl
            ·simp only[qvs_len,wL_len,bY,bT];omega
            ·exact bM (a6.out.size) O.size
            ·intro v' w4 aN J;exact Q _ _ ⟨aN,(O.mono (a6.out.size)).trans J⟩ (fun bX=>absurd rfl bX)
           ·have o0:(fun v w'=>Own w' C.heap.size 92 v (qvs (wL B l)++[rA rE (xx:Nat)])∧Below C.heap.size X w') (a.tmps[161]?.getD undef) wx:=hf.1;obtain⟨v0,aL⟩:=eX (a.tmps[161]?.getD undef);rw[←aL]at o0;have e0:=aL.symm;clear aL;go_simp;exact Q _ _ o0 (fun _=>bR)
          ·rintro f w9 aC;have S9:Own w9 C.heap.size 92 (f 14) (qvs (wL B l)++[rA rE (xx:Nat)])∧Below C.heap.size X w9:=aC.2.2.2.2.2.2.2.2.2.2.2.2.2.2.2.2.2.2.2.1;clear aC;simp only[Am,Az,Ex,cX,cY,cZ,dA,Nat.reduceBEq,Nat.reduceAdd,Bool.or_false,Bool.or_true,cond_true,cond_false];obtain⟨u,Y⟩:=eX (f 14);rw[←Y]at S9⊢;rw[←Zhc,eD.out]at S9;have V:=Hd (show Own w9 C.heap.size 92 u (qvs (wL B (l+1)))from S9.1);have U:=Hd (a6.out.trans S9.2);clear S9 Y;go_wp2_with fail;go_roundg (g5-1);case measure=>have:=HT.out;omega
           case rel=>exact⟨l+1,by have:=HT.out;omega,by go_num,V.out,U.out⟩
        ·obtain rfl:l=64:=(by omega);clear ht hlt;obtain⟨S,hS⟩:=eX (blocksN P HL0 b);have ok:=blocksN_ok P HL0_len HL0_lt b;rw[←hS]at bH ok;have cF:stepN S B=blocksN P HL0 (b+1):=(by rw[dX.out,blocksN,←hS]);have aU:=Hd cF;obtain rfl:n2=64:=by
          obtain⟨_,_,e,_⟩:=HK.out;simp only[Value.slice.injEq,qvs_len,KL_len]at e;exact e.2.1
         have cP:Rd wt (q9 a2 64 c2) (qvs KL):=(HK.out.below aO.out lR).below aJ.out lR;have eK:=Hd cP;have cH:=bH.out.below aJ.out lR;have dO:=Hd cH;have cU:=Hd ok;have dV:mb≠z:=(by omega);have dL:w.heap.size≤wt.heap.size:=bM aO.out.size aJ.out.size;clear hS ok cF cP cH
         go_upto_region 32 with(fail)
         refine Zfh _ _ _ _ _ _ _ _ _ _ _ _ _ _ _ _ _ _ _ _ _ _ _ _ _ _ _ _ _ _ _ _ _ _ _ _ _ _ _ _ _ _ _ _ _ _ _ _ _ _ _ _ _ _ _ _ _ _ _ _ _ _ _ _ _ _ _ _ _ _ _ _ _ _ _ _ _ _ _ _ _ _ _ _ _ _ _ _ _ _ _ _ _ _ _ _ _ _ _ _ _ _ _ _ _ _ _ _ _ _ _ _ _ _ _ _ _ _ _ _ _ _ _ _ _ _ _ _ _ _ _ _ _ _ _ _ _ _ _ _ _ _ _ _ _ _ _ _ _ _ _ _ _ _ _ _ _ _ _ _ _ _ _ _ _ _ _ _ _ _ _ _ _ _ _ _ _ _ _ _ _ _ _ _ _ _ _ _ _ _ _ _ _ _ _ _ _ _ _ _ _ _ _ _ _ _ _ _ _ _ _ _ _ _ _ _ _ _ _ _ _ _ _ _ _ _ _ _ _ _ _ _ _ _ _ _ _ _ _ _ _ _ _ _ _ _ _ _ _ _ _ _ _ _ _ _ _ _ _ _ _ _ _ _ _ _ _ _ _ _ _ _ _ _ _ _ _ _ _ _ _ _ _ _ _ _ _ _ _ _ _ _ _ _ _ _ _ _ _ _ _ _ _ _ _ _ _ _ _ _ _ _ _ _ _ _ _ _ _ _ _ _ _ _ _ _ _ _ _ _ _ _ _ _ _ _ _ _ _ _ _ _ _ _ _ _ _ _ _ _ _ wt w.heap.size C.heap.size z b3 mb N p3 q3 c2 q1 a2 P S B ?hk aW.out eK.out dO.out cT.out a8.out cU.out.2 cU.out.1 dV dQ dL ?_;case hk=>assumption
         intro f w9 b7 dI cK;rw[aU.out]at b7;have dU:=Hd b7;have d9:=Hd dI;have eH:=Hd (aO.out.trans ((aJ.out.mono aO.out.size).trans cK));clear b7 dI cK;go_wp2_with fail;go_roundg (g4-1);case measure=>have:=cN.out;omega
         case rel=>exact⟨b+1,a+64,by have:=cN.out;omega,by have:=cE.out;omega,by go_num,dU.out,d9.out,eH.out⟩
      ·obtain rfl:b=nb:=(by omega);clear b8;have dG:a=N:=(by rw[bL,a9.out]);subst dG;obtain⟨S,hS⟩:=eX (blocksN P HL0 b);have ok:=blocksN_ok P HL0_len HL0_lt b;rw[←hS]at bH ok;have d5:=Hd (show(S.map (beN 4)).flatten=shaF L by
        rw[hS,shaF,←d0.out,cA.out,Nat.mul_div_cancel_left _ (by omega)])
       have dT:=Hd ok.2;have aU:=Hd ok.1;have eY:decide ((a:Int)<(a:Int))=false:=(by rw[decide_eq_false_iff_not];omega);have d8:decide (a<a)=false:=(by rw[decide_eq_false_iff_not];omega);clear hS ok bL hlb;go_wp2_with fail
       go_loopg [29,30] 8 (fun q ov iv wr=>∃i:Nat,i+q=8∧iv=rA rC (i:Nat)∧Own wr C.heap.size 5 ov (bvs (Zae S i))∧Below C.heap.size C wr)
       case atStart=>exact⟨0,rfl,rfl,Own.nil _ _ _,bR⟩
       case round=>
        obtain⟨i,hi,rfl,d,bC⟩:=hrel;have HI:=Hd hi;have cD:=Hd d;have aP:=Hd bC;obtain⟨o1,o2,o3,rfl⟩:=Dg d;obtain⟨X,rfl⟩:∃X:World,X=wr:=⟨_,rfl⟩
        by_cases hlt:i<8
        ·have a4:decide ((i:Int)<8)=true:=(by rw[decide_eq_true_iff];omega);have k0:=((bH.out.below bC lR).at).1 i _ (Ic (L:=S) (by rw[aU.out];exact hlt));have eM:z<X.heap.size:=World.block_lt_of_cell? X ⟨z,i,rF⟩ k0;have fB:(i:Int)<8:=(by omega);have xl:=getD_lt32 dT.out i;have a3:=fun(x:Nat) (hx:x=S.getD i 0) (hl:x<4294967296)=>Zff aU.out hlt hx hl;obtain⟨x,hx⟩:=eX (S.getD i 0);rw[←hx]at k0 xl;have a3:=a3 x hx xl;obtain⟨F,aG⟩:=eX (x/16777216);obtain⟨z1,aK⟩:=eX (x/65536);obtain⟨A,aI⟩:=eX (x/256);obtain⟨E,aD⟩:=eX (z1%256);obtain⟨r,aF⟩:=eX (A%256);obtain⟨R,bS⟩:=eX (x%256);rw[←aG,←aK,←aI,←aD,←aF,←bS]at a3;have g0:F<256:=(by omega);have g1:E<256:=(by omega);have g2:r<256:=(by omega);have g3:R<256:=(by omega);have q1:z1<4294967296:=(by omega);have l:A<4294967296:=(by omega);have dW:=Hd a3;have dN:=Hd aG;have eC:=Hd aK;have dZ:=Hd aI;have d7:=Hd aD;have eI:=Hd aF;have eG:=Hd bS;clear hi d bC hx a3 aG aK aI aD aF bS;go_wp2_with fail;refine Jq [eF (q9 o1 o2 o3),eF (q9 (some ⟨z,0,rF⟩) 8 b3),eF (rA rC (i:Nat)),eF (rB (some ⟨z,i,rF⟩)),eF (rA rE (x:Nat)),eF (rA rE (F:Nat)),eF (rA rD (F:Nat)),eF (q9 (some ⟨z,0,rF⟩) 8 b3),eF (rA rC (i:Nat)),eF (rB (some ⟨z,i,rF⟩)),eF (rA rE (x:Nat)),eF (rA rE (z1:Nat)),eF (rA rE (E:Nat)),eF (rA rD (E:Nat)),eF (q9 (some ⟨z,0,rF⟩) 8 b3),eF (rA rC (i:Nat)),eF (rB (some ⟨z,i,rF⟩)),eF (rA rE (x:Nat)),eF (rA rE (A:Nat)),eF (rA rE (r:Nat)),eF (rA rD (r:Nat)),eF (q9 (some ⟨z,0,rF⟩) 8 b3),eF (rA rC (i:Nat)),eF (rB (some ⟨z,i,rF⟩)),eF (rA rE (x:Nat)),eF (rA rE (R:Nat)),eF (rA rD (R:Nat)),fun v w'=>∃g,v=q9 (some ⟨g,0,rF⟩) 4 4∧Rd w' v [rA rD (F:Nat),rA rD (E:Nat),rA rD (r:Nat),rA rD (R:Nat)],fun v w'=>Own w' C.heap.size 5 v ((bvs (Zae S i))++[rA rD (F:Nat),rA rD (E:Nat),rA rD (r:Nat),rA rD (R:Nat)])∧Below C.heap.size X w',fun v w'=>Own w' C.heap.size 5 v ((bvs (Zae S i))++[rA rD (F:Nat),rA rD (E:Nat),rA rD (r:Nat),rA rD (R:Nat)])∧Below C.heap.size X w']
          ((cI 30 false).set 29 true) ((cI 30 false).set 29 true) 28 (by kernel_rfl) ?_ (by kernel_rfl) (by kernel_rfl) (by kernel_rfl) ?_ ?_
         ·exact kT (kT (kT (kT (kT (kT (kT (kT (kT (kT (kT (kT (kT (kT (kT (kT (kT (kT (kT (kT (kT (kT (kT (kT (kT (kT (kT (Ef (fun v I w2 h z=>let⟨g,e,h2⟩:=h;⟨g,e,h2.below z lR⟩) (Ef (fun v I w2 h z=>⟨Own.below h.1 z lR,h.2.trans (z.mono (bM (aP.out.size) h.2.size))⟩) (Ef (fun v I w2 h z=>⟨Own.below h.1 z lR,h.2.trans (z.mono (bM (aP.out.size) h.2.size))⟩) (Tt))))))))))))))))))))))))))))))
         ·refine gT rfl ?_ (gT rfl ?_ (gT rfl ?_ (gT rfl ?_ (gT rfl ?_ (gU rfl ?_ (gT rfl ?_ (gT rfl ?_ (gT rfl ?_ (gT rfl ?_ (gT rfl ?_ (gU rfl ?_ (gU rfl ?_ (gT rfl ?_ (gT rfl ?_ (gT rfl ?_ (gT rfl ?_ (gT rfl ?_ (gU rfl ?_ (gU rfl ?_ (gT rfl ?_ (gT rfl ?_ (gT rfl ?_ (gT rfl ?_ (gT rfl ?_ (gU rfl ?_ (gT rfl ?_ (gU rfl ?_ (gU rfl ?_ (.cons (Ry ?_) .nil)))))))))))))))))))))))))))));all_goals
           intro a wx O ho hf;refine⟨rfl,?_⟩;intro K Q;try have fN:a.tmps[7]?.getD undef=q9 (some ⟨z,0,rF⟩) 8 b3:=ho 7 (by kernel_rfl)
           try have e4:a.tmps[29]?.getD undef=.slice o1 o2 o3:=ho 29 (by kernel_rfl)
           try have eW:a.tmps[30]?.getD undef=rA rC (i:Nat):=ho 30 (by kernel_rfl)
           try have bU:=eqn hf.1
           try have dS:=eqn hf.2.1
           try have fE:=eqn hf.2.2.1
           try have fL:=eqn hf.2.2.2.1
           try have eN:=(O.cell (p:=⟨z,i,rF⟩) eM).trans k0
           try have d6:IntKind.u8.wrap ((F:Int))=(F:Int):=by rw[IntKind.wrap_u8];omega
           try have fA:IntKind.u8.wrap ((E:Int))=(E:Int):=by rw[IntKind.wrap_u8];omega
           try have fG:IntKind.u8.wrap ((r:Int))=(r:Int):=by rw[IntKind.wrap_u8];omega
           try have fP:IntKind.u8.wrap ((R:Int))=(R:Int):=by rw[IntKind.wrap_u8];omega
           try(refine Hd ?_;go_simp;exact Q _ rfl)
          ·have aZ:(x:Int)/16777216=(F:Int):=(by have:=dN.out;omega);have o:IntKind.u64.wrap ((F:Int))=(F:Int):=(by rw[IntKind.wrap_u64];omega);have s:(x:Int)/16777216=(F:Int):=(by omega);have M:IntKind.u64.wrap ((x:Int)/16777216)=(F:Int):=(by rw[s];exact o);have G:eU ((x:Int)) 16777216=(F:Int):=(by rw[eV (by omega)];omega);have aS:IntKind.u64.wrap (eU ((x:Int)) 16777216)=(F:Int):=(by rw[G];exact o);go_simp;exact Q _ _ rfl (fun _=>bR)
          ·have aZ:(x:Int)/65536=(z1:Int):=(by have:=eC.out;omega);have o:IntKind.u64.wrap ((z1:Int))=(z1:Int):=(by rw[IntKind.wrap_u64];omega);have s:(x:Int)/65536=(z1:Int):=(by omega);have M:IntKind.u64.wrap ((x:Int)/65536)=(z1:Int):=(by rw[s];exact o);have G:eU ((x:Int)) 65536=(z1:Int):=(by rw[eV (by omega)];omega);have aS:IntKind.u64.wrap (eU ((x:Int)) 65536)=(z1:Int):=(by rw[G];exact o);go_simp;exact Q _ _ rfl (fun _=>bR)
          ·have aZ:(z1:Int)%256=(E:Int):=(by have:=d7.out;omega);have o:IntKind.u64.wrap ((E:Int))=(E:Int):=(by rw[IntKind.wrap_u64];omega);have s:(z1:Int)%256=(E:Int):=(by omega);have M:IntKind.u64.wrap ((z1:Int)%256)=(E:Int):=(by rw[s];exact o);have G:fC ((z1:Int)) 256=(E:Int):=(by rw[fD (by omega)];omega);have aS:IntKind.u64.wrap (fC ((z1:Int)) 256)=(E:Int):=(by rw[G];exact o);go_simp;exact Q _ _ rfl (fun _=>bR)
          ·have aZ:(x:Int)/256=(A:Int):=(by have:=dZ.out;omega);have o:IntKind.u64.wrap ((A:Int))=(A:Int):=(by rw[IntKind.wrap_u64];omega);have s:(x:Int)/256=(A:Int):=(by omega);have M:IntKind.u64.wrap ((x:Int)/256)=(A:Int):=(by rw[s];exact o);have G:eU ((x:Int)) 256=(A:Int):=(by rw[eV (by omega)];omega);have aS:IntKind.u64.wrap (eU ((x:Int)) 256)=(A:Int):=(by rw[G];exact o);go_simp;exact Q _ _ rfl (fun _=>bR)
          ·have aZ:(A:Int)%256=(r:Int):=(by have:=eI.out;omega);have o:IntKind.u64.wrap ((r:Int))=(r:Int):=(by rw[IntKind.wrap_u64];omega);have s:(A:Int)%256=(r:Int):=(by omega);have M:IntKind.u64.wrap ((A:Int)%256)=(r:Int):=(by rw[s];exact o);have G:fC ((A:Int)) 256=(r:Int):=(by rw[fD (by omega)];omega);have aS:IntKind.u64.wrap (fC ((A:Int)) 256)=(r:Int):=(by rw[G];exact o);go_simp;exact Q _ _ rfl (fun _=>bR)
          ·have aZ:(x:Int)%256=(R:Int):=(by have:=eG.out;omega);have o:IntKind.u64.wrap ((R:Int))=(R:Int):=(by rw[IntKind.wrap_u64];omega);have s:(x:Int)%256=(R:Int):=(by omega);have M:IntKind.u64.wrap ((x:Int)%256)=(R:Int):=(by rw[s];exact o);have G:fC ((x:Int)) 256=(R:Int):=(by rw[fD (by omega)];omega);have aS:IntKind.u64.wrap (fC ((x:Int)) 256)=(R:Int):=(by rw[G];exact o);go_simp;exact Q _ _ rfl (fun _=>bR)
          ·go_simp;exact Q _ _ ⟨_,rfl,(Own.full (B:=wx.heap.size) (cs:=#[rA rD (F:Nat),rA rD (E:Nat),rA rD (r:Nat),rA rD (R:Nat)]) rfl lR (by unfold maxLen;simp) rfl).rd⟩ (fun _=>bR.alloc lR _)
          ·obtain⟨ga,a7,o1⟩:∃g,a.tmps[349]?.getD undef=q9 (some ⟨g,0,rF⟩) 4 4∧Rd wx (a.tmps[349]?.getD undef) [rA rD (F:Nat),rA rD (E:Nat),rA rD (r:Nat),rA rD (R:Nat)]:=hf.2.1;rw[a7]at o1;refine Zed (.tmp 322) (.tmp 349) 28 rfl (C.heap.size) 5 _ 1 Bz _ ((bvs (Zae S i))) (evs bU) ((cD.out).below O lR) _ [rA rD (F:Nat),rA rD (E:Nat),rA rD (r:Nat),rA rD (R:Nat)] (evs a7) o1 ?_ ?_ ?_ ?_
           ·intro u Y;simp only[aE,eZ,or_false]at Y;rcases Y with rfl|rfl|rfl|rfl<;>rfl
           ·have:=Zi2 aU.out (show i≤8 by omega);simp only[bvs_len,bY,bT];omega
           ·exact bM (aP.out.size) O.size
           ·intro v' w4 aN J;exact Q _ _ ⟨aN,(O.mono (aP.out.size)).trans J⟩ (fun bX=>absurd rfl bX)
          ·have o0:(fun v w'=>Own w' C.heap.size 5 v ((bvs (Zae S i))++[rA rD (F:Nat),rA rD (E:Nat),rA rD (r:Nat),rA rD (R:Nat)])∧Below C.heap.size X w') (a.tmps[350]?.getD undef) wx:=hf.1;obtain⟨v0,aL⟩:=eX (a.tmps[350]?.getD undef);rw[←aL]at o0;have e0:=aL.symm;clear aL;go_simp;exact Q _ _ o0 (fun _=>bR)
         ·rintro f w9 aC;have S9:Own w9 C.heap.size 5 (f 29) ((bvs (Zae S i))++[rA rD (F:Nat),rA rD (E:Nat),rA rD (r:Nat),rA rD (R:Nat)])∧Below C.heap.size X w9:=aC.2.2.2.2.2.2.2.2.2.2.2.2.2.2.2.2.2.2.2.2.2.2.2.2.2.2.2.2.2.1;clear aC;simp only[Am,Az,Ex,cX,cY,cZ,dA,Nat.reduceBEq,Nat.reduceAdd,Bool.or_false,Bool.or_true,cond_true,cond_false];obtain⟨u,Y⟩:=eX (f 29);rw[←Y]at S9⊢;have V:=Hd (show Own w9 C.heap.size 5 u (bvs (Zae S (i+1))) by rw[dW.out,Cf];exact S9.1);have U:=Hd (aP.out.trans S9.2);clear S9 Y;go_wp2_with fail;go_roundg (gk-1);case measure=>have:=HI.out;omega
          case rel=>exact⟨i+1,by have:=HI.out;omega,by go_num,V.out,U.out⟩
        ·obtain rfl:i=8:=(by omega);have a4:decide (((8:Nat):Int)<8)=false:=(by decide);rw[Zi3 aU.out,d5.out]at cD;clear hi d bC hlt;go_wp2_with fail;go_ret;exact⟨_,rfl,cD.out.mono aO.out.size,aO.out.trans (aP.out.mono aO.out.size)⟩
end Go.Proofs.YtfofaiommeckbaaGreat
