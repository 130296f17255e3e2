/- Walks: the reference's sum. -/
import Derived.Test.YtfofaiommeckbaaGreatZSliceSoundB
import Derived.Deep.Cut
import Derived.Test.YtfofaiommeckbaaGreatZSliceSound35
open List renaming replicate → cK, length_cons → cB, length_nil → bW, getD_eq_getElem?_getD → aJ, mem_cons → aG, not_mem_nil → fI, filterMap_cons → cZ, filterMap_nil → dA, contains_cons → dB, contains_nil → dC
open Nat renaming zero_le → aA, pow_le_pow_right → bA, le_trans → bO, lt_or_ge → aB
open Int renaming tmod → dN, tmod_eq_emod_of_nonneg → dO, tdiv → fE, tdiv_eq_ediv_of_nonneg → fF
set_option linter.unusedVariables false
set_option maxRecDepth 100000
set_option maxHeartbeats 40000000
namespace Go.Proofs.YtfofaiommeckbaaGreat
open Go.RowKit ShaM WireM
theorem Zic (v vh vk:Value)(L:List Nat)(w:World)(h:Rd w v (bvs L))(hh:Rd w vh (qvs HL0))(hk:Rd w vk (qvs KL))(hL:∀x∈L,x<256)(hl:L.length≤1000000):
  Calls Tryz.prog 144 #[v,vh,vk] w fun e w'=>∃v',e=.returned v'∧Own w' w.heap.size 5 v' (bvs (shaF L))∧Below w.heap.size w w':=by
 have hv:∃a c,v=.slice a L.length c:=(by obtain⟨a,c,e,_⟩:=h;exact⟨a,c,by rw[e,bvs_len]⟩);obtain⟨a0,c0,rfl⟩:=hv;obtain⟨a1,n1,c1,rfl⟩:=Znb hh;obtain⟨a2,n2,c2,rfl⟩:=Znb hk;obtain⟨n,hn⟩:=eX L.length;rw[←hn]at h hl⊢;obtain⟨Z,hZ⟩:=eX ((119-n%64)%64);have c6:tailL n=([128]++cK Z 0)++beN 8 (8*n):=(by rw[tailL,←hZ];simp);have HN:=Hd hn;have HZ:=Hd hZ;have eN:=Hd c6;have H:=Hd h;have HH:=Hd hh;have HK:=Hd hk;have HL:=Hd hL;clear hn hZ c6 h hh hk hL;go_enter Tryz.func144,Tryz.ntmps144;go_wp2_with (first|(at_builtin;refine At rfl (.tmp 31) (.tmp 32) 181 rfl w.heap.size 92 _ 8 Zmj _ [] rfl (Own.lit0 rfl lR) _ (qvs HL0) rfl (HH.out.alloc _) (Uz _) ?c2 ?c3 ?_));case c2=>rw[qvs_len,HL0_len];simp
 case c3=>simp
 rintro v1 I d-bL;have cE:=Hd d;have bJ:=Hd (((Below.refl w.heap.size w).alloc lR (.cells #[] 92)).trans bL);obtain⟨b1,b2,b3,rfl⟩:=Ey d;have R1:=Hd (show Rd (I.alloc (.cells #[] 5)) (.slice a0 n c0) (bvs L)from(H.out.below bJ.out lR).alloc _);have O1:=Hd (show Own (I.alloc (.cells #[] 5)) I.heap.size 5 (.slice (some ⟨I.heap.size,0,none⟩) 0 0) []from Own.lit0 rfl lR);clear d bL;go_wp2_with (first|(at_builtin;refine At rfl (.tmp 34) (.tmp 35) 28 rfl I.heap.size 5 _ 1 Bu _ [] rfl O1.out _ (bvs L) rfl R1.out (Bp _) ?d2 ?d3 ?_));case d2=>rw[bvs_len,←HN.out];simp;omega
 case d3=>simp
 rintro v2 w2 d-bH;have cH:=Hd d;have bM:=Hd (((Below.refl I.heap.size I).alloc lR (.cells #[] 5)).trans bH);obtain⟨d1,d2,d3,rfl⟩:=Ey d;clear d bH;have O2:=Hd (cH.out.alloc (.cells #[.int .u8 128] 5));have R2:=Hd (show Rd (w2.alloc (.cells #[.int .u8 128] 5)) (.slice (some ⟨w2.heap.size,0,none⟩) 1 1) (bvs [128])from(Own.full (B:=0) (cs:=#[.int .u8 128]) rfl (aA _) (by unfold maxLen;simp) rfl).rd);go_wp2_with (first|(at_builtin;refine At rfl (.tmp 36) (.tmp 37) 28 rfl I.heap.size 5 _ 1 Bu _ (bvs L) rfl O2.out _ (bvs [128]) rfl R2.out (Bp _) ?e2 ?e3 ?_));case e2=>rw[bvs_len,←HN.out,bvs_len];simp;omega
 case e3=>have:=bM.out.size;simp;omega
 rintro v3 w3 d-dG;rw[←Cd]at d;have cG:=Hd d;have cR:=Hd ((bM.out.alloc bM.out.size (.cells #[.int .u8 128] 5)).trans dG);obtain⟨e1,e2,e3,rfl⟩:=Ey d;clear d dG O1 R1 O2 R2 bM cH;go_wp2_with fail
 go_loopg [8] Z (fun q m wr=>∃j:Nat,j+q=Z∧Own wr I.heap.size 5 m (bvs (Zb6 L j))∧Below I.heap.size I wr)
 case atStart=>exact⟨0,by omega,by rw[Zel];exact cG.out,cR.out⟩
 case round=>
  obtain⟨j,hj,d,z⟩:=hrel;obtain⟨m1,m2,m3,rfl⟩:=Ey d;have eJ:m2=n+1+j:=by
   obtain⟨_,_,e,_⟩:=d.rd;simp only[Value.slice.injEq,bvs_len,Ry]at e;have:=HN.out;omega
  subst eJ;have HJ:=Hd hj;have bX:=Hd d;have aW:=Hd z;have hz:=HZ.out
  by_cases hlt:j<Z
  ·have hc:(((n+1+j:Nat):Int)%64 !=56)=true:=(by simp;omega);have OJ:=Hd (bX.out.alloc (.cells #[.int .u8 0] 5));have RJ:=Hd (show Rd (wr.alloc (.cells #[.int .u8 0] 5)) (.slice (some ⟨wr.heap.size,0,none⟩) 1 1) (bvs [0])from(Own.full (B:=0) (cs:=#[.int .u8 0]) rfl (aA _) (by unfold maxLen;simp) rfl).rd);clear hj d z hz;go_wp2_with (first|(at_builtin;refine At rfl (.tmp 43) (.tmp 44) 28 rfl I.heap.size 5 _ 1 Bu _ _ rfl OJ.out _ (bvs [0]) rfl RJ.out (Bp _) ?f2 ?f3 ?_));case f2=>simp only[bvs_len,Ry,cB,bW];have:=HN.out;have:=HZ.out;omega
   case f3=>have:=aW.out.size;simp;omega
   rintro v4 w4 d-J;rw[←Cd,←Zem]at d;have V:=Hd d;have U:=Hd ((aW.out.alloc aW.out.size (.cells #[.int .u8 0] 5)).trans J);obtain⟨f1,f2,f3,rfl⟩:=Ey d;clear d J OJ RJ;go_wp2_with fail;go_roundg (gk-1);case measure=>have:=HJ.out;omega
   case rel=>exact⟨j+1,by have:=HJ.out;omega,V.out,U.out⟩
  ·obtain rfl:j=Z:=(by omega);have hc:(((n+1+j:Nat):Int)%64 !=56)=false:=(by simp;omega);clear hj d z hz hlt;obtain⟨C,rfl⟩:∃C:World,C=wr:=⟨_,rfl⟩;go_wp2_with fail;have cQ:(((n:Int)+1+(j:Int))%64 !=56)=false:=(by simpa using hc);simp only[cQ];clear cQ hc;have HQ:=Hd (show Own C I.heap.size 5 (.slice m1 (n+1+j) m3) (bvs (Zbl L j 0)) by rw[Zen];exact bX.out)
   go_loopg [8,10] 8 (fun q m iv wr=>∃i:Nat,i+q=8∧iv=.int .i64 (i:Nat)∧Own wr I.heap.size 5 m (bvs (Zbl L j i))∧Below I.heap.size I wr)
   case atStart=>exact⟨0,rfl,rfl,HQ.out,aW.out⟩
   case round=>
    obtain⟨i,hi,rfl,d,z⟩:=hrel;have HI:=Hd hi;have T:=Hd d;have aU:=Hd z;obtain⟨p1,p2,p3,rfl⟩:=Ey d;clear d z;obtain⟨wi,rfl⟩:∃wi:World,wi=wr:=⟨_,rfl⟩;obtain⟨g2,rfl⟩:=eX gk
    by_cases hlt:i<8
    ·have aZ:decide ((i:Int)<8)=true:=(by rw[decide_eq_true_iff];omega);clear hi;go_wp2_with fail
     go_loopg [11,12] (7-i) (fun q uv kv wr=>∃k u:Nat,k+q=7-i∧kv=.int .i64 (k:Nat)∧uv=.int .u64 (u:Nat)∧u=256^k∧wi=wr)
     case atStart=>exact⟨0,1,by omega,rfl,rfl,rfl,rfl⟩
     case round=>
      obtain⟨k,u,hk,rfl,rfl,X,rfl⟩:=hrel;have cM:u≤256^7:=(by rw[X];exact bA (by omega) (by omega));have fC:0<u:=(by rw[X];exact Nat.pow_pos (by omega));have HU:=Hd X;have cV:=Hd hk
      by_cases hlk:k<7-i
      ·have c5:decide ((k:Int)<7-(i:Int))=true:=(by rw[decide_eq_true_iff];omega);have fR:u≤256^6:=(by rw[X];exact bA (by omega) (by omega));clear hk X cM;go_wp2_with fail;go_roundg (gk-1);case measure=>have:=cV.out;omega
       case rel=>exact⟨k+1,u*256,by have:=cV.out;omega,by go_num,by go_num,by rw[HU.out,Nat.pow_succ],rfl⟩
      ·have c5:decide ((k:Int)<7-(i:Int))=false:=(by rw[decide_eq_false_iff_not];omega);obtain rfl:k=7-i:=(by omega);obtain⟨x,hx⟩:∃x:Nat,x=8*n/u:=⟨_,rfl⟩;have e8:x≤8000000:=(by rw[hx];exact bO (Nat.div_le_self _ _) (by omega));have fU:(n:Int)*8/(u:Int)=(x:Int):=(by rw[hx,Int.natCast_ediv,Nat.mul_comm 8 n];rfl);have HX:=Hd hx;have aR:p2=n+1+j+i:=by
        obtain⟨_,_,e,_⟩:=T.out.rd;simp only[Value.slice.injEq,bvs_len]at e;rw[Zm _ _ (by omega)]at e;have:=HN.out;omega
       subst aR;have fK:¬u=0:=(by omega);have fG:¬(u:Int)=0:=(by omega);clear hk X hx cM;have OI:=Hd (T.out.alloc (.cells #[.int .u8 ((x:Int)%256)] 5));have RI:=Hd (show Rd (wi.alloc (.cells #[.int .u8 ((x:Int)%256)] 5)) (.slice (some ⟨wi.heap.size,0,none⟩) 1 1) (bvs [x%256])from(Own.full (B:=0) (cs:=#[.int .u8 ((x:Int)%256)]) rfl (aA _) (by unfold maxLen;simp) rfl).rd);go_wp2_with (first|(at_builtin;refine At rfl (.tmp 62) (.tmp 68) 28 rfl I.heap.size 5 _ 1 Bu _ _ rfl OI.out _ (bvs [x%256]) rfl RI.out (Bp _) ?g2 ?g3 ?_));case g2=>simp only[bvs_len,cB,bW];rw[Zm _ _ (by omega)];have:=HN.out;have:=HZ.out;omega
       case g3=>have:=aU.out.size;simp;omega
       rintro v4 w4 d-J;have ex:x=8*L.length/256^(7-i):=(by rw[HX.out,HU.out,HN.out]);rw[←Cd,ex,←Zeo _ _ hlt]at d;have V:=Hd d;have U:=Hd ((aU.out.alloc aU.out.size (.cells #[.int .u8 ((x:Int)%256)] 5)).trans J);obtain⟨f1,f2,f3,rfl⟩:=Ey d;clear d J OI RI ex;go_wp2_with fail;go_roundg (g2-1);case measure=>have:=HI.out;omega
       case rel=>exact⟨i+1,by have:=HI.out;omega,by go_num,V.out,U.out⟩
    ·obtain rfl:i=8:=(by omega);clear hi;go_wp2_with fail;have cF:Zbl L j 8=padL L:=(by have e1:=HZ.out;have e2:=HN.out;rw[e1,e2];exact Zh9 L);rw[cF]at T;have cN:=padL_len L;have bV:=Zdk HL.out;have a4:=Tt L;obtain⟨P,hP⟩:=eX (padL L);rw[←hP]at T cN bV a4;obtain⟨nb,bY⟩:∃nb,P.length=64*nb:=⟨P.length/64,by omega⟩;have eT:0<nb:=by
      rcases Nat.eq_zero_or_pos nb with h|h
      ·have:P.length=0:=(by rw[bY,h]);rw[hP,padL,List.length_append,tailL,cB]at this;omega
      ·exact h
     have aR:p2=64*nb:=by
      obtain⟨_,_,e,_⟩:=T.out.rd;simp only[Value.slice.injEq,bvs_len]at e;omega
     obtain⟨mb,aL,fT,eY⟩:∃mb,p1=some ⟨mb,0,none⟩∧I.heap.size≤mb∧mb<wi.heap.size:=by
      rcases T.out.2 with⟨e,e0⟩|⟨g,cp,c9,e,z,hg,_⟩
      ·simp only[Value.slice.injEq]at e;omega
      ·simp only[Value.slice.injEq]at e;refine⟨g,e.1,z,?_⟩;rcases aB g wi.heap.size with h|h
       ·exact h
       ·rw[Array.getElem?_eq_none h]at hg;cases hg
     obtain⟨z,bL,d8,fA,bH⟩:∃z,b1=some ⟨z,0,none⟩∧w.heap.size≤z∧z<I.heap.size∧b2=8:=by
      rcases cE.out.2 with⟨e,e0⟩|⟨g,cp,c9,e,z,hg,_⟩
      ·simp[HL0_len]at e0
      ·simp only[Value.slice.injEq]at e;refine⟨g,e.1,z,?_,by rw[e.2.1];simp[HL0_len]⟩;rcases aB g I.heap.size with h|h
       ·exact h
       ·rw[Array.getElem?_eq_none h]at hg;cases hg
     subst aR aL bL bH;obtain⟨N,hN⟩:=eX (64*nb);have a7:=Hd hN;have e7:N≤1000072:=(by have:=HN.out;omega);rw[←hN]at T;have dR:=Hd (show Own wi w.heap.size 92 (.slice (some ⟨z,0,none⟩) 8 b3) (qvs HL0)from cE.out.below aU.out lR);have dX:=Hd T.out.rd;have eH:=Hd (bJ.out.trans (aU.out.mono bJ.out.size));have eL:=Hd hP;have b7:=Hd bY;have fP:=Hd a4;rw[←hN];clear cN hP cF bY a4 aU T cG cR cE hN;clear bJ HQ bX aW eN;go_wp2_with fail
     go_loopg [13] nb (fun q av wr=>∃b a:Nat,b+q=nb∧a=64*b∧av=.int .i64 (a:Nat)∧Own wr w.heap.size 92 (.slice (some ⟨z,0,none⟩) 8 b3) (qvs (blocksN P HL0 b))∧Rd wr (.slice (some ⟨mb,0,none⟩) N p3) (bvs P)∧Below w.heap.size w wr)
     case atStart=>exact⟨0,0,by omega,rfl,rfl,dR.out,dX.out,eH.out⟩
     case round=>
      obtain⟨b,a,cC,bK,rfl,cX,cJ,cW⟩:=hrel;have a9:=Hd cX;have dZ:=Hd cJ;have aO:=Hd cW;have cP:=Hd cC;have cA:=Hd bK;clear cX cJ cW;obtain⟨C,rfl⟩:∃C:World,C=wr:=⟨_,rfl⟩;obtain⟨g4,rfl⟩:=eX gk
      by_cases hlb:b<nb
      ·have cT:a+64≤N:=(by have:=a7.out;omega);have eU:decide ((a:Int)<(N:Int))=true:=(by rw[decide_eq_true_iff];omega);have dU:decide (a<N)=true:=(by rw[decide_eq_true_iff];omega);obtain⟨B,hB⟩:=eX ((P.drop (64*b)).take 64);have c7:B.length=64:=(by rw[hB,List.length_take,List.length_drop,b7.out,←a7.out,←cA.out];omega);have cY:∀x∈B,x<256:=fun x hx=>bV x (List.mem_of_mem_drop (List.mem_of_mem_take (hB▸hx)));have c8:∀j,j<64→B.getD j 0=P.getD (a+j) 0:=by
        intro j hj;rw[hB,aJ,List.getElem?_take,if_pos hj,List.getElem?_drop,←cA.out,aJ]
       have dY:=Hd c8;have d0:=Hd hB;have fS:=Hd c7;have bN:=Hd cY;clear hB cC c8 c7 cY bK;go_wp2_with fail
       go_loopg [14,15] 64 (fun q wl tv wr=>∃t:Nat,t+q=64∧tv=.int .i64 (t:Nat)∧Own wr C.heap.size 92 wl (qvs (wL B t))∧Below C.heap.size C wr)
       case atStart=>exact⟨0,rfl,rfl,Own.nil _ _ _,bR⟩
       case round=>
        obtain⟨t,ht,rfl,d,bQ⟩:=hrel;have HT:=Hd ht;have a3:=Hd d;have aK:=Hd bQ;obtain⟨q1,l,q3,rfl⟩:=Ey d;obtain⟨wt,rfl⟩:∃wt:World,wt=wr:=⟨_,rfl⟩;obtain⟨g5,rfl⟩:=eX gk;obtain rfl:l=t:=by
         obtain⟨_,_,e,_⟩:=d.rd;simp only[Value.slice.injEq,qvs_len,wL_len]at e;exact e.2.1
        have dH:=Hd (dZ.out.below bQ lR);clear d bQ
        by_cases hlt:l<64
        ·have aZ:decide ((l:Int)<64)=true:=(by rw[decide_eq_true_iff];omega);clear ht
         by_cases h16:l<16
         ·have cI:decide ((l:Int)<16)=true:=(by rw[decide_eq_true_iff];omega);go_wp2_with fail
          go_loopg [16,17] 4 (fun q xv iv wr=>∃i x:Nat,i+q=4∧iv=.int .i64 (i:Nat)∧xv=.int .u64 (x:Nat)∧x=xN B l i∧wt=wr)
          case atStart=>exact⟨0,0,rfl,rfl,rfl,rfl,rfl⟩
          case round=>
           obtain⟨i,x,hi,rfl,rfl,hx,rfl⟩:=hrel;have HI:=Hd hi;have HX:=Hd hx
           by_cases hli:i<4
           ·have e5:decide ((i:Int)<4)=true:=(by rw[decide_eq_true_iff];omega);have fD:x<16777216:=(by rw[hx];exact Zl1 bN.out l hli);obtain⟨p0,aX⟩:=eX (a+4*l);obtain⟨p1,aL⟩:=eX (p0+i);have i0:(a:Int)+4*(l:Int)=(p0:Int):=(by omega);have i1:(p0:Int)+(i:Int)=(p1:Int):=(by omega);have l0:p0<N:=(by omega);have l1:p1<N:=(by omega);have hy:=dH.out.at3 (Qj (show p1<P.length by rw[b7.out,←a7.out];exact l1));obtain⟨_,_,e,fO,hc⟩:=hy;simp only[Option.some.injEq,Addr.mk.injEq,and_true]at e;obtain⟨rfl,rfl⟩:=e;rw[Nat.zero_add]at hc;obtain⟨y,bE⟩:=eX (P.getD p1 0);rw[←bE]at hc;have dT:y<256:=(by rw[bE];exact Gz bV (by omega) _);have HY:=Hd (show y=B.getD (4*l+i) 0 by rw[dY.out _ (by omega),bE,aL,aX,Nat.add_assoc]);clear hi hx aX aL bE;go_wp2_with fail;go_roundg (gk-1);case measure=>have:=HI.out;omega
            case rel=>exact⟨i+1,256*x+y,by have:=HI.out;omega,by go_num,by go_num,by rw[xN,←HX.out,←HY.out],rfl⟩
           ·obtain rfl:i=4:=(by omega);have fL:x<4294967296:=(by rw[hx];exact Zl2 bN.out l);clear hi hx hli;have dK:=Hd (show x=wNext B (wL B l) l by rw[HX.out];exact Zkz _ _ h16);have OT:=Hd (a3.out.alloc (.cells #[.int .u64 (x:Int)] 92));have RT:=Hd (show Rd (wt.alloc (.cells #[.int .u64 (x:Int)] 92)) (.slice (some ⟨wt.heap.size,0,none⟩) 1 1) (qvs [x])from Rd.lit _ _ _ _ _ rfl rfl (by unfold maxLen;simp));go_wp2_with (first|(at_builtin;refine At rfl (.tmp 99) (.tmp 101) 181 rfl C.heap.size 92 _ 8 Zmj _ _ rfl OT.out _ (qvs [x]) rfl RT.out (Uz _) ?h2 ?h3 ?_));case h2=>simp only[qvs_len,wL_len,cB,bW];omega
            case h3=>have:=aK.out.size;simp;omega
            rintro v4 w4 d-J;rw[←Zal,dK.out]at d;have V:=Hd (show Own w4 C.heap.size 92 v4 (qvs (wL B (l+1)))from d);have U:=Hd ((aK.out.alloc aK.out.size (.cells #[.int .u64 (x:Int)] 92)).trans J);clear d J OT RT;go_wp2_with fail;go_roundg (g5-1);case measure=>have:=HT.out;omega
            case rel=>exact⟨l+1,by have:=HT.out;omega,by go_num,V.out,U.out⟩
         ·have cI:decide ((l:Int)<16)=false:=(by rw[decide_eq_false_iff_not];omega);obtain⟨gw,eB⟩:∃g,q1=some ⟨g,0,none⟩:=by
           rcases a3.out.2 with⟨e,e0⟩|⟨g,cp,c9,e,_⟩
           ·simp only[Value.slice.injEq]at e;omega
           ·simp only[Value.slice.injEq]at e;exact⟨g,e.1⟩
          subst eB;have CC:=fun(j:Nat) (hj:j<l)=>(a3.out.at).1 j _ (Hw (L:=wL B l) (i:=j) (by rw[wL_len];exact hj));have wl:=wL_lt bN.out l;obtain⟨p0,aX⟩:=eX (l-15);obtain⟨p1,aL⟩:=eX (l-2);obtain⟨p2,aR⟩:=eX (l-7);obtain⟨p4,dD⟩:=eX (l-16);have i0:(l:Int)-15=(p0:Int):=(by omega);have i1:(l:Int)-2=(p1:Int):=(by omega);have i2:(l:Int)-7=(p2:Int):=(by omega);have i4:(l:Int)-16=(p4:Int):=(by omega);have l0:p0<l:=(by omega);have l1:p1<l:=(by omega);have l2:p2<l:=(by omega);have l4:p4<l:=(by omega);have m0:(p0:Int)<(l:Int):=(by omega);have m1:(p1:Int)<(l:Int):=(by omega);have m2:(p2:Int)<(l:Int):=(by omega);have m4:(p4:Int)<(l:Int):=(by omega);have c0:=CC p0 l0;have c1:=CC p1 l1;have c2:=CC p2 l2;have c4:=CC p4 l4;obtain⟨E,aE⟩:=eX ((wL B l).getD p0 0);obtain⟨F,aD⟩:=eX ((wL B l).getD p1 0);obtain⟨r,aI⟩:=eX ((wL B l).getD p2 0);obtain⟨y4,bG⟩:=eX ((wL B l).getD p4 0);rw[←aE]at c0;rw[←aD]at c1;rw[←aI]at c2;rw[←bG]at c4;have x0:E<4294967296:=(by rw[aE];exact getD_lt32 wl _);have x1:F<4294967296:=(by rw[aD];exact getD_lt32 wl _);have x2:r<4294967296:=(by rw[aI];exact getD_lt32 wl _);have x4:y4<4294967296:=(by rw[bG];exact getD_lt32 wl _);obtain⟨r1,bF⟩:=eX (rot E 7);obtain⟨r2,bP⟩:=eX (rot E 18);obtain⟨r3,a8⟩:=eX (rot F 17);obtain⟨r4,bC⟩:=eX (rot F 19);obtain⟨s1,bZ⟩:=eX (E/8);obtain⟨s2,bT⟩:=eX (F/1024);have R1:=Hd (fun W=>Oo E 7 r1 7 rfl x0 (by omega) bF W);have R2:=Hd (fun W=>Oo E 18 r2 18 rfl x0 (by omega) bP W);have R3:=Hd (fun W=>Oo F 17 r3 17 rfl x1 (by omega) a8 W);have R4:=Hd (fun W=>Oo F 19 r4 19 rfl x1 (by omega) bC W);have S1:=Hd (fun W=>Zjq E 3 s1 3 rfl x0 (by omega) bZ W);have S2:=Hd (fun W=>Zjq F 10 s2 10 rfl x1 (by omega) bT W);have b1:r1<4294967296:=(by rw[bF];exact rot_lt x0 (by omega));have b2:r2<4294967296:=(by rw[bP];exact rot_lt x0 (by omega));have b3:r3<4294967296:=(by rw[a8];exact rot_lt x1 (by omega));have b4:r4<4294967296:=(by rw[bC];exact rot_lt x1 (by omega));have X1:=u64_xor_nat r1 r2 (by omega) (by omega);have X2:=u64_xor_nat (r1^^^r2) s1 (by have:=xor_lt32 b1 b2;omega) (by omega);have X3:=u64_xor_nat r3 r4 (by omega) (by omega);have X4:=u64_xor_nat (r3^^^r4) s2 (by have:=xor_lt32 b3 b4;omega) (by omega);obtain⟨z1,aF⟩:=eX (r1^^^r2);obtain⟨z3,bI⟩:=eX (r3^^^r4);rw[←aF]at X1 X2;rw[←bI]at X3 X4;obtain⟨A,aC⟩:=eX (z1^^^s1);obtain⟨D,bD⟩:=eX (z3^^^s2);rw[←aC]at X2;rw[←bD]at X4;have HV:=Hd (show(D+r+A+y4)%4294967296=wNext B (wL B l) l by
           unfold wNext;rw[if_neg h16,s0N,s1N,←aX,←aL,←aR,←dD,←aE,←aD,←aI,←bG,←bF,←bP,←a8,←bC,←aF,←bI,←bZ,←bT,←aC,←bD])
          have b5:A<4294967296:=(by rw[aC,aF];exact xor_lt32 (xor_lt32 b1 b2) (by omega));have b6:D<4294967296:=(by rw[bD,bI];exact xor_lt32 (xor_lt32 b3 b4) (by omega));clear aX aL aR dD aE aD aI bG CC wl bZ bT bF bP a8 bC aF aC bI bD;go_wp2_with fail
          go_quiet ((first|(go_at_call 195;first|with_reducible exact Calls.quiet_of_same (R1.out _)|with_reducible exact Calls.quiet_of_same (R2.out _))|(go_at_call 196;with_reducible exact Calls.quiet_of_same (S1.out _))))
          obtain⟨na,rfl⟩:=eX nq;go_wp2_with fail
          go_quiet ((first|(go_at_call 195;first|with_reducible exact Fl (R3.out _)|with_reducible exact Fl (R4.out _))|(go_at_call 196;with_reducible exact Fl (S2.out _))))
          obtain⟨nd,rfl⟩:=eX nq;go_wp2_with fail;obtain⟨Y,aS⟩:=eX ((wt.drewN na).drewN nd);rw[←aS];have eE:=Hd (show Own Y C.heap.size 92 (.slice (some ⟨gw,0,none⟩) l q3) (qvs (wL B l)) by rw[aS];exact(a3.out.drewN _).drewN _);have a5:=Hd (show Below C.heap.size C Y by rw[aS];exact Ab (Ab aK.out _) _);have k2:Y.cell? ⟨gw,p2,none⟩=some (.int .u64 (r:Int)):=(by rw[aS];exact c2);have k4:Y.cell? ⟨gw,p4,none⟩=some (.int .u64 (y4:Int)):=(by rw[aS];exact c4);clear c0 c1 c2 c4 aS;obtain⟨xx,cD⟩:∃x:Nat,x=wNext B (wL B l) l:=⟨_,rfl⟩;have eA:=Hd cD;have e9:((D:Int)+(r:Int)+(A:Int)+(y4:Int))%4294967296=(xx:Int):=(by rw[cD,←HV.out];omega);have cU:gw<Y.heap.size:=World.block_lt_of_cell? _ _ k2;clear cD;refine Iy [eF (.slice (some ⟨gw,0,none⟩) l q3),eF (.int .u64 (D:Nat)),eF (.slice (some ⟨gw,0,none⟩) l q3),eF (.int .i64 (l:Nat)),eF (.int .i64 (p2:Nat)),eF (.pointer (some ⟨gw,p2,none⟩)),eF (.int .u64 (r:Nat)),eF (.int .u64 ((D:Int)+(r:Int))),eF (.int .u64 (A:Nat)),eF (.int .u64 ((D:Int)+(r:Int)+(A:Int))),eF (.slice (some ⟨gw,0,none⟩) l q3),eF (.int .i64 (l:Nat)),eF (.int .i64 (p4:Nat)),eF (.pointer (some ⟨gw,p4,none⟩)),eF (.int .u64 (y4:Nat)),eF (.int .u64 ((D:Int)+(r:Int)+(A:Int)+(y4:Int))),eF (.int .u64 (xx:Nat)),fun v w'=>∃g,v=.slice (some ⟨g,0,none⟩) 1 1∧Rd w' v [.int .u64 (xx:Nat)],fun v w'=>Own w' C.heap.size 92 v (qvs (wL B l)++[.int .u64 (xx:Nat)])∧Below C.heap.size Y w',fun v w'=>Own w' C.heap.size 92 v (qvs (wL B l)++[.int .u64 (xx:Nat)])∧Below C.heap.size Y w']
           ((cK 20 false).set 19 true) ((cK 20 false).set 19 true) 18 (by kernel_rfl) ?_ (by kernel_rfl) (by kernel_rfl) (by kernel_rfl) ?_ ?_
          ·exact kT (kT (kT (kT (kT (kT (kT (kT (kT (kT (kT (kT (kT (kT (kT (kT (kT (Ee (fun v I w2 h z=>let⟨g,e,h2⟩:=h;⟨g,e,h2.below z lR⟩) (Ee (fun v I w2 h z=>⟨Own.below h.1 z lR,h.2.trans (z.mono (bO (a5.out.size) h.2.size))⟩) (Ee (fun v I w2 h z=>⟨Own.below h.1 z lR,h.2.trans (z.mono (bO (a5.out.size) h.2.size))⟩) (Sq))))))))))))))))))))
          ·refine gT rfl ?_ (gT rfl ?_ (gT rfl ?_ (gT rfl ?_ (gU rfl ?_ (gT rfl ?_ (gT rfl ?_ (gU rfl ?_ (gT rfl ?_ (gU rfl ?_ (gT rfl ?_ (gT rfl ?_ (gU rfl ?_ (gT rfl ?_ (gT rfl ?_ (gU rfl ?_ (gU rfl ?_ (gU rfl ?_ (gU rfl ?_ (.cons (Qw ?_) .nil)))))))))))))))))));all_goals
            intro a wx Q ho hf;refine⟨rfl,?_⟩;intro K O;try have eQ:a.tmps[14]?.getD undef=.slice (some ⟨gw,0,none⟩) l q3:=ho 14 (by kernel_rfl)
            try have eZ:a.tmps[15]?.getD undef=.int .i64 (l:Nat):=ho 15 (by kernel_rfl)
            try have eV:a.tmps[18]?.getD undef=.int .u64 (A:Nat):=ho 18 (by kernel_rfl)
            try have eS:a.tmps[19]?.getD undef=.int .u64 (D:Nat):=ho 19 (by kernel_rfl)
            try have bU:=eqn hf.1
            try have dJ:=eqn hf.2.1
            try have eG:=(Q.cell (p:=⟨gw,p2,none⟩) cU).trans k2
            try have d7:=(Q.cell (p:=⟨gw,p4,none⟩) cU).trans k4
            try(refine Hd ?_;go_simp;exact O _ rfl)
           ·have o:IntKind.i64.wrap ((p2:Int))=(p2:Int):=(by rw[IntKind.wrap_i64];omega);have s:(l:Int)-7=(p2:Int):=(by omega);have M:IntKind.i64.wrap ((l:Int)-7)=(p2:Int):=(by rw[s];exact o);go_simp;exact O _ _ rfl (fun _=>bR)
           ·have o:IntKind.u64.wrap (((D:Int)+(r:Int)))=((D:Int)+(r:Int)):=(by rw[IntKind.wrap_u64];omega);have s:(D:Int)+(r:Int)=((D:Int)+(r:Int)):=(by omega);have M:IntKind.u64.wrap ((D:Int)+(r:Int))=((D:Int)+(r:Int)):=(by rw[s];exact o);go_simp;exact O _ _ rfl (fun _=>bR)
           ·have o:IntKind.u64.wrap (((D:Int)+(r:Int)+(A:Int)))=((D:Int)+(r:Int)+(A:Int)):=(by rw[IntKind.wrap_u64];omega);have s:((D:Int)+(r:Int))+(A:Int)=((D:Int)+(r:Int)+(A:Int)):=(by omega);have M:IntKind.u64.wrap (((D:Int)+(r:Int))+(A:Int))=((D:Int)+(r:Int)+(A:Int)):=(by rw[s];exact o);go_simp;exact O _ _ rfl (fun _=>bR)
           ·have o:IntKind.i64.wrap ((p4:Int))=(p4:Int):=(by rw[IntKind.wrap_i64];omega);have s:(l:Int)-16=(p4:Int):=(by omega);have M:IntKind.i64.wrap ((l:Int)-16)=(p4:Int):=(by rw[s];exact o);go_simp;exact O _ _ rfl (fun _=>bR)
           ·have o:IntKind.u64.wrap (((D:Int)+(r:Int)+(A:Int)+(y4:Int)))=((D:Int)+(r:Int)+(A:Int)+(y4:Int)):=(by rw[IntKind.wrap_u64];omega);have s:((D:Int)+(r:Int)+(A:Int))+(y4:Int)=((D:Int)+(r:Int)+(A:Int)+(y4:Int)):=(by omega);have M:IntKind.u64.wrap (((D:Int)+(r:Int)+(A:Int))+(y4:Int))=((D:Int)+(r:Int)+(A:Int)+(y4:Int)):=(by rw[s];exact o);go_simp;exact O _ _ rfl (fun _=>bR)
           ·have o:IntKind.u64.wrap ((xx:Int))=(xx:Int):=(by rw[IntKind.wrap_u64];omega);have s:((D:Int)+(r:Int)+(A:Int)+(y4:Int))%4294967296=(xx:Int):=(by omega);have M:IntKind.u64.wrap (((D:Int)+(r:Int)+(A:Int)+(y4:Int))%4294967296)=(xx:Int):=(by rw[s];exact o);have G:dN (((D:Int)+(r:Int)+(A:Int)+(y4:Int))) 4294967296=(xx:Int):=(by rw[dO (by omega)];omega);have aQ:IntKind.u64.wrap (dN (((D:Int)+(r:Int)+(A:Int)+(y4:Int))) 4294967296)=(xx:Int):=(by rw[G];exact o);go_simp;exact O _ _ rfl (fun _=>bR)
           ·go_simp;exact O _ _ ⟨_,rfl,(Own.full (B:=wx.heap.size) (cs:=#[.int .u64 (xx:Nat)]) rfl lR (by unfold maxLen;simp) rfl).rd⟩ (fun _=>bR.alloc lR _)
           ·obtain⟨ga,aY,o1⟩:∃g,a.tmps[160]?.getD undef=.slice (some ⟨g,0,none⟩) 1 1∧Rd wx (a.tmps[160]?.getD undef) [.int .u64 (xx:Nat)]:=hf.2.1;rw[aY]at o1;refine Zds (.tmp 143) (.tmp 160) 181 rfl (C.heap.size) 92 _ 8 Zmj _ (qvs (wL B l)) (evs bU) ((eE.out).below Q lR) _ [.int .u64 (xx:Nat)] (evs aY) o1 ?_ ?_ ?_ ?_
            ·intro u X;simp only[aG,fI,or_false]at X;subst X;rfl
            ·simp only[qvs_len,wL_len,cB,bW];omega
            ·exact bO (a5.out.size) Q.size
            ·intro v' w4 aN J;exact O _ _ ⟨aN,(Q.mono (a5.out.size)).trans J⟩ (fun bS=>absurd rfl bS)
           ·have o0:(fun v w'=>Own w' C.heap.size 92 v (qvs (wL B l)++[.int .u64 (xx:Nat)])∧Below C.heap.size Y w') (a.tmps[161]?.getD undef) wx:=hf.1;obtain⟨v0,aM⟩:=eX (a.tmps[161]?.getD undef);rw[←aM]at o0;have e0:=aM.symm;clear aM;go_simp;exact O _ _ o0 (fun _=>bR)
          ·rintro f w9 aH;have S9:Own w9 C.heap.size 92 (f 14) (qvs (wL B l)++[.int .u64 (xx:Nat)])∧Below C.heap.size Y w9:=aH.2.2.2.2.2.2.2.2.2.2.2.2.2.2.2.2.2.2.2.1;clear aH;simp only[Aj,Aq,Dr,cZ,dA,dB,dC,Nat.reduceBEq,Nat.reduceAdd,Bool.or_false,Bool.or_true,cond_true,cond_false];obtain⟨u,X⟩:=eX (f 14);rw[←X]at S9⊢;rw[←Zgm,eA.out]at S9;have V:=Hd (show Own w9 C.heap.size 92 u (qvs (wL B (l+1)))from S9.1);have U:=Hd (a5.out.trans S9.2);clear S9 X;go_wp2_with fail;go_roundg (g5-1);case measure=>have:=HT.out;omega
           case rel=>exact⟨l+1,by have:=HT.out;omega,by go_num,V.out,U.out⟩
        ·obtain rfl:l=64:=(by omega);clear ht hlt;obtain⟨S,hS⟩:=eX (blocksN P HL0 b);have ok:=blocksN_ok P HL0_len HL0_lt b;rw[←hS]at a9 ok;have dE:stepN S B=blocksN P HL0 (b+1):=(by rw[d0.out,blocksN,←hS]);have aT:=Hd dE;obtain rfl:n2=64:=by
          obtain⟨_,_,e,_⟩:=HK.out;simp only[Value.slice.injEq,qvs_len,KL_len]at e;exact e.2.1
         have dI:Rd wt (.slice a2 64 c2) (qvs KL):=(HK.out.below aO.out lR).below aK.out lR;have eD:=Hd dI;have cO:=a9.out.below aK.out lR;have eI:=Hd cO;have cL:=Hd ok;have dW:mb≠z:=(by omega);have d4:w.heap.size≤wt.heap.size:=bO aO.out.size aK.out.size;clear hS ok dE dI cO
         go_upto_region 32 with(fail)
         refine Zer _ _ _ _ _ _ _ _ _ _ _ _ _ _ _ _ _ _ _ _ _ _ _ _ _ _ _ _ _ _ _ _ _ _ _ _ _ _ _ _ _ _ _ _ _ _ _ _ _ _ _ _ _ _ _ _ _ _ _ _ _ _ _ _ _ _ _ _ _ _ _ _ _ _ _ _ _ _ _ _ _ _ _ _ _ _ _ _ _ _ _ _ _ _ _ _ _ _ _ _ _ _ _ _ _ _ _ _ _ _ _ _ _ _ _ _ _ _ _ _ _ _ _ _ _ _ _ _ _ _ _ _ _ _ _ _ _ _ _ _ _ _ _ _ _ _ _ _ _ _ _ _ _ _ _ _ _ _ _ _ _ _ _ _ _ _ _ _ _ _ _ _ _ _ _ _ _ _ _ _ _ _ _ _ _ _ _ _ _ _ _ _ _ _ _ _ _ _ _ _ _ _ _ _ _ _ _ _ _ _ _ _ _ _ _ _ _ _ _ _ _ _ _ _ _ _ _ _ _ _ _ _ _ _ _ _ _ _ _ _ _ _ _ _ _ _ _ _ _ _ _ _ _ _ _ _ _ _ _ _ _ _ _ _ _ _ _ _ _ _ _ _ _ _ _ _ _ _ _ _ _ _ _ _ _ _ _ _ _ _ _ _ _ _ _ _ _ _ _ _ _ _ _ _ _ _ _ _ _ _ _ _ _ _ _ _ _ _ _ _ _ _ _ _ _ _ _ _ _ _ _ _ _ _ _ _ _ _ _ _ _ _ _ _ _ _ _ _ _ _ _ wt w.heap.size C.heap.size z b3 mb N p3 q3 c2 q1 a2 P S B ?hk a3.out eD.out eI.out dH.out bN.out cL.out.2 cL.out.1 dW d8 d4 ?_;case hk=>assumption
         intro f w9 b9 dF cS;rw[aT.out]at b9;have d6:=Hd b9;have eC:=Hd dF;have dL:=Hd (aO.out.trans ((aK.out.mono aO.out.size).trans cS));clear b9 dF cS;go_wp2_with fail;go_roundg (g4-1);case measure=>have:=cP.out;omega
         case rel=>exact⟨b+1,a+64,by have:=cP.out;omega,by have:=cA.out;omega,by go_num,d6.out,eC.out,dL.out⟩
      ·obtain rfl:b=nb:=(by omega);clear cC;have cT:a=N:=(by rw[bK,a7.out]);subst cT;obtain⟨S,hS⟩:=eX (blocksN P HL0 b);have ok:=blocksN_ok P HL0_len HL0_lt b;rw[←hS]at a9 ok;have d5:=Hd (show(S.map (beN 4)).flatten=shaF L by
        rw[hS,shaF,←eL.out,b7.out,Nat.mul_div_cancel_left _ (by omega)])
       have eK:=Hd ok.2;have aT:=Hd ok.1;have eR:decide ((a:Int)<(a:Int))=false:=(by rw[decide_eq_false_iff_not];omega);have dP:decide (a<a)=false:=(by rw[decide_eq_false_iff_not];omega);clear hS ok bK hlb;go_wp2_with fail
       go_loopg [29,30] 8 (fun q ov iv wr=>∃i:Nat,i+q=8∧iv=.int .i64 (i:Nat)∧Own wr C.heap.size 5 ov (bvs (Zn S i))∧Below C.heap.size C wr)
       case atStart=>exact⟨0,rfl,rfl,Own.nil _ _ _,bR⟩
       case round=>
        obtain⟨i,hi,rfl,d,bB⟩:=hrel;have HI:=Hd hi;have b8:=Hd d;have aP:=Hd bB;obtain⟨o1,o2,o3,rfl⟩:=Ey d;obtain⟨Y,rfl⟩:∃Y:World,Y=wr:=⟨_,rfl⟩
        by_cases hlt:i<8
        ·have aZ:decide ((i:Int)<8)=true:=(by rw[decide_eq_true_iff];omega);have k0:=((a9.out.below bB lR).at).1 i _ (Hw (L:=S) (by rw[aT.out];exact hlt));have dS:z<Y.heap.size:=World.block_lt_of_cell? Y ⟨z,i,none⟩ k0;have e6:(i:Int)<8:=(by omega);have xl:=getD_lt32 eK.out i;have aV:=fun(x:Nat) (hx:x=S.getD i 0) (hl:x<4294967296)=>Zep aT.out hlt hx hl;obtain⟨x,hx⟩:=eX (S.getD i 0);rw[←hx]at k0 xl;have aV:=aV x hx xl;obtain⟨E,aE⟩:=eX (x/16777216);obtain⟨z1,aF⟩:=eX (x/65536);obtain⟨A,aC⟩:=eX (x/256);obtain⟨F,aD⟩:=eX (z1%256);obtain⟨r,aI⟩:=eX (A%256);obtain⟨R,b0⟩:=eX (x%256);rw[←aE,←aF,←aC,←aD,←aI,←b0]at aV;have g0:E<256:=(by omega);have g1:F<256:=(by omega);have g2:r<256:=(by omega);have g3:R<256:=(by omega);have q1:z1<4294967296:=(by omega);have l:A<4294967296:=(by omega);have eP:=Hd aV;have eO:=Hd aE;have dM:=Hd aF;have d9:=Hd aC;have dQ:=Hd aD;have dV:=Hd aI;have eM:=Hd b0;clear hi d bB hx aV aE aF aC aD aI b0;go_wp2_with fail;refine Iy [eF (.slice o1 o2 o3),eF (.slice (some ⟨z,0,none⟩) 8 b3),eF (.int .i64 (i:Nat)),eF (.pointer (some ⟨z,i,none⟩)),eF (.int .u64 (x:Nat)),eF (.int .u64 (E:Nat)),eF (.int .u8 (E:Nat)),eF (.slice (some ⟨z,0,none⟩) 8 b3),eF (.int .i64 (i:Nat)),eF (.pointer (some ⟨z,i,none⟩)),eF (.int .u64 (x:Nat)),eF (.int .u64 (z1:Nat)),eF (.int .u64 (F:Nat)),eF (.int .u8 (F:Nat)),eF (.slice (some ⟨z,0,none⟩) 8 b3),eF (.int .i64 (i:Nat)),eF (.pointer (some ⟨z,i,none⟩)),eF (.int .u64 (x:Nat)),eF (.int .u64 (A:Nat)),eF (.int .u64 (r:Nat)),eF (.int .u8 (r:Nat)),eF (.slice (some ⟨z,0,none⟩) 8 b3),eF (.int .i64 (i:Nat)),eF (.pointer (some ⟨z,i,none⟩)),eF (.int .u64 (x:Nat)),eF (.int .u64 (R:Nat)),eF (.int .u8 (R:Nat)),fun v w'=>∃g,v=.slice (some ⟨g,0,none⟩) 4 4∧Rd w' v [.int .u8 (E:Nat),.int .u8 (F:Nat),.int .u8 (r:Nat),.int .u8 (R:Nat)],fun v w'=>Own w' C.heap.size 5 v ((bvs (Zn S i))++[.int .u8 (E:Nat),.int .u8 (F:Nat),.int .u8 (r:Nat),.int .u8 (R:Nat)])∧Below C.heap.size Y w',fun v w'=>Own w' C.heap.size 5 v ((bvs (Zn S i))++[.int .u8 (E:Nat),.int .u8 (F:Nat),.int .u8 (r:Nat),.int .u8 (R:Nat)])∧Below C.heap.size Y w']
          ((cK 30 false).set 29 true) ((cK 30 false).set 29 true) 28 (by kernel_rfl) ?_ (by kernel_rfl) (by kernel_rfl) (by kernel_rfl) ?_ ?_
         ·exact kT (kT (kT (kT (kT (kT (kT (kT (kT (kT (kT (kT (kT (kT (kT (kT (kT (kT (kT (kT (kT (kT (kT (kT (kT (kT (kT (Ee (fun v I w2 h z=>let⟨g,e,h2⟩:=h;⟨g,e,h2.below z lR⟩) (Ee (fun v I w2 h z=>⟨Own.below h.1 z lR,h.2.trans (z.mono (bO (aP.out.size) h.2.size))⟩) (Ee (fun v I w2 h z=>⟨Own.below h.1 z lR,h.2.trans (z.mono (bO (aP.out.size) h.2.size))⟩) (Sq))))))))))))))))))))))))))))))
         ·refine gT rfl ?_ (gT rfl ?_ (gT rfl ?_ (gT rfl ?_ (gT rfl ?_ (gU rfl ?_ (gT rfl ?_ (gT rfl ?_ (gT rfl ?_ (gT rfl ?_ (gT rfl ?_ (gU rfl ?_ (gU rfl ?_ (gT rfl ?_ (gT rfl ?_ (gT rfl ?_ (gT rfl ?_ (gT rfl ?_ (gU rfl ?_ (gU rfl ?_ (gT rfl ?_ (gT rfl ?_ (gT rfl ?_ (gT rfl ?_ (gT rfl ?_ (gU rfl ?_ (gT rfl ?_ (gU rfl ?_ (gU rfl ?_ (.cons (Qw ?_) .nil)))))))))))))))))))))))))))));all_goals
           intro a wx Q ho hf;refine⟨rfl,?_⟩;intro K O;try have fB:a.tmps[7]?.getD undef=.slice (some ⟨z,0,none⟩) 8 b3:=ho 7 (by kernel_rfl)
           try have e4:a.tmps[29]?.getD undef=.slice o1 o2 o3:=ho 29 (by kernel_rfl)
           try have eW:a.tmps[30]?.getD undef=.int .i64 (i:Nat):=ho 30 (by kernel_rfl)
           try have bU:=eqn hf.1
           try have dJ:=eqn hf.2.1
           try have fJ:=eqn hf.2.2.1
           try have fH:=eqn hf.2.2.2.1
           try have eG:=(Q.cell (p:=⟨z,i,none⟩) dS).trans k0
           try have d7:IntKind.u8.wrap ((E:Int))=(E:Int):=by rw[IntKind.wrap_u8];omega
           try have fQ:IntKind.u8.wrap ((F:Int))=(F:Int):=by rw[IntKind.wrap_u8];omega
           try have fM:IntKind.u8.wrap ((r:Int))=(r:Int):=by rw[IntKind.wrap_u8];omega
           try have fN:IntKind.u8.wrap ((R:Int))=(R:Int):=by rw[IntKind.wrap_u8];omega
           try(refine Hd ?_;go_simp;exact O _ rfl)
          ·have a6:(x:Int)/16777216=(E:Int):=(by have:=eO.out;omega);have o:IntKind.u64.wrap ((E:Int))=(E:Int):=(by rw[IntKind.wrap_u64];omega);have s:(x:Int)/16777216=(E:Int):=(by omega);have M:IntKind.u64.wrap ((x:Int)/16777216)=(E:Int):=(by rw[s];exact o);have G:fE ((x:Int)) 16777216=(E:Int):=(by rw[fF (by omega)];omega);have aQ:IntKind.u64.wrap (fE ((x:Int)) 16777216)=(E:Int):=(by rw[G];exact o);go_simp;exact O _ _ rfl (fun _=>bR)
          ·have a6:(x:Int)/65536=(z1:Int):=(by have:=dM.out;omega);have o:IntKind.u64.wrap ((z1:Int))=(z1:Int):=(by rw[IntKind.wrap_u64];omega);have s:(x:Int)/65536=(z1:Int):=(by omega);have M:IntKind.u64.wrap ((x:Int)/65536)=(z1:Int):=(by rw[s];exact o);have G:fE ((x:Int)) 65536=(z1:Int):=(by rw[fF (by omega)];omega);have aQ:IntKind.u64.wrap (fE ((x:Int)) 65536)=(z1:Int):=(by rw[G];exact o);go_simp;exact O _ _ rfl (fun _=>bR)
          ·have a6:(z1:Int)%256=(F:Int):=(by have:=dQ.out;omega);have o:IntKind.u64.wrap ((F:Int))=(F:Int):=(by rw[IntKind.wrap_u64];omega);have s:(z1:Int)%256=(F:Int):=(by omega);have M:IntKind.u64.wrap ((z1:Int)%256)=(F:Int):=(by rw[s];exact o);have G:dN ((z1:Int)) 256=(F:Int):=(by rw[dO (by omega)];omega);have aQ:IntKind.u64.wrap (dN ((z1:Int)) 256)=(F:Int):=(by rw[G];exact o);go_simp;exact O _ _ rfl (fun _=>bR)
          ·have a6:(x:Int)/256=(A:Int):=(by have:=d9.out;omega);have o:IntKind.u64.wrap ((A:Int))=(A:Int):=(by rw[IntKind.wrap_u64];omega);have s:(x:Int)/256=(A:Int):=(by omega);have M:IntKind.u64.wrap ((x:Int)/256)=(A:Int):=(by rw[s];exact o);have G:fE ((x:Int)) 256=(A:Int):=(by rw[fF (by omega)];omega);have aQ:IntKind.u64.wrap (fE ((x:Int)) 256)=(A:Int):=(by rw[G];exact o);go_simp;exact O _ _ rfl (fun _=>bR)
          ·have a6:(A:Int)%256=(r:Int):=(by have:=dV.out;omega);have o:IntKind.u64.wrap ((r:Int))=(r:Int):=(by rw[IntKind.wrap_u64];omega);have s:(A:Int)%256=(r:Int):=(by omega);have M:IntKind.u64.wrap ((A:Int)%256)=(r:Int):=(by rw[s];exact o);have G:dN ((A:Int)) 256=(r:Int):=(by rw[dO (by omega)];omega);have aQ:IntKind.u64.wrap (dN ((A:Int)) 256)=(r:Int):=(by rw[G];exact o);go_simp;exact O _ _ rfl (fun _=>bR)
          ·have a6:(x:Int)%256=(R:Int):=(by have:=eM.out;omega);have o:IntKind.u64.wrap ((R:Int))=(R:Int):=(by rw[IntKind.wrap_u64];omega);have s:(x:Int)%256=(R:Int):=(by omega);have M:IntKind.u64.wrap ((x:Int)%256)=(R:Int):=(by rw[s];exact o);have G:dN ((x:Int)) 256=(R:Int):=(by rw[dO (by omega)];omega);have aQ:IntKind.u64.wrap (dN ((x:Int)) 256)=(R:Int):=(by rw[G];exact o);go_simp;exact O _ _ rfl (fun _=>bR)
          ·go_simp;exact O _ _ ⟨_,rfl,(Own.full (B:=wx.heap.size) (cs:=#[.int .u8 (E:Nat),.int .u8 (F:Nat),.int .u8 (r:Nat),.int .u8 (R:Nat)]) rfl lR (by unfold maxLen;simp) rfl).rd⟩ (fun _=>bR.alloc lR _)
          ·obtain⟨ga,aY,o1⟩:∃g,a.tmps[349]?.getD undef=.slice (some ⟨g,0,none⟩) 4 4∧Rd wx (a.tmps[349]?.getD undef) [.int .u8 (E:Nat),.int .u8 (F:Nat),.int .u8 (r:Nat),.int .u8 (R:Nat)]:=hf.2.1;rw[aY]at o1;refine Zds (.tmp 322) (.tmp 349) 28 rfl (C.heap.size) 5 _ 1 Bu _ ((bvs (Zn S i))) (evs bU) ((b8.out).below Q lR) _ [.int .u8 (E:Nat),.int .u8 (F:Nat),.int .u8 (r:Nat),.int .u8 (R:Nat)] (evs aY) o1 ?_ ?_ ?_ ?_
           ·intro u X;simp only[aG,fI,or_false]at X;rcases X with rfl|rfl|rfl|rfl<;>rfl
           ·have:=Zia aT.out (show i≤8 by omega);simp only[bvs_len,cB,bW];omega
           ·exact bO (aP.out.size) Q.size
           ·intro v' w4 aN J;exact O _ _ ⟨aN,(Q.mono (aP.out.size)).trans J⟩ (fun bS=>absurd rfl bS)
          ·have o0:(fun v w'=>Own w' C.heap.size 5 v ((bvs (Zn S i))++[.int .u8 (E:Nat),.int .u8 (F:Nat),.int .u8 (r:Nat),.int .u8 (R:Nat)])∧Below C.heap.size Y w') (a.tmps[350]?.getD undef) wx:=hf.1;obtain⟨v0,aM⟩:=eX (a.tmps[350]?.getD undef);rw[←aM]at o0;have e0:=aM.symm;clear aM;go_simp;exact O _ _ o0 (fun _=>bR)
         ·rintro f w9 aH;have S9:Own w9 C.heap.size 5 (f 29) ((bvs (Zn S i))++[.int .u8 (E:Nat),.int .u8 (F:Nat),.int .u8 (r:Nat),.int .u8 (R:Nat)])∧Below C.heap.size Y w9:=aH.2.2.2.2.2.2.2.2.2.2.2.2.2.2.2.2.2.2.2.2.2.2.2.2.2.2.2.2.2.1;clear aH;simp only[Aj,Aq,Dr,cZ,dA,dB,dC,Nat.reduceBEq,Nat.reduceAdd,Bool.or_false,Bool.or_true,cond_true,cond_false];obtain⟨u,X⟩:=eX (f 29);rw[←X]at S9⊢;have V:=Hd (show Own w9 C.heap.size 5 u (bvs (Zn S (i+1))) by rw[eP.out,Cd];exact S9.1);have U:=Hd (aP.out.trans S9.2);clear S9 X;go_wp2_with fail;go_roundg (gk-1);case measure=>have:=HI.out;omega
          case rel=>exact⟨i+1,by have:=HI.out;omega,by go_num,V.out,U.out⟩
        ·obtain rfl:i=8:=(by omega);have aZ:decide (((8:Nat):Int)<8)=false:=(by decide);rw[Zib aT.out,d5.out]at b8;clear hi d bB hlt;go_wp2_with fail;go_ret;exact⟨_,rfl,b8.out.mono aO.out.size,aO.out.trans (aP.out.mono aO.out.size)⟩
end Go.Proofs.YtfofaiommeckbaaGreat
