/- Walks: the reference's sum. -/
import Derived.Test.YtfofaiommeckbaaGreatZPatchMakesB
import Derived.Deep.Cut
import Derived.Test.YtfofaiommeckbaaGreatZPatchMakes31
open List renaming replicate → bW, length_cons → cR, length_nil → bL, getD_eq_getElem?_getD → aH, mem_cons → aE, not_mem_nil → eQ, filterMap_cons → cS, filterMap_nil → cT, contains_cons → cU, contains_nil → cV
open Nat renaming zero_le → aA, pow_le_pow_right → aY, le_trans → fU, lt_or_ge → aB
open Int renaming tmod → eV, tmod_eq_emod_of_nonneg → eW, tdiv → dR, tdiv_eq_ediv_of_nonneg → dS
set_option linter.unusedVariables false
set_option maxRecDepth 100000
set_option maxHeartbeats 40000000
namespace Go.Proofs.YtfofaiommeckbaaGreat
open Go.RowKit ShaM WireM
theorem Zdg (v vh vk:Value)(L:List Nat)(w:World)(h:Rd w v (bvs L))(hh:Rd w vh (qvs HL0))(hk:Rd w vk (qvs KL))(hL:∀x∈L,x<256)(hl:L.length≤1000000):
  Calls Tryz.prog 144 #[v,vh,vk] w fun e w'=>∃v',e=.returned v'∧Own w' w.heap.size 5 v' (bvs (shaF L))∧Below w.heap.size w w':=by
 have hv:∃a c,v=.slice a L.length c:=(by obtain⟨a,c,e,_⟩:=h;exact⟨a,c,by rw[e,bvs_len]⟩);obtain⟨a0,c0,rfl⟩:=hv;obtain⟨a1,n1,c1,rfl⟩:=Zg7 hh;obtain⟨a2,n2,c2,rfl⟩:=Zg7 hk;obtain⟨n,hn⟩:=eX L.length;rw[←hn]at h hl⊢;obtain⟨Z,hZ⟩:=eX ((119-n%64)%64);have hTL:tailL n=([128]++bW Z 0)++beN 8 (8*n):=(by rw[tailL,←hZ];simp);have HN:=Hd hn;have HZ:=Hd hZ;have HTL:=Hd hTL;have H:=Hd h;have HH:=Hd hh;have HK:=Hd hk;have HL:=Hd hL;clear hn hZ hTL h hh hk hL;go_enter Tryz.func144,Tryz.ntmps144;go_wp2_with (first|(at_builtin;refine Am rfl (.tmp 31) (.tmp 32) 181 rfl w.heap.size 92 _ 8 Zgs _ [] rfl (Own.lit0 rfl lR) _ (qvs HL0) rfl (HH.out.alloc _) (Sj _) ?c2 ?c3 ?_));case c2=>rw[qvs_len,HL0_len];simp
 case c3=>simp
 rintro v1 w1 hown-hb1;have HO1:=Hd hown;have HB1:=Hd (((Below.refl w.heap.size w).alloc lR (.cells #[] 92)).trans hb1);obtain⟨b1,b2,b3,rfl⟩:=Dp hown;have R1:=Hd (show Rd (w1.alloc (.cells #[] 5)) (.slice a0 n c0) (bvs L)from(H.out.below HB1.out lR).alloc _);have O1:=Hd (show Own (w1.alloc (.cells #[] 5)) w1.heap.size 5 (.slice (some ⟨w1.heap.size,0,none⟩) 0 0) []from Own.lit0 rfl lR);clear hown hb1;go_wp2_with (first|(at_builtin;refine Am rfl (.tmp 34) (.tmp 35) 28 rfl w1.heap.size 5 _ 1 Cm _ [] rfl O1.out _ (bvs L) rfl R1.out (Ck _) ?d2 ?d3 ?_));case d2=>rw[bvs_len,←HN.out];simp;omega
 case d3=>simp
 rintro v2 w2 hown-hb2;have HO2:=Hd hown;have HB2:=Hd (((Below.refl w1.heap.size w1).alloc lR (.cells #[] 5)).trans hb2);obtain⟨d1,d2,d3,rfl⟩:=Dp hown;clear hown hb2;have O2:=Hd (HO2.out.alloc (.cells #[.int .u8 128] 5));have R2:=Hd (show Rd (w2.alloc (.cells #[.int .u8 128] 5)) (.slice (some ⟨w2.heap.size,0,none⟩) 1 1) (bvs [128])from(Own.full (B:=0) (cs:=#[.int .u8 128]) rfl (aA _) (by unfold maxLen;simp) rfl).rd);go_wp2_with (first|(at_builtin;refine Am rfl (.tmp 36) (.tmp 37) 28 rfl w1.heap.size 5 _ 1 Cm _ (bvs L) rfl O2.out _ (bvs [128]) rfl R2.out (Ck _) ?e2 ?e3 ?_));case e2=>rw[bvs_len,←HN.out,bvs_len];simp;omega
 case e3=>have:=HB2.out.size;simp;omega
 rintro v3 w3 hown-hb3;rw[←Cg]at hown;have HO3:=Hd hown;have HB3:=Hd ((HB2.out.alloc HB2.out.size (.cells #[.int .u8 128] 5)).trans hb3);obtain⟨e1,e2,e3,rfl⟩:=Dp hown;clear hown hb3 O1 R1 O2 R2 HB2 HO2;go_wp2_with fail
 go_loopg [8] Z (fun q m wr=>∃j:Nat,j+q=Z∧Own wr w1.heap.size 5 m (bvs (Xy L j))∧Below w1.heap.size w1 wr)
 case atStart=>exact⟨0,by omega,by rw[Za2];exact HO3.out,HB3.out⟩
 case round=>
  obtain⟨j,hj,hown,hb⟩:=hrel;obtain⟨m1,m2,m3,rfl⟩:=Dp hown;have hm2:m2=n+1+j:=by
   obtain⟨_,_,e,_⟩:=hown.rd;simp only[Value.slice.injEq,bvs_len,Ps]at e;have:=HN.out;omega
  subst hm2;have HJ:=Hd hj;have HOJ:=Hd hown;have HBJ:=Hd hb;have hz:=HZ.out
  by_cases hlt:j<Z
  ·have hc:(((n+1+j:Nat):Int)%64 !=56)=true:=(by simp;omega);have OJ:=Hd (HOJ.out.alloc (.cells #[.int .u8 0] 5));have RJ:=Hd (show Rd (wr.alloc (.cells #[.int .u8 0] 5)) (.slice (some ⟨wr.heap.size,0,none⟩) 1 1) (bvs [0])from(Own.full (B:=0) (cs:=#[.int .u8 0]) rfl (aA _) (by unfold maxLen;simp) rfl).rd);clear hj hown hb hz;go_wp2_with (first|(at_builtin;refine Am rfl (.tmp 43) (.tmp 44) 28 rfl w1.heap.size 5 _ 1 Cm _ _ rfl OJ.out _ (bvs [0]) rfl RJ.out (Ck _) ?f2 ?f3 ?_));case f2=>simp only[bvs_len,Ps,cR,bL];have:=HN.out;have:=HZ.out;omega
   case f3=>have:=HBJ.out.size;simp;omega
   rintro v4 w4 hown-hb4;rw[←Cg,←Za3]at hown;have HO4:=Hd hown;have HB4:=Hd ((HBJ.out.alloc HBJ.out.size (.cells #[.int .u8 0] 5)).trans hb4);obtain⟨f1,f2,f3,rfl⟩:=Dp hown;clear hown hb4 OJ RJ;go_wp2_with fail;go_roundg (gk-1);case measure=>have:=HJ.out;omega
   case rel=>exact⟨j+1,by have:=HJ.out;omega,HO4.out,HB4.out⟩
  ·obtain rfl:j=Z:=(by omega);have hc:(((n+1+j:Nat):Int)%64 !=56)=false:=(by simp;omega);clear hj hown hb hz hlt;obtain⟨wo,rfl⟩:∃wo:World,wo=wr:=⟨_,rfl⟩;go_wp2_with fail;have hcq:(((n:Int)+1+(j:Int))%64 !=56)=false:=(by simpa using hc);simp only[hcq];clear hcq hc;have HQ:=Hd (show Own wo w1.heap.size 5 (.slice m1 (n+1+j) m3) (bvs (Xm L j 0)) by rw[Za4];exact HOJ.out)
   go_loopg [8,10] 8 (fun q m iv wr=>∃i:Nat,i+q=8∧iv=.int .i64 (i:Nat)∧Own wr w1.heap.size 5 m (bvs (Xm L j i))∧Below w1.heap.size w1 wr)
   case atStart=>exact⟨0,rfl,rfl,HQ.out,HBJ.out⟩
   case round=>
    obtain⟨i,hi,rfl,hown,hb⟩:=hrel;have HI:=Hd hi;have HOI:=Hd hown;have HBI:=Hd hb;obtain⟨p1,p2,p3,rfl⟩:=Dp hown;clear hown hb;obtain⟨wi,rfl⟩:∃wi:World,wi=wr:=⟨_,rfl⟩;obtain⟨g2,rfl⟩:=eX gk
    by_cases hlt:i<8
    ·have hltd:decide ((i:Int)<8)=true:=(by rw[decide_eq_true_iff];omega);clear hi;go_wp2_with fail
     go_loopg [11,12] (7-i) (fun q uv kv wr=>∃k u:Nat,k+q=7-i∧kv=.int .i64 (k:Nat)∧uv=.int .u64 (u:Nat)∧u=256^k∧wi=wr)
     case atStart=>exact⟨0,1,by omega,rfl,rfl,rfl,rfl⟩
     case round=>
      obtain⟨k,u,hk,rfl,rfl,hu,rfl⟩:=hrel;have hu7:u≤256^7:=(by rw[hu];exact aY (by omega) (by omega));have hup:0<u:=(by rw[hu];exact Nat.pow_pos (by omega));have HU:=Hd hu;have HKK:=Hd hk
      by_cases hlk:k<7-i
      ·have hlkd:decide ((k:Int)<7-(i:Int))=true:=(by rw[decide_eq_true_iff];omega);have hu6:u≤256^6:=(by rw[hu];exact aY (by omega) (by omega));clear hk hu hu7;go_wp2_with fail;go_roundg (gk-1);case measure=>have:=HKK.out;omega
       case rel=>exact⟨k+1,u*256,by have:=HKK.out;omega,by go_num,by go_num,by rw[HU.out,Nat.pow_succ],rfl⟩
      ·have hlkd:decide ((k:Int)<7-(i:Int))=false:=(by rw[decide_eq_false_iff_not];omega);obtain rfl:k=7-i:=(by omega);obtain⟨x,hx⟩:∃x:Nat,x=8*n/u:=⟨_,rfl⟩;have hxl:x≤8000000:=(by rw[hx];exact fU (Nat.div_le_self _ _) (by omega));have hxq:(n:Int)*8/(u:Int)=(x:Int):=(by rw[hx,Int.natCast_ediv,Nat.mul_comm 8 n];rfl);have HX:=Hd hx;have hp2:p2=n+1+j+i:=by
        obtain⟨_,_,e,_⟩:=HOI.out.rd;simp only[Value.slice.injEq,bvs_len]at e;rw[Vy _ _ (by omega)]at e;have:=HN.out;omega
       subst hp2;have hu0:¬u=0:=(by omega);have hu1:¬(u:Int)=0:=(by omega);clear hk hu hx hu7;have OI:=Hd (HOI.out.alloc (.cells #[.int .u8 ((x:Int)%256)] 5));have RI:=Hd (show Rd (wi.alloc (.cells #[.int .u8 ((x:Int)%256)] 5)) (.slice (some ⟨wi.heap.size,0,none⟩) 1 1) (bvs [x%256])from(Own.full (B:=0) (cs:=#[.int .u8 ((x:Int)%256)]) rfl (aA _) (by unfold maxLen;simp) rfl).rd);go_wp2_with (first|(at_builtin;refine Am rfl (.tmp 62) (.tmp 68) 28 rfl w1.heap.size 5 _ 1 Cm _ _ rfl OI.out _ (bvs [x%256]) rfl RI.out (Ck _) ?g2 ?g3 ?_));case g2=>simp only[bvs_len,cR,bL];rw[Vy _ _ (by omega)];have:=HN.out;have:=HZ.out;omega
       case g3=>have:=HBI.out.size;simp;omega
       rintro v4 w4 hown-hb4;have ex:x=8*L.length/256^(7-i):=(by rw[HX.out,HU.out,HN.out]);rw[←Cg,ex,←Za5 _ _ hlt]at hown;have HO4:=Hd hown;have HB4:=Hd ((HBI.out.alloc HBI.out.size (.cells #[.int .u8 ((x:Int)%256)] 5)).trans hb4);obtain⟨f1,f2,f3,rfl⟩:=Dp hown;clear hown hb4 OI RI ex;go_wp2_with fail;go_roundg (g2-1);case measure=>have:=HI.out;omega
       case rel=>exact⟨i+1,by have:=HI.out;omega,by go_num,HO4.out,HB4.out⟩
    ·obtain rfl:i=8:=(by omega);clear hi;go_wp2_with fail;have hPE:Xm L j 8=padL L:=(by have e1:=HZ.out;have e2:=HN.out;rw[e1,e2];exact Zdd L);rw[hPE]at HOI;have hpl:=padL_len L;have hpb:=Zev HL.out;have hpl2:=Zi L;obtain⟨P,hP⟩:=eX (padL L);rw[←hP]at HOI hpl hpb hpl2;obtain⟨nb,hnb⟩:∃nb,P.length=64*nb:=⟨P.length/64,by omega⟩;have hnb0:0<nb:=by
      rcases Nat.eq_zero_or_pos nb with h|h
      ·have:P.length=0:=(by rw[hnb,h]);rw[hP,padL,List.length_append,tailL,cR]at this;omega
      ·exact h
     have hp2:p2=64*nb:=by
      obtain⟨_,_,e,_⟩:=HOI.out.rd;simp only[Value.slice.injEq,bvs_len]at e;omega
     obtain⟨mb,hp1,hmb,hmbl⟩:∃mb,p1=some ⟨mb,0,none⟩∧w1.heap.size≤mb∧mb<wi.heap.size:=by
      rcases HOI.out.2 with⟨e,e0⟩|⟨g,cp,cur,e,hb,hg,_⟩
      ·simp only[Value.slice.injEq]at e;omega
      ·simp only[Value.slice.injEq]at e;refine⟨g,e.1,hb,?_⟩;rcases aB g wi.heap.size with h|h
       ·exact h
       ·rw[Array.getElem?_eq_none h]at hg;cases hg
     obtain⟨hb,hb1,hbl,hbu,hb2⟩:∃hb,b1=some ⟨hb,0,none⟩∧w.heap.size≤hb∧hb<w1.heap.size∧b2=8:=by
      rcases HO1.out.2 with⟨e,e0⟩|⟨g,cp,cur,e,hb,hg,_⟩
      ·simp[HL0_len]at e0
      ·simp only[Value.slice.injEq]at e;refine⟨g,e.1,hb,?_,by rw[e.2.1];simp[HL0_len]⟩;rcases aB g w1.heap.size with h|h
       ·exact h
       ·rw[Array.getElem?_eq_none h]at hg;cases hg
     subst hp2 hp1 hb1 hb2;obtain⟨N,hN⟩:=eX (64*nb);have HNN:=Hd hN;have hNl:N≤1000072:=(by have:=HN.out;omega);rw[←hN]at HOI;have HOH:=Hd (show Own wi w.heap.size 92 (.slice (some ⟨hb,0,none⟩) 8 b3) (qvs HL0)from HO1.out.below HBI.out lR);have HP0:=Hd HOI.out.rd;have HBW:=Hd (HB1.out.trans (HBI.out.mono HB1.out.size));have HPP:=Hd hP;have HNB:=Hd hnb;have HPL:=Hd hpl2;rw[←hN];clear hpl hP hPE hnb hpl2 HBI HOI HO3 HB3 HO1 hN;clear HB1 HQ HOJ HBJ HTL;go_wp2_with fail
     go_loopg [13] nb (fun q av wr=>∃b a:Nat,b+q=nb∧a=64*b∧av=.int .i64 (a:Nat)∧Own wr w.heap.size 92 (.slice (some ⟨hb,0,none⟩) 8 b3) (qvs (blocksN P HL0 b))∧Rd wr (.slice (some ⟨mb,0,none⟩) N p3) (bvs P)∧Below w.heap.size w wr)
     case atStart=>exact⟨0,0,by omega,rfl,rfl,HOH.out,HP0.out,HBW.out⟩
     case round=>
      obtain⟨b,a,hbq,hab,rfl,hoh,hpr,hbw⟩:=hrel;have HOB:=Hd hoh;have HPB:=Hd hpr;have HBB:=Hd hbw;have HQB:=Hd hbq;have HAB:=Hd hab;clear hoh hpr hbw;obtain⟨wo,rfl⟩:∃wo:World,wo=wr:=⟨_,rfl⟩;obtain⟨g4,rfl⟩:=eX gk
      by_cases hlb:b<nb
      ·have haN:a+64≤N:=(by have:=HNN.out;omega);have hlbd:decide ((a:Int)<(N:Int))=true:=(by rw[decide_eq_true_iff];omega);have hlbd':decide (a<N)=true:=(by rw[decide_eq_true_iff];omega);obtain⟨B,hB⟩:=eX ((P.drop (64*b)).take 64);have hBl:B.length=64:=(by rw[hB,List.length_take,List.length_drop,HNB.out,←HNN.out,←HAB.out];omega);have hBb:∀x∈B,x<256:=fun x hx=>hpb x (List.mem_of_mem_drop (List.mem_of_mem_take (hB▸hx)));have hBg:∀j,j<64→B.getD j 0=P.getD (a+j) 0:=by
        intro j hj;rw[hB,aH,List.getElem?_take,if_pos hj,List.getElem?_drop,←HAB.out,aH]
       have HBG:=Hd hBg;have HBE:=Hd hB;have HBL:=Hd hBl;have HBN:=Hd hBb;clear hB hbq hBg hBl hBb hab;go_wp2_with fail
       go_loopg [14,15] 64 (fun q wl tv wr=>∃t:Nat,t+q=64∧tv=.int .i64 (t:Nat)∧Own wr wo.heap.size 92 wl (qvs (wL B t))∧Below wo.heap.size wo wr)
       case atStart=>exact⟨0,rfl,rfl,Own.nil _ _ _,bR⟩
       case round=>
        obtain⟨t,ht,rfl,hown,hbt⟩:=hrel;have HT:=Hd ht;have HOT:=Hd hown;have HBT:=Hd hbt;obtain⟨q1,q2,q3,rfl⟩:=Dp hown;obtain⟨wt,rfl⟩:∃wt:World,wt=wr:=⟨_,rfl⟩;obtain⟨g5,rfl⟩:=eX gk;obtain rfl:q2=t:=by
         obtain⟨_,_,e,_⟩:=hown.rd;simp only[Value.slice.injEq,qvs_len,wL_len]at e;exact e.2.1
        have HRB:=Hd (HPB.out.below hbt lR);clear hown hbt
        by_cases hlt:q2<64
        ·have hltd:decide ((q2:Int)<64)=true:=(by rw[decide_eq_true_iff];omega);clear ht
         by_cases h16:q2<16
         ·have h16d:decide ((q2:Int)<16)=true:=(by rw[decide_eq_true_iff];omega);go_wp2_with fail
          go_loopg [16,17] 4 (fun q xv iv wr=>∃i x:Nat,i+q=4∧iv=.int .i64 (i:Nat)∧xv=.int .u64 (x:Nat)∧x=xN B q2 i∧wt=wr)
          case atStart=>exact⟨0,0,rfl,rfl,rfl,rfl,rfl⟩
          case round=>
           obtain⟨i,x,hi,rfl,rfl,hx,rfl⟩:=hrel;have HI:=Hd hi;have HX:=Hd hx
           by_cases hli:i<4
           ·have hlid:decide ((i:Int)<4)=true:=(by rw[decide_eq_true_iff];omega);have hx3:x<16777216:=(by rw[hx];exact Zgi HBN.out q2 hli);obtain⟨p0,hp0⟩:=eX (a+4*q2);obtain⟨p1,hp1⟩:=eX (p0+i);have i0:(a:Int)+4*(q2:Int)=(p0:Int):=(by omega);have i1:(p0:Int)+(i:Int)=(p1:Int):=(by omega);have l0:p0<N:=(by omega);have l1:p1<N:=(by omega);have hy:=HRB.out.at3 (Uj (show p1<P.length by rw[HNB.out,←HNN.out];exact l1));obtain⟨_,_,e,hml,hc⟩:=hy;simp only[Option.some.injEq,Addr.mk.injEq,and_true]at e;obtain⟨rfl,rfl⟩:=e;rw[Nat.zero_add]at hc;obtain⟨y,hye⟩:=eX (P.getD p1 0);rw[←hye]at hc;have hy256:y<256:=(by rw[hye];exact Oi hpb (by omega) _);have HY:=Hd (show y=B.getD (4*q2+i) 0 by rw[HBG.out _ (by omega),hye,hp1,hp0,Nat.add_assoc]);clear hi hx hp0 hp1 hye;go_wp2_with fail;go_roundg (gk-1);case measure=>have:=HI.out;omega
            case rel=>exact⟨i+1,256*x+y,by have:=HI.out;omega,by go_num,by go_num,by rw[xN,←HX.out,←HY.out],rfl⟩
           ·obtain rfl:i=4:=(by omega);have hx4:x<4294967296:=(by rw[hx];exact Zgj HBN.out q2);clear hi hx hli;have HXE:=Hd (show x=wNext B (wL B q2) q2 by rw[HX.out];exact Zfl _ _ h16);have OT:=Hd (HOT.out.alloc (.cells #[.int .u64 (x:Int)] 92));have RT:=Hd (show Rd (wt.alloc (.cells #[.int .u64 (x:Int)] 92)) (.slice (some ⟨wt.heap.size,0,none⟩) 1 1) (qvs [x])from Rd.lit _ _ _ _ _ rfl rfl (by unfold maxLen;simp));go_wp2_with (first|(at_builtin;refine Am rfl (.tmp 99) (.tmp 101) 181 rfl wo.heap.size 92 _ 8 Zgs _ _ rfl OT.out _ (qvs [x]) rfl RT.out (Sj _) ?h2 ?h3 ?_));case h2=>simp only[qvs_len,wL_len,cR,bL];omega
            case h3=>have:=HBT.out.size;simp;omega
            rintro v4 w4 hown-hb4;rw[←Wi,HXE.out]at hown;have HO4:=Hd (show Own w4 wo.heap.size 92 v4 (qvs (wL B (q2+1)))from hown);have HB4:=Hd ((HBT.out.alloc HBT.out.size (.cells #[.int .u64 (x:Int)] 92)).trans hb4);clear hown hb4 OT RT;go_wp2_with fail;go_roundg (g5-1);case measure=>have:=HT.out;omega
            case rel=>exact⟨q2+1,by have:=HT.out;omega,by go_num,HO4.out,HB4.out⟩
         ·have h16d:decide ((q2:Int)<16)=false:=(by rw[decide_eq_false_iff_not];omega);obtain⟨gw,hq1⟩:∃g,q1=some ⟨g,0,none⟩:=by
           rcases HOT.out.2 with⟨e,e0⟩|⟨g,cp,cur,e,_⟩
           ·simp only[Value.slice.injEq]at e;omega
           ·simp only[Value.slice.injEq]at e;exact⟨g,e.1⟩
          subst hq1;have CC:=fun(j:Nat) (hj:j<q2)=>(HOT.out.at).1 j _ (Gp (L:=wL B q2) (i:=j) (by rw[wL_len];exact hj));have wl:=wL_lt HBN.out q2;obtain⟨p0,hp0⟩:=eX (q2-15);obtain⟨p1,hp1⟩:=eX (q2-2);obtain⟨p2,hp2⟩:=eX (q2-7);obtain⟨p4,hp4⟩:=eX (q2-16);have i0:(q2:Int)-15=(p0:Int):=(by omega);have i1:(q2:Int)-2=(p1:Int):=(by omega);have i2:(q2:Int)-7=(p2:Int):=(by omega);have i4:(q2:Int)-16=(p4:Int):=(by omega);have l0:p0<q2:=(by omega);have l1:p1<q2:=(by omega);have l2:p2<q2:=(by omega);have l4:p4<q2:=(by omega);have m0:(p0:Int)<(q2:Int):=(by omega);have m1:(p1:Int)<(q2:Int):=(by omega);have m2:(p2:Int)<(q2:Int):=(by omega);have m4:(p4:Int)<(q2:Int):=(by omega);have c0:=CC p0 l0;have c1:=CC p1 l1;have c2:=CC p2 l2;have c4:=CC p4 l4;obtain⟨y0,hy0⟩:=eX ((wL B q2).getD p0 0);obtain⟨y1,hy1⟩:=eX ((wL B q2).getD p1 0);obtain⟨y2,hy2⟩:=eX ((wL B q2).getD p2 0);obtain⟨y4,hy4⟩:=eX ((wL B q2).getD p4 0);rw[←hy0]at c0;rw[←hy1]at c1;rw[←hy2]at c2;rw[←hy4]at c4;have x0:y0<4294967296:=(by rw[hy0];exact getD_lt32 wl _);have x1:y1<4294967296:=(by rw[hy1];exact getD_lt32 wl _);have x2:y2<4294967296:=(by rw[hy2];exact getD_lt32 wl _);have x4:y4<4294967296:=(by rw[hy4];exact getD_lt32 wl _);obtain⟨r1,hr1⟩:=eX (rot y0 7);obtain⟨r2,hr2⟩:=eX (rot y0 18);obtain⟨r3,hr3⟩:=eX (rot y1 17);obtain⟨r4,hr4⟩:=eX (rot y1 19);obtain⟨s1,hs1⟩:=eX (y0/8);obtain⟨s2,hs2⟩:=eX (y1/1024);have R1:=Hd (fun W=>Nb y0 7 r1 7 rfl x0 (by omega) hr1 W);have R2:=Hd (fun W=>Nb y0 18 r2 18 rfl x0 (by omega) hr2 W);have R3:=Hd (fun W=>Nb y1 17 r3 17 rfl x1 (by omega) hr3 W);have R4:=Hd (fun W=>Nb y1 19 r4 19 rfl x1 (by omega) hr4 W);have S1:=Hd (fun W=>Zed y0 3 s1 3 rfl x0 (by omega) hs1 W);have S2:=Hd (fun W=>Zed y1 10 s2 10 rfl x1 (by omega) hs2 W);have b1:r1<4294967296:=(by rw[hr1];exact rot_lt x0 (by omega));have b2:r2<4294967296:=(by rw[hr2];exact rot_lt x0 (by omega));have b3:r3<4294967296:=(by rw[hr3];exact rot_lt x1 (by omega));have b4:r4<4294967296:=(by rw[hr4];exact rot_lt x1 (by omega));have X1:=u64_xor_nat r1 r2 (by omega) (by omega);have X2:=u64_xor_nat (r1^^^r2) s1 (by have:=xor_lt32 b1 b2;omega) (by omega);have X3:=u64_xor_nat r3 r4 (by omega) (by omega);have X4:=u64_xor_nat (r3^^^r4) s2 (by have:=xor_lt32 b3 b4;omega) (by omega);obtain⟨z1,hz1⟩:=eX (r1^^^r2);obtain⟨z3,hz3⟩:=eX (r3^^^r4);rw[←hz1]at X1 X2;rw[←hz3]at X3 X4;obtain⟨z2,hz2⟩:=eX (z1^^^s1);obtain⟨z4,hz4⟩:=eX (z3^^^s2);rw[←hz2]at X2;rw[←hz4]at X4;have HV:=Hd (show(z4+y2+z2+y4)%4294967296=wNext B (wL B q2) q2 by
           unfold wNext;rw[if_neg h16,s0N,s1N,←hp0,←hp1,←hp2,←hp4,←hy0,←hy1,←hy2,←hy4,←hr1,←hr2,←hr3,←hr4,←hz1,←hz3,←hs1,←hs2,←hz2,←hz4])
          have b5:z2<4294967296:=(by rw[hz2,hz1];exact xor_lt32 (xor_lt32 b1 b2) (by omega));have b6:z4<4294967296:=(by rw[hz4,hz3];exact xor_lt32 (xor_lt32 b3 b4) (by omega));clear hp0 hp1 hp2 hp4 hy0 hy1 hy2 hy4 CC wl hs1 hs2 hr1 hr2 hr3 hr4 hz1 hz2 hz3 hz4;go_wp2_with fail
          go_quiet ((first|(go_at_call 195;first|with_reducible exact Calls.quiet_of_same (R1.out _)|with_reducible exact Calls.quiet_of_same (R2.out _))|(go_at_call 196;with_reducible exact Calls.quiet_of_same (S1.out _))))
          obtain⟨na,rfl⟩:=eX nq;go_wp2_with fail
          go_quiet ((first|(go_at_call 195;first|with_reducible exact Io (R3.out _)|with_reducible exact Io (R4.out _))|(go_at_call 196;with_reducible exact Io (S2.out _))))
          obtain⟨nd,rfl⟩:=eX nq;go_wp2_with fail;obtain⟨wz,hwz⟩:=eX ((wt.drewN na).drewN nd);rw[←hwz];have HOZ:=Hd (show Own wz wo.heap.size 92 (.slice (some ⟨gw,0,none⟩) q2 q3) (qvs (wL B q2)) by rw[hwz];exact(HOT.out.drewN _).drewN _);have HBZ:=Hd (show Below wo.heap.size wo wz by rw[hwz];exact Aa (Aa HBT.out _) _);have k2:wz.cell? ⟨gw,p2,none⟩=some (.int .u64 (y2:Int)):=(by rw[hwz];exact c2);have k4:wz.cell? ⟨gw,p4,none⟩=some (.int .u64 (y4:Int)):=(by rw[hwz];exact c4);clear c0 c1 c2 c4 hwz;obtain⟨xx,hxx⟩:∃x:Nat,x=wNext B (wL B q2) q2:=⟨_,rfl⟩;have HXX:=Hd hxx;have e9:((z4:Int)+(y2:Int)+(z2:Int)+(y4:Int))%4294967296=(xx:Int):=(by rw[hxx,←HV.out];omega);have hgl:gw<wz.heap.size:=World.block_lt_of_cell? _ _ k2;clear hxx;refine Hr [eF (.slice (some ⟨gw,0,none⟩) q2 q3),eF (.int .u64 (z4:Nat)),eF (.slice (some ⟨gw,0,none⟩) q2 q3),eF (.int .i64 (q2:Nat)),eF (.int .i64 (p2:Nat)),eF (.pointer (some ⟨gw,p2,none⟩)),eF (.int .u64 (y2:Nat)),eF (.int .u64 ((z4:Int)+(y2:Int))),eF (.int .u64 (z2:Nat)),eF (.int .u64 ((z4:Int)+(y2:Int)+(z2:Int))),eF (.slice (some ⟨gw,0,none⟩) q2 q3),eF (.int .i64 (q2:Nat)),eF (.int .i64 (p4:Nat)),eF (.pointer (some ⟨gw,p4,none⟩)),eF (.int .u64 (y4:Nat)),eF (.int .u64 ((z4:Int)+(y2:Int)+(z2:Int)+(y4:Int))),eF (.int .u64 (xx:Nat)),fun v w'=>∃g,v=.slice (some ⟨g,0,none⟩) 1 1∧Rd w' v [.int .u64 (xx:Nat)],fun v w'=>Own w' wo.heap.size 92 v (qvs (wL B q2)++[.int .u64 (xx:Nat)])∧Below wo.heap.size wz w',fun v w'=>Own w' wo.heap.size 92 v (qvs (wL B q2)++[.int .u64 (xx:Nat)])∧Below wo.heap.size wz w']
           ((bW 20 false).set 19 true) ((bW 20 false).set 19 true) 18 (by kernel_rfl) ?_ (by kernel_rfl) (by kernel_rfl) (by kernel_rfl) ?_ ?_
          ·exact kT (kT (kT (kT (kT (kT (kT (kT (kT (kT (kT (kT (kT (kT (kT (kT (kT (Ds (fun v w1 w2 h hb=>let⟨g,e,h2⟩:=h;⟨g,e,h2.below hb lR⟩) (Ds (fun v w1 w2 h hb=>⟨Own.below h.1 hb lR,h.2.trans (hb.mono (fU (HBZ.out.size) h.2.size))⟩) (Ds (fun v w1 w2 h hb=>⟨Own.below h.1 hb lR,h.2.trans (hb.mono (fU (HBZ.out.size) h.2.size))⟩) (Qf))))))))))))))))))))
          ·refine gT rfl ?_ (gT rfl ?_ (gT rfl ?_ (gT rfl ?_ (gU rfl ?_ (gT rfl ?_ (gT rfl ?_ (gU rfl ?_ (gT rfl ?_ (gU rfl ?_ (gT rfl ?_ (gT rfl ?_ (gU rfl ?_ (gT rfl ?_ (gT rfl ?_ (gU rfl ?_ (gU rfl ?_ (gU rfl ?_ (gU rfl ?_ (.cons (Pb ?_) .nil)))))))))))))))))));all_goals
            intro a wx hbx ho hf;refine⟨rfl,?_⟩;intro K hK;try have Pf14:a.tmps[14]?.getD undef=.slice (some ⟨gw,0,none⟩) q2 q3:=ho 14 (by kernel_rfl)
            try have Pf15:a.tmps[15]?.getD undef=.int .i64 (q2:Nat):=ho 15 (by kernel_rfl)
            try have Pf18:a.tmps[18]?.getD undef=.int .u64 (z2:Nat):=ho 18 (by kernel_rfl)
            try have Pf19:a.tmps[19]?.getD undef=.int .u64 (z4:Nat):=ho 19 (by kernel_rfl)
            try have Ef0:=eqn hf.1
            try have Ef1:=eqn hf.2.1
            try have Ce0:=(hbx.cell (p:=⟨gw,p2,none⟩) hgl).trans k2
            try have Ce1:=(hbx.cell (p:=⟨gw,p4,none⟩) hgl).trans k4
            try(refine Hd ?_;go_simp;exact hK _ rfl)
           ·have gw1:IntKind.i64.wrap ((p2:Int))=(p2:Int):=(by rw[IntKind.wrap_i64];omega);have gw2:(q2:Int)-7=(p2:Int):=(by omega);have gw3:IntKind.i64.wrap ((q2:Int)-7)=(p2:Int):=(by rw[gw2];exact gw1);go_simp;exact hK _ _ rfl (fun _=>bR)
           ·have gw1:IntKind.u64.wrap (((z4:Int)+(y2:Int)))=((z4:Int)+(y2:Int)):=(by rw[IntKind.wrap_u64];omega);have gw2:(z4:Int)+(y2:Int)=((z4:Int)+(y2:Int)):=(by omega);have gw3:IntKind.u64.wrap ((z4:Int)+(y2:Int))=((z4:Int)+(y2:Int)):=(by rw[gw2];exact gw1);go_simp;exact hK _ _ rfl (fun _=>bR)
           ·have gw1:IntKind.u64.wrap (((z4:Int)+(y2:Int)+(z2:Int)))=((z4:Int)+(y2:Int)+(z2:Int)):=(by rw[IntKind.wrap_u64];omega);have gw2:((z4:Int)+(y2:Int))+(z2:Int)=((z4:Int)+(y2:Int)+(z2:Int)):=(by omega);have gw3:IntKind.u64.wrap (((z4:Int)+(y2:Int))+(z2:Int))=((z4:Int)+(y2:Int)+(z2:Int)):=(by rw[gw2];exact gw1);go_simp;exact hK _ _ rfl (fun _=>bR)
           ·have gw1:IntKind.i64.wrap ((p4:Int))=(p4:Int):=(by rw[IntKind.wrap_i64];omega);have gw2:(q2:Int)-16=(p4:Int):=(by omega);have gw3:IntKind.i64.wrap ((q2:Int)-16)=(p4:Int):=(by rw[gw2];exact gw1);go_simp;exact hK _ _ rfl (fun _=>bR)
           ·have gw1:IntKind.u64.wrap (((z4:Int)+(y2:Int)+(z2:Int)+(y4:Int)))=((z4:Int)+(y2:Int)+(z2:Int)+(y4:Int)):=(by rw[IntKind.wrap_u64];omega);have gw2:((z4:Int)+(y2:Int)+(z2:Int))+(y4:Int)=((z4:Int)+(y2:Int)+(z2:Int)+(y4:Int)):=(by omega);have gw3:IntKind.u64.wrap (((z4:Int)+(y2:Int)+(z2:Int))+(y4:Int))=((z4:Int)+(y2:Int)+(z2:Int)+(y4:Int)):=(by rw[gw2];exact gw1);go_simp;exact hK _ _ rfl (fun _=>bR)
           ·have gw1:IntKind.u64.wrap ((xx:Int))=(xx:Int):=(by rw[IntKind.wrap_u64];omega);have gw2:((z4:Int)+(y2:Int)+(z2:Int)+(y4:Int))%4294967296=(xx:Int):=(by omega);have gw3:IntKind.u64.wrap (((z4:Int)+(y2:Int)+(z2:Int)+(y4:Int))%4294967296)=(xx:Int):=(by rw[gw2];exact gw1);have gw4:eV (((z4:Int)+(y2:Int)+(z2:Int)+(y4:Int))) 4294967296=(xx:Int):=(by rw[eW (by omega)];omega);have gw5:IntKind.u64.wrap (eV (((z4:Int)+(y2:Int)+(z2:Int)+(y4:Int))) 4294967296)=(xx:Int):=(by rw[gw4];exact gw1);go_simp;exact hK _ _ rfl (fun _=>bR)
           ·go_simp;exact hK _ _ ⟨_,rfl,(Own.full (B:=wx.heap.size) (cs:=#[.int .u64 (xx:Nat)]) rfl lR (by unfold maxLen;simp) rfl).rd⟩ (fun _=>bR.alloc lR _)
           ·obtain⟨ga,hv1,o1⟩:∃g,a.tmps[160]?.getD undef=.slice (some ⟨g,0,none⟩) 1 1∧Rd wx (a.tmps[160]?.getD undef) [.int .u64 (xx:Nat)]:=hf.2.1;rw[hv1]at o1;refine Zd0 (.tmp 143) (.tmp 160) 181 rfl (wo.heap.size) 92 _ 8 Zgs _ (qvs (wL B q2)) (evs Ef0) ((HOZ.out).below hbx lR) _ [.int .u64 (xx:Nat)] (evs hv1) o1 ?_ ?_ ?_ ?_
            ·intro u hu;simp only[aE,eQ,or_false]at hu;subst hu;rfl
            ·simp only[qvs_len,wL_len,cR,bL];omega
            ·exact fU (HBZ.out.size) hbx.size
            ·intro v' w4 hown4 hb4;exact hK _ _ ⟨hown4,(hbx.mono (HBZ.out.size)).trans hb4⟩ (fun hne=>absurd rfl hne)
           ·have o0:(fun v w'=>Own w' wo.heap.size 92 v (qvs (wL B q2)++[.int .u64 (xx:Nat)])∧Below wo.heap.size wz w') (a.tmps[161]?.getD undef) wx:=hf.1;obtain⟨v0,hv0⟩:=eX (a.tmps[161]?.getD undef);rw[←hv0]at o0;have e0:=hv0.symm;clear hv0;go_simp;exact hK _ _ o0 (fun _=>bR)
          ·rintro f w9 hfin;have S9:Own w9 wo.heap.size 92 (f 14) (qvs (wL B q2)++[.int .u64 (xx:Nat)])∧Below wo.heap.size wz w9:=hfin.2.2.2.2.2.2.2.2.2.2.2.2.2.2.2.2.2.2.2.1;clear hfin;simp only[Al,Au,En,cS,cT,cU,cV,Nat.reduceBEq,Nat.reduceAdd,Bool.or_false,Bool.or_true,cond_true,cond_false];obtain⟨u,hu⟩:=eX (f 14);rw[←hu]at S9⊢;rw[←Zbz,HXX.out]at S9;have HO4:=Hd (show Own w9 wo.heap.size 92 u (qvs (wL B (q2+1)))from S9.1);have HB4:=Hd (HBZ.out.trans S9.2);clear S9 hu;go_wp2_with fail;go_roundg (g5-1);case measure=>have:=HT.out;omega
           case rel=>exact⟨q2+1,by have:=HT.out;omega,by go_num,HO4.out,HB4.out⟩
        ·obtain rfl:q2=64:=(by omega);clear ht hlt;obtain⟨S,hS⟩:=eX (blocksN P HL0 b);have ok:=blocksN_ok P HL0_len HL0_lt b;rw[←hS]at HOB ok;have hsn:stepN S B=blocksN P HL0 (b+1):=(by rw[HBE.out,blocksN,←hS]);have HSN:=Hd hsn;obtain rfl:n2=64:=by
          obtain⟨_,_,e,_⟩:=HK.out;simp only[Value.slice.injEq,qvs_len,KL_len]at e;exact e.2.1
         have hkw:Rd wt (.slice a2 64 c2) (qvs KL):=(HK.out.below HBB.out lR).below HBT.out lR;have HKW:=Hd hkw;have hhw:=HOB.out.below HBT.out lR;have HHW:=Hd hhw;have HOK:=Hd ok;have hmh:mb≠hb:=(by omega);have hsz:w.heap.size≤wt.heap.size:=fU HBB.out.size HBT.out.size;clear hS ok hsn hkw hhw
         go_upto_region 32 with(fail)
         refine Za8 _ _ _ _ _ _ _ _ _ _ _ _ _ _ _ _ _ _ _ _ _ _ _ _ _ _ _ _ _ _ _ _ _ _ _ _ _ _ _ _ _ _ _ _ _ _ _ _ _ _ _ _ _ _ _ _ _ _ _ _ _ _ _ _ _ _ _ _ _ _ _ _ _ _ _ _ _ _ _ _ _ _ _ _ _ _ _ _ _ _ _ _ _ _ _ _ _ _ _ _ _ _ _ _ _ _ _ _ _ _ _ _ _ _ _ _ _ _ _ _ _ _ _ _ _ _ _ _ _ _ _ _ _ _ _ _ _ _ _ _ _ _ _ _ _ _ _ _ _ _ _ _ _ _ _ _ _ _ _ _ _ _ _ _ _ _ _ _ _ _ _ _ _ _ _ _ _ _ _ _ _ _ _ _ _ _ _ _ _ _ _ _ _ _ _ _ _ _ _ _ _ _ _ _ _ _ _ _ _ _ _ _ _ _ _ _ _ _ _ _ _ _ _ _ _ _ _ _ _ _ _ _ _ _ _ _ _ _ _ _ _ _ _ _ _ _ _ _ _ _ _ _ _ _ _ _ _ _ _ _ _ _ _ _ _ _ _ _ _ _ _ _ _ _ _ _ _ _ _ _ _ _ _ _ _ _ _ _ _ _ _ _ _ _ _ _ _ _ _ _ _ _ _ _ _ _ _ _ _ _ _ _ _ _ _ _ _ _ _ _ _ _ _ _ _ _ _ _ _ _ _ _ _ _ _ _ _ _ _ _ _ _ _ _ _ _ _ _ _ _ _ wt w.heap.size wo.heap.size hb b3 mb N p3 q3 c2 q1 a2 P S B ?hk HOT.out HKW.out HHW.out HRB.out HBN.out HOK.out.2 HOK.out.1 hmh hbl hsz ?_;case hk=>assumption
         intro f w9 hO9 hR9 hB9;rw[HSN.out]at hO9;have HO9:=Hd hO9;have HR9:=Hd hR9;have HB9:=Hd (HBB.out.trans ((HBT.out.mono HBB.out.size).trans hB9));clear hO9 hR9 hB9;go_wp2_with fail;go_roundg (g4-1);case measure=>have:=HQB.out;omega
         case rel=>exact⟨b+1,a+64,by have:=HQB.out;omega,by have:=HAB.out;omega,by go_num,HO9.out,HR9.out,HB9.out⟩
      ·obtain rfl:b=nb:=(by omega);clear hbq;have haN:a=N:=(by rw[hab,HNN.out]);subst haN;obtain⟨S,hS⟩:=eX (blocksN P HL0 b);have ok:=blocksN_ok P HL0_len HL0_lt b;rw[←hS]at HOB ok;have HSF:=Hd (show(S.map (beN 4)).flatten=shaF L by
        rw[hS,shaF,←HPP.out,HNB.out,Nat.mul_div_cancel_left _ (by omega)])
       have HSL:=Hd ok.2;have HSN:=Hd ok.1;have hlad:decide ((a:Int)<(a:Int))=false:=(by rw[decide_eq_false_iff_not];omega);have hlad':decide (a<a)=false:=(by rw[decide_eq_false_iff_not];omega);clear hS ok hab hlb;go_wp2_with fail
       go_loopg [29,30] 8 (fun q ov iv wr=>∃i:Nat,i+q=8∧iv=.int .i64 (i:Nat)∧Own wr wo.heap.size 5 ov (bvs (Vz S i))∧Below wo.heap.size wo wr)
       case atStart=>exact⟨0,rfl,rfl,Own.nil _ _ _,bR⟩
       case round=>
        obtain⟨i,hi,rfl,hown,hbo⟩:=hrel;have HI:=Hd hi;have HOO:=Hd hown;have HBO:=Hd hbo;obtain⟨o1,o2,o3,rfl⟩:=Dp hown;obtain⟨wz,rfl⟩:∃wz:World,wz=wr:=⟨_,rfl⟩
        by_cases hlt:i<8
        ·have hltd:decide ((i:Int)<8)=true:=(by rw[decide_eq_true_iff];omega);have k0:=((HOB.out.below hbo lR).at).1 i _ (Gp (L:=S) (by rw[HSN.out];exact hlt));have hhl:hb<wz.heap.size:=World.block_lt_of_cell? wz ⟨hb,i,none⟩ k0;have hi8:(i:Int)<8:=(by omega);have xl:=getD_lt32 HSL.out i;have hsu:=fun(x:Nat) (hx:x=S.getD i 0) (hl:x<4294967296)=>Za6 HSN.out hlt hx hl;obtain⟨x,hx⟩:=eX (S.getD i 0);rw[←hx]at k0 xl;have hsu:=hsu x hx xl;obtain⟨y0,hy0⟩:=eX (x/16777216);obtain⟨z1,hz1⟩:=eX (x/65536);obtain⟨z2,hz2⟩:=eX (x/256);obtain⟨y1,hy1⟩:=eX (z1%256);obtain⟨y2,hy2⟩:=eX (z2%256);obtain⟨y3,hy3⟩:=eX (x%256);rw[←hy0,←hz1,←hz2,←hy1,←hy2,←hy3]at hsu;have g0:y0<256:=(by omega);have g1:y1<256:=(by omega);have g2:y2<256:=(by omega);have g3:y3<256:=(by omega);have q1:z1<4294967296:=(by omega);have q2:z2<4294967296:=(by omega);have HSU:=Hd hsu;have HY0:=Hd hy0;have HZ1:=Hd hz1;have HZ2:=Hd hz2;have HY1:=Hd hy1;have HY2:=Hd hy2;have HY3:=Hd hy3;clear hi hown hbo hx hsu hy0 hz1 hz2 hy1 hy2 hy3;go_wp2_with fail;refine Hr [eF (.slice o1 o2 o3),eF (.slice (some ⟨hb,0,none⟩) 8 b3),eF (.int .i64 (i:Nat)),eF (.pointer (some ⟨hb,i,none⟩)),eF (.int .u64 (x:Nat)),eF (.int .u64 (y0:Nat)),eF (.int .u8 (y0:Nat)),eF (.slice (some ⟨hb,0,none⟩) 8 b3),eF (.int .i64 (i:Nat)),eF (.pointer (some ⟨hb,i,none⟩)),eF (.int .u64 (x:Nat)),eF (.int .u64 (z1:Nat)),eF (.int .u64 (y1:Nat)),eF (.int .u8 (y1:Nat)),eF (.slice (some ⟨hb,0,none⟩) 8 b3),eF (.int .i64 (i:Nat)),eF (.pointer (some ⟨hb,i,none⟩)),eF (.int .u64 (x:Nat)),eF (.int .u64 (z2:Nat)),eF (.int .u64 (y2:Nat)),eF (.int .u8 (y2:Nat)),eF (.slice (some ⟨hb,0,none⟩) 8 b3),eF (.int .i64 (i:Nat)),eF (.pointer (some ⟨hb,i,none⟩)),eF (.int .u64 (x:Nat)),eF (.int .u64 (y3:Nat)),eF (.int .u8 (y3:Nat)),fun v w'=>∃g,v=.slice (some ⟨g,0,none⟩) 4 4∧Rd w' v [.int .u8 (y0:Nat),.int .u8 (y1:Nat),.int .u8 (y2:Nat),.int .u8 (y3:Nat)],fun v w'=>Own w' wo.heap.size 5 v ((bvs (Vz S i))++[.int .u8 (y0:Nat),.int .u8 (y1:Nat),.int .u8 (y2:Nat),.int .u8 (y3:Nat)])∧Below wo.heap.size wz w',fun v w'=>Own w' wo.heap.size 5 v ((bvs (Vz S i))++[.int .u8 (y0:Nat),.int .u8 (y1:Nat),.int .u8 (y2:Nat),.int .u8 (y3:Nat)])∧Below wo.heap.size wz w']
          ((bW 30 false).set 29 true) ((bW 30 false).set 29 true) 28 (by kernel_rfl) ?_ (by kernel_rfl) (by kernel_rfl) (by kernel_rfl) ?_ ?_
         ·exact kT (kT (kT (kT (kT (kT (kT (kT (kT (kT (kT (kT (kT (kT (kT (kT (kT (kT (kT (kT (kT (kT (kT (kT (kT (kT (kT (Ds (fun v w1 w2 h hb=>let⟨g,e,h2⟩:=h;⟨g,e,h2.below hb lR⟩) (Ds (fun v w1 w2 h hb=>⟨Own.below h.1 hb lR,h.2.trans (hb.mono (fU (HBO.out.size) h.2.size))⟩) (Ds (fun v w1 w2 h hb=>⟨Own.below h.1 hb lR,h.2.trans (hb.mono (fU (HBO.out.size) h.2.size))⟩) (Qf))))))))))))))))))))))))))))))
         ·refine gT rfl ?_ (gT rfl ?_ (gT rfl ?_ (gT rfl ?_ (gT rfl ?_ (gU rfl ?_ (gT rfl ?_ (gT rfl ?_ (gT rfl ?_ (gT rfl ?_ (gT rfl ?_ (gU rfl ?_ (gU rfl ?_ (gT rfl ?_ (gT rfl ?_ (gT rfl ?_ (gT rfl ?_ (gT rfl ?_ (gU rfl ?_ (gU rfl ?_ (gT rfl ?_ (gT rfl ?_ (gT rfl ?_ (gT rfl ?_ (gT rfl ?_ (gU rfl ?_ (gT rfl ?_ (gU rfl ?_ (gU rfl ?_ (.cons (Pb ?_) .nil)))))))))))))))))))))))))))));all_goals
           intro a wx hbx ho hf;refine⟨rfl,?_⟩;intro K hK;try have Pf7:a.tmps[7]?.getD undef=.slice (some ⟨hb,0,none⟩) 8 b3:=ho 7 (by kernel_rfl)
           try have Pf29:a.tmps[29]?.getD undef=.slice o1 o2 o3:=ho 29 (by kernel_rfl)
           try have Pf30:a.tmps[30]?.getD undef=.int .i64 (i:Nat):=ho 30 (by kernel_rfl)
           try have Ef0:=eqn hf.1
           try have Ef1:=eqn hf.2.1
           try have Ef2:=eqn hf.2.2.1
           try have Ef3:=eqn hf.2.2.2.1
           try have Ce0:=(hbx.cell (p:=⟨hb,i,none⟩) hhl).trans k0
           try have Ce1:IntKind.u8.wrap ((y0:Int))=(y0:Int):=by rw[IntKind.wrap_u8];omega
           try have Ce2:IntKind.u8.wrap ((y1:Int))=(y1:Int):=by rw[IntKind.wrap_u8];omega
           try have Ce3:IntKind.u8.wrap ((y2:Int))=(y2:Int):=by rw[IntKind.wrap_u8];omega
           try have Ce4:IntKind.u8.wrap ((y3:Int))=(y3:Int):=by rw[IntKind.wrap_u8];omega
           try(refine Hd ?_;go_simp;exact hK _ rfl)
          ·have gw0:(x:Int)/16777216=(y0:Int):=(by have:=HY0.out;omega);have gw1:IntKind.u64.wrap ((y0:Int))=(y0:Int):=(by rw[IntKind.wrap_u64];omega);have gw2:(x:Int)/16777216=(y0:Int):=(by omega);have gw3:IntKind.u64.wrap ((x:Int)/16777216)=(y0:Int):=(by rw[gw2];exact gw1);have gw4:dR ((x:Int)) 16777216=(y0:Int):=(by rw[dS (by omega)];omega);have gw5:IntKind.u64.wrap (dR ((x:Int)) 16777216)=(y0:Int):=(by rw[gw4];exact gw1);go_simp;exact hK _ _ rfl (fun _=>bR)
          ·have gw0:(x:Int)/65536=(z1:Int):=(by have:=HZ1.out;omega);have gw1:IntKind.u64.wrap ((z1:Int))=(z1:Int):=(by rw[IntKind.wrap_u64];omega);have gw2:(x:Int)/65536=(z1:Int):=(by omega);have gw3:IntKind.u64.wrap ((x:Int)/65536)=(z1:Int):=(by rw[gw2];exact gw1);have gw4:dR ((x:Int)) 65536=(z1:Int):=(by rw[dS (by omega)];omega);have gw5:IntKind.u64.wrap (dR ((x:Int)) 65536)=(z1:Int):=(by rw[gw4];exact gw1);go_simp;exact hK _ _ rfl (fun _=>bR)
          ·have gw0:(z1:Int)%256=(y1:Int):=(by have:=HY1.out;omega);have gw1:IntKind.u64.wrap ((y1:Int))=(y1:Int):=(by rw[IntKind.wrap_u64];omega);have gw2:(z1:Int)%256=(y1:Int):=(by omega);have gw3:IntKind.u64.wrap ((z1:Int)%256)=(y1:Int):=(by rw[gw2];exact gw1);have gw4:eV ((z1:Int)) 256=(y1:Int):=(by rw[eW (by omega)];omega);have gw5:IntKind.u64.wrap (eV ((z1:Int)) 256)=(y1:Int):=(by rw[gw4];exact gw1);go_simp;exact hK _ _ rfl (fun _=>bR)
          ·have gw0:(x:Int)/256=(z2:Int):=(by have:=HZ2.out;omega);have gw1:IntKind.u64.wrap ((z2:Int))=(z2:Int):=(by rw[IntKind.wrap_u64];omega);have gw2:(x:Int)/256=(z2:Int):=(by omega);have gw3:IntKind.u64.wrap ((x:Int)/256)=(z2:Int):=(by rw[gw2];exact gw1);have gw4:dR ((x:Int)) 256=(z2:Int):=(by rw[dS (by omega)];omega);have gw5:IntKind.u64.wrap (dR ((x:Int)) 256)=(z2:Int):=(by rw[gw4];exact gw1);go_simp;exact hK _ _ rfl (fun _=>bR)
          ·have gw0:(z2:Int)%256=(y2:Int):=(by have:=HY2.out;omega);have gw1:IntKind.u64.wrap ((y2:Int))=(y2:Int):=(by rw[IntKind.wrap_u64];omega);have gw2:(z2:Int)%256=(y2:Int):=(by omega);have gw3:IntKind.u64.wrap ((z2:Int)%256)=(y2:Int):=(by rw[gw2];exact gw1);have gw4:eV ((z2:Int)) 256=(y2:Int):=(by rw[eW (by omega)];omega);have gw5:IntKind.u64.wrap (eV ((z2:Int)) 256)=(y2:Int):=(by rw[gw4];exact gw1);go_simp;exact hK _ _ rfl (fun _=>bR)
          ·have gw0:(x:Int)%256=(y3:Int):=(by have:=HY3.out;omega);have gw1:IntKind.u64.wrap ((y3:Int))=(y3:Int):=(by rw[IntKind.wrap_u64];omega);have gw2:(x:Int)%256=(y3:Int):=(by omega);have gw3:IntKind.u64.wrap ((x:Int)%256)=(y3:Int):=(by rw[gw2];exact gw1);have gw4:eV ((x:Int)) 256=(y3:Int):=(by rw[eW (by omega)];omega);have gw5:IntKind.u64.wrap (eV ((x:Int)) 256)=(y3:Int):=(by rw[gw4];exact gw1);go_simp;exact hK _ _ rfl (fun _=>bR)
          ·go_simp;exact hK _ _ ⟨_,rfl,(Own.full (B:=wx.heap.size) (cs:=#[.int .u8 (y0:Nat),.int .u8 (y1:Nat),.int .u8 (y2:Nat),.int .u8 (y3:Nat)]) rfl lR (by unfold maxLen;simp) rfl).rd⟩ (fun _=>bR.alloc lR _)
          ·obtain⟨ga,hv1,o1⟩:∃g,a.tmps[349]?.getD undef=.slice (some ⟨g,0,none⟩) 4 4∧Rd wx (a.tmps[349]?.getD undef) [.int .u8 (y0:Nat),.int .u8 (y1:Nat),.int .u8 (y2:Nat),.int .u8 (y3:Nat)]:=hf.2.1;rw[hv1]at o1;refine Zd0 (.tmp 322) (.tmp 349) 28 rfl (wo.heap.size) 5 _ 1 Cm _ ((bvs (Vz S i))) (evs Ef0) ((HOO.out).below hbx lR) _ [.int .u8 (y0:Nat),.int .u8 (y1:Nat),.int .u8 (y2:Nat),.int .u8 (y3:Nat)] (evs hv1) o1 ?_ ?_ ?_ ?_
           ·intro u hu;simp only[aE,eQ,or_false]at hu;rcases hu with rfl|rfl|rfl|rfl<;>rfl
           ·have:=Zde HSN.out (show i≤8 by omega);simp only[bvs_len,cR,bL];omega
           ·exact fU (HBO.out.size) hbx.size
           ·intro v' w4 hown4 hb4;exact hK _ _ ⟨hown4,(hbx.mono (HBO.out.size)).trans hb4⟩ (fun hne=>absurd rfl hne)
          ·have o0:(fun v w'=>Own w' wo.heap.size 5 v ((bvs (Vz S i))++[.int .u8 (y0:Nat),.int .u8 (y1:Nat),.int .u8 (y2:Nat),.int .u8 (y3:Nat)])∧Below wo.heap.size wz w') (a.tmps[350]?.getD undef) wx:=hf.1;obtain⟨v0,hv0⟩:=eX (a.tmps[350]?.getD undef);rw[←hv0]at o0;have e0:=hv0.symm;clear hv0;go_simp;exact hK _ _ o0 (fun _=>bR)
         ·rintro f w9 hfin;have S9:Own w9 wo.heap.size 5 (f 29) ((bvs (Vz S i))++[.int .u8 (y0:Nat),.int .u8 (y1:Nat),.int .u8 (y2:Nat),.int .u8 (y3:Nat)])∧Below wo.heap.size wz w9:=hfin.2.2.2.2.2.2.2.2.2.2.2.2.2.2.2.2.2.2.2.2.2.2.2.2.2.2.2.2.2.1;clear hfin;simp only[Al,Au,En,cS,cT,cU,cV,Nat.reduceBEq,Nat.reduceAdd,Bool.or_false,Bool.or_true,cond_true,cond_false];obtain⟨u,hu⟩:=eX (f 29);rw[←hu]at S9⊢;have HO4:=Hd (show Own w9 wo.heap.size 5 u (bvs (Vz S (i+1))) by rw[HSU.out,Cg];exact S9.1);have HB4:=Hd (HBO.out.trans S9.2);clear S9 hu;go_wp2_with fail;go_roundg (gk-1);case measure=>have:=HI.out;omega
          case rel=>exact⟨i+1,by have:=HI.out;omega,by go_num,HO4.out,HB4.out⟩
        ·obtain rfl:i=8:=(by omega);have hltd:decide (((8:Nat):Int)<8)=false:=(by decide);rw[Zdf HSN.out,HSF.out]at HOO;clear hi hown hbo hlt;go_wp2_with fail;go_ret;exact⟨_,rfl,HOO.out.mono HBB.out.size,HBB.out.trans (HBO.out.mono HBB.out.size)⟩
end Go.Proofs.YtfofaiommeckbaaGreat
