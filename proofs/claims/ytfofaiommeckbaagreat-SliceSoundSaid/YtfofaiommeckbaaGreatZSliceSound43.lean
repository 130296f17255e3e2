/- Walks: the reference's Right of trees. -/
import Derived.Test.YtfofaiommeckbaaGreatZSliceSoundB
import Derived.Test.YtfofaiommeckbaaGreatZSliceSound20
open List renaming getD_eq_getElem?_getD → aJ, getElem?_eq_getElem → aK, filterMap_cons → cZ, filterMap_nil → dA, contains_cons → dB, contains_nil → dC
open Array renaming length_toList → fJ
open Bool renaming or_false → dD, or_true → dE
set_option linter.unusedVariables false
set_option maxRecDepth 100000
set_option maxHeartbeats 40000000
namespace Go.Proofs.YtfofaiommeckbaaGreat
open Go.RowKit WalkM
theorem Wz (v:Value)(t:List NodeD)(w:World)(h:TreeR w v t)(hs:Bg t=true)(a4:TreeOk t):
  Calls Tryz.prog 36 #[v] w fun e w'=>e=.returned (.bool (Bv t))∧Below w.heap.size w w':=by
 obtain⟨a,c,rfl,hc,dU⟩:=h.sl;have bB:=Bo hs;have LV:=fun(W:World)=>Vp a t.length c W (by omega);have RR:=fun(i:Nat) (cs:Array Value) (W:World) (hw:NodeC W (nd t i) cs)=>Zas (nd t i) cs W hw (a4.nd i);have GN:=fun(W:World) (hw:Below w.heap.size w W) (i:Nat) (Q:i<t.length)=>(h.below hw lR).node Q;have GA:=fun(W:World) (hw:Below w.heap.size w W) (i:Nat) (Q:i<t.length)=>(h.below hw lR).at Q;have KB:=fun(i:Nat)=>(a4.nd i).kind;have bO:=fun(i:Nat)=>(show(nd t i).par.late.length≤60 by have:=of_decide_eq_true (Ju hs i);omega);have P1:=fun(hh:∀i,i<t.length→(nd t i).kind≠Eb i∧Ao (nd t i)=true)=>(Fk t).2 hh;have P2:=fun(i:Nat) (Q:i<t.length) (hh:(nd t i).kind=Eb i∨Ao (nd t i)=false)=>Pa Q hh;have L1:=fun(hh:∀x,x<t.length→Du t x=true)=>Pg hh;have L2:=fun(x:Nat) (hx:x<t.length) (hh:Du t x=false)=>To hx hh;have LY:=fun(x:Nat) (hh:∀r,r<(nd t x).par.late.length→Hy t x ((nd t x).par.late.getD r 0))=>Pe (t:=t) (x:=x) (fun u hu=>by
  obtain⟨r,hr,rfl⟩:=List.getElem_of_mem hu;have:=hh r hr
  rwa [aJ,aK hr]at this)
 have aX:=fun(x r:Nat) (hr:r<(nd t x).par.late.length)=>(show(nd t x).par.late.getD r 0∈(nd t x).par.late by rw[aJ,aK hr];exact List.getElem_mem hr);have NO:=fun(x r:Nat) (hr:r<(nd t x).par.late.length) (hh:¬Hy t x ((nd t x).par.late.getD r 0))=>Tm (aX x r hr) hh;have aP:=fun(hp:Be t=true) (x:Nat) (hx:x<t.length)=>Df hp hx;have aU:=fun(hp:Be t=true) (x r:Nat) (hx:x<t.length) (hr:r<(nd t x).par.late.length)=>(Hi hp hx (aX x r hr)).2;have SU:=fun(N:Nat) (hN:Ap t.length=N) (hl:N≤t.length)=>Zdd hN hl;obtain⟨R,hR⟩:=eX (Bv t);have aB:R=(decide (Ap t.length≠0)&&(Be t&&(Ok t&&Ka t))):=(by rw[hR,Bv]);rw[←hR]
 by_cases h0:Ap t.length=0
 ·rw[h0]at LV;have V:=Hd (show R=false by rw[aB,h0];rfl);obtain⟨n,hn⟩:=eX t.length;rw[←hn]at LV⊢;have bJ:=Hd LV;clear LV RR GN GA KB bO P1 P2 L1 L2 LY aX NO aP aU SU aB hR h0 h hs a4 hn hc bB;go_enter Tryz.func36,Tryz.ntmps36;go_wp2_with fail;refine(bJ.out w).mono ?_;rintro e w' ⟨rfl,rfl⟩;go_wp2_with fail;go_ret;exact⟨Dh V.out,bR⟩
 ·obtain⟨d,hd,hN,hl⟩:=Cl h0;rw[decide_eq_true h0,Bool.true_and]at aB;have LP:=fun(m x:Nat)=>Tn (t:=t) (m:=m) (x:=x) hd hl;rw[←hN]at LP;have bW:2*Ap t.length=t.length+1:=(by rw[hN];omega);have aO:=SU _ rfl (by omega);obtain⟨N,bY⟩:=eX (Ap t.length);rw[←bY]at LV h0 bW LP aO;obtain⟨n,hn⟩:=eX t.length;rw[←hn]at LV GN GA P1 P2 L1 L2 aP aU LP bW aO hc bB⊢;obtain⟨pb,bV⟩:=eX (Be t);rw[←bV]at aB P1 P2 aP aU;obtain⟨sb,aD⟩:=eX (Ok t);rw[←aD]at aB aO;obtain⟨lb,b5⟩:=eX (Ka t);rw[←b5]at aB L1 L2;have dT:((N:Int)==0)=false:=(by rw[beq_eq_false_iff_ne];omega);have bJ:=Hd LV;have c7:=Hd RR;have c6:=Hd GN;have bH:=Hd GA;have cO:=Hd KB;have dF:=Hd bO;have cV:=Hd P1;have bK:=Hd P2;have dI:=Hd L1;have cN:=Hd L2;have dH:=Hd LY;have dP:=Hd aX;have cY:=Hd NO;have cB:=Hd aP;have cD:=Hd aU;have aW:=Hd LP;have dJ:=Hd aO;have aI:=Hd aB;clear LV RR GN GA KB bO P1 P2 L1 L2 LY aX NO aP aU SU LP aO aB hR h hs a4 hn hl hN bY hd bV aD b5;go_enter Tryz.func36,Tryz.ntmps36;go_wp2_with fail;refine(bJ.out w).mono ?_;rintro e w' ⟨rfl,rfl⟩;go_wp2_with fail
  go_loopg [4,5] n (fun q sv iv wr=>∃r:Nat,r+q=n∧iv=.int .i64 (r:Nat)∧sv=.bool (Ol t N r)∧(∀i,i<r→(nd t i).kind≠Eb i∧Ao (nd t i)=true)∧Below w'.heap.size w' wr)
  case atStart=>exact⟨0,by omega,rfl,rfl,fun i Q=>by omega,bR⟩
  case round=>
   obtain⟨r,hr,rfl,rfl,A,hb⟩:=hrel;have HR:=Hd hr;have D:=Hd A;have I:=Hd hb;clear hr A hb
   by_cases hlt:r<n
   ·have bT:decide (r<n)=true:=decide_eq_true hlt;obtain⟨b,k,cs,rfl,bS,aM,aZ⟩:=c6.out wr I.out r hlt;have L:=Hd aZ;have J:=Hd aM.size;have RC:=c7.out r cs wr aM;have ck:=aZ 0 _ aM.kind;have c0:wr.cell? ⟨b,k+r*10,none⟩=some (.int .u8 ((nd t r).kind:Nat)):=ck;obtain⟨kd,aV⟩:=eX ((nd t r).kind);have bN:=cO.out r;rw[←aV]at c0 bN;have a8:=Hd aV;have cI:=Hd (Za3 t N r);obtain⟨s0,a0⟩:=eX (Ol t N r);obtain⟨s1,a1⟩:=eX (Ol t N (r+1));have Z:=Hd (show s1=(s0||(kd==1&&(N==1||decide (N≤r)))) by rw[a1,cI.out,a0,aV]);have aA:=Hd a1;rw[←a0];obtain⟨m,hm⟩:=eX (r%2);have dX:(r:Int)%2=(m:Int):=(by omega);have dV:Int.tmod (r:Int) 2=(m:Int):=(by rw[Int.tmod_eq_emod_of_nonneg (by omega)];omega);have b4:m=0∨m=1:=(by omega);have b8:=Hd hm;cases hrb:Ao (nd t r)with
    |false=>
     rw[hrb]at RC;have G:=Hd RC;have V:=Hd (show R=false by rw[aI.out,bK.out r hlt (.inr hrb)];rfl);clear RC hrb ck aZ aM aV a0 a1 hm b4;go_wp2_with (refine wpList_load_mid rfl 52 (.tmp 28) rfl b (k+r*10) rfl cs.toList _ L.out Tryz.underlying52 rfl (by rw[fJ,J.out];exact Ak) ?_);refine(G.out).mono ?_;rintro e T ⟨rfl,j⟩;have o:=Hd (I.out.trans (j.mono I.out.size));clear j;go_wp2_with fail;go_ret;exact⟨Dh V.out,o.out⟩
    |true=>
     rw[hrb]at RC;have G:=Hd RC;have aC:=Hd hrb;clear RC hrb ck aZ aM aV a0 a1 hm cI;rcases b4 with rfl|rfl
     ·have aT:=Hd (Ef b8.out.symm)
      by_cases hk:kd=2
      ·have hq:((kd:Int)==2)=true:=(by rw[beq_iff_eq];omega);have V:=Hd (show R=false by rw[aI.out,bK.out r hlt (.inl (by rw[←a8.out,aT.out,hk]))];rfl);clear hk;go_wp2_with (refine wpList_load_mid rfl 52 (.tmp 28) rfl b (k+r*10) rfl cs.toList _ L.out Tryz.underlying52 rfl (by rw[fJ,J.out];exact Ak) ?_);refine(G.out).mono ?_;rintro e T ⟨rfl,j⟩;have o:=Hd (I.out.trans (j.mono I.out.size));clear j;go_wp2_with fail;go_ret;exact⟨Dh V.out,o.out⟩
      ·have hq:((kd:Int)==2)=false:=(by rw[beq_eq_false_iff_ne];omega);have X:=Hd (show(nd t r).kind≠Eb r by rw[←a8.out,aT.out];exact hk)
       by_cases hk1:kd=1
       ·have cK:((kd:Int)==1)=true:=(by rw[beq_iff_eq];omega);cases s0 with
        |true=>
         have HV:=Hd (show s1=true by rw[Z.out];rfl);try clear hk1
         try clear hN1
         try clear hk
         go_wp2_with (refine wpList_load_mid rfl 52 (.tmp 28) rfl b (k+r*10) rfl cs.toList _ L.out Tryz.underlying52 rfl (by rw[fJ,J.out];exact Ak) ?_);refine(G.out).mono ?_;rintro e T ⟨rfl,j⟩;have o:=Hd (I.out.trans (j.mono I.out.size));clear j;go_wp2_with fail;go_roundg (gk-1);case measure=>have:=HR.out;omega
         case rel=>
          refine⟨r+1,by have:=HR.out;omega,by go_num,by rw[←aA.out,HV.out],fun i Q=> ?_,o.out⟩
          by_cases e:i=r
          ·rw[e];exact⟨X.out,aC.out⟩
          ·exact D.out i (by omega)
        |false=>
         by_cases hN1:N=1
         ·have cU:((N:Int)==1)=true:=(by rw[beq_iff_eq];omega);have HV:=Hd (show s1=true by rw[Z.out,hk1,hN1];rfl);try clear hk1
          try clear hN1
          try clear hk
          go_wp2_with (refine wpList_load_mid rfl 52 (.tmp 28) rfl b (k+r*10) rfl cs.toList _ L.out Tryz.underlying52 rfl (by rw[fJ,J.out];exact Ak) ?_);refine(G.out).mono ?_;rintro e T ⟨rfl,j⟩;have o:=Hd (I.out.trans (j.mono I.out.size));clear j;go_wp2_with fail;go_roundg (gk-1);case measure=>have:=HR.out;omega
          case rel=>
           refine⟨r+1,by have:=HR.out;omega,by go_num,by rw[←aA.out,HV.out],fun i Q=> ?_,o.out⟩
           by_cases e:i=r
           ·rw[e];exact⟨X.out,aC.out⟩
           ·exact D.out i (by omega)
         ·have cU:((N:Int)==1)=false:=(by rw[beq_eq_false_iff_ne];omega);have cF:(N==1)=false:=beq_eq_false_iff_ne.2 hN1
          by_cases hge:N≤r
          ·have bE:decide (N≤r)=true:=decide_eq_true hge;have HV:=Hd (show s1=true by rw[Z.out,hk1,cF,bE];rfl);try clear hk1
           try clear hN1
           try clear hk
           go_wp2_with (refine wpList_load_mid rfl 52 (.tmp 28) rfl b (k+r*10) rfl cs.toList _ L.out Tryz.underlying52 rfl (by rw[fJ,J.out];exact Ak) ?_);refine(G.out).mono ?_;rintro e T ⟨rfl,j⟩;have o:=Hd (I.out.trans (j.mono I.out.size));clear j;go_wp2_with fail;go_roundg (gk-1);case measure=>have:=HR.out;omega
           case rel=>
            refine⟨r+1,by have:=HR.out;omega,by go_num,by rw[←aA.out,HV.out],fun i Q=> ?_,o.out⟩
            by_cases e:i=r
            ·rw[e];exact⟨X.out,aC.out⟩
            ·exact D.out i (by omega)
          ·have bE:decide (N≤r)=false:=decide_eq_false hge;have HV:=Hd (show s1=false by rw[Z.out,hk1,cF,bE];rfl);try clear hk1
           try clear hN1
           try clear hk
           go_wp2_with (refine wpList_load_mid rfl 52 (.tmp 28) rfl b (k+r*10) rfl cs.toList _ L.out Tryz.underlying52 rfl (by rw[fJ,J.out];exact Ak) ?_);refine(G.out).mono ?_;rintro e T ⟨rfl,j⟩;have o:=Hd (I.out.trans (j.mono I.out.size));clear j;go_wp2_with fail;go_roundg (gk-1);case measure=>have:=HR.out;omega
           case rel=>
            refine⟨r+1,by have:=HR.out;omega,by go_num,by rw[←aA.out,HV.out],fun i Q=> ?_,o.out⟩
            by_cases e:i=r
            ·rw[e];exact⟨X.out,aC.out⟩
            ·exact D.out i (by omega)
       ·have cK:((kd:Int)==1)=false:=(by rw[beq_eq_false_iff_ne];omega);have bP:(kd==1)=false:=beq_eq_false_iff_ne.2 hk1;cases s0 with
        |true=>
         have HV:=Hd (show s1=true by rw[Z.out];rfl);try clear hk1
         try clear hN1
         try clear hk
         go_wp2_with (refine wpList_load_mid rfl 52 (.tmp 28) rfl b (k+r*10) rfl cs.toList _ L.out Tryz.underlying52 rfl (by rw[fJ,J.out];exact Ak) ?_);refine(G.out).mono ?_;rintro e T ⟨rfl,j⟩;have o:=Hd (I.out.trans (j.mono I.out.size));clear j;go_wp2_with fail;go_roundg (gk-1);case measure=>have:=HR.out;omega
         case rel=>
          refine⟨r+1,by have:=HR.out;omega,by go_num,by rw[←aA.out,HV.out],fun i Q=> ?_,o.out⟩
          by_cases e:i=r
          ·rw[e];exact⟨X.out,aC.out⟩
          ·exact D.out i (by omega)
        |false=>
         have HV:=Hd (show s1=false by rw[Z.out,bP];rfl);try clear hk1
         try clear hN1
         try clear hk
         go_wp2_with (refine wpList_load_mid rfl 52 (.tmp 28) rfl b (k+r*10) rfl cs.toList _ L.out Tryz.underlying52 rfl (by rw[fJ,J.out];exact Ak) ?_);refine(G.out).mono ?_;rintro e T ⟨rfl,j⟩;have o:=Hd (I.out.trans (j.mono I.out.size));clear j;go_wp2_with fail;go_roundg (gk-1);case measure=>have:=HR.out;omega
         case rel=>
          refine⟨r+1,by have:=HR.out;omega,by go_num,by rw[←aA.out,HV.out],fun i Q=> ?_,o.out⟩
          by_cases e:i=r
          ·rw[e];exact⟨X.out,aC.out⟩
          ·exact D.out i (by omega)
     ·have aT:=Hd (Gn b8.out.symm)
      by_cases hk:kd=1
      ·have hq:((kd:Int)==1)=true:=(by rw[beq_iff_eq];omega);have V:=Hd (show R=false by rw[aI.out,bK.out r hlt (.inl (by rw[←a8.out,aT.out,hk]))];rfl);clear hk;go_wp2_with (refine wpList_load_mid rfl 52 (.tmp 28) rfl b (k+r*10) rfl cs.toList _ L.out Tryz.underlying52 rfl (by rw[fJ,J.out];exact Ak) ?_);refine(G.out).mono ?_;rintro e T ⟨rfl,j⟩;have o:=Hd (I.out.trans (j.mono I.out.size));clear j;go_wp2_with fail;go_ret;exact⟨Dh V.out,o.out⟩
      ·have hq:((kd:Int)==1)=false:=(by rw[beq_eq_false_iff_ne];omega);have X:=Hd (show(nd t r).kind≠Eb r by rw[←a8.out,aT.out];exact hk);have bP:(kd==1)=false:=beq_eq_false_iff_ne.2 hk;cases s0 with
       |true=>
        have HV:=Hd (show s1=true by rw[Z.out];rfl);try clear hk1
        try clear hN1
        try clear hk
        go_wp2_with (refine wpList_load_mid rfl 52 (.tmp 28) rfl b (k+r*10) rfl cs.toList _ L.out Tryz.underlying52 rfl (by rw[fJ,J.out];exact Ak) ?_);refine(G.out).mono ?_;rintro e T ⟨rfl,j⟩;have o:=Hd (I.out.trans (j.mono I.out.size));clear j;go_wp2_with fail;go_roundg (gk-1);case measure=>have:=HR.out;omega
        case rel=>
         refine⟨r+1,by have:=HR.out;omega,by go_num,by rw[←aA.out,HV.out],fun i Q=> ?_,o.out⟩
         by_cases e:i=r
         ·rw[e];exact⟨X.out,aC.out⟩
         ·exact D.out i (by omega)
       |false=>
        have HV:=Hd (show s1=false by rw[Z.out,bP];rfl);try clear hk1
        try clear hN1
        try clear hk
        go_wp2_with (refine wpList_load_mid rfl 52 (.tmp 28) rfl b (k+r*10) rfl cs.toList _ L.out Tryz.underlying52 rfl (by rw[fJ,J.out];exact Ak) ?_);refine(G.out).mono ?_;rintro e T ⟨rfl,j⟩;have o:=Hd (I.out.trans (j.mono I.out.size));clear j;go_wp2_with fail;go_roundg (gk-1);case measure=>have:=HR.out;omega
        case rel=>
         refine⟨r+1,by have:=HR.out;omega,by go_num,by rw[←aA.out,HV.out],fun i Q=> ?_,o.out⟩
         by_cases e:i=r
         ·rw[e];exact⟨X.out,aC.out⟩
         ·exact D.out i (by omega)
   ·obtain rfl:r=n:=(by have:=HR.out;omega);have bT:decide (r<r)=false:=decide_eq_false hlt;have a2:=Hd (cV.out D.out);have aQ:=dJ.out;rw[aQ];cases aD:sb with
    |false=>
     have V:=Hd (show R=false by rw[aI.out,a2.out,aD];rfl);clear aD aQ;go_wp2_with fail;go_ret;exact⟨Dh V.out,I.out⟩
    |true=>
     have c8:=Hd aD;clear aD aQ;go_wp2_with fail
     go_loopg [7] r (fun q2 iv wr=>∃x:Nat,x+q2=r∧iv=.int .i64 (x:Nat)∧(∀i,i<x→Du t i=true)∧Below w'.heap.size w' wr)
     case atStart=>exact⟨0,by omega,rfl,fun i Q=>by omega,I.out⟩
     case round=>
      obtain⟨x,hx,rfl,A,hb⟩:=hrel;have HX:=Hd hx;have b6:=Hd A;have o:=Hd hb;clear hx A hb
      by_cases hxn:x<r
      ·have b0:decide (x<r)=true:=decide_eq_true hxn;obtain⟨b,k,l,e,cX,bS,ck,cl,bF⟩:=bH.out wr o.out x hxn;subst cX;obtain⟨k0,bI⟩:=eX ((nd t x).par.late.length);have bU:=dF.out x;rw[←bI]at cl bF bU;have cP:=Hd bF;have b9:=Hd bI;have dW:=Hd bS;clear ck bF bI bS;go_wp2_with fail;obtain⟨g1,rfl⟩:=eX gk;obtain⟨w1,rfl⟩:=eX wr
       go_loopg [9] k0 (fun q2 iv wr=>∃s:Nat,s+q2=k0∧iv=.int .i64 (s:Nat)∧(∀i,i<s→Hy t x ((nd t x).par.late.getD i 0))∧Below w1.heap.size w1 wr)
       case atStart=>exact⟨0,by omega,rfl,fun i Q=>by omega,bR⟩
       case round=>
        obtain⟨s,hs,rfl,A,hb⟩:=hrel;have HS:=Hd hs;have cH:=Hd A;have aY:=Hd hb;clear hs A hb
        by_cases hsk:s<k0
        ·have b2:decide (s<k0)=true:=decide_eq_true hsk;have a5:s<(nd t x).par.late.length:=(by have:=b9.out;omega);obtain⟨O,P,cT,aS,cm⟩:=cP.out.at3 (u:=.int .i64 ((nd t x).par.late.getD s 0)) (r:=s) (by simp[ivs,aJ,a5]);subst cT;obtain⟨m,hm,dM⟩:=cD.out a2.out x s hxn a5;rw[hm]at cm;have c4:=Hd cm;have cR:=(aY.out.cell (p:=⟨O,P+s,none⟩) aS).trans cm;have HM:=Hd hm;have a3:=Hd (fun(hh:¬Hy t x (m:Int))=>(show R=false by
          have h1:=cY.out x s a5 (by rw[HM.out];exact hh);rw[aI.out,cN.out x hxn h1];simp))
         obtain⟨q,hq⟩:=eX (2*m);have dR:2*(m:Int)=(q:Int):=(by omega);have HQ:=Hd hq;have aL:=Hd aS;clear hq hm cm a5 aS;have aN:=Hd (o.out.trans (aY.out.mono o.out.size))
         by_cases c1:N≤m
         ·have cQ:decide (N≤m)=true:=decide_eq_true c1;have V:=Hd (a3.out (fun hh=>by have:=((aW.out m x).1 hh).1;omega));go_wp2_with fail;go_ret;exact⟨Dh V.out,aN.out⟩
         ·have cQ:decide (N≤m)=false:=decide_eq_false c1;have cA:q<r:=(by have:=HQ.out;omega);have dQ:IntKind.i64.wrap (q:Int)=(q:Int):=(by rw[IntKind.wrap_i64];omega);obtain⟨b',off',l2,e2,eb,dN,a6,_,_⟩:=bH.out wr aN.out q cA;simp only[Option.some.injEq,Addr.mk.injEq,and_true]at eb;obtain⟨rfl,rfl⟩:=eb;obtain⟨kq,aG⟩:=eX ((nd t q).kind);rw[←aG]at a6
          by_cases c2:kq=1
          ·have cW:=Hd (show(nd t q).kind=1 by rw[←aG];exact c2);rw[c2]at a6;have b7:wr.cell? ⟨b,k+q*10,none⟩=some (.int .u8 1):=a6;clear aG c2 a6;cases hun:Cc (q:Int) (x:Int)with
           |false=>
            have V:=Hd (a3.out (fun hh=>by
             have:=((aW.out m x).1 hh).2.1;rw[←HQ.out,hun]at this;cases this))
            have U0:=Fc (q:Int) (x:Int) wr;rw[hun]at U0;have bL:=Hd U0;clear U0 hun;go_wp2_with fail;refine(bL.out).mono ?_;rintro e' T ⟨rfl,j⟩;have dL:=Hd (aN.out.trans (j.mono aN.out.size));clear j;go_wp2_with fail;go_ret;exact⟨Dh V.out,dL.out⟩
           |true=>
            have cE:=Hd hun;have U0:=Fc (q:Int) (x:Int) wr;rw[hun]at U0;have bL:=Hd U0;clear U0 hun;go_wp2_with fail;refine(bL.out).mono ?_;rintro e' T ⟨rfl,j⟩;have cL:=Hd (aY.out.trans (j.mono aY.out.size));clear j cR b7;go_wp2_with fail;obtain⟨g2,rfl⟩:=eX gk;obtain⟨w3,rfl⟩:=eX wr
            go_loopg [10] r (fun q2 iv wr=>∃y:Nat,y+q2=r∧iv=.int .i64 (y:Nat)∧(∀i,i<y→(nd t i).kind=2→Cc (q:Int) (i:Int)=true→Cc (i:Int) (x:Int)=true→(m:Int)∈(nd t i).par.late)∧Below w1.heap.size w1 wr)
            case atStart=>exact⟨0,by omega,rfl,fun i Q=>by omega,cL.out⟩
            case round=>
             obtain⟨y,hy,rfl,A,hb⟩:=hrel;have HY:=Hd hy;have bX:=Hd A;have E:=Hd hb;clear hy A hb
             by_cases hyn:y<r
             ·have cJ:decide (y<r)=true:=decide_eq_true hyn;have b1:=Hd (o.out.trans (E.out.mono o.out.size));obtain⟨b',off',ly,ey,eb,bA,bQ,bD,bC⟩:=bH.out wr b1.out y hyn;simp only[Option.some.injEq,Addr.mk.injEq,and_true]at eb;obtain⟨rfl,rfl⟩:=eb;have S:=fun(W:World) (hw:Below wr.heap.size wr W)=>Zg4 _ _ (m:Int) W (bC.below hw lR);obtain⟨b3,a9⟩:=eX ((nd t y).par.late.length);rw[←a9]at bD S;obtain⟨ky,bG⟩:=eX ((nd t y).kind);rw[←bG]at bQ;have CM:=Hd ((E.out.cell (p:=⟨O,P+s,none⟩) aL.out).trans c4.out);have M:=Hd bA;have aH:=Hd (Nat.lt_of_lt_of_le aL.out E.out.size);have aR:=Hd bQ;have cC:=Hd bD;have cG:=Hd bG;have dS:=b1.out.size;clear bQ bD bG a9 bC bA;have NX:=Hd (fun(hh:(nd t y).kind=2→Cc (q:Int) (y:Int)=true→Cc (y:Int) (x:Int)=true→(m:Int)∈(nd t y).par.late)=>(show∀i,i<y+1→(nd t i).kind=2→Cc (q:Int) (i:Int)=true→Cc (i:Int) (x:Int)=true→(m:Int)∈(nd t i).par.late from fun i Q=>by
               by_cases e:i=y
               ·rw[e];exact hh
               ·exact bX.out i (by omega)))
              by_cases c3:ky=2
              ·have dG:=Hd (show(nd t y).kind=2 by rw[←cG.out];exact c3);have c9:((ky:Int)==2)=true:=(by rw[beq_iff_eq];omega);clear c3;cases hu1:Cc (q:Int) (y:Int)with
               |false=>
                have aE:=fun W=>Fc (q:Int) (y:Int) W;simp only[hu1]at aE;have U1:=Hd aE;have HN:=Hd (NX.out (fun _ h _=>by rw[hu1]at h;cases h));clear aE hu1 S;go_wp2_with fail;refine Cb [eF (.slice (some ⟨b,k,none⟩) r c),eF (.int .i64 (y:Nat)),eF (.pointer (some ⟨b,k+y*10,none⟩)),eF (.pointer (some ⟨b,k+y*10,none⟩)),eF (.int .u8 (ky:Nat)),eF (.bool true),eF (.bool true),eF (.slice (some ⟨O,P,none⟩) k0 e),eF (.int .i64 (s:Nat)),eF (.pointer (some ⟨O,P+s,none⟩)),eF (.int .i64 (m:Nat)),eF (.int .i64 (q:Nat)),eF (.int .i64 (y:Nat)),eF (.bool false),eF (.bool false),eF (.bool false),eF undef,eF undef,eF undef,eF (.bool false),eF (.bool false),eF undef,eF undef,eF undef,eF undef,eF undef,eF undef,eF undef,eF undef,eF undef,eF undef,eF undef,eF undef,eF (.bool false)] (by kernel_rfl) (by kernel_rfl) (by kernel_rfl) (kE (kE (kE (kE (kE (kE (kE (kE (kE (kE (kE (kE (kE (kE (kE (kE (kE (kE (kE (kE (kE (kE (kE (kE (kE (kE (kE (kE (kE (kE (kE (kE (kE (kE Ae)))))))))))))))))))))))))))))))))) ?_ ?_
                ·refine gQ ?_ (gQ ?_ (gQ ?_ (gQ ?_ (gQ ?_ (gQ ?_ (gQ ?_ (gQ ?_ (gQ ?_ (gQ ?_ (gQ ?_ (gQ ?_ (gQ ?_ (gB ?_ (gQ ?_ (gQ ?_ (fO rfl rfl rfl rfl rfl rfl (fun _ _ g=>g.1) rfl (fO rfl rfl rfl rfl rfl rfl (fun _ _ g=>g.1) rfl (fO rfl rfl rfl rfl rfl rfl (fun _ _ g=>g.2.2.1) rfl (gQ ?_ (gQ ?_ (fO rfl rfl rfl rfl rfl rfl (fun _ _ g=>g.1) rfl (fO rfl rfl rfl rfl rfl rfl (fun _ _ g=>g.1) rfl (fO rfl rfl rfl rfl rfl rfl (fun _ _ g=>g.2.2.1) rfl (fO rfl rfl rfl rfl rfl rfl (fun _ _ g=>g.2.1) rfl (fO rfl rfl rfl rfl rfl rfl (fun _ _ g=>g.2.1) rfl (fO rfl rfl rfl rfl rfl rfl (fun _ _ g=>g.2.1) rfl (fO rfl rfl rfl rfl rfl rfl (fun _ _ g=>g.1) rfl (fO rfl rfl rfl rfl rfl rfl (fun _ _ g=>g.1) rfl (fO rfl rfl rfl rfl rfl rfl (fun _ _ g=>g.2.2.1) rfl (fO rfl rfl rfl rfl rfl rfl (fun _ _ g=>g.2.1) rfl (fO rfl rfl rfl rfl rfl rfl (fun _ _ g=>g.2.2.1) rfl (fO rfl rfl rfl rfl rfl rfl (fun _ _ g=>g.2.1) rfl (gQ ?_ .nil)))))))))))))))))))))))))))))))));all_goals
                  intro a wx B H g;refine⟨by first|rfl|exact Ag rfl rfl rfl g.1|exact Ag rfl rfl rfl g.2.1|exact Ag rfl rfl rfl g.2.2.1,?_⟩;intro K Y;try have P0:a.tmps[0]?.getD undef=.slice (some ⟨b,k,none⟩) r c:=H 0 (by kernel_rfl)
                  try have P8:a.tmps[8]?.getD undef=.slice (some ⟨O,P,none⟩) k0 e:=H 8 (by kernel_rfl)
                  try have P9:a.tmps[9]?.getD undef=.int .i64 (s:Nat):=H 9 (by kernel_rfl)
                  try have a7:a.tmps[10]?.getD undef=.int .i64 (y:Nat):=H 10 (by kernel_rfl)
                  try have E0:=eqn g.1
                  try have E1:=eqn g.2.1
                  try have D0:=(B.cell (p:=⟨b,k+y*10,none⟩) M.out).trans aR.out
                  try have D1:=(B.cell (p:=⟨O,P+s,none⟩) aH.out).trans CM.out
                  try(refine Hd ?_;go_simp;exact Y _ rfl)
                 ·go_simp;refine(U1.out wx).mono ?_;rintro e T ⟨rfl,j⟩;exact Y _ _ rfl j
                ·rintro f w9 C z;have F:f 151=.bool false:=z.2.2.2.2.2.2.2.2.2.2.2.2.2.2.2.2.2.2.2.2.2.2.2.2.2.2.2.2.2.2.2.2.2.1;clear z;simp only[Aj,Aq,Dr,cZ,dA,dB,dC,Nat.reduceBEq,Nat.reduceAdd,dD,dE,cond_true,cond_false];rw[F];have U:=Hd (E.out.trans (C.mono E.out.size));clear C F;go_wp2_with fail;go_roundg (gk-1);case measure=>have:=HY.out;omega
                 case rel=>exact⟨y+1,by have:=HY.out;omega,by go_num,HN.out,U.out⟩
               |true=>
                have aE:=fun W=>Fc (q:Int) (y:Int) W;simp only[hu1]at aE;have U1:=Hd aE;have cS:=Hd hu1;clear aE hu1;cases hu2:Cc (y:Int) (x:Int)with
                |false=>
                 have aF:=fun W=>Fc (y:Int) (x:Int) W;simp only[hu2]at aF;have U2:=Hd aF;have HN:=Hd (NX.out (fun _ _ h=>by rw[hu2]at h;cases h));clear aF hu2 S;go_wp2_with fail;refine Cb [eF (.slice (some ⟨b,k,none⟩) r c),eF (.int .i64 (y:Nat)),eF (.pointer (some ⟨b,k+y*10,none⟩)),eF (.pointer (some ⟨b,k+y*10,none⟩)),eF (.int .u8 (ky:Nat)),eF (.bool true),eF (.bool true),eF (.slice (some ⟨O,P,none⟩) k0 e),eF (.int .i64 (s:Nat)),eF (.pointer (some ⟨O,P+s,none⟩)),eF (.int .i64 (m:Nat)),eF (.int .i64 (q:Nat)),eF (.int .i64 (y:Nat)),eF (.bool true),eF (.bool true),eF (.bool true),eF (.int .i64 (y:Nat)),eF (.int .i64 (x:Nat)),eF (.bool false),eF (.bool false),eF (.bool false),eF undef,eF undef,eF undef,eF undef,eF undef,eF undef,eF undef,eF undef,eF undef,eF undef,eF undef,eF undef,eF (.bool false)] (by kernel_rfl) (by kernel_rfl) (by kernel_rfl) (kE (kE (kE (kE (kE (kE (kE (kE (kE (kE (kE (kE (kE (kE (kE (kE (kE (kE (kE (kE (kE (kE (kE (kE (kE (kE (kE (kE (kE (kE (kE (kE (kE (kE Ae)))))))))))))))))))))))))))))))))) ?_ ?_
                 ·refine gQ ?_ (gQ ?_ (gQ ?_ (gQ ?_ (gQ ?_ (gQ ?_ (gQ ?_ (gQ ?_ (gQ ?_ (gQ ?_ (gQ ?_ (gQ ?_ (gQ ?_ (gB ?_ (gQ ?_ (gQ ?_ (gQ ?_ (gQ ?_ (gB ?_ (gQ ?_ (gQ ?_ (fO rfl rfl rfl rfl rfl rfl (fun _ _ g=>g.1) rfl (fO rfl rfl rfl rfl rfl rfl (fun _ _ g=>g.1) rfl (fO rfl rfl rfl rfl rfl rfl (fun _ _ g=>g.2.2.1) rfl (fO rfl rfl rfl rfl rfl rfl (fun _ _ g=>g.2.1) rfl (fO rfl rfl rfl rfl rfl rfl (fun _ _ g=>g.2.1) rfl (fO rfl rfl rfl rfl rfl rfl (fun _ _ g=>g.2.1) rfl (fO rfl rfl rfl rfl rfl rfl (fun _ _ g=>g.1) rfl (fO rfl rfl rfl rfl rfl rfl (fun _ _ g=>g.1) rfl (fO rfl rfl rfl rfl rfl rfl (fun _ _ g=>g.2.2.1) rfl (fO rfl rfl rfl rfl rfl rfl (fun _ _ g=>g.2.1) rfl (fO rfl rfl rfl rfl rfl rfl (fun _ _ g=>g.2.2.1) rfl (fO rfl rfl rfl rfl rfl rfl (fun _ _ g=>g.2.1) rfl (gQ ?_ .nil)))))))))))))))))))))))))))))))));all_goals
                   intro a wx B H g;refine⟨by first|rfl|exact Ag rfl rfl rfl g.1|exact Ag rfl rfl rfl g.2.1|exact Ag rfl rfl rfl g.2.2.1,?_⟩;intro K Y;try have P0:a.tmps[0]?.getD undef=.slice (some ⟨b,k,none⟩) r c:=H 0 (by kernel_rfl)
                   try have P7:a.tmps[7]?.getD undef=.int .i64 (x:Nat):=H 7 (by kernel_rfl)
                   try have P8:a.tmps[8]?.getD undef=.slice (some ⟨O,P,none⟩) k0 e:=H 8 (by kernel_rfl)
                   try have P9:a.tmps[9]?.getD undef=.int .i64 (s:Nat):=H 9 (by kernel_rfl)
                   try have a7:a.tmps[10]?.getD undef=.int .i64 (y:Nat):=H 10 (by kernel_rfl)
                   try have E0:=eqn g.1
                   try have E1:=eqn g.2.1
                   try have D0:=(B.cell (p:=⟨b,k+y*10,none⟩) M.out).trans aR.out
                   try have D1:=(B.cell (p:=⟨O,P+s,none⟩) aH.out).trans CM.out
                   try(refine Hd ?_;go_simp;exact Y _ rfl)
                  ·go_simp;refine(U1.out wx).mono ?_;rintro e T ⟨rfl,j⟩;exact Y _ _ rfl j
                  ·go_simp;refine(U2.out wx).mono ?_;rintro e T ⟨rfl,j⟩;exact Y _ _ rfl j
                 ·rintro f w9 C z;have F:f 151=.bool false:=z.2.2.2.2.2.2.2.2.2.2.2.2.2.2.2.2.2.2.2.2.2.2.2.2.2.2.2.2.2.2.2.2.2.1;clear z;simp only[Aj,Aq,Dr,cZ,dA,dB,dC,Nat.reduceBEq,Nat.reduceAdd,dD,dE,cond_true,cond_false];rw[F];have U:=Hd (E.out.trans (C.mono E.out.size));clear C F;go_wp2_with fail;go_roundg (gk-1);case measure=>have:=HY.out;omega
                  case rel=>exact⟨y+1,by have:=HY.out;omega,by go_num,HN.out,U.out⟩
                |true=>
                 have aF:=fun W=>Fc (y:Int) (x:Int) W;simp only[hu2]at aF;have U2:=Hd aF;have c5:=Hd hu2;clear aF hu2
                 by_cases hin:(m:Int)∈(nd t y).par.late
                 ·simp only[decide_eq_true hin]at S;have bM:=Hd S;have HN:=Hd (NX.out (fun _ _ _=>hin));clear S hin;go_wp2_with fail;refine Cb [eF (.slice (some ⟨b,k,none⟩) r c),eF (.int .i64 (y:Nat)),eF (.pointer (some ⟨b,k+y*10,none⟩)),eF (.pointer (some ⟨b,k+y*10,none⟩)),eF (.int .u8 (ky:Nat)),eF (.bool true),eF (.bool true),eF (.slice (some ⟨O,P,none⟩) k0 e),eF (.int .i64 (s:Nat)),eF (.pointer (some ⟨O,P+s,none⟩)),eF (.int .i64 (m:Nat)),eF (.int .i64 (q:Nat)),eF (.int .i64 (y:Nat)),eF (.bool true),eF (.bool true),eF (.bool true),eF (.int .i64 (y:Nat)),eF (.int .i64 (x:Nat)),eF (.bool true),eF (.bool true),eF (.bool true),eF (.slice (some ⟨b,k,none⟩) r c),eF (.int .i64 (y:Nat)),eF (.pointer (some ⟨b,k+y*10,none⟩)),eF (.pointer (some ⟨b,k+y*10+7,none⟩)),eF (.pointer (some ⟨b,k+y*10+7+2,none⟩)),eF (.slice ly b3 ey),eF (.slice (some ⟨O,P,none⟩) k0 e),eF (.int .i64 (s:Nat)),eF (.pointer (some ⟨O,P+s,none⟩)),eF (.int .i64 (m:Nat)),eF (.bool true),eF (.bool false),eF (.bool false)] (by kernel_rfl) (by kernel_rfl) (by kernel_rfl) (kE (kE (kE (kE (kE (kE (kE (kE (kE (kE (kE (kE (kE (kE (kE (kE (kE (kE (kE (kE (kE (kE (kE (kE (kE (kE (kE (kE (kE (kE (kE (kE (kE (kE Ae)))))))))))))))))))))))))))))))))) ?_ ?_
                  ·refine gQ ?_ (gQ ?_ (gQ ?_ (gQ ?_ (gQ ?_ (gQ ?_ (gQ ?_ (gQ ?_ (gQ ?_ (gQ ?_ (gQ ?_ (gQ ?_ (gQ ?_ (gB ?_ (gQ ?_ (gQ ?_ (gQ ?_ (gQ ?_ (gB ?_ (gQ ?_ (gQ ?_ (gQ ?_ (gQ ?_ (gQ ?_ (gQ ?_ (gQ ?_ (gQ ?_ (gQ ?_ (gQ ?_ (gQ ?_ (gQ ?_ (gB ?_ (gQ ?_ (gQ ?_ .nil)))))))))))))))))))))))))))))))));all_goals
                    intro a wx B H g;refine⟨by first|rfl|exact Ag rfl rfl rfl g.1|exact Ag rfl rfl rfl g.2.1|exact Ag rfl rfl rfl g.2.2.1,?_⟩;intro K Y;try have P0:a.tmps[0]?.getD undef=.slice (some ⟨b,k,none⟩) r c:=H 0 (by kernel_rfl)
                    try have P7:a.tmps[7]?.getD undef=.int .i64 (x:Nat):=H 7 (by kernel_rfl)
                    try have P8:a.tmps[8]?.getD undef=.slice (some ⟨O,P,none⟩) k0 e:=H 8 (by kernel_rfl)
                    try have P9:a.tmps[9]?.getD undef=.int .i64 (s:Nat):=H 9 (by kernel_rfl)
                    try have a7:a.tmps[10]?.getD undef=.int .i64 (y:Nat):=H 10 (by kernel_rfl)
                    try have E0:=eqn g.1
                    try have E1:=eqn g.2.1
                    try have D0:=(B.cell (p:=⟨b,k+y*10,none⟩) M.out).trans aR.out
                    try have D1:=(B.cell (p:=⟨O,P+s,none⟩) aH.out).trans CM.out
                    try have D2:=(B.cell (p:=⟨b,k+y*10+7+2,none⟩) M.out).trans cC.out
                    try(refine Hd ?_;go_simp;exact Y _ rfl)
                   ·go_simp;refine(U1.out wx).mono ?_;rintro e T ⟨rfl,j⟩;exact Y _ _ rfl j
                   ·go_simp;refine(U2.out wx).mono ?_;rintro e T ⟨rfl,j⟩;exact Y _ _ rfl j
                   ·go_simp;refine(bM.out wx B).mono ?_;rintro e T ⟨rfl,rfl⟩;exact Y _ _ rfl bR
                  ·rintro f w9 C z;have F:f 151=.bool false:=z.2.2.2.2.2.2.2.2.2.2.2.2.2.2.2.2.2.2.2.2.2.2.2.2.2.2.2.2.2.2.2.2.2.1;clear z;simp only[Aj,Aq,Dr,cZ,dA,dB,dC,Nat.reduceBEq,Nat.reduceAdd,dD,dE,cond_true,cond_false];rw[F];have U:=Hd (E.out.trans (C.mono E.out.size));clear C F;go_wp2_with fail;go_roundg (gk-1);case measure=>have:=HY.out;omega
                   case rel=>exact⟨y+1,by have:=HY.out;omega,by go_num,HN.out,U.out⟩
                 ·simp only[decide_eq_false hin]at S;have bM:=Hd S;have V:=Hd (a3.out (fun hh=>by
                   have h4:=((aW.out m x).1 hh).2.2.2 y hyn dG.out;rw[←HQ.out]at h4;exact hin (h4 cS.out c5.out)))
                  clear S hin;go_wp2_with fail;refine Cb [eF (.slice (some ⟨b,k,none⟩) r c),eF (.int .i64 (y:Nat)),eF (.pointer (some ⟨b,k+y*10,none⟩)),eF (.pointer (some ⟨b,k+y*10,none⟩)),eF (.int .u8 (ky:Nat)),eF (.bool true),eF (.bool true),eF (.slice (some ⟨O,P,none⟩) k0 e),eF (.int .i64 (s:Nat)),eF (.pointer (some ⟨O,P+s,none⟩)),eF (.int .i64 (m:Nat)),eF (.int .i64 (q:Nat)),eF (.int .i64 (y:Nat)),eF (.bool true),eF (.bool true),eF (.bool true),eF (.int .i64 (y:Nat)),eF (.int .i64 (x:Nat)),eF (.bool true),eF (.bool true),eF (.bool true),eF (.slice (some ⟨b,k,none⟩) r c),eF (.int .i64 (y:Nat)),eF (.pointer (some ⟨b,k+y*10,none⟩)),eF (.pointer (some ⟨b,k+y*10+7,none⟩)),eF (.pointer (some ⟨b,k+y*10+7+2,none⟩)),eF (.slice ly b3 ey),eF (.slice (some ⟨O,P,none⟩) k0 e),eF (.int .i64 (s:Nat)),eF (.pointer (some ⟨O,P+s,none⟩)),eF (.int .i64 (m:Nat)),eF (.bool false),eF (.bool true),eF (.bool true)] (by kernel_rfl) (by kernel_rfl) (by kernel_rfl) (kE (kE (kE (kE (kE (kE (kE (kE (kE (kE (kE (kE (kE (kE (kE (kE (kE (kE (kE (kE (kE (kE (kE (kE (kE (kE (kE (kE (kE (kE (kE (kE (kE (kE Ae)))))))))))))))))))))))))))))))))) ?_ ?_
                  ·refine gQ ?_ (gQ ?_ (gQ ?_ (gQ ?_ (gQ ?_ (gQ ?_ (gQ ?_ (gQ ?_ (gQ ?_ (gQ ?_ (gQ ?_ (gQ ?_ (gQ ?_ (gB ?_ (gQ ?_ (gQ ?_ (gQ ?_ (gQ ?_ (gB ?_ (gQ ?_ (gQ ?_ (gQ ?_ (gQ ?_ (gQ ?_ (gQ ?_ (gQ ?_ (gQ ?_ (gQ ?_ (gQ ?_ (gQ ?_ (gQ ?_ (gB ?_ (gQ ?_ (gQ ?_ .nil)))))))))))))))))))))))))))))))));all_goals
                    intro a wx B H g;refine⟨by first|rfl|exact Ag rfl rfl rfl g.1|exact Ag rfl rfl rfl g.2.1|exact Ag rfl rfl rfl g.2.2.1,?_⟩;intro K Y;try have P0:a.tmps[0]?.getD undef=.slice (some ⟨b,k,none⟩) r c:=H 0 (by kernel_rfl)
                    try have P7:a.tmps[7]?.getD undef=.int .i64 (x:Nat):=H 7 (by kernel_rfl)
                    try have P8:a.tmps[8]?.getD undef=.slice (some ⟨O,P,none⟩) k0 e:=H 8 (by kernel_rfl)
                    try have P9:a.tmps[9]?.getD undef=.int .i64 (s:Nat):=H 9 (by kernel_rfl)
                    try have a7:a.tmps[10]?.getD undef=.int .i64 (y:Nat):=H 10 (by kernel_rfl)
                    try have E0:=eqn g.1
                    try have E1:=eqn g.2.1
                    try have D0:=(B.cell (p:=⟨b,k+y*10,none⟩) M.out).trans aR.out
                    try have D1:=(B.cell (p:=⟨O,P+s,none⟩) aH.out).trans CM.out
                    try have D2:=(B.cell (p:=⟨b,k+y*10+7+2,none⟩) M.out).trans cC.out
                    try(refine Hd ?_;go_simp;exact Y _ rfl)
                   ·go_simp;refine(U1.out wx).mono ?_;rintro e T ⟨rfl,j⟩;exact Y _ _ rfl j
                   ·go_simp;refine(U2.out wx).mono ?_;rintro e T ⟨rfl,j⟩;exact Y _ _ rfl j
                   ·go_simp;refine(bM.out wx B).mono ?_;rintro e T ⟨rfl,rfl⟩;exact Y _ _ rfl bR
                  ·rintro f w9 C z;have F:f 151=.bool true:=z.2.2.2.2.2.2.2.2.2.2.2.2.2.2.2.2.2.2.2.2.2.2.2.2.2.2.2.2.2.2.2.2.2.1;clear z;simp only[Aj,Aq,Dr,cZ,dA,dB,dC,Nat.reduceBEq,Nat.reduceAdd,dD,dE,cond_true,cond_false];rw[F];have U:=Hd (E.out.trans (C.mono E.out.size));clear C F;go_wp2_with fail;go_ret;exact⟨Dh V.out,o.out.trans (U.out.mono o.out.size)⟩
              ·have c9:((ky:Int)==2)=false:=(by rw[beq_eq_false_iff_ne];omega);have HN:=Hd (NX.out (fun h _ _=>absurd (cG.out.trans h) c3));clear c3 S;go_wp2_with fail;refine Cb [eF (.slice (some ⟨b,k,none⟩) r c),eF (.int .i64 (y:Nat)),eF (.pointer (some ⟨b,k+y*10,none⟩)),eF (.pointer (some ⟨b,k+y*10,none⟩)),eF (.int .u8 (ky:Nat)),eF (.bool false),eF (.bool false),eF undef,eF undef,eF undef,eF undef,eF undef,eF undef,eF undef,eF (.bool false),eF (.bool false),eF undef,eF undef,eF undef,eF (.bool false),eF (.bool false),eF undef,eF undef,eF undef,eF undef,eF undef,eF undef,eF undef,eF undef,eF undef,eF undef,eF undef,eF undef,eF (.bool false)] (by kernel_rfl) (by kernel_rfl) (by kernel_rfl) (kE (kE (kE (kE (kE (kE (kE (kE (kE (kE (kE (kE (kE (kE (kE (kE (kE (kE (kE (kE (kE (kE (kE (kE (kE (kE (kE (kE (kE (kE (kE (kE (kE (kE Ae)))))))))))))))))))))))))))))))))) ?_ ?_
               ·refine gQ ?_ (gQ ?_ (gQ ?_ (gQ ?_ (gQ ?_ (gQ ?_ (gQ ?_ (fO rfl rfl rfl rfl rfl rfl (fun _ _ g=>g.1) rfl (fO rfl rfl rfl rfl rfl rfl (fun _ _ g=>g.1) rfl (fO rfl rfl rfl rfl rfl rfl (fun _ _ g=>g.2.2.1) rfl (fO rfl rfl rfl rfl rfl rfl (fun _ _ g=>g.2.1) rfl (fO rfl rfl rfl rfl rfl rfl (fun _ _ g=>g.2.1) rfl (fO rfl rfl rfl rfl rfl rfl (fun _ _ g=>g.1) rfl (fO rfl rfl rfl rfl rfl rfl (fun _ _ g=>g.2.2.1) rfl (gQ ?_ (gQ ?_ (fO rfl rfl rfl rfl rfl rfl (fun _ _ g=>g.1) rfl (fO rfl rfl rfl rfl rfl rfl (fun _ _ g=>g.1) rfl (fO rfl rfl rfl rfl rfl rfl (fun _ _ g=>g.2.2.1) rfl (gQ ?_ (gQ ?_ (fO rfl rfl rfl rfl rfl rfl (fun _ _ g=>g.1) rfl (fO rfl rfl rfl rfl rfl rfl (fun _ _ g=>g.1) rfl (fO rfl rfl rfl rfl rfl rfl (fun _ _ g=>g.2.2.1) rfl (fO rfl rfl rfl rfl rfl rfl (fun _ _ g=>g.2.1) rfl (fO rfl rfl rfl rfl rfl rfl (fun _ _ g=>g.2.1) rfl (fO rfl rfl rfl rfl rfl rfl (fun _ _ g=>g.2.1) rfl (fO rfl rfl rfl rfl rfl rfl (fun _ _ g=>g.1) rfl (fO rfl rfl rfl rfl rfl rfl (fun _ _ g=>g.1) rfl (fO rfl rfl rfl rfl rfl rfl (fun _ _ g=>g.2.2.1) rfl (fO rfl rfl rfl rfl rfl rfl (fun _ _ g=>g.2.1) rfl (fO rfl rfl rfl rfl rfl rfl (fun _ _ g=>g.2.2.1) rfl (fO rfl rfl rfl rfl rfl rfl (fun _ _ g=>g.2.1) rfl (gQ ?_ .nil)))))))))))))))))))))))))))))))));all_goals
                 intro a wx B H g;refine⟨rfl,?_⟩;intro K Y;try have P0:a.tmps[0]?.getD undef=.slice (some ⟨b,k,none⟩) r c:=H 0 (by kernel_rfl)
                 try have a7:a.tmps[10]?.getD undef=.int .i64 (y:Nat):=H 10 (by kernel_rfl)
                 try have E0:=eqn g.1
                 try have E1:=eqn g.2.1
                 try have D0:=(B.cell (p:=⟨b,k+y*10,none⟩) M.out).trans aR.out
                 try(refine Hd ?_;go_simp;exact Y _ rfl)
               ·rintro f w9 C z;have F:f 151=.bool false:=z.2.2.2.2.2.2.2.2.2.2.2.2.2.2.2.2.2.2.2.2.2.2.2.2.2.2.2.2.2.2.2.2.2.1;clear z;simp only[Aj,Aq,Dr,cZ,dA,dB,dC,Nat.reduceBEq,Nat.reduceAdd,dD,dE,cond_true,cond_false];rw[F];have U:=Hd (E.out.trans (C.mono E.out.size));clear C F;go_wp2_with fail;go_roundg (gk-1);case measure=>have:=HY.out;omega
                case rel=>exact⟨y+1,by have:=HY.out;omega,by go_num,HN.out,U.out⟩
             ·obtain rfl:y=r:=(by have:=HY.out;omega);have cJ:decide (y<y)=false:=decide_eq_false hyn;have bZ:=Hd (show Hy t x (m:Int)from(aW.out m x).2 ⟨by omega,by rw[←HQ.out];exact cE.out,by rw[←HQ.out,cW.out];omega,by rw[←HQ.out];exact bX.out⟩);go_wp2_with fail;go_roundg (g2-1);case measure=>have:=HS.out;omega
              case rel=>
               refine⟨s+1,by have:=HS.out;omega,by go_num,fun i Q=> ?_,E.out⟩
               by_cases e:i=s
               ·rw[e,HM.out];exact bZ.out
               ·exact cH.out i (by omega)
          ·have dK:((kq:Int)==1)=false:=(by rw[beq_eq_false_iff_ne];omega);have dO:((kq:Int) !=1)=true:=(by rw[bne,dK];rfl);have V:=Hd (a3.out (fun hh=>by
            have h1:=((aW.out m x).1 hh).2.2.1;rw[←HQ.out,←aG]at h1;have h2:=cB.out a2.out q cA;rw[Ef (by have:=HQ.out;omega),←aG]at h2;have h3:=Gq h2.2;rw[←aG]at h3;rcases h3 with h|h|h
            ·exact h1 h
            ·exact c2 h
            ·exact h2.1 h))
           clear aG c2;go_wp2_with fail;go_ret;exact⟨Dh V.out,aN.out⟩
        ·obtain rfl:s=k0:=(by have:=HS.out;omega);have b2:decide (s<s)=false:=decide_eq_false hsk;have cM:=Hd (dH.out x (fun i Q=>cH.out i (by have:=b9.out;omega)));go_wp2_with fail;go_roundg (g1-1);case measure=>have:=HX.out;omega
         case rel=>
          refine⟨x+1,by have:=HX.out;omega,by go_num,fun i Q=> ?_,o.out.trans (aY.out.mono o.out.size)⟩
          by_cases e:i=x
          ·rw[e];exact cM.out
          ·exact b6.out i (by omega)
      ·obtain rfl:x=r:=(by have:=HX.out;omega);have b0:decide (x<x)=false:=decide_eq_false hxn;have V:=Hd (show R=true by rw[aI.out,a2.out,c8.out,dI.out b6.out];rfl);go_wp2_with fail;go_ret;exact⟨Dh V.out,o.out⟩
end Go.Proofs.YtfofaiommeckbaaGreat
