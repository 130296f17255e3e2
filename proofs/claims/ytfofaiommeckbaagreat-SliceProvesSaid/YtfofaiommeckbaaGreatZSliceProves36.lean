import Derived.Test.YtfofaiommeckbaaGreatZSliceProves19
open Go.Value renaming slice → q9, int → rA, pointer → rB
open Go.IntKind renaming i64 → rC
open Option renaming none → rF
open Go.Proofs.Tryz
open List renaming getD_eq_getElem?_getD → aH, getElem?_eq_getElem → aI, filterMap_cons → cX, filterMap_nil → cY, contains_cons → cZ, contains_nil → dA
open Array renaming length_toList → fA
open Bool renaming or_false → dB, or_true → dC
set_option linter.unusedVariables false
set_option maxRecDepth 100000
set_option maxHeartbeats 40000000
namespace Go.Proofs.YtfofaiommeckbaaGreat
open Go.RowKit WalkM
theorem Oy (v:Value)(t:List NodeD)(w:World)(h:TreeR w v t)(hs:Bc t=true)(a4:TreeOk t):
  Calls prog 36 #[v] w fun e w'=>e=.returned (.bool (Bi t))∧Below w.heap.size w w':=by
 obtain⟨a,c,rfl,hc,dT⟩:=h.sl;have bD:=Bg hs;have LV:=fun(W:World)=>Ws a t.length c W (by omega);have RR:=fun(i:Nat) (cs:Array Value) (W:World) (hw:NodeC W (nd t i) cs)=>Zbe (nd t i) cs W hw (a4.nd i);have GN:=fun(W:World) (hw:Below w.heap.size w W) (i:Nat) (Q:i<t.length)=>(h.below hw lR).node Q;have GA:=fun(W:World) (hw:Below w.heap.size w W) (i:Nat) (Q:i<t.length)=>(h.below hw lR).at Q;have KB:=fun(i:Nat)=>(a4.nd i).kind;have bJ:=fun(i:Nat)=>(show(nd t i).par.late.length≤60 by have:=of_decide_eq_true (Ie hs i);omega);have P1:=fun(J:∀i,i<t.length→(nd t i).kind≠Dw i∧At (nd t i)=true)=>(Fo t).2 J;have P2:=fun(i:Nat) (Q:i<t.length) (J:(nd t i).kind=Dw i∨At (nd t i)=false)=>Py Q J;have L1:=fun(J:∀x,x<t.length→Dx t x=true)=>Qd J;have L2:=fun(x:Nat) (hx:x<t.length) (J:Dx t x=false)=>Ul hx J;have LY:=fun(x:Nat) (J:∀r,r<(nd t x).par.late.length→Ig t x ((nd t x).par.late.getD r 0))=>Qb (t:=t) (x:=x) (fun u hu=>by
  obtain⟨r,hr,rfl⟩:=List.getElem_of_mem hu;have:=J r hr
  rwa [aH,aI hr]at this)
 have aT:=fun(x r:Nat) (hr:r<(nd t x).par.late.length)=>(show(nd t x).par.late.getD r 0∈(nd t x).par.late by rw[aH,aI hr];exact List.getElem_mem hr);have NO:=fun(x r:Nat) (hr:r<(nd t x).par.late.length) (J:¬Ig t x ((nd t x).par.late.getD r 0))=>Uj (aT x r hr) J;have aM:=fun(hp:Bh t=true) (x:Nat) (hx:x<t.length)=>Dj hp hx;have aW:=fun(hp:Bh t=true) (x r:Nat) (hx:x<t.length) (hr:r<(nd t x).par.late.length)=>(Hs hp hx (aT x r hr)).2;have SU:=fun(N:Nat) (hN:Ap t.length=N) (hl:N≤t.length)=>Zd0 hN hl;obtain⟨R,hR⟩:=eX (Bi t);have aD:R=(decide (Ap t.length≠0)&&(Bh t&&(Pj t&&Ku t))):=(by rw[hR,Bi]);rw[←hR]
 by_cases h0:Ap t.length=0
 ·rw[h0]at LV;have V:=Hd (show R=false by rw[aD,h0];rfl);obtain⟨n,hn⟩:=eX t.length;rw[←hn]at LV⊢;have bS:=Hd LV;clear LV RR GN GA KB bJ P1 P2 L1 L2 LY aT NO aM aW SU aD hR h0 h hs a4 hn hc bD;go_enter func36,ntmps36;go_wp2_with fail;refine(bS.out w).mono ?_;rintro e w' ⟨rfl,rfl⟩;go_wp2_with fail;go_ret;exact⟨Et V.out,bR⟩
 ·obtain⟨d,hd,hN,hl⟩:=Dc h0;rw[decide_eq_true h0,Bool.true_and]at aD;have LP:=fun(m x:Nat)=>Uk (t:=t) (m:=m) (x:=x) hd hl;rw[←hN]at LP;have cC:2*Ap t.length=t.length+1:=(by rw[hN];omega);have aV:=SU _ rfl (by omega);obtain⟨N,b6⟩:=eX (Ap t.length);rw[←b6]at LV h0 cC LP aV;obtain⟨n,hn⟩:=eX t.length;rw[←hn]at LV GN GA P1 P2 L1 L2 aM aW LP cC aV hc bD⊢;obtain⟨pb,cI⟩:=eX (Bh t);rw[←cI]at aD P1 P2 aM aW;obtain⟨sb,aJ⟩:=eX (Pj t);rw[←aJ]at aD aV;obtain⟨lb,cG⟩:=eX (Ku t);rw[←cG]at aD L1 L2;have dV:((N:Int)==0)=false:=(by rw[beq_eq_false_iff_ne];omega);have bS:=Hd LV;have dD:=Hd RR;have c4:=Hd GN;have bH:=Hd GA;have dJ:=Hd KB;have c5:=Hd bJ;have c6:=Hd P1;have bE:=Hd P2;have dL:=Hd L1;have cT:=Hd L2;have dI:=Hd LY;have dP:=Hd aT;have dM:=Hd NO;have b5:=Hd aM;have cE:=Hd aW;have aX:=Hd LP;have cO:=Hd aV;have aL:=Hd aD;clear LV RR GN GA KB bJ P1 P2 L1 L2 LY aT NO aM aW SU LP aV aD hR h hs a4 hn hl hN b6 hd cI aJ cG;go_enter func36,ntmps36;go_wp2_with fail;refine(bS.out w).mono ?_;rintro e w' ⟨rfl,rfl⟩;go_wp2_with fail
  go_loopg [4,5] n (fun q sv iv wr=>∃r:Nat,r+q=n∧iv=rA rC (r:Nat)∧sv=.bool (Pk t N r)∧(∀i,i<r→(nd t i).kind≠Dw i∧At (nd t i)=true)∧Below w'.heap.size w' wr)
  case atStart=>exact⟨0,by omega,rfl,rfl,fun i Q=>by omega,bR⟩
  case round=>
   obtain⟨r,hr,rfl,rfl,A,hb⟩:=hrel;have Z:=Hd hr;have C:=Hd A;have H:=Hd hb;clear hr A hb
   by_cases hlt:r<n
   ·have b1:decide (r<n)=true:=decide_eq_true hlt;obtain⟨b,k,cs,rfl,bQ,aP,a2⟩:=c4.out wr H.out r hlt;have M:=Hd a2;have O:=Hd aP.size;have RC:=dD.out r cs wr aP;have ck:=a2 0 _ aP.kind;have dE:wr.cell? ⟨b,k+r*10,rF⟩=some (rA .u8 ((nd t r).kind:Nat)):=ck;obtain⟨kd,aQ⟩:=eX ((nd t r).kind);have bG:=dJ.out r;rw[←aQ]at dE bG;have a3:=Hd aQ;have cH:=Hd (Zbn t N r);obtain⟨s0,a9⟩:=eX (Pk t N r);obtain⟨s1,a6⟩:=eX (Pk t N (r+1));have aB:=Hd (show s1=(s0||(kd==1&&(N==1||decide (N≤r)))) by rw[a6,cH.out,a9,aQ]);have aC:=Hd a6;rw[←a9];obtain⟨m,hm⟩:=eX (r%2);have dR:(r:Int)%2=(m:Int):=(by omega);have dU:Int.tmod (r:Int) 2=(m:Int):=(by rw[Int.tmod_eq_emod_of_nonneg (by omega)];omega);have b0:m=0∨m=1:=(by omega);have b4:=Hd hm;cases hrb:At (nd t r)with
    |false=>
     rw[hrb]at RC;have I:=Hd RC;have V:=Hd (show R=false by rw[aL.out,bE.out r hlt (.inr hrb)];rfl);clear RC hrb ck a2 aP aQ a9 a6 hm b0;go_wp2_with (refine wpList_load_mid rfl 52 (.tmp 28) rfl b (k+r*10) rfl cs.toList _ M.out underlying52 rfl (by rw[fA,O.out];exact Ak) ?_);refine(I.out).mono ?_;rintro e T ⟨rfl,j⟩;have o:=Hd (H.out.trans (j.mono H.out.size));clear j;go_wp2_with fail;go_ret;exact⟨Et V.out,o.out⟩
    |true=>
     rw[hrb]at RC;have I:=Hd RC;have aA:=Hd hrb;clear RC hrb ck a2 aP aQ a9 a6 hm cH;rcases b0 with rfl|rfl
     ·have aO:=Hd (Eg b4.out.symm)
      by_cases hk:kd=2
      ·have hq:((kd:Int)==2)=true:=(by rw[beq_iff_eq];omega);have V:=Hd (show R=false by rw[aL.out,bE.out r hlt (.inl (by rw[←a3.out,aO.out,hk]))];rfl);clear hk;go_wp2_with (refine wpList_load_mid rfl 52 (.tmp 28) rfl b (k+r*10) rfl cs.toList _ M.out underlying52 rfl (by rw[fA,O.out];exact Ak) ?_);refine(I.out).mono ?_;rintro e T ⟨rfl,j⟩;have o:=Hd (H.out.trans (j.mono H.out.size));clear j;go_wp2_with fail;go_ret;exact⟨Et V.out,o.out⟩
      ·have hq:((kd:Int)==2)=false:=(by rw[beq_eq_false_iff_ne];omega);have X:=Hd (show(nd t r).kind≠Dw r by rw[←a3.out,aO.out];exact hk)
       by_cases hk1:kd=1
       ·have cR:((kd:Int)==1)=true:=(by rw[beq_iff_eq];omega);cases s0 with
        |true=>
         have HV:=Hd (show s1=true by rw[aB.out];rfl);try clear hk1
         try clear hN1
         try clear hk
         go_wp2_with (refine wpList_load_mid rfl 52 (.tmp 28) rfl b (k+r*10) rfl cs.toList _ M.out underlying52 rfl (by rw[fA,O.out];exact Ak) ?_);refine(I.out).mono ?_;rintro e T ⟨rfl,j⟩;have o:=Hd (H.out.trans (j.mono H.out.size));clear j;go_wp2_with fail;go_roundg (gk-1);case measure=>have:=Z.out;omega
         case rel=>
          refine⟨r+1,by have:=Z.out;omega,by go_num,by rw[←aC.out,HV.out],fun i Q=> ?_,o.out⟩
          by_cases e:i=r
          ·rw[e];exact⟨X.out,aA.out⟩
          ·exact C.out i (by omega)
        |false=>
         by_cases hN1:N=1
         ·have cW:((N:Int)==1)=true:=(by rw[beq_iff_eq];omega);have HV:=Hd (show s1=true by rw[aB.out,hk1,hN1];rfl);try clear hk1
          try clear hN1
          try clear hk
          go_wp2_with (refine wpList_load_mid rfl 52 (.tmp 28) rfl b (k+r*10) rfl cs.toList _ M.out underlying52 rfl (by rw[fA,O.out];exact Ak) ?_);refine(I.out).mono ?_;rintro e T ⟨rfl,j⟩;have o:=Hd (H.out.trans (j.mono H.out.size));clear j;go_wp2_with fail;go_roundg (gk-1);case measure=>have:=Z.out;omega
          case rel=>
           refine⟨r+1,by have:=Z.out;omega,by go_num,by rw[←aC.out,HV.out],fun i Q=> ?_,o.out⟩
           by_cases e:i=r
           ·rw[e];exact⟨X.out,aA.out⟩
           ·exact C.out i (by omega)
         ·have cW:((N:Int)==1)=false:=(by rw[beq_eq_false_iff_ne];omega);have bY:(N==1)=false:=beq_eq_false_iff_ne.2 hN1
          by_cases hge:N≤r
          ·have bF:decide (N≤r)=true:=decide_eq_true hge;have HV:=Hd (show s1=true by rw[aB.out,hk1,bY,bF];rfl);try clear hk1
           try clear hN1
           try clear hk
           go_wp2_with (refine wpList_load_mid rfl 52 (.tmp 28) rfl b (k+r*10) rfl cs.toList _ M.out underlying52 rfl (by rw[fA,O.out];exact Ak) ?_);refine(I.out).mono ?_;rintro e T ⟨rfl,j⟩;have o:=Hd (H.out.trans (j.mono H.out.size));clear j;go_wp2_with fail;go_roundg (gk-1);case measure=>have:=Z.out;omega
           case rel=>
            refine⟨r+1,by have:=Z.out;omega,by go_num,by rw[←aC.out,HV.out],fun i Q=> ?_,o.out⟩
            by_cases e:i=r
            ·rw[e];exact⟨X.out,aA.out⟩
            ·exact C.out i (by omega)
          ·have bF:decide (N≤r)=false:=decide_eq_false hge;have HV:=Hd (show s1=false by rw[aB.out,hk1,bY,bF];rfl);try clear hk1
           try clear hN1
           try clear hk
           go_wp2_with (refine wpList_load_mid rfl 52 (.tmp 28) rfl b (k+r*10) rfl cs.toList _ M.out underlying52 rfl (by rw[fA,O.out];exact Ak) ?_);refine(I.out).mono ?_;rintro e T ⟨rfl,j⟩;have o:=Hd (H.out.trans (j.mono H.out.size));clear j;go_wp2_with fail;go_roundg (gk-1);case measure=>have:=Z.out;omega
           case rel=>
            refine⟨r+1,by have:=Z.out;omega,by go_num,by rw[←aC.out,HV.out],fun i Q=> ?_,o.out⟩
            by_cases e:i=r
            ·rw[e];exact⟨X.out,aA.out⟩
            ·exact C.out i (by omega)
       ·have cR:((kd:Int)==1)=false:=(by rw[beq_eq_false_iff_ne];omega);have bN:(kd==1)=false:=beq_eq_false_iff_ne.2 hk1;cases s0 with
        |true=>
         have HV:=Hd (show s1=true by rw[aB.out];rfl);try clear hk1
         try clear hN1
         try clear hk
         go_wp2_with (refine wpList_load_mid rfl 52 (.tmp 28) rfl b (k+r*10) rfl cs.toList _ M.out underlying52 rfl (by rw[fA,O.out];exact Ak) ?_);refine(I.out).mono ?_;rintro e T ⟨rfl,j⟩;have o:=Hd (H.out.trans (j.mono H.out.size));clear j;go_wp2_with fail;go_roundg (gk-1);case measure=>have:=Z.out;omega
         case rel=>
          refine⟨r+1,by have:=Z.out;omega,by go_num,by rw[←aC.out,HV.out],fun i Q=> ?_,o.out⟩
          by_cases e:i=r
          ·rw[e];exact⟨X.out,aA.out⟩
          ·exact C.out i (by omega)
        |false=>
         have HV:=Hd (show s1=false by rw[aB.out,bN];rfl);try clear hk1
         try clear hN1
         try clear hk
         go_wp2_with (refine wpList_load_mid rfl 52 (.tmp 28) rfl b (k+r*10) rfl cs.toList _ M.out underlying52 rfl (by rw[fA,O.out];exact Ak) ?_);refine(I.out).mono ?_;rintro e T ⟨rfl,j⟩;have o:=Hd (H.out.trans (j.mono H.out.size));clear j;go_wp2_with fail;go_roundg (gk-1);case measure=>have:=Z.out;omega
         case rel=>
          refine⟨r+1,by have:=Z.out;omega,by go_num,by rw[←aC.out,HV.out],fun i Q=> ?_,o.out⟩
          by_cases e:i=r
          ·rw[e];exact⟨X.out,aA.out⟩
          ·exact C.out i (by omega)
     ·have aO:=Hd (Gu b4.out.symm)
      by_cases hk:kd=1
      ·have hq:((kd:Int)==1)=true:=(by rw[beq_iff_eq];omega);have V:=Hd (show R=false by rw[aL.out,bE.out r hlt (.inl (by rw[←a3.out,aO.out,hk]))];rfl);clear hk;go_wp2_with (refine wpList_load_mid rfl 52 (.tmp 28) rfl b (k+r*10) rfl cs.toList _ M.out underlying52 rfl (by rw[fA,O.out];exact Ak) ?_);refine(I.out).mono ?_;rintro e T ⟨rfl,j⟩;have o:=Hd (H.out.trans (j.mono H.out.size));clear j;go_wp2_with fail;go_ret;exact⟨Et V.out,o.out⟩
      ·have hq:((kd:Int)==1)=false:=(by rw[beq_eq_false_iff_ne];omega);have X:=Hd (show(nd t r).kind≠Dw r by rw[←a3.out,aO.out];exact hk);have bN:(kd==1)=false:=beq_eq_false_iff_ne.2 hk;cases s0 with
       |true=>
        have HV:=Hd (show s1=true by rw[aB.out];rfl);try clear hk1
        try clear hN1
        try clear hk
        go_wp2_with (refine wpList_load_mid rfl 52 (.tmp 28) rfl b (k+r*10) rfl cs.toList _ M.out underlying52 rfl (by rw[fA,O.out];exact Ak) ?_);refine(I.out).mono ?_;rintro e T ⟨rfl,j⟩;have o:=Hd (H.out.trans (j.mono H.out.size));clear j;go_wp2_with fail;go_roundg (gk-1);case measure=>have:=Z.out;omega
        case rel=>
         refine⟨r+1,by have:=Z.out;omega,by go_num,by rw[←aC.out,HV.out],fun i Q=> ?_,o.out⟩
         by_cases e:i=r
         ·rw[e];exact⟨X.out,aA.out⟩
         ·exact C.out i (by omega)
       |false=>
        have HV:=Hd (show s1=false by rw[aB.out,bN];rfl);try clear hk1
        try clear hN1
        try clear hk
        go_wp2_with (refine wpList_load_mid rfl 52 (.tmp 28) rfl b (k+r*10) rfl cs.toList _ M.out underlying52 rfl (by rw[fA,O.out];exact Ak) ?_);refine(I.out).mono ?_;rintro e T ⟨rfl,j⟩;have o:=Hd (H.out.trans (j.mono H.out.size));clear j;go_wp2_with fail;go_roundg (gk-1);case measure=>have:=Z.out;omega
        case rel=>
         refine⟨r+1,by have:=Z.out;omega,by go_num,by rw[←aC.out,HV.out],fun i Q=> ?_,o.out⟩
         by_cases e:i=r
         ·rw[e];exact⟨X.out,aA.out⟩
         ·exact C.out i (by omega)
   ·obtain rfl:r=n:=(by have:=Z.out;omega);have b1:decide (r<r)=false:=decide_eq_false hlt;have a5:=Hd (c6.out C.out);have aN:=cO.out;rw[aN];cases aJ:sb with
    |false=>
     have V:=Hd (show R=false by rw[aL.out,a5.out,aJ];rfl);clear aJ aN;go_wp2_with fail;go_ret;exact⟨Et V.out,H.out⟩
    |true=>
     have dH:=Hd aJ;clear aJ aN;go_wp2_with fail
     go_loopg [7] r (fun q2 iv wr=>∃x:Nat,x+q2=r∧iv=rA rC (x:Nat)∧(∀i,i<x→Dx t i=true)∧Below w'.heap.size w' wr)
     case atStart=>exact⟨0,by omega,rfl,fun i Q=>by omega,H.out⟩
     case round=>
      obtain⟨x,hx,rfl,A,hb⟩:=hrel;have HX:=Hd hx;have b8:=Hd A;have o:=Hd hb;clear hx A hb
      by_cases hxn:x<r
      ·have cD:decide (x<r)=true:=decide_eq_true hxn;obtain⟨b,k,l,e,cM,bQ,ck,cl,bO⟩:=bH.out wr o.out x hxn;subst cM;obtain⟨k0,bL⟩:=eX ((nd t x).par.late.length);have bX:=c5.out x;rw[←bL]at cl bO bX;have dK:=Hd bO;have bV:=Hd bL;have dW:=Hd bQ;clear ck bO bL bQ;go_wp2_with fail;obtain⟨g1,rfl⟩:=eX gk;obtain⟨w1,rfl⟩:=eX wr
       go_loopg [9] k0 (fun q2 iv wr=>∃s:Nat,s+q2=k0∧iv=rA rC (s:Nat)∧(∀i,i<s→Ig t x ((nd t x).par.late.getD i 0))∧Below w1.heap.size w1 wr)
       case atStart=>exact⟨0,by omega,rfl,fun i Q=>by omega,bR⟩
       case round=>
        obtain⟨s,hs,rfl,A,hb⟩:=hrel;have HS:=Hd hs;have b7:=Hd A;have aS:=Hd hb;clear hs A hb
        by_cases hsk:s<k0
        ·have bZ:decide (s<k0)=true:=decide_eq_true hsk;have a7:s<(nd t x).par.late.length:=(by have:=bV.out;omega);obtain⟨bl,P,cV,aZ,cm⟩:=dK.out.at3 (u:=rA rC ((nd t x).par.late.getD s 0)) (r:=s) (by simp[ivs,aH,a7]);subst cV;obtain⟨m,hm,dO⟩:=cE.out a5.out x s hxn a7;rw[hm]at cm;have c8:=Hd cm;have cU:=(aS.out.cell (p:=⟨bl,P+s,rF⟩) aZ).trans cm;have HM:=Hd hm;have a0:=Hd (fun(J:¬Ig t x (m:Int))=>(show R=false by
          have h1:=dM.out x s a7 (by rw[HM.out];exact J);rw[aL.out,cT.out x hxn h1];simp))
         obtain⟨q,hq⟩:=eX (2*m);have dS:2*(m:Int)=(q:Int):=(by omega);have HQ:=Hd hq;have aY:=Hd aZ;clear hq hm cm a7 aZ;have aU:=Hd (o.out.trans (aS.out.mono o.out.size))
         by_cases c1:N≤m
         ·have cP:decide (N≤m)=true:=decide_eq_true c1;have V:=Hd (a0.out (fun J=>by have:=((aX.out m x).1 J).1;omega));go_wp2_with fail;go_ret;exact⟨Et V.out,aU.out⟩
         ·have cP:decide (N≤m)=false:=decide_eq_false c1;have b2:q<r:=(by have:=HQ.out;omega);have dX:IntKind.i64.wrap (q:Int)=(q:Int):=(by rw[IntKind.wrap_i64];omega);obtain⟨b',off',l2,e2,eb,dN,a8,_,_⟩:=bH.out wr aU.out q b2;simp only[Option.some.injEq,Addr.mk.injEq,and_true]at eb;obtain⟨rfl,rfl⟩:=eb;obtain⟨kq,aF⟩:=eX ((nd t q).kind);rw[←aF]at a8
          by_cases c2:kq=1
          ·have cQ:=Hd (show(nd t q).kind=1 by rw[←aF];exact c2);rw[c2]at a8;have cJ:wr.cell? ⟨b,k+q*10,rF⟩=some (rA .u8 1):=a8;clear aF c2 a8;cases hun:Bx (q:Int) (x:Int)with
           |false=>
            have V:=Hd (a0.out (fun J=>by
             have:=((aX.out m x).1 J).2.1;rw[←HQ.out,hun]at this;cases this))
            have U0:=Ds (q:Int) (x:Int) wr;rw[hun]at U0;have bK:=Hd U0;clear U0 hun;go_wp2_with fail;refine(bK.out).mono ?_;rintro e' T ⟨rfl,j⟩;have c0:=Hd (aU.out.trans (j.mono aU.out.size));clear j;go_wp2_with fail;go_ret;exact⟨Et V.out,c0.out⟩
           |true=>
            have b9:=Hd hun;have U0:=Ds (q:Int) (x:Int) wr;rw[hun]at U0;have bK:=Hd U0;clear U0 hun;go_wp2_with fail;refine(bK.out).mono ?_;rintro e' T ⟨rfl,j⟩;have cL:=Hd (aS.out.trans (j.mono aS.out.size));clear j cU cJ;go_wp2_with fail;obtain⟨g2,rfl⟩:=eX gk;obtain⟨w3,rfl⟩:=eX wr
            go_loopg [10] r (fun q2 iv wr=>∃y:Nat,y+q2=r∧iv=rA rC (y:Nat)∧(∀i,i<y→(nd t i).kind=2→Bx (q:Int) (i:Int)=true→Bx (i:Int) (x:Int)=true→(m:Int)∈(nd t i).par.late)∧Below w1.heap.size w1 wr)
            case atStart=>exact⟨0,by omega,rfl,fun i Q=>by omega,cL.out⟩
            case round=>
             obtain⟨y,hy,rfl,A,hb⟩:=hrel;have HY:=Hd hy;have cA:=Hd A;have E:=Hd hb;clear hy A hb
             by_cases hyn:y<r
             ·have cK:decide (y<r)=true:=decide_eq_true hyn;have b3:=Hd (o.out.trans (E.out.mono o.out.size));obtain⟨b',off',ly,ey,eb,bB,bM,bP,bC⟩:=bH.out wr b3.out y hyn;simp only[Option.some.injEq,Addr.mk.injEq,and_true]at eb;obtain⟨rfl,rfl⟩:=eb;have S:=fun(W:World) (hw:Below wr.heap.size wr W)=>Zb _ _ (m:Int) W (bC.below hw lR);obtain⟨bW,bA⟩:=eX ((nd t y).par.late.length);rw[←bA]at bP S;obtain⟨ky,bI⟩:=eX ((nd t y).kind);rw[←bI]at bM;have CM:=Hd ((E.out.cell (p:=⟨bl,P+s,rF⟩) aY.out).trans c8.out);have L:=Hd bB;have aK:=Hd (Nat.lt_of_lt_of_le aY.out E.out.size);have aR:=Hd bM;have cF:=Hd bP;have cB:=Hd bI;have dY:=b3.out.size;clear bM bP bI bA bC bB;have NX:=Hd (fun(J:(nd t y).kind=2→Bx (q:Int) (y:Int)=true→Bx (y:Int) (x:Int)=true→(m:Int)∈(nd t y).par.late)=>(show∀i,i<y+1→(nd t i).kind=2→Bx (q:Int) (i:Int)=true→Bx (i:Int) (x:Int)=true→(m:Int)∈(nd t i).par.late from fun i Q=>by
               by_cases e:i=y
               ·rw[e];exact J
               ·exact cA.out i (by omega)))
              by_cases c3:ky=2
              ·have dG:=Hd (show(nd t y).kind=2 by rw[←cB.out];exact c3);have c9:((ky:Int)==2)=true:=(by rw[beq_iff_eq];omega);clear c3;cases hu1:Bx (q:Int) (y:Int)with
               |false=>
                have aG:=fun W=>Ds (q:Int) (y:Int) W;simp only[hu1]at aG;have U1:=Hd aG;have HN:=Hd (NX.out (fun _ h _=>by rw[hu1]at h;cases h));clear aG hu1 S;go_wp2_with fail;refine Dv [eF (q9 (some ⟨b,k,rF⟩) r c),eF (rA rC (y:Nat)),eF (rB (some ⟨b,k+y*10,rF⟩)),eF (rB (some ⟨b,k+y*10,rF⟩)),eF (rA .u8 (ky:Nat)),eF (.bool true),eF (.bool true),eF (q9 (some ⟨bl,P,rF⟩) k0 e),eF (rA rC (s:Nat)),eF (rB (some ⟨bl,P+s,rF⟩)),eF (rA rC (m:Nat)),eF (rA rC (q:Nat)),eF (rA rC (y:Nat)),eF (.bool false),eF (.bool false),eF (.bool false),eF undef,eF undef,eF undef,eF (.bool false),eF (.bool false),eF undef,eF undef,eF undef,eF undef,eF undef,eF undef,eF undef,eF undef,eF undef,eF undef,eF undef,eF undef,eF (.bool false)] (by kernel_rfl) (by kernel_rfl) (by kernel_rfl) (kE (kE (kE (kE (kE (kE (kE (kE (kE (kE (kE (kE (kE (kE (kE (kE (kE (kE (kE (kE (kE (kE (kE (kE (kE (kE (kE (kE (kE (kE (kE (kE (kE (kE Ah)))))))))))))))))))))))))))))))))) ?_ ?_
                ·refine gQ ?_ (gQ ?_ (gQ ?_ (gQ ?_ (gQ ?_ (gQ ?_ (gQ ?_ (gQ ?_ (gQ ?_ (gQ ?_ (gQ ?_ (gQ ?_ (gQ ?_ (gB ?_ (gQ ?_ (gQ ?_ (fO rfl rfl rfl rfl rfl rfl (fun _ _ g=>g.1) rfl (fO rfl rfl rfl rfl rfl rfl (fun _ _ g=>g.1) rfl (fO rfl rfl rfl rfl rfl rfl (fun _ _ g=>g.2.2.1) rfl (gQ ?_ (gQ ?_ (fO rfl rfl rfl rfl rfl rfl (fun _ _ g=>g.1) rfl (fO rfl rfl rfl rfl rfl rfl (fun _ _ g=>g.1) rfl (fO rfl rfl rfl rfl rfl rfl (fun _ _ g=>g.2.2.1) rfl (fO rfl rfl rfl rfl rfl rfl (fun _ _ g=>g.2.1) rfl (fO rfl rfl rfl rfl rfl rfl (fun _ _ g=>g.2.1) rfl (fO rfl rfl rfl rfl rfl rfl (fun _ _ g=>g.2.1) rfl (fO rfl rfl rfl rfl rfl rfl (fun _ _ g=>g.1) rfl (fO rfl rfl rfl rfl rfl rfl (fun _ _ g=>g.1) rfl (fO rfl rfl rfl rfl rfl rfl (fun _ _ g=>g.2.2.1) rfl (fO rfl rfl rfl rfl rfl rfl (fun _ _ g=>g.2.1) rfl (fO rfl rfl rfl rfl rfl rfl (fun _ _ g=>g.2.2.1) rfl (fO rfl rfl rfl rfl rfl rfl (fun _ _ g=>g.2.1) rfl (gQ ?_ .nil)))))))))))))))))))))))))))))))));all_goals
                  intro a wx B G g;refine⟨by first|rfl|exact Ba rfl rfl rfl g.1|exact Ba rfl rfl rfl g.2.1|exact Ba rfl rfl rfl g.2.2.1,?_⟩;intro K Y;try have P0:a.tmps[0]?.getD undef=q9 (some ⟨b,k,rF⟩) r c:=G 0 (by kernel_rfl)
                  try have P8:a.tmps[8]?.getD undef=q9 (some ⟨bl,P,rF⟩) k0 e:=G 8 (by kernel_rfl)
                  try have P9:a.tmps[9]?.getD undef=rA rC (s:Nat):=G 9 (by kernel_rfl)
                  try have a1:a.tmps[10]?.getD undef=rA rC (y:Nat):=G 10 (by kernel_rfl)
                  try have E0:=eqn g.1
                  try have E1:=eqn g.2.1
                  try have D0:=(B.cell (p:=⟨b,k+y*10,rF⟩) L.out).trans aR.out
                  try have D1:=(B.cell (p:=⟨bl,P+s,rF⟩) aK.out).trans CM.out
                  try(refine Hd ?_;go_simp;exact Y _ rfl)
                 ·go_simp;refine(U1.out wx).mono ?_;rintro e T ⟨rfl,j⟩;exact Y _ _ rfl j
                ·rintro f w9 D z;have F:f 151=.bool false:=z.2.2.2.2.2.2.2.2.2.2.2.2.2.2.2.2.2.2.2.2.2.2.2.2.2.2.2.2.2.2.2.2.2.1;clear z;simp only[Am,Az,Ex,cX,cY,cZ,dA,Nat.reduceBEq,Nat.reduceAdd,dB,dC,cond_true,cond_false];rw[F];have U:=Hd (E.out.trans (D.mono E.out.size));clear D F;go_wp2_with fail;go_roundg (gk-1);case measure=>have:=HY.out;omega
                 case rel=>exact⟨y+1,by have:=HY.out;omega,by go_num,HN.out,U.out⟩
               |true=>
                have aG:=fun W=>Ds (q:Int) (y:Int) W;simp only[hu1]at aG;have U1:=Hd aG;have c7:=Hd hu1;clear aG hu1;cases hu2:Bx (y:Int) (x:Int)with
                |false=>
                 have aE:=fun W=>Ds (y:Int) (x:Int) W;simp only[hu2]at aE;have U2:=Hd aE;have HN:=Hd (NX.out (fun _ _ h=>by rw[hu2]at h;cases h));clear aE hu2 S;go_wp2_with fail;refine Dv [eF (q9 (some ⟨b,k,rF⟩) r c),eF (rA rC (y:Nat)),eF (rB (some ⟨b,k+y*10,rF⟩)),eF (rB (some ⟨b,k+y*10,rF⟩)),eF (rA .u8 (ky:Nat)),eF (.bool true),eF (.bool true),eF (q9 (some ⟨bl,P,rF⟩) k0 e),eF (rA rC (s:Nat)),eF (rB (some ⟨bl,P+s,rF⟩)),eF (rA rC (m:Nat)),eF (rA rC (q:Nat)),eF (rA rC (y:Nat)),eF (.bool true),eF (.bool true),eF (.bool true),eF (rA rC (y:Nat)),eF (rA rC (x:Nat)),eF (.bool false),eF (.bool false),eF (.bool false),eF undef,eF undef,eF undef,eF undef,eF undef,eF undef,eF undef,eF undef,eF undef,eF undef,eF undef,eF undef,eF (.bool false)] (by kernel_rfl) (by kernel_rfl) (by kernel_rfl) (kE (kE (kE (kE (kE (kE (kE (kE (kE (kE (kE (kE (kE (kE (kE (kE (kE (kE (kE (kE (kE (kE (kE (kE (kE (kE (kE (kE (kE (kE (kE (kE (kE (kE Ah)))))))))))))))))))))))))))))))))) ?_ ?_
                 ·refine gQ ?_ (gQ ?_ (gQ ?_ (gQ ?_ (gQ ?_ (gQ ?_ (gQ ?_ (gQ ?_ (gQ ?_ (gQ ?_ (gQ ?_ (gQ ?_ (gQ ?_ (gB ?_ (gQ ?_ (gQ ?_ (gQ ?_ (gQ ?_ (gB ?_ (gQ ?_ (gQ ?_ (fO rfl rfl rfl rfl rfl rfl (fun _ _ g=>g.1) rfl (fO rfl rfl rfl rfl rfl rfl (fun _ _ g=>g.1) rfl (fO rfl rfl rfl rfl rfl rfl (fun _ _ g=>g.2.2.1) rfl (fO rfl rfl rfl rfl rfl rfl (fun _ _ g=>g.2.1) rfl (fO rfl rfl rfl rfl rfl rfl (fun _ _ g=>g.2.1) rfl (fO rfl rfl rfl rfl rfl rfl (fun _ _ g=>g.2.1) rfl (fO rfl rfl rfl rfl rfl rfl (fun _ _ g=>g.1) rfl (fO rfl rfl rfl rfl rfl rfl (fun _ _ g=>g.1) rfl (fO rfl rfl rfl rfl rfl rfl (fun _ _ g=>g.2.2.1) rfl (fO rfl rfl rfl rfl rfl rfl (fun _ _ g=>g.2.1) rfl (fO rfl rfl rfl rfl rfl rfl (fun _ _ g=>g.2.2.1) rfl (fO rfl rfl rfl rfl rfl rfl (fun _ _ g=>g.2.1) rfl (gQ ?_ .nil)))))))))))))))))))))))))))))))));all_goals
                   intro a wx B G g;refine⟨by first|rfl|exact Ba rfl rfl rfl g.1|exact Ba rfl rfl rfl g.2.1|exact Ba rfl rfl rfl g.2.2.1,?_⟩;intro K Y;try have P0:a.tmps[0]?.getD undef=q9 (some ⟨b,k,rF⟩) r c:=G 0 (by kernel_rfl)
                   try have P7:a.tmps[7]?.getD undef=rA rC (x:Nat):=G 7 (by kernel_rfl)
                   try have P8:a.tmps[8]?.getD undef=q9 (some ⟨bl,P,rF⟩) k0 e:=G 8 (by kernel_rfl)
                   try have P9:a.tmps[9]?.getD undef=rA rC (s:Nat):=G 9 (by kernel_rfl)
                   try have a1:a.tmps[10]?.getD undef=rA rC (y:Nat):=G 10 (by kernel_rfl)
                   try have E0:=eqn g.1
                   try have E1:=eqn g.2.1
                   try have D0:=(B.cell (p:=⟨b,k+y*10,rF⟩) L.out).trans aR.out
                   try have D1:=(B.cell (p:=⟨bl,P+s,rF⟩) aK.out).trans CM.out
                   try(refine Hd ?_;go_simp;exact Y _ rfl)
                  ·go_simp;refine(U1.out wx).mono ?_;rintro e T ⟨rfl,j⟩;exact Y _ _ rfl j
                  ·go_simp;refine(U2.out wx).mono ?_;rintro e T ⟨rfl,j⟩;exact Y _ _ rfl j
                 ·rintro f w9 D z;have F:f 151=.bool false:=z.2.2.2.2.2.2.2.2.2.2.2.2.2.2.2.2.2.2.2.2.2.2.2.2.2.2.2.2.2.2.2.2.2.1;clear z;simp only[Am,Az,Ex,cX,cY,cZ,dA,Nat.reduceBEq,Nat.reduceAdd,dB,dC,cond_true,cond_false];rw[F];have U:=Hd (E.out.trans (D.mono E.out.size));clear D F;go_wp2_with fail;go_roundg (gk-1);case measure=>have:=HY.out;omega
                  case rel=>exact⟨y+1,by have:=HY.out;omega,by go_num,HN.out,U.out⟩
                |true=>
                 have aE:=fun W=>Ds (y:Int) (x:Int) W;simp only[hu2]at aE;have U2:=Hd aE;have cN:=Hd hu2;clear aE hu2
                 by_cases hin:(m:Int)∈(nd t y).par.late
                 ·simp only[decide_eq_true hin]at S;have bT:=Hd S;have HN:=Hd (NX.out (fun _ _ _=>hin));clear S hin;go_wp2_with fail;refine Dv [eF (q9 (some ⟨b,k,rF⟩) r c),eF (rA rC (y:Nat)),eF (rB (some ⟨b,k+y*10,rF⟩)),eF (rB (some ⟨b,k+y*10,rF⟩)),eF (rA .u8 (ky:Nat)),eF (.bool true),eF (.bool true),eF (q9 (some ⟨bl,P,rF⟩) k0 e),eF (rA rC (s:Nat)),eF (rB (some ⟨bl,P+s,rF⟩)),eF (rA rC (m:Nat)),eF (rA rC (q:Nat)),eF (rA rC (y:Nat)),eF (.bool true),eF (.bool true),eF (.bool true),eF (rA rC (y:Nat)),eF (rA rC (x:Nat)),eF (.bool true),eF (.bool true),eF (.bool true),eF (q9 (some ⟨b,k,rF⟩) r c),eF (rA rC (y:Nat)),eF (rB (some ⟨b,k+y*10,rF⟩)),eF (rB (some ⟨b,k+y*10+7,rF⟩)),eF (rB (some ⟨b,k+y*10+7+2,rF⟩)),eF (q9 ly bW ey),eF (q9 (some ⟨bl,P,rF⟩) k0 e),eF (rA rC (s:Nat)),eF (rB (some ⟨bl,P+s,rF⟩)),eF (rA rC (m:Nat)),eF (.bool true),eF (.bool false),eF (.bool false)] (by kernel_rfl) (by kernel_rfl) (by kernel_rfl) (kE (kE (kE (kE (kE (kE (kE (kE (kE (kE (kE (kE (kE (kE (kE (kE (kE (kE (kE (kE (kE (kE (kE (kE (kE (kE (kE (kE (kE (kE (kE (kE (kE (kE Ah)))))))))))))))))))))))))))))))))) ?_ ?_
                  ·refine gQ ?_ (gQ ?_ (gQ ?_ (gQ ?_ (gQ ?_ (gQ ?_ (gQ ?_ (gQ ?_ (gQ ?_ (gQ ?_ (gQ ?_ (gQ ?_ (gQ ?_ (gB ?_ (gQ ?_ (gQ ?_ (gQ ?_ (gQ ?_ (gB ?_ (gQ ?_ (gQ ?_ (gQ ?_ (gQ ?_ (gQ ?_ (gQ ?_ (gQ ?_ (gQ ?_ (gQ ?_ (gQ ?_ (gQ ?_ (gQ ?_ (gB ?_ (gQ ?_ (gQ ?_ .nil)))))))))))))))))))))))))))))))));all_goals
                    intro a wx B G g;refine⟨by first|rfl|exact Ba rfl rfl rfl g.1|exact Ba rfl rfl rfl g.2.1|exact Ba rfl rfl rfl g.2.2.1,?_⟩;intro K Y;try have P0:a.tmps[0]?.getD undef=q9 (some ⟨b,k,rF⟩) r c:=G 0 (by kernel_rfl)
                    try have P7:a.tmps[7]?.getD undef=rA rC (x:Nat):=G 7 (by kernel_rfl)
                    try have P8:a.tmps[8]?.getD undef=q9 (some ⟨bl,P,rF⟩) k0 e:=G 8 (by kernel_rfl)
                    try have P9:a.tmps[9]?.getD undef=rA rC (s:Nat):=G 9 (by kernel_rfl)
                    try have a1:a.tmps[10]?.getD undef=rA rC (y:Nat):=G 10 (by kernel_rfl)
                    try have E0:=eqn g.1
                    try have E1:=eqn g.2.1
                    try have D0:=(B.cell (p:=⟨b,k+y*10,rF⟩) L.out).trans aR.out
                    try have D1:=(B.cell (p:=⟨bl,P+s,rF⟩) aK.out).trans CM.out
                    try have D2:=(B.cell (p:=⟨b,k+y*10+7+2,rF⟩) L.out).trans cF.out
                    try(refine Hd ?_;go_simp;exact Y _ rfl)
                   ·go_simp;refine(U1.out wx).mono ?_;rintro e T ⟨rfl,j⟩;exact Y _ _ rfl j
                   ·go_simp;refine(U2.out wx).mono ?_;rintro e T ⟨rfl,j⟩;exact Y _ _ rfl j
                   ·go_simp;refine(bT.out wx B).mono ?_;rintro e T ⟨rfl,rfl⟩;exact Y _ _ rfl bR
                  ·rintro f w9 D z;have F:f 151=.bool false:=z.2.2.2.2.2.2.2.2.2.2.2.2.2.2.2.2.2.2.2.2.2.2.2.2.2.2.2.2.2.2.2.2.2.1;clear z;simp only[Am,Az,Ex,cX,cY,cZ,dA,Nat.reduceBEq,Nat.reduceAdd,dB,dC,cond_true,cond_false];rw[F];have U:=Hd (E.out.trans (D.mono E.out.size));clear D F;go_wp2_with fail;go_roundg (gk-1);case measure=>have:=HY.out;omega
                   case rel=>exact⟨y+1,by have:=HY.out;omega,by go_num,HN.out,U.out⟩
                 ·simp only[decide_eq_false hin]at S;have bT:=Hd S;have V:=Hd (a0.out (fun J=>by
                   have h4:=((aX.out m x).1 J).2.2.2 y hyn dG.out;rw[←HQ.out]at h4;exact hin (h4 c7.out cN.out)))
                  clear S hin;go_wp2_with fail;refine Dv [eF (q9 (some ⟨b,k,rF⟩) r c),eF (rA rC (y:Nat)),eF (rB (some ⟨b,k+y*10,rF⟩)),eF (rB (some ⟨b,k+y*10,rF⟩)),eF (rA .u8 (ky:Nat)),eF (.bool true),eF (.bool true),eF (q9 (some ⟨bl,P,rF⟩) k0 e),eF (rA rC (s:Nat)),eF (rB (some ⟨bl,P+s,rF⟩)),eF (rA rC (m:Nat)),eF (rA rC (q:Nat)),eF (rA rC (y:Nat)),eF (.bool true),eF (.bool true),eF (.bool true),eF (rA rC (y:Nat)),eF (rA rC (x:Nat)),eF (.bool true),eF (.bool true),eF (.bool true),eF (q9 (some ⟨b,k,rF⟩) r c),eF (rA rC (y:Nat)),eF (rB (some ⟨b,k+y*10,rF⟩)),eF (rB (some ⟨b,k+y*10+7,rF⟩)),eF (rB (some ⟨b,k+y*10+7+2,rF⟩)),eF (q9 ly bW ey),eF (q9 (some ⟨bl,P,rF⟩) k0 e),eF (rA rC (s:Nat)),eF (rB (some ⟨bl,P+s,rF⟩)),eF (rA rC (m:Nat)),eF (.bool false),eF (.bool true),eF (.bool true)] (by kernel_rfl) (by kernel_rfl) (by kernel_rfl) (kE (kE (kE (kE (kE (kE (kE (kE (kE (kE (kE (kE (kE (kE (kE (kE (kE (kE (kE (kE (kE (kE (kE (kE (kE (kE (kE (kE (kE (kE (kE (kE (kE (kE Ah)))))))))))))))))))))))))))))))))) ?_ ?_
                  ·refine gQ ?_ (gQ ?_ (gQ ?_ (gQ ?_ (gQ ?_ (gQ ?_ (gQ ?_ (gQ ?_ (gQ ?_ (gQ ?_ (gQ ?_ (gQ ?_ (gQ ?_ (gB ?_ (gQ ?_ (gQ ?_ (gQ ?_ (gQ ?_ (gB ?_ (gQ ?_ (gQ ?_ (gQ ?_ (gQ ?_ (gQ ?_ (gQ ?_ (gQ ?_ (gQ ?_ (gQ ?_ (gQ ?_ (gQ ?_ (gQ ?_ (gB ?_ (gQ ?_ (gQ ?_ .nil)))))))))))))))))))))))))))))))));all_goals
                    intro a wx B G g;refine⟨by first|rfl|exact Ba rfl rfl rfl g.1|exact Ba rfl rfl rfl g.2.1|exact Ba rfl rfl rfl g.2.2.1,?_⟩;intro K Y;try have P0:a.tmps[0]?.getD undef=q9 (some ⟨b,k,rF⟩) r c:=G 0 (by kernel_rfl)
                    try have P7:a.tmps[7]?.getD undef=rA rC (x:Nat):=G 7 (by kernel_rfl)
                    try have P8:a.tmps[8]?.getD undef=q9 (some ⟨bl,P,rF⟩) k0 e:=G 8 (by kernel_rfl)
                    try have P9:a.tmps[9]?.getD undef=rA rC (s:Nat):=G 9 (by kernel_rfl)
                    try have a1:a.tmps[10]?.getD undef=rA rC (y:Nat):=G 10 (by kernel_rfl)
                    try have E0:=eqn g.1
                    try have E1:=eqn g.2.1
                    try have D0:=(B.cell (p:=⟨b,k+y*10,rF⟩) L.out).trans aR.out
                    try have D1:=(B.cell (p:=⟨bl,P+s,rF⟩) aK.out).trans CM.out
                    try have D2:=(B.cell (p:=⟨b,k+y*10+7+2,rF⟩) L.out).trans cF.out
                    try(refine Hd ?_;go_simp;exact Y _ rfl)
                   ·go_simp;refine(U1.out wx).mono ?_;rintro e T ⟨rfl,j⟩;exact Y _ _ rfl j
                   ·go_simp;refine(U2.out wx).mono ?_;rintro e T ⟨rfl,j⟩;exact Y _ _ rfl j
                   ·go_simp;refine(bT.out wx B).mono ?_;rintro e T ⟨rfl,rfl⟩;exact Y _ _ rfl bR
                  ·rintro f w9 D z;have F:f 151=.bool true:=z.2.2.2.2.2.2.2.2.2.2.2.2.2.2.2.2.2.2.2.2.2.2.2.2.2.2.2.2.2.2.2.2.2.1;clear z;simp only[Am,Az,Ex,cX,cY,cZ,dA,Nat.reduceBEq,Nat.reduceAdd,dB,dC,cond_true,cond_false];rw[F];have U:=Hd (E.out.trans (D.mono E.out.size));clear D F;go_wp2_with fail;go_ret;exact⟨Et V.out,o.out.trans (U.out.mono o.out.size)⟩
              ·have c9:((ky:Int)==2)=false:=(by rw[beq_eq_false_iff_ne];omega);have HN:=Hd (NX.out (fun h _ _=>absurd (cB.out.trans h) c3));clear c3 S;go_wp2_with fail;refine Dv [eF (q9 (some ⟨b,k,rF⟩) r c),eF (rA rC (y:Nat)),eF (rB (some ⟨b,k+y*10,rF⟩)),eF (rB (some ⟨b,k+y*10,rF⟩)),eF (rA .u8 (ky:Nat)),eF (.bool false),eF (.bool false),eF undef,eF undef,eF undef,eF undef,eF undef,eF undef,eF undef,eF (.bool false),eF (.bool false),eF undef,eF undef,eF undef,eF (.bool false),eF (.bool false),eF undef,eF undef,eF undef,eF undef,eF undef,eF undef,eF undef,eF undef,eF undef,eF undef,eF undef,eF undef,eF (.bool false)] (by kernel_rfl) (by kernel_rfl) (by kernel_rfl) (kE (kE (kE (kE (kE (kE (kE (kE (kE (kE (kE (kE (kE (kE (kE (kE (kE (kE (kE (kE (kE (kE (kE (kE (kE (kE (kE (kE (kE (kE (kE (kE (kE (kE Ah)))))))))))))))))))))))))))))))))) ?_ ?_
               ·refine gQ ?_ (gQ ?_ (gQ ?_ (gQ ?_ (gQ ?_ (gQ ?_ (gQ ?_ (fO rfl rfl rfl rfl rfl rfl (fun _ _ g=>g.1) rfl (fO rfl rfl rfl rfl rfl rfl (fun _ _ g=>g.1) rfl (fO rfl rfl rfl rfl rfl rfl (fun _ _ g=>g.2.2.1) rfl (fO rfl rfl rfl rfl rfl rfl (fun _ _ g=>g.2.1) rfl (fO rfl rfl rfl rfl rfl rfl (fun _ _ g=>g.2.1) rfl (fO rfl rfl rfl rfl rfl rfl (fun _ _ g=>g.1) rfl (fO rfl rfl rfl rfl rfl rfl (fun _ _ g=>g.2.2.1) rfl (gQ ?_ (gQ ?_ (fO rfl rfl rfl rfl rfl rfl (fun _ _ g=>g.1) rfl (fO rfl rfl rfl rfl rfl rfl (fun _ _ g=>g.1) rfl (fO rfl rfl rfl rfl rfl rfl (fun _ _ g=>g.2.2.1) rfl (gQ ?_ (gQ ?_ (fO rfl rfl rfl rfl rfl rfl (fun _ _ g=>g.1) rfl (fO rfl rfl rfl rfl rfl rfl (fun _ _ g=>g.1) rfl (fO rfl rfl rfl rfl rfl rfl (fun _ _ g=>g.2.2.1) rfl (fO rfl rfl rfl rfl rfl rfl (fun _ _ g=>g.2.1) rfl (fO rfl rfl rfl rfl rfl rfl (fun _ _ g=>g.2.1) rfl (fO rfl rfl rfl rfl rfl rfl (fun _ _ g=>g.2.1) rfl (fO rfl rfl rfl rfl rfl rfl (fun _ _ g=>g.1) rfl (fO rfl rfl rfl rfl rfl rfl (fun _ _ g=>g.1) rfl (fO rfl rfl rfl rfl rfl rfl (fun _ _ g=>g.2.2.1) rfl (fO rfl rfl rfl rfl rfl rfl (fun _ _ g=>g.2.1) rfl (fO rfl rfl rfl rfl rfl rfl (fun _ _ g=>g.2.2.1) rfl (fO rfl rfl rfl rfl rfl rfl (fun _ _ g=>g.2.1) rfl (gQ ?_ .nil)))))))))))))))))))))))))))))))));all_goals
                 intro a wx B G g;refine⟨rfl,?_⟩;intro K Y;try have P0:a.tmps[0]?.getD undef=q9 (some ⟨b,k,rF⟩) r c:=G 0 (by kernel_rfl)
                 try have a1:a.tmps[10]?.getD undef=rA rC (y:Nat):=G 10 (by kernel_rfl)
                 try have E0:=eqn g.1
                 try have E1:=eqn g.2.1
                 try have D0:=(B.cell (p:=⟨b,k+y*10,rF⟩) L.out).trans aR.out
                 try(refine Hd ?_;go_simp;exact Y _ rfl)
               ·rintro f w9 D z;have F:f 151=.bool false:=z.2.2.2.2.2.2.2.2.2.2.2.2.2.2.2.2.2.2.2.2.2.2.2.2.2.2.2.2.2.2.2.2.2.1;clear z;simp only[Am,Az,Ex,cX,cY,cZ,dA,Nat.reduceBEq,Nat.reduceAdd,dB,dC,cond_true,cond_false];rw[F];have U:=Hd (E.out.trans (D.mono E.out.size));clear D F;go_wp2_with fail;go_roundg (gk-1);case measure=>have:=HY.out;omega
                case rel=>exact⟨y+1,by have:=HY.out;omega,by go_num,HN.out,U.out⟩
             ·obtain rfl:y=r:=(by have:=HY.out;omega);have cK:decide (y<y)=false:=decide_eq_false hyn;have bU:=Hd (show Ig t x (m:Int)from(aX.out m x).2 ⟨by omega,by rw[←HQ.out];exact b9.out,by rw[←HQ.out,cQ.out];omega,by rw[←HQ.out];exact cA.out⟩);go_wp2_with fail;go_roundg (g2-1);case measure=>have:=HS.out;omega
              case rel=>
               refine⟨s+1,by have:=HS.out;omega,by go_num,fun i Q=> ?_,E.out⟩
               by_cases e:i=s
               ·rw[e,HM.out];exact bU.out
               ·exact b7.out i (by omega)
          ·have cS:((kq:Int)==1)=false:=(by rw[beq_eq_false_iff_ne];omega);have dQ:((kq:Int) !=1)=true:=(by rw[bne,cS];rfl);have V:=Hd (a0.out (fun J=>by
            have h1:=((aX.out m x).1 J).2.2.1;rw[←HQ.out,←aF]at h1;have h2:=b5.out a5.out q b2;rw[Eg (by have:=HQ.out;omega),←aF]at h2;have h3:=Lq h2.2;rw[←aF]at h3;rcases h3 with h|h|h
            ·exact h1 h
            ·exact c2 h
            ·exact h2.1 h))
           clear aF c2;go_wp2_with fail;go_ret;exact⟨Et V.out,aU.out⟩
        ·obtain rfl:s=k0:=(by have:=HS.out;omega);have bZ:decide (s<s)=false:=decide_eq_false hsk;have dF:=Hd (dI.out x (fun i Q=>b7.out i (by have:=bV.out;omega)));go_wp2_with fail;go_roundg (g1-1);case measure=>have:=HX.out;omega
         case rel=>
          refine⟨x+1,by have:=HX.out;omega,by go_num,fun i Q=> ?_,o.out.trans (aS.out.mono o.out.size)⟩
          by_cases e:i=x
          ·rw[e];exact dF.out
          ·exact b8.out i (by omega)
      ·obtain rfl:x=r:=(by have:=HX.out;omega);have cD:decide (x<x)=false:=decide_eq_false hxn;have V:=Hd (show R=true by rw[aL.out,a5.out,dH.out,dL.out b8.out];rfl);go_wp2_with fail;go_ret;exact⟨Et V.out,o.out⟩
end Go.Proofs.YtfofaiommeckbaaGreat
