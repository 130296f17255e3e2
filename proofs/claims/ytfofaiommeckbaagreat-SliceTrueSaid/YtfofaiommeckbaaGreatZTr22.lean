import Derived.Test.YtfofaiommeckbaaGreatZTr10
open Go.Ending renaming returned -> rM
open Go.Value renaming slice -> rD, int -> rE, pointer -> rF
open Go.IntKind renaming i64 -> rG
open Option renaming none -> rJ
open Go.Proofs.Tryz
open List renaming getD_eq_getElem?_getD -> aE, getElem?_eq_getElem -> aF, filterMap_cons -> dG, filterMap_nil -> dH, contains_cons -> dJ, contains_nil -> dK
open Array renaming length_toList -> eK
open Bool renaming or_false -> dO, or_true -> dP
set_option linter.unusedVariables false
set_option maxRecDepth 100000
set_option maxHeartbeats 40000000
namespace Go.Proofs.YtfofaiommeckbaaGreat
open Go.RowKit WalkM
theorem Xl (v:Value)(t:List NodeD)(w:World)(h:TreeR w v t)(hs:Bc t=true)(a5:TreeOk t):
  Calls prog 36 #[v] w fun e w'=>e=rM (.bool (Bm t))/\Below w.heap.size w w':=by
 obtain⟨a,c,rfl,hc,dW⟩:=h.sl;have bB:=Bb hs;have LV:=fun(W:World)=>Wg a t.length c W (by omega);have RR:=fun(i:Nat) (cs:Array Value) (W:World) (hw:NodeC W (nd t i) cs)=>Zbh (nd t i) cs W hw (a5.nd i);have GN:=fun(W:World) (hw:Below w.heap.size w W) (i:Nat) (S:i<t.length)=>(h.below hw lR).node S;have GA:=fun(W:World) (hw:Below w.heap.size w W) (i:Nat) (S:i<t.length)=>(h.below hw lR).at S;have KB:=fun(i:Nat)=>(a5.nd i).kind;have bJ:=fun(i:Nat)=>(show(nd t i).par.late.length<=60 by have:=oD (Ee hs i);omega);have P1:=fun(O:∀i,i<t.length->(nd t i).kind≠Dl i/\Aq (nd t i)=true)=>(Fc t).2 O;have P2:=fun(i:Nat) (S:i<t.length) (O:(nd t i).kind=Dl i\/Aq (nd t i)=false)=>Pm S O;have L1:=fun(O:∀x,x<t.length->Dm t x=true)=>Pq O;have L2:=fun(x:Nat) (hx:x<t.length) (O:Dm t x=false)=>Tt hx O;have LY:=fun(x:Nat) (O:∀r,r<(nd t x).par.late.length->Hu t x ((nd t x).par.late.getD r 0))=>Po (t:=t) (x:=x) (fun u hu=>by
  obtain⟨r,hr,rfl⟩:=List.getElem_of_mem hu;have:=O r hr
  rwa [aE,aF hr]at this)
 have aT:=fun(x r:Nat) (hr:r<(nd t x).par.late.length)=>(show(nd t x).par.late.getD r 0∈(nd t x).par.late by rw[aE,aF hr];exact List.getElem_mem hr);have NO:=fun(x r:Nat) (hr:r<(nd t x).par.late.length) (O:¬Hu t x ((nd t x).par.late.getD r 0))=>Tq (aT x r hr) O;have aV:=fun(hp:Ax t=true) (x:Nat) (hx:x<t.length)=>Cu hp hx;have aU:=fun(hp:Ax t=true) (x r:Nat) (hx:x<t.length) (hr:r<(nd t x).par.late.length)=>(Hg hp hx (aT x r hr)).2;have SU:=fun(N:Nat) (hN:Ao t.length=N) (hl:N<=t.length)=>Zd5 hN hl;obtain⟨R,hR⟩:=eX (Bm t);have aD:R=(decide (Ao t.length≠0)&&(Ax t&&(Ow t&&Jn t))):=(by rw[hR,Bm]);rw[<-hR]
 by_cases h0:Ao t.length=0
 ·rw[h0]at LV;have V:=Hd (show R=false by rw[aD,h0];rfl);obtain⟨n,hn⟩:=eX t.length;rw[<-hn]at LV|-;have bG:=Hd LV;clear LV RR GN GA KB bJ P1 P2 L1 L2 LY aT NO aV aU SU aD hR h0 h hs a5 hn hc bB;go_in;go_wp2_with fail;refine(bG.out w).mono ?_;rintro e w' ⟨rfl,rfl⟩;go_wp2_with fail;go_ret;exact⟨Eb V.out,bR⟩
 ·obtain⟨d,hd,hN,hl⟩:=Ch h0;rw[dT h0,Bool.true_and]at aD;have LP:=fun(m x:Nat)=>Tr (t:=t) (m:=m) (x:=x) hd hl;rw[<-hN]at LP;have cA:2*Ao t.length=t.length+1:=(by rw[hN];omega);have aW:=SU _ rfl (by omega);obtain⟨N,b8⟩:=eX (Ao t.length);rw[<-b8]at LV h0 cA LP aW;obtain⟨n,hn⟩:=eX t.length;rw[<-hn]at LV GN GA P1 P2 L1 L2 aV aU LP cA aW hc bB|-;obtain⟨pb,cF⟩:=eX (Ax t);rw[<-cF]at aD P1 P2 aV aU;obtain⟨sb,aJ⟩:=eX (Ow t);rw[<-aJ]at aD aW;obtain⟨lb,cC⟩:=eX (Jn t);rw[<-cC]at aD L1 L2;have dX:((N:Int)==0)=false:=(by rw[qN];omega);have bG:=Hd LV;have c0:=Hd RR;have cQ:=Hd GN;have bE:=Hd GA;have cS:=Hd KB;have cL:=Hd bJ;have cY:=Hd P1;have bH:=Hd P2;have cU:=Hd L1;have cV:=Hd L2;have cW:=Hd LY;have dM:=Hd aT;have cX:=Hd NO;have b4:=Hd aV;have b3:=Hd aU;have aQ:=Hd LP;have c5:=Hd aW;have aL:=Hd aD;clear LV RR GN GA KB bJ P1 P2 L1 L2 LY aT NO aV aU SU LP aW aD hR h hs a5 hn hl hN b8 hd cF aJ cC;go_in;go_wp2_with fail;refine(bG.out w).mono ?_;rintro e w' ⟨rfl,rfl⟩;go_wp2_with fail
  go_loopg [4,5] n (fun q sv iv wr=>∃r:Nat,r+q=n/\iv=rE rG (r:Nat)/\sv=.bool (Ox t N r)/\(∀i,i<r->(nd t i).kind≠Dl i/\Aq (nd t i)=true)/\Below w'.heap.size w' wr)
  case atStart=>exact⟨0,by omega,rfl,rfl,fun i S=>by omega,bR⟩
  case round=>
   obtain⟨r,hr,rfl,rfl,A,hb⟩:=hrel;have Z:=Hd hr;have C:=Hd A;have G:=Hd hb;clear hr A hb
   by_cases hlt:r<n
   ·have cD:decide (r<n)=true:=dT hlt;obtain⟨b,k,cs,rfl,bM,aZ,a6⟩:=cQ.out wr G.out r hlt;have L:=Hd a6;have M:=Hd aZ.size;have RC:=c0.out r cs wr aZ;have ck:=a6 0 _ aZ.kind;have c8:wr.cell? ⟨b,k+r*10,rJ⟩=some (rE .u8 ((nd t r).kind:Nat)):=ck;obtain⟨kd,aY⟩:=eX ((nd t r).kind);have bP:=cS.out r;rw[<-aY]at c8 bP;have a0:=Hd aY;have b5:=Hd (Zbn t N r);obtain⟨s0,a7⟩:=eX (Ox t N r);obtain⟨s1,a8⟩:=eX (Ox t N (r+1));have aB:=Hd (show s1=(s0||(kd==1&&(N==1||decide (N<=r)))) by rw[a8,b5.out,a7,aY]);have aC:=Hd a8;rw[<-a7];obtain⟨m,hm⟩:=eX (r%2);have dU:(r:Int)%2=(m:Int):=(by omega);have dV:Int.tmod (r:Int) 2=(m:Int):=(by rw[Int.tmod_eq_emod_of_nonneg (by omega)];omega);have cE:m=0\/m=1:=(by omega);have b2:=Hd hm;cases hrb:Aq (nd t r)with
    |false=>
     rw[hrb]at RC;have H:=Hd RC;have V:=Hd (show R=false by rw[aL.out,bH.out r hlt (.inr hrb)];rfl);clear RC hrb ck a6 aZ aY a7 a8 hm cE;go_wp2_with (refine wpList_load_mid rfl 52 (.tmp 28) rfl b (k+r*10) rfl cs.toList _ L.out underlying52 rfl (by rw[eK,M.out];exact Ai) ?_);refine(H.out).mono ?_;rintro e T ⟨rfl,j⟩;have o:=Hd (G.out.trans (j.mono G.out.size));clear j;go_wp2_with fail;go_ret;exact⟨Eb V.out,o.out⟩
    |true=>
     rw[hrb]at RC;have H:=Hd RC;have aA:=Hd hrb;clear RC hrb ck a6 aZ aY a7 a8 hm b5;rcases cE with rfl|rfl
     ·have aR:=Hd (Du b2.out.symm)
      by_cases hk:kd=2
      ·have hq:((kd:Int)==2)=true:=(by rw[beq_iff_eq];omega);have V:=Hd (show R=false by rw[aL.out,bH.out r hlt (.inl (by rw[<-a0.out,aR.out,hk]))];rfl);clear hk;go_wp2_with (refine wpList_load_mid rfl 52 (.tmp 28) rfl b (k+r*10) rfl cs.toList _ L.out underlying52 rfl (by rw[eK,M.out];exact Ai) ?_);refine(H.out).mono ?_;rintro e T ⟨rfl,j⟩;have o:=Hd (G.out.trans (j.mono G.out.size));clear j;go_wp2_with fail;go_ret;exact⟨Eb V.out,o.out⟩
      ·have hq:((kd:Int)==2)=false:=(by rw[qN];omega);have X:=Hd (show(nd t r).kind≠Dl r by rw[<-a0.out,aR.out];exact hk)
       by_cases hk1:kd=1
       ·have dL:((kd:Int)==1)=true:=(by rw[beq_iff_eq];omega);cases s0 with
        |true=>
         have HV:=Hd (show s1=true by rw[aB.out];rfl);try clear hk1
         try clear hN1
         try clear hk
         go_wp2_with (refine wpList_load_mid rfl 52 (.tmp 28) rfl b (k+r*10) rfl cs.toList _ L.out underlying52 rfl (by rw[eK,M.out];exact Ai) ?_);refine(H.out).mono ?_;rintro e T ⟨rfl,j⟩;have o:=Hd (G.out.trans (j.mono G.out.size));clear j;go_wp2_with fail;go_roundg (gk-1);case measure=>have:=Z.out;omega
         case rel=>
          refine⟨r+1,by have:=Z.out;omega,by go_num,by rw[<-aC.out,HV.out],fun i S=> ?_,o.out⟩
          by_cases e:i=r
          ·rw[e];exact⟨X.out,aA.out⟩
          ·exact C.out i (by omega)
        |false=>
         by_cases hN1:N=1
         ·have dI:((N:Int)==1)=true:=(by rw[beq_iff_eq];omega);have HV:=Hd (show s1=true by rw[aB.out,hk1,hN1];rfl);try clear hk1
          try clear hN1
          try clear hk
          go_wp2_with (refine wpList_load_mid rfl 52 (.tmp 28) rfl b (k+r*10) rfl cs.toList _ L.out underlying52 rfl (by rw[eK,M.out];exact Ai) ?_);refine(H.out).mono ?_;rintro e T ⟨rfl,j⟩;have o:=Hd (G.out.trans (j.mono G.out.size));clear j;go_wp2_with fail;go_roundg (gk-1);case measure=>have:=Z.out;omega
          case rel=>
           refine⟨r+1,by have:=Z.out;omega,by go_num,by rw[<-aC.out,HV.out],fun i S=> ?_,o.out⟩
           by_cases e:i=r
           ·rw[e];exact⟨X.out,aA.out⟩
           ·exact C.out i (by omega)
         ·have dI:((N:Int)==1)=false:=(by rw[qN];omega);have b9:(N==1)=false:=qN.2 hN1
          by_cases hge:N<=r
          ·have bN:decide (N<=r)=true:=dT hge;have HV:=Hd (show s1=true by rw[aB.out,hk1,b9,bN];rfl);try clear hk1
           try clear hN1
           try clear hk
           go_wp2_with (refine wpList_load_mid rfl 52 (.tmp 28) rfl b (k+r*10) rfl cs.toList _ L.out underlying52 rfl (by rw[eK,M.out];exact Ai) ?_);refine(H.out).mono ?_;rintro e T ⟨rfl,j⟩;have o:=Hd (G.out.trans (j.mono G.out.size));clear j;go_wp2_with fail;go_roundg (gk-1);case measure=>have:=Z.out;omega
           case rel=>
            refine⟨r+1,by have:=Z.out;omega,by go_num,by rw[<-aC.out,HV.out],fun i S=> ?_,o.out⟩
            by_cases e:i=r
            ·rw[e];exact⟨X.out,aA.out⟩
            ·exact C.out i (by omega)
          ·have bN:decide (N<=r)=false:=dF hge;have HV:=Hd (show s1=false by rw[aB.out,hk1,b9,bN];rfl);try clear hk1
           try clear hN1
           try clear hk
           go_wp2_with (refine wpList_load_mid rfl 52 (.tmp 28) rfl b (k+r*10) rfl cs.toList _ L.out underlying52 rfl (by rw[eK,M.out];exact Ai) ?_);refine(H.out).mono ?_;rintro e T ⟨rfl,j⟩;have o:=Hd (G.out.trans (j.mono G.out.size));clear j;go_wp2_with fail;go_roundg (gk-1);case measure=>have:=Z.out;omega
           case rel=>
            refine⟨r+1,by have:=Z.out;omega,by go_num,by rw[<-aC.out,HV.out],fun i S=> ?_,o.out⟩
            by_cases e:i=r
            ·rw[e];exact⟨X.out,aA.out⟩
            ·exact C.out i (by omega)
       ·have dL:((kd:Int)==1)=false:=(by rw[qN];omega);have bS:(kd==1)=false:=qN.2 hk1;cases s0 with
        |true=>
         have HV:=Hd (show s1=true by rw[aB.out];rfl);try clear hk1
         try clear hN1
         try clear hk
         go_wp2_with (refine wpList_load_mid rfl 52 (.tmp 28) rfl b (k+r*10) rfl cs.toList _ L.out underlying52 rfl (by rw[eK,M.out];exact Ai) ?_);refine(H.out).mono ?_;rintro e T ⟨rfl,j⟩;have o:=Hd (G.out.trans (j.mono G.out.size));clear j;go_wp2_with fail;go_roundg (gk-1);case measure=>have:=Z.out;omega
         case rel=>
          refine⟨r+1,by have:=Z.out;omega,by go_num,by rw[<-aC.out,HV.out],fun i S=> ?_,o.out⟩
          by_cases e:i=r
          ·rw[e];exact⟨X.out,aA.out⟩
          ·exact C.out i (by omega)
        |false=>
         have HV:=Hd (show s1=false by rw[aB.out,bS];rfl);try clear hk1
         try clear hN1
         try clear hk
         go_wp2_with (refine wpList_load_mid rfl 52 (.tmp 28) rfl b (k+r*10) rfl cs.toList _ L.out underlying52 rfl (by rw[eK,M.out];exact Ai) ?_);refine(H.out).mono ?_;rintro e T ⟨rfl,j⟩;have o:=Hd (G.out.trans (j.mono G.out.size));clear j;go_wp2_with fail;go_roundg (gk-1);case measure=>have:=Z.out;omega
         case rel=>
          refine⟨r+1,by have:=Z.out;omega,by go_num,by rw[<-aC.out,HV.out],fun i S=> ?_,o.out⟩
          by_cases e:i=r
          ·rw[e];exact⟨X.out,aA.out⟩
          ·exact C.out i (by omega)
     ·have aR:=Hd (Gi b2.out.symm)
      by_cases hk:kd=1
      ·have hq:((kd:Int)==1)=true:=(by rw[beq_iff_eq];omega);have V:=Hd (show R=false by rw[aL.out,bH.out r hlt (.inl (by rw[<-a0.out,aR.out,hk]))];rfl);clear hk;go_wp2_with (refine wpList_load_mid rfl 52 (.tmp 28) rfl b (k+r*10) rfl cs.toList _ L.out underlying52 rfl (by rw[eK,M.out];exact Ai) ?_);refine(H.out).mono ?_;rintro e T ⟨rfl,j⟩;have o:=Hd (G.out.trans (j.mono G.out.size));clear j;go_wp2_with fail;go_ret;exact⟨Eb V.out,o.out⟩
      ·have hq:((kd:Int)==1)=false:=(by rw[qN];omega);have X:=Hd (show(nd t r).kind≠Dl r by rw[<-a0.out,aR.out];exact hk);have bS:(kd==1)=false:=qN.2 hk;cases s0 with
       |true=>
        have HV:=Hd (show s1=true by rw[aB.out];rfl);try clear hk1
        try clear hN1
        try clear hk
        go_wp2_with (refine wpList_load_mid rfl 52 (.tmp 28) rfl b (k+r*10) rfl cs.toList _ L.out underlying52 rfl (by rw[eK,M.out];exact Ai) ?_);refine(H.out).mono ?_;rintro e T ⟨rfl,j⟩;have o:=Hd (G.out.trans (j.mono G.out.size));clear j;go_wp2_with fail;go_roundg (gk-1);case measure=>have:=Z.out;omega
        case rel=>
         refine⟨r+1,by have:=Z.out;omega,by go_num,by rw[<-aC.out,HV.out],fun i S=> ?_,o.out⟩
         by_cases e:i=r
         ·rw[e];exact⟨X.out,aA.out⟩
         ·exact C.out i (by omega)
       |false=>
        have HV:=Hd (show s1=false by rw[aB.out,bS];rfl);try clear hk1
        try clear hN1
        try clear hk
        go_wp2_with (refine wpList_load_mid rfl 52 (.tmp 28) rfl b (k+r*10) rfl cs.toList _ L.out underlying52 rfl (by rw[eK,M.out];exact Ai) ?_);refine(H.out).mono ?_;rintro e T ⟨rfl,j⟩;have o:=Hd (G.out.trans (j.mono G.out.size));clear j;go_wp2_with fail;go_roundg (gk-1);case measure=>have:=Z.out;omega
        case rel=>
         refine⟨r+1,by have:=Z.out;omega,by go_num,by rw[<-aC.out,HV.out],fun i S=> ?_,o.out⟩
         by_cases e:i=r
         ·rw[e];exact⟨X.out,aA.out⟩
         ·exact C.out i (by omega)
   ·obtain rfl:r=n:=(by have:=Z.out;omega);have cD:decide (r<r)=false:=dF hlt;have a1:=Hd (cY.out C.out);have aS:=c5.out;rw[aS];cases aJ:sb with
    |false=>
     have V:=Hd (show R=false by rw[aL.out,a1.out,aJ];rfl);clear aJ aS;go_wp2_with fail;go_ret;exact⟨Eb V.out,G.out⟩
    |true=>
     have c4:=Hd aJ;clear aJ aS;go_wp2_with fail
     go_loopg [7] r (fun q2 iv wr=>∃x:Nat,x+q2=r/\iv=rE rG (x:Nat)/\(∀i,i<x->Dm t i=true)/\Below w'.heap.size w' wr)
     case atStart=>exact⟨0,by omega,rfl,fun i S=>by omega,G.out⟩
     case round=>
      obtain⟨x,hx,rfl,A,hb⟩:=hrel;have HX:=Hd hx;have bV:=Hd A;have o:=Hd hb;clear hx A hb
      by_cases hxn:x<r
      ·have cI:decide (x<r)=true:=dT hxn;obtain⟨b,k,l,e,dA,bM,ck,cl,bT⟩:=bE.out wr o.out x hxn;subst dA;obtain⟨k0,bO⟩:=eX ((nd t x).par.late.length);have cB:=cL.out x;rw[<-bO]at cl bT cB;have cZ:=Hd bT;have b0:=Hd bO;have dS:=Hd bM;clear ck bT bO bM;go_wp2_with fail;obtain⟨g1,rfl⟩:=eX gk;obtain⟨w1,rfl⟩:=eX wr
       go_loopg [9] k0 (fun q2 iv wr=>∃s:Nat,s+q2=k0/\iv=rE rG (s:Nat)/\(∀i,i<s->Hu t x ((nd t x).par.late.getD i 0))/\Below w1.heap.size w1 wr)
       case atStart=>exact⟨0,by omega,rfl,fun i S=>by omega,bR⟩
       case round=>
        obtain⟨s,hs,rfl,A,hb⟩:=hrel;have HS:=Hd hs;have bW:=Hd A;have aN:=Hd hb;clear hs A hb
        by_cases hsk:s<k0
        ·have cH:decide (s<k0)=true:=dT hsk;have a9:s<(nd t x).par.late.length:=(by have:=b0.out;omega);obtain⟨bl,P,dB,aX,cm⟩:=cZ.out.at3 (u:=rE rG ((nd t x).par.late.getD s 0)) (r:=s) (by simp[ivs,aE,a9]);subst dB;obtain⟨m,hm,dR⟩:=b3.out a1.out x s hxn a9;rw[hm]at cm;have cO:=Hd cm;have c9:=(aN.out.cell (p:=⟨bl,P+s,rJ⟩) aX).trans cm;have HM:=Hd hm;have a2:=Hd (fun(O:¬Hu t x (m:Int))=>(show R=false by
          have h1:=cX.out x s a9 (by rw[HM.out];exact O);rw[aL.out,cV.out x hxn h1];simp))
         obtain⟨q,hq⟩:=eX (2*m);have dY:2*(m:Int)=(q:Int):=(by omega);have HQ:=Hd hq;have aP:=Hd aX;clear hq hm cm a9 aX;have aO:=Hd (o.out.trans (aN.out.mono o.out.size))
         by_cases c1:N<=m
         ·have dC:decide (N<=m)=true:=dT c1;have V:=Hd (a2.out (fun O=>by have:=((aQ.out m x).1 O).1;omega));go_wp2_with fail;go_ret;exact⟨Eb V.out,aO.out⟩
         ·have dC:decide (N<=m)=false:=dF c1;have cG:q<r:=(by have:=HQ.out;omega);have dZ:IntKind.i64.wrap (q:Int)=(q:Int):=(by rw[IntKind.wrap_i64];omega);obtain⟨b',off',l2,e2,eb,dQ,a4,_,_⟩:=bE.out wr aO.out q cG;simp only[Option.some.injEq,Addr.mk.injEq,and_true]at eb;obtain⟨rfl,rfl⟩:=eb;obtain⟨kq,aI⟩:=eX ((nd t q).kind);rw[<-aI]at a4
          by_cases c2:kq=1
          ·have cT:=Hd (show(nd t q).kind=1 by rw[<-aI];exact c2);rw[c2]at a4;have b7:wr.cell? ⟨b,k+q*10,rJ⟩=some (rE .u8 1):=a4;clear aI c2 a4;cases hun:Bu (q:Int) (x:Int)with
           |false=>
            have V:=Hd (a2.out (fun O=>by
             have:=((aQ.out m x).1 O).2.1;rw[<-HQ.out,hun]at this;cases this))
            have U0:=Ew (q:Int) (x:Int) wr;rw[hun]at U0;have bI:=Hd U0;clear U0 hun;go_wp2_with fail;refine(bI.out).mono ?_;rintro e' T ⟨rfl,j⟩;have cN:=Hd (aO.out.trans (j.mono aO.out.size));clear j;go_wp2_with fail;go_ret;exact⟨Eb V.out,cN.out⟩
           |true=>
            have b6:=Hd hun;have U0:=Ew (q:Int) (x:Int) wr;rw[hun]at U0;have bI:=Hd U0;clear U0 hun;go_wp2_with fail;refine(bI.out).mono ?_;rintro e' T ⟨rfl,j⟩;have cM:=Hd (aN.out.trans (j.mono aN.out.size));clear j c9 b7;go_wp2_with fail;obtain⟨g2,rfl⟩:=eX gk;obtain⟨w3,rfl⟩:=eX wr
            go_loopg [10] r (fun q2 iv wr=>∃y:Nat,y+q2=r/\iv=rE rG (y:Nat)/\(∀i,i<y->(nd t i).kind=2->Bu (q:Int) (i:Int)=true->Bu (i:Int) (x:Int)=true->(m:Int)∈(nd t i).par.late)/\Below w1.heap.size w1 wr)
            case atStart=>exact⟨0,by omega,rfl,fun i S=>by omega,cM.out⟩
            case round=>
             obtain⟨y,hy,rfl,A,hb⟩:=hrel;have HY:=Hd hy;have bX:=Hd A;have D:=Hd hb;clear hy A hb
             by_cases hyn:y<r
             ·have cJ:decide (y<r)=true:=dT hyn;have bY:=Hd (o.out.trans (D.out.mono o.out.size));obtain⟨b',off',ly,ey,eb,bA,bK,bL,bD⟩:=bE.out wr bY.out y hyn;simp only[Option.some.injEq,Addr.mk.injEq,and_true]at eb;obtain⟨rfl,rfl⟩:=eb;have Q:=fun(W:World) (hw:Below wr.heap.size wr W)=>Za _ _ (m:Int) W (bD.below hw lR);obtain⟨cK,bC⟩:=eX ((nd t y).par.late.length);rw[<-bC]at bL Q;obtain⟨ky,bQ⟩:=eX ((nd t y).kind);rw[<-bQ]at bK;have CM:=Hd ((D.out.cell (p:=⟨bl,P+s,rJ⟩) aP.out).trans cO.out);have J:=Hd bA;have aK:=Hd (Nat.lt_of_lt_of_le aP.out D.out.size);have aM:=Hd bK;have bU:=Hd bL;have b1:=Hd bQ;have d0:=bY.out.size;clear bK bL bQ bC bD bA;have NX:=Hd (fun(O:(nd t y).kind=2->Bu (q:Int) (y:Int)=true->Bu (y:Int) (x:Int)=true->(m:Int)∈(nd t y).par.late)=>(show∀i,i<y+1->(nd t i).kind=2->Bu (q:Int) (i:Int)=true->Bu (i:Int) (x:Int)=true->(m:Int)∈(nd t i).par.late from fun i S=>by
               by_cases e:i=y
               ·rw[e];exact O
               ·exact bX.out i (by omega)))
              by_cases c3:ky=2
              ·have cR:=Hd (show(nd t y).kind=2 by rw[<-b1.out];exact c3);have dE:((ky:Int)==2)=true:=(by rw[beq_iff_eq];omega);clear c3;cases hu1:Bu (q:Int) (y:Int)with
               |false=>
                have aG:=fun W=>Ew (q:Int) (y:Int) W;simp only[hu1]at aG;have U1:=Hd aG;have HN:=Hd (NX.out (fun _ h _=>by rw[hu1]at h;cases h));clear aG hu1 Q;go_wp2_with fail;refine Cx [eF (rD (some ⟨b,k,rJ⟩) r c),eF (rE rG (y:Nat)),eF (rF (some ⟨b,k+y*10,rJ⟩)),eF (rF (some ⟨b,k+y*10,rJ⟩)),eF (rE .u8 (ky:Nat)),eF (.bool true),eF (.bool true),eF (rD (some ⟨bl,P,rJ⟩) k0 e),eF (rE rG (s:Nat)),eF (rF (some ⟨bl,P+s,rJ⟩)),eF (rE rG (m:Nat)),eF (rE rG (q:Nat)),eF (rE rG (y:Nat)),eF (.bool false),eF (.bool false),eF (.bool false),eF undef,eF undef,eF undef,eF (.bool false),eF (.bool false),eF undef,eF undef,eF undef,eF undef,eF undef,eF undef,eF undef,eF undef,eF undef,eF undef,eF undef,eF undef,eF (.bool false)] (by kernel_rfl) (by kernel_rfl) (by kernel_rfl) (kE (kE (kE (kE (kE (kE (kE (kE (kE (kE (kE (kE (kE (kE (kE (kE (kE (kE (kE (kE (kE (kE (kE (kE (kE (kE (kE (kE (kE (kE (kE (kE (kE (kE Ae)))))))))))))))))))))))))))))))))) ?_ ?_
                ·refine gQ ?_ (gQ ?_ (gQ ?_ (gQ ?_ (gQ ?_ (gQ ?_ (gQ ?_ (gQ ?_ (gQ ?_ (gQ ?_ (gQ ?_ (gQ ?_ (gQ ?_ (gB ?_ (gQ ?_ (gQ ?_ (fO rfl rfl rfl rfl rfl rfl (fun _ _ g=>g.1) rfl (fO rfl rfl rfl rfl rfl rfl (fun _ _ g=>g.1) rfl (fO rfl rfl rfl rfl rfl rfl (fun _ _ g=>g.2.2.1) rfl (gQ ?_ (gQ ?_ (fO rfl rfl rfl rfl rfl rfl (fun _ _ g=>g.1) rfl (fO rfl rfl rfl rfl rfl rfl (fun _ _ g=>g.1) rfl (fO rfl rfl rfl rfl rfl rfl (fun _ _ g=>g.2.2.1) rfl (fO rfl rfl rfl rfl rfl rfl (fun _ _ g=>g.2.1) rfl (fO rfl rfl rfl rfl rfl rfl (fun _ _ g=>g.2.1) rfl (fO rfl rfl rfl rfl rfl rfl (fun _ _ g=>g.2.1) rfl (fO rfl rfl rfl rfl rfl rfl (fun _ _ g=>g.1) rfl (fO rfl rfl rfl rfl rfl rfl (fun _ _ g=>g.1) rfl (fO rfl rfl rfl rfl rfl rfl (fun _ _ g=>g.2.2.1) rfl (fO rfl rfl rfl rfl rfl rfl (fun _ _ g=>g.2.1) rfl (fO rfl rfl rfl rfl rfl rfl (fun _ _ g=>g.2.2.1) rfl (fO rfl rfl rfl rfl rfl rfl (fun _ _ g=>g.2.1) rfl (gQ ?_ .nil)))))))))))))))))))))))))))))))));all_goals
                  intro a wx B I g;refine⟨by first|rfl|exact Be rfl rfl rfl g.1|exact Be rfl rfl rfl g.2.1|exact Be rfl rfl rfl g.2.2.1,?_⟩;intro K Y;try have P0:a.tmps[0]?.getD undef=rD (some ⟨b,k,rJ⟩) r c:=I 0 (by kernel_rfl)
                  try have P8:a.tmps[8]?.getD undef=rD (some ⟨bl,P,rJ⟩) k0 e:=I 8 (by kernel_rfl)
                  try have P9:a.tmps[9]?.getD undef=rE rG (s:Nat):=I 9 (by kernel_rfl)
                  try have a3:a.tmps[10]?.getD undef=rE rG (y:Nat):=I 10 (by kernel_rfl)
                  try have E0:=eqn g.1
                  try have E1:=eqn g.2.1
                  try have D0:=(B.cell (p:=⟨b,k+y*10,rJ⟩) J.out).trans aM.out
                  try have D1:=(B.cell (p:=⟨bl,P+s,rJ⟩) aK.out).trans CM.out
                  try(refine Hd ?_;go_simp;exact Y _ rfl)
                 ·go_simp;refine(U1.out wx).mono ?_;rintro e T ⟨rfl,j⟩;exact Y _ _ rfl j
                ·rintro f w9 E z;have F:f 151=.bool false:=z.2.2.2.2.2.2.2.2.2.2.2.2.2.2.2.2.2.2.2.2.2.2.2.2.2.2.2.2.2.2.2.2.2.1;clear z;simp only[Ak,At,Ei,dG,dH,dJ,dK,Nat.reduceBEq,Nat.reduceAdd,dO,dP,cond_true,cond_false];rw[F];have U:=Hd (D.out.trans (E.mono D.out.size));clear E F;go_wp2_with fail;go_roundg (gk-1);case measure=>have:=HY.out;omega
                 case rel=>exact⟨y+1,by have:=HY.out;omega,by go_num,HN.out,U.out⟩
               |true=>
                have aG:=fun W=>Ew (q:Int) (y:Int) W;simp only[hu1]at aG;have U1:=Hd aG;have c6:=Hd hu1;clear aG hu1;cases hu2:Bu (y:Int) (x:Int)with
                |false=>
                 have aH:=fun W=>Ew (y:Int) (x:Int) W;simp only[hu2]at aH;have U2:=Hd aH;have HN:=Hd (NX.out (fun _ _ h=>by rw[hu2]at h;cases h));clear aH hu2 Q;go_wp2_with fail;refine Cx [eF (rD (some ⟨b,k,rJ⟩) r c),eF (rE rG (y:Nat)),eF (rF (some ⟨b,k+y*10,rJ⟩)),eF (rF (some ⟨b,k+y*10,rJ⟩)),eF (rE .u8 (ky:Nat)),eF (.bool true),eF (.bool true),eF (rD (some ⟨bl,P,rJ⟩) k0 e),eF (rE rG (s:Nat)),eF (rF (some ⟨bl,P+s,rJ⟩)),eF (rE rG (m:Nat)),eF (rE rG (q:Nat)),eF (rE rG (y:Nat)),eF (.bool true),eF (.bool true),eF (.bool true),eF (rE rG (y:Nat)),eF (rE rG (x:Nat)),eF (.bool false),eF (.bool false),eF (.bool false),eF undef,eF undef,eF undef,eF undef,eF undef,eF undef,eF undef,eF undef,eF undef,eF undef,eF undef,eF undef,eF (.bool false)] (by kernel_rfl) (by kernel_rfl) (by kernel_rfl) (kE (kE (kE (kE (kE (kE (kE (kE (kE (kE (kE (kE (kE (kE (kE (kE (kE (kE (kE (kE (kE (kE (kE (kE (kE (kE (kE (kE (kE (kE (kE (kE (kE (kE Ae)))))))))))))))))))))))))))))))))) ?_ ?_
                 ·refine gQ ?_ (gQ ?_ (gQ ?_ (gQ ?_ (gQ ?_ (gQ ?_ (gQ ?_ (gQ ?_ (gQ ?_ (gQ ?_ (gQ ?_ (gQ ?_ (gQ ?_ (gB ?_ (gQ ?_ (gQ ?_ (gQ ?_ (gQ ?_ (gB ?_ (gQ ?_ (gQ ?_ (fO rfl rfl rfl rfl rfl rfl (fun _ _ g=>g.1) rfl (fO rfl rfl rfl rfl rfl rfl (fun _ _ g=>g.1) rfl (fO rfl rfl rfl rfl rfl rfl (fun _ _ g=>g.2.2.1) rfl (fO rfl rfl rfl rfl rfl rfl (fun _ _ g=>g.2.1) rfl (fO rfl rfl rfl rfl rfl rfl (fun _ _ g=>g.2.1) rfl (fO rfl rfl rfl rfl rfl rfl (fun _ _ g=>g.2.1) rfl (fO rfl rfl rfl rfl rfl rfl (fun _ _ g=>g.1) rfl (fO rfl rfl rfl rfl rfl rfl (fun _ _ g=>g.1) rfl (fO rfl rfl rfl rfl rfl rfl (fun _ _ g=>g.2.2.1) rfl (fO rfl rfl rfl rfl rfl rfl (fun _ _ g=>g.2.1) rfl (fO rfl rfl rfl rfl rfl rfl (fun _ _ g=>g.2.2.1) rfl (fO rfl rfl rfl rfl rfl rfl (fun _ _ g=>g.2.1) rfl (gQ ?_ .nil)))))))))))))))))))))))))))))))));all_goals
                   intro a wx B I g;refine⟨by first|rfl|exact Be rfl rfl rfl g.1|exact Be rfl rfl rfl g.2.1|exact Be rfl rfl rfl g.2.2.1,?_⟩;intro K Y;try have P0:a.tmps[0]?.getD undef=rD (some ⟨b,k,rJ⟩) r c:=I 0 (by kernel_rfl)
                   try have P7:a.tmps[7]?.getD undef=rE rG (x:Nat):=I 7 (by kernel_rfl)
                   try have P8:a.tmps[8]?.getD undef=rD (some ⟨bl,P,rJ⟩) k0 e:=I 8 (by kernel_rfl)
                   try have P9:a.tmps[9]?.getD undef=rE rG (s:Nat):=I 9 (by kernel_rfl)
                   try have a3:a.tmps[10]?.getD undef=rE rG (y:Nat):=I 10 (by kernel_rfl)
                   try have E0:=eqn g.1
                   try have E1:=eqn g.2.1
                   try have D0:=(B.cell (p:=⟨b,k+y*10,rJ⟩) J.out).trans aM.out
                   try have D1:=(B.cell (p:=⟨bl,P+s,rJ⟩) aK.out).trans CM.out
                   try(refine Hd ?_;go_simp;exact Y _ rfl)
                  ·go_simp;refine(U1.out wx).mono ?_;rintro e T ⟨rfl,j⟩;exact Y _ _ rfl j
                  ·go_simp;refine(U2.out wx).mono ?_;rintro e T ⟨rfl,j⟩;exact Y _ _ rfl j
                 ·rintro f w9 E z;have F:f 151=.bool false:=z.2.2.2.2.2.2.2.2.2.2.2.2.2.2.2.2.2.2.2.2.2.2.2.2.2.2.2.2.2.2.2.2.2.1;clear z;simp only[Ak,At,Ei,dG,dH,dJ,dK,Nat.reduceBEq,Nat.reduceAdd,dO,dP,cond_true,cond_false];rw[F];have U:=Hd (D.out.trans (E.mono D.out.size));clear E F;go_wp2_with fail;go_roundg (gk-1);case measure=>have:=HY.out;omega
                  case rel=>exact⟨y+1,by have:=HY.out;omega,by go_num,HN.out,U.out⟩
                |true=>
                 have aH:=fun W=>Ew (y:Int) (x:Int) W;simp only[hu2]at aH;have U2:=Hd aH;have c7:=Hd hu2;clear aH hu2
                 by_cases hin:(m:Int)∈(nd t y).par.late
                 ·simp only[dT hin]at Q;have bF:=Hd Q;have HN:=Hd (NX.out (fun _ _ _=>hin));clear Q hin;go_wp2_with fail;refine Cx [eF (rD (some ⟨b,k,rJ⟩) r c),eF (rE rG (y:Nat)),eF (rF (some ⟨b,k+y*10,rJ⟩)),eF (rF (some ⟨b,k+y*10,rJ⟩)),eF (rE .u8 (ky:Nat)),eF (.bool true),eF (.bool true),eF (rD (some ⟨bl,P,rJ⟩) k0 e),eF (rE rG (s:Nat)),eF (rF (some ⟨bl,P+s,rJ⟩)),eF (rE rG (m:Nat)),eF (rE rG (q:Nat)),eF (rE rG (y:Nat)),eF (.bool true),eF (.bool true),eF (.bool true),eF (rE rG (y:Nat)),eF (rE rG (x:Nat)),eF (.bool true),eF (.bool true),eF (.bool true),eF (rD (some ⟨b,k,rJ⟩) r c),eF (rE rG (y:Nat)),eF (rF (some ⟨b,k+y*10,rJ⟩)),eF (rF (some ⟨b,k+y*10+7,rJ⟩)),eF (rF (some ⟨b,k+y*10+7+2,rJ⟩)),eF (rD ly cK ey),eF (rD (some ⟨bl,P,rJ⟩) k0 e),eF (rE rG (s:Nat)),eF (rF (some ⟨bl,P+s,rJ⟩)),eF (rE rG (m:Nat)),eF (.bool true),eF (.bool false),eF (.bool false)] (by kernel_rfl) (by kernel_rfl) (by kernel_rfl) (kE (kE (kE (kE (kE (kE (kE (kE (kE (kE (kE (kE (kE (kE (kE (kE (kE (kE (kE (kE (kE (kE (kE (kE (kE (kE (kE (kE (kE (kE (kE (kE (kE (kE Ae)))))))))))))))))))))))))))))))))) ?_ ?_
                  ·refine gQ ?_ (gQ ?_ (gQ ?_ (gQ ?_ (gQ ?_ (gQ ?_ (gQ ?_ (gQ ?_ (gQ ?_ (gQ ?_ (gQ ?_ (gQ ?_ (gQ ?_ (gB ?_ (gQ ?_ (gQ ?_ (gQ ?_ (gQ ?_ (gB ?_ (gQ ?_ (gQ ?_ (gQ ?_ (gQ ?_ (gQ ?_ (gQ ?_ (gQ ?_ (gQ ?_ (gQ ?_ (gQ ?_ (gQ ?_ (gQ ?_ (gB ?_ (gQ ?_ (gQ ?_ .nil)))))))))))))))))))))))))))))))));all_goals
                    intro a wx B I g;refine⟨by first|rfl|exact Be rfl rfl rfl g.1|exact Be rfl rfl rfl g.2.1|exact Be rfl rfl rfl g.2.2.1,?_⟩;intro K Y;try have P0:a.tmps[0]?.getD undef=rD (some ⟨b,k,rJ⟩) r c:=I 0 (by kernel_rfl)
                    try have P7:a.tmps[7]?.getD undef=rE rG (x:Nat):=I 7 (by kernel_rfl)
                    try have P8:a.tmps[8]?.getD undef=rD (some ⟨bl,P,rJ⟩) k0 e:=I 8 (by kernel_rfl)
                    try have P9:a.tmps[9]?.getD undef=rE rG (s:Nat):=I 9 (by kernel_rfl)
                    try have a3:a.tmps[10]?.getD undef=rE rG (y:Nat):=I 10 (by kernel_rfl)
                    try have E0:=eqn g.1
                    try have E1:=eqn g.2.1
                    try have D0:=(B.cell (p:=⟨b,k+y*10,rJ⟩) J.out).trans aM.out
                    try have D1:=(B.cell (p:=⟨bl,P+s,rJ⟩) aK.out).trans CM.out
                    try have D2:=(B.cell (p:=⟨b,k+y*10+7+2,rJ⟩) J.out).trans bU.out
                    try(refine Hd ?_;go_simp;exact Y _ rfl)
                   ·go_simp;refine(U1.out wx).mono ?_;rintro e T ⟨rfl,j⟩;exact Y _ _ rfl j
                   ·go_simp;refine(U2.out wx).mono ?_;rintro e T ⟨rfl,j⟩;exact Y _ _ rfl j
                   ·go_simp;refine(bF.out wx B).mono ?_;rintro e T ⟨rfl,rfl⟩;exact Y _ _ rfl bR
                  ·rintro f w9 E z;have F:f 151=.bool false:=z.2.2.2.2.2.2.2.2.2.2.2.2.2.2.2.2.2.2.2.2.2.2.2.2.2.2.2.2.2.2.2.2.2.1;clear z;simp only[Ak,At,Ei,dG,dH,dJ,dK,Nat.reduceBEq,Nat.reduceAdd,dO,dP,cond_true,cond_false];rw[F];have U:=Hd (D.out.trans (E.mono D.out.size));clear E F;go_wp2_with fail;go_roundg (gk-1);case measure=>have:=HY.out;omega
                   case rel=>exact⟨y+1,by have:=HY.out;omega,by go_num,HN.out,U.out⟩
                 ·simp only[dF hin]at Q;have bF:=Hd Q;have V:=Hd (a2.out (fun O=>by
                   have h4:=((aQ.out m x).1 O).2.2.2 y hyn cR.out;rw[<-HQ.out]at h4;exact hin (h4 c6.out c7.out)))
                  clear Q hin;go_wp2_with fail;refine Cx [eF (rD (some ⟨b,k,rJ⟩) r c),eF (rE rG (y:Nat)),eF (rF (some ⟨b,k+y*10,rJ⟩)),eF (rF (some ⟨b,k+y*10,rJ⟩)),eF (rE .u8 (ky:Nat)),eF (.bool true),eF (.bool true),eF (rD (some ⟨bl,P,rJ⟩) k0 e),eF (rE rG (s:Nat)),eF (rF (some ⟨bl,P+s,rJ⟩)),eF (rE rG (m:Nat)),eF (rE rG (q:Nat)),eF (rE rG (y:Nat)),eF (.bool true),eF (.bool true),eF (.bool true),eF (rE rG (y:Nat)),eF (rE rG (x:Nat)),eF (.bool true),eF (.bool true),eF (.bool true),eF (rD (some ⟨b,k,rJ⟩) r c),eF (rE rG (y:Nat)),eF (rF (some ⟨b,k+y*10,rJ⟩)),eF (rF (some ⟨b,k+y*10+7,rJ⟩)),eF (rF (some ⟨b,k+y*10+7+2,rJ⟩)),eF (rD ly cK ey),eF (rD (some ⟨bl,P,rJ⟩) k0 e),eF (rE rG (s:Nat)),eF (rF (some ⟨bl,P+s,rJ⟩)),eF (rE rG (m:Nat)),eF (.bool false),eF (.bool true),eF (.bool true)] (by kernel_rfl) (by kernel_rfl) (by kernel_rfl) (kE (kE (kE (kE (kE (kE (kE (kE (kE (kE (kE (kE (kE (kE (kE (kE (kE (kE (kE (kE (kE (kE (kE (kE (kE (kE (kE (kE (kE (kE (kE (kE (kE (kE Ae)))))))))))))))))))))))))))))))))) ?_ ?_
                  ·refine gQ ?_ (gQ ?_ (gQ ?_ (gQ ?_ (gQ ?_ (gQ ?_ (gQ ?_ (gQ ?_ (gQ ?_ (gQ ?_ (gQ ?_ (gQ ?_ (gQ ?_ (gB ?_ (gQ ?_ (gQ ?_ (gQ ?_ (gQ ?_ (gB ?_ (gQ ?_ (gQ ?_ (gQ ?_ (gQ ?_ (gQ ?_ (gQ ?_ (gQ ?_ (gQ ?_ (gQ ?_ (gQ ?_ (gQ ?_ (gQ ?_ (gB ?_ (gQ ?_ (gQ ?_ .nil)))))))))))))))))))))))))))))))));all_goals
                    intro a wx B I g;refine⟨by first|rfl|exact Be rfl rfl rfl g.1|exact Be rfl rfl rfl g.2.1|exact Be rfl rfl rfl g.2.2.1,?_⟩;intro K Y;try have P0:a.tmps[0]?.getD undef=rD (some ⟨b,k,rJ⟩) r c:=I 0 (by kernel_rfl)
                    try have P7:a.tmps[7]?.getD undef=rE rG (x:Nat):=I 7 (by kernel_rfl)
                    try have P8:a.tmps[8]?.getD undef=rD (some ⟨bl,P,rJ⟩) k0 e:=I 8 (by kernel_rfl)
                    try have P9:a.tmps[9]?.getD undef=rE rG (s:Nat):=I 9 (by kernel_rfl)
                    try have a3:a.tmps[10]?.getD undef=rE rG (y:Nat):=I 10 (by kernel_rfl)
                    try have E0:=eqn g.1
                    try have E1:=eqn g.2.1
                    try have D0:=(B.cell (p:=⟨b,k+y*10,rJ⟩) J.out).trans aM.out
                    try have D1:=(B.cell (p:=⟨bl,P+s,rJ⟩) aK.out).trans CM.out
                    try have D2:=(B.cell (p:=⟨b,k+y*10+7+2,rJ⟩) J.out).trans bU.out
                    try(refine Hd ?_;go_simp;exact Y _ rfl)
                   ·go_simp;refine(U1.out wx).mono ?_;rintro e T ⟨rfl,j⟩;exact Y _ _ rfl j
                   ·go_simp;refine(U2.out wx).mono ?_;rintro e T ⟨rfl,j⟩;exact Y _ _ rfl j
                   ·go_simp;refine(bF.out wx B).mono ?_;rintro e T ⟨rfl,rfl⟩;exact Y _ _ rfl bR
                  ·rintro f w9 E z;have F:f 151=.bool true:=z.2.2.2.2.2.2.2.2.2.2.2.2.2.2.2.2.2.2.2.2.2.2.2.2.2.2.2.2.2.2.2.2.2.1;clear z;simp only[Ak,At,Ei,dG,dH,dJ,dK,Nat.reduceBEq,Nat.reduceAdd,dO,dP,cond_true,cond_false];rw[F];have U:=Hd (D.out.trans (E.mono D.out.size));clear E F;go_wp2_with fail;go_ret;exact⟨Eb V.out,o.out.trans (U.out.mono o.out.size)⟩
              ·have dE:((ky:Int)==2)=false:=(by rw[qN];omega);have HN:=Hd (NX.out (fun h _ _=>absurd (b1.out.trans h) c3));clear c3 Q;go_wp2_with fail;refine Cx [eF (rD (some ⟨b,k,rJ⟩) r c),eF (rE rG (y:Nat)),eF (rF (some ⟨b,k+y*10,rJ⟩)),eF (rF (some ⟨b,k+y*10,rJ⟩)),eF (rE .u8 (ky:Nat)),eF (.bool false),eF (.bool false),eF undef,eF undef,eF undef,eF undef,eF undef,eF undef,eF undef,eF (.bool false),eF (.bool false),eF undef,eF undef,eF undef,eF (.bool false),eF (.bool false),eF undef,eF undef,eF undef,eF undef,eF undef,eF undef,eF undef,eF undef,eF undef,eF undef,eF undef,eF undef,eF (.bool false)] (by kernel_rfl) (by kernel_rfl) (by kernel_rfl) (kE (kE (kE (kE (kE (kE (kE (kE (kE (kE (kE (kE (kE (kE (kE (kE (kE (kE (kE (kE (kE (kE (kE (kE (kE (kE (kE (kE (kE (kE (kE (kE (kE (kE Ae)))))))))))))))))))))))))))))))))) ?_ ?_
               ·refine gQ ?_ (gQ ?_ (gQ ?_ (gQ ?_ (gQ ?_ (gQ ?_ (gQ ?_ (fO rfl rfl rfl rfl rfl rfl (fun _ _ g=>g.1) rfl (fO rfl rfl rfl rfl rfl rfl (fun _ _ g=>g.1) rfl (fO rfl rfl rfl rfl rfl rfl (fun _ _ g=>g.2.2.1) rfl (fO rfl rfl rfl rfl rfl rfl (fun _ _ g=>g.2.1) rfl (fO rfl rfl rfl rfl rfl rfl (fun _ _ g=>g.2.1) rfl (fO rfl rfl rfl rfl rfl rfl (fun _ _ g=>g.1) rfl (fO rfl rfl rfl rfl rfl rfl (fun _ _ g=>g.2.2.1) rfl (gQ ?_ (gQ ?_ (fO rfl rfl rfl rfl rfl rfl (fun _ _ g=>g.1) rfl (fO rfl rfl rfl rfl rfl rfl (fun _ _ g=>g.1) rfl (fO rfl rfl rfl rfl rfl rfl (fun _ _ g=>g.2.2.1) rfl (gQ ?_ (gQ ?_ (fO rfl rfl rfl rfl rfl rfl (fun _ _ g=>g.1) rfl (fO rfl rfl rfl rfl rfl rfl (fun _ _ g=>g.1) rfl (fO rfl rfl rfl rfl rfl rfl (fun _ _ g=>g.2.2.1) rfl (fO rfl rfl rfl rfl rfl rfl (fun _ _ g=>g.2.1) rfl (fO rfl rfl rfl rfl rfl rfl (fun _ _ g=>g.2.1) rfl (fO rfl rfl rfl rfl rfl rfl (fun _ _ g=>g.2.1) rfl (fO rfl rfl rfl rfl rfl rfl (fun _ _ g=>g.1) rfl (fO rfl rfl rfl rfl rfl rfl (fun _ _ g=>g.1) rfl (fO rfl rfl rfl rfl rfl rfl (fun _ _ g=>g.2.2.1) rfl (fO rfl rfl rfl rfl rfl rfl (fun _ _ g=>g.2.1) rfl (fO rfl rfl rfl rfl rfl rfl (fun _ _ g=>g.2.2.1) rfl (fO rfl rfl rfl rfl rfl rfl (fun _ _ g=>g.2.1) rfl (gQ ?_ .nil)))))))))))))))))))))))))))))))));all_goals
                 intro a wx B I g;refine⟨rfl,?_⟩;intro K Y;try have P0:a.tmps[0]?.getD undef=rD (some ⟨b,k,rJ⟩) r c:=I 0 (by kernel_rfl)
                 try have a3:a.tmps[10]?.getD undef=rE rG (y:Nat):=I 10 (by kernel_rfl)
                 try have E0:=eqn g.1
                 try have E1:=eqn g.2.1
                 try have D0:=(B.cell (p:=⟨b,k+y*10,rJ⟩) J.out).trans aM.out
                 try(refine Hd ?_;go_simp;exact Y _ rfl)
               ·rintro f w9 E z;have F:f 151=.bool false:=z.2.2.2.2.2.2.2.2.2.2.2.2.2.2.2.2.2.2.2.2.2.2.2.2.2.2.2.2.2.2.2.2.2.1;clear z;simp only[Ak,At,Ei,dG,dH,dJ,dK,Nat.reduceBEq,Nat.reduceAdd,dO,dP,cond_true,cond_false];rw[F];have U:=Hd (D.out.trans (E.mono D.out.size));clear E F;go_wp2_with fail;go_roundg (gk-1);case measure=>have:=HY.out;omega
                case rel=>exact⟨y+1,by have:=HY.out;omega,by go_num,HN.out,U.out⟩
             ·obtain rfl:y=r:=(by have:=HY.out;omega);have cJ:decide (y<y)=false:=dF hyn;have bZ:=Hd (show Hu t x (m:Int)from(aQ.out m x).2 ⟨by omega,by rw[<-HQ.out];exact b6.out,by rw[<-HQ.out,cT.out];omega,by rw[<-HQ.out];exact bX.out⟩);go_wp2_with fail;go_roundg (g2-1);case measure=>have:=HS.out;omega
              case rel=>
               refine⟨s+1,by have:=HS.out;omega,by go_num,fun i S=> ?_,D.out⟩
               by_cases e:i=s
               ·rw[e,HM.out];exact bZ.out
               ·exact bW.out i (by omega)
          ·have dD:((kq:Int)==1)=false:=(by rw[qN];omega);have dN:((kq:Int) !=1)=true:=(by rw[bne,dD];rfl);have V:=Hd (a2.out (fun O=>by
            have h1:=((aQ.out m x).1 O).2.2.1;rw[<-HQ.out,<-aI]at h1;have h2:=b4.out a1.out q cG;rw[Du (by have:=HQ.out;omega),<-aI]at h2;have h3:=Kx h2.2;rw[<-aI]at h3;rcases h3 with h|h|h
            ·exact h1 h
            ·exact c2 h
            ·exact h2.1 h))
           clear aI c2;go_wp2_with fail;go_ret;exact⟨Eb V.out,aO.out⟩
        ·obtain rfl:s=k0:=(by have:=HS.out;omega);have cH:decide (s<s)=false:=dF hsk;have cP:=Hd (cW.out x (fun i S=>bW.out i (by have:=b0.out;omega)));go_wp2_with fail;go_roundg (g1-1);case measure=>have:=HX.out;omega
         case rel=>
          refine⟨x+1,by have:=HX.out;omega,by go_num,fun i S=> ?_,o.out.trans (aN.out.mono o.out.size)⟩
          by_cases e:i=x
          ·rw[e];exact cP.out
          ·exact bV.out i (by omega)
      ·obtain rfl:x=r:=(by have:=HX.out;omega);have cI:decide (x<x)=false:=dF hxn;have V:=Hd (show R=true by rw[aL.out,a1.out,c4.out,cU.out bV.out];rfl);go_wp2_with fail;go_ret;exact⟨Eb V.out,o.out⟩
