/- Walks: the reference's Digest. -/
import Derived.Test.YtfofaiommeckbaaGreatZSliceSoundB
import Derived.Test.YtfofaiommeckbaaGreatZSliceSound36
open List renaming getD_eq_getElem?_getD → aJ, getElem?_eq_getElem → aK, getElem_mem → aL, getElem_of_mem → dM, filterMap_cons → cZ, filterMap_nil → dA, contains_cons → dB, contains_nil → dC
open Bool renaming or_false → dD, or_true → dE
set_option linter.unusedVariables false
set_option maxRecDepth 100000
set_option maxHeartbeats 40000000
namespace Go.Proofs.YtfofaiommeckbaaGreat
open Go.RowKit ShaM WireM
theorem Iq (v:Value)(L:List Nat)(w:World)(h:Rd w v (bvs L))(i:∀x∈L,x<256)(l:L.length≤1000000):
  Calls Tryz.prog 85 #[v] w fun e w'=>∃v',e=.returned v'∧Own w' w.heap.size 5 v' (bvs (shaF L))∧Below w.heap.size w w':=by
 have r:=Hd (Zci w);have RS:=Hd (fun(W:World) (n:Below w.heap.size w W) (g k:Value) (hh:Rd W g (qvs HL0)) (hk:Rd W k (qvs KL))=>Zic v g k L W (h.below n lR) hh hk i l);clear h i l;go_enter Tryz.func85,Tryz.ntmps85;go_wp2_with fail;refine(r.out).mono ?_;rintro e m ⟨p,q,rfl,j,h2,c⟩;have C:=Hd (RS.out m c p q j h2);have d:=Hd c;clear j h2 c;go_wp2_with fail;refine(C.out).mono ?_;rintro e t ⟨s,rfl,a,b⟩;have o:=Hd a;have f:=Hd (d.out.trans (b.mono d.out.size));clear a b;go_wp2_with fail;go_ret;exact⟨_,rfl,o.out.mono d.out.size,f.out⟩
def Zbm (a b:List Nat):Bool:= !decide (a=b)&&decide (shaF a=shaF b)
def Fy (A B:List (List Nat)):Bool:=A.any fun a=>B.any fun b=>Zbm a b
theorem Lk {A B:List (List Nat)} {i k:Nat}(hi:i<A.length)(hk:k<B.length)(h:Zbm (A.getD i []) (B.getD k [])=true):Fy A B=true:=by
 rw[aJ,aK hi,aJ,aK hk]at h;exact List.any_eq_true.2 ⟨A[i],aL hi,List.any_eq_true.2 ⟨B[k],aL hk,h⟩⟩
theorem Wt {A B:List (List Nat)}(h:∀i,i<A.length→∀k,k<B.length→Zbm (A.getD i []) (B.getD k [])=false):Fy A B=false:=by
 cases hc:Fy A B with
 |false=>rfl
 |true=>
  obtain⟨a,g,d⟩:=List.any_eq_true.1 hc;obtain⟨b,f,c⟩:=List.any_eq_true.1 d;obtain⟨i,e,rfl⟩:=dM g;obtain⟨k,hk,rfl⟩:=dM f;have:=h i e k hk;rw[aJ,aK e,aJ,aK hk]at this;simp only[Option.getD_some]at this;rw[c]at this;cases this
theorem RdL.at {w:World} {v:Value} {A:List (List Nat)}(h:RdL w v A):∃a c,v=.slice a A.length c∧A.length≤c∧c≤maxLen∧∀i,i<A.length→∃b d u,a=some ⟨b,d,none⟩∧b<w.heap.size∧w.cell? ⟨b,d+i,none⟩=some u∧Rd w u (bvs (A.getD i [])):=by
 obtain⟨o,f,h2,h3⟩:=h;obtain⟨a,c,e,p,k,_⟩:=id f;rw[e]at f;refine⟨a,c,by rw[e,h2],by omega,k,fun i g=> ?_⟩;obtain⟨u,l,n⟩:=h3 i A[i] (aK g);obtain⟨b,d,e2,j,m⟩:=f.at3 l;exact⟨b,d,u,e2,j,m,by rw[aJ,aK g];exact n⟩
theorem Zo (b:List Nat):∀x∈shaF b,x<256:=by
 intro x hx;unfold shaF at hx;rw[List.mem_flatten]at hx;obtain⟨l,hl,hx⟩:=hx;obtain⟨y,_,rfl⟩:=List.mem_map.1 hl;exact beN_lt _ _ x hx
theorem Wu (v v':Value)(A B:List (List Nat))(w:World)(h:RdL w v A)(h':RdL w v' B)(hA:∀i,∀x∈A.getD i [],x<256)(hB:∀i,∀x∈B.getD i [],x<256)(lA:∀i,(A.getD i []).length≤1000000)(lB:∀i,(B.getD i []).length≤1000000):
  Calls Tryz.prog 38 #[v,v'] w fun e w'=>e=.returned (.bool (Fy A B))∧Below w.heap.size w w':=by
 obtain⟨a1,q1,rfl,aU,aT,-⟩:=h.at;obtain⟨a2,q2,rfl,aY,aM,-⟩:=h'.at;have G1:=fun(W:World) (Z:Below w.heap.size w W) (i:Nat) (hi:i<A.length)=>(show∃b off u,a1=some ⟨b,off,none⟩∧b<W.heap.size∧W.cell? ⟨b,off+i,none⟩=some u∧Rd W u (bvs (A.getD i [])) by
  obtain⟨a,c,e,_,_,k⟩:=(h.below Z lR).at;simp only[Value.slice.injEq]at e;rw[e.1];exact k i hi)
 have G2:=fun(W:World) (Z:Below w.heap.size w W) (i:Nat) (hi:i<B.length)=>(show∃b off u,a2=some ⟨b,off,none⟩∧b<W.heap.size∧W.cell? ⟨b,off+i,none⟩=some u∧Rd W u (bvs (B.getD i [])) by
  obtain⟨a,c,e,_,_,k⟩:=(h'.below Z lR).at;simp only[Value.slice.injEq]at e;rw[e.1];exact k i hi)
 have Y:=fun(i k:Nat) (hi:i<A.length) (hk:k<B.length) (h:Zbm (A.getD i []) (B.getD k [])=true)=>Lk hi hk h;have No:=fun(h:∀i,i<A.length→∀k,k<B.length→Zbm (A.getD i []) (B.getD k [])=false)=>Wt h;obtain⟨n,hn⟩:=eX A.length;obtain⟨m,hm⟩:=eX B.length;rw[←hn]at G1 Y No aU⊢;rw[←hm]at G2 Y No aY⊢;obtain⟨R,hR⟩:=eX (Fy A B);rw[←hR]at Y No⊢;have aZ:=Hd G1;have aV:=Hd G2;have HY:=Hd Y;have aX:=Hd No;have a9:=Hd hA;have a6:=Hd hB;have a8:=Hd lA;have a4:=Hd lB;unfold maxLen at aT aM;clear G1 G2 Y No h h' hA hB lA lB hn hm hR;go_enter Tryz.func38,Tryz.ntmps38;go_wp2_with fail
 go_loopg [5] n (fun q iv wr=>∃i:Nat,i+q=n∧iv=.int .i64 (i:Nat)∧Below w.heap.size w wr∧∀j,j<i→∀k,k<m→Zbm (A.getD j []) (B.getD k [])=false)
 case atStart=>exact⟨0,by omega,rfl,bR,fun j hj=>by omega⟩
 case round=>
  obtain⟨i,hi,rfl,hb,M⟩:=hrel;have HI:=Hd hi;have t:=Hd hb;have aQ:=Hd M
  by_cases hlt:i<n
  ·have aO:decide (i<n)=true:=decide_eq_true hlt;have bB:(i:Int)<(n:Int):=(by omega);obtain⟨J,N,u1,rfl,aD,aN,D⟩:=aZ.out wr hb i hlt;obtain⟨X,hX⟩:=eX (A.getD i []);have aC:=a9.out i;have aF:=a8.out i;rw[←hX]at D aC aF;obtain⟨r1,r2,r3,rfl⟩:∃a b c,u1=.slice a b c:=(by obtain⟨a,c,e,_⟩:=D;exact⟨_,_,_,e⟩);have a7:=Hd D;have a3:=Hd (Iq _ X wr D aC aF);have HX:=Hd hX;have a0:=Hd aC;obtain⟨go,rfl⟩:=eX gk;obtain⟨wo,rfl⟩:∃X:World,X=wr:=⟨_,rfl⟩;clear hi hb M D hX aC aF;go_wp2_with fail;refine(a3.out).mono ?_;rintro e w2 ⟨v2,rfl,r,H⟩;obtain⟨h1,h2,h3,rfl⟩:=Ey r;have a5:=Hd r.rd;have bD:=Hd (t.out.trans (H.mono t.out.size));have bA:=Hd (show Below wo.heap.size wo w2 from H);clear r H;go_wp2_with fail
   go_loopg [7] m (fun q kv wr=>∃k:Nat,k+q=m∧kv=.int .i64 (k:Nat)∧Rd wr (.slice h1 h2 h3) (bvs (shaF X))∧Below wo.heap.size wo wr∧∀j,j<k→Zbm X (B.getD j [])=false)
   case atStart=>exact⟨0,by omega,rfl,a5.out,bA.out,fun j hj=>by omega⟩
   case round=>
    obtain⟨k,hk,rfl,hh,s,U⟩:=hrel;have HK:=Hd hk;have HH:=Hd hh;have P:=Hd s;have aJ:=Hd U
    by_cases hlk:k<m
    ·have aR:decide (k<m)=true:=decide_eq_true hlk;have bC:(k:Int)<(m:Int):=(by omega);obtain⟨F,f2,u2,rfl,aL,aE,I⟩:=aV.out wr (t.out.trans (s.mono t.out.size)) k hlk;obtain⟨Y,hY⟩:=eX (B.getD k []);have O:=a6.out k;have V:=a4.out k;rw[←hY]at I O V;obtain⟨s1,s2,s3,rfl⟩:∃a b c,u2=.slice a b c:=(by obtain⟨a,c,e,_⟩:=I;exact⟨_,_,_,e⟩);have aG:J<wr.heap.size:=Nat.lt_of_lt_of_le aD s.size;have aI:wr.cell? ⟨J,N+i,none⟩=some (.slice r1 r2 r3):=(s.cell (p:=⟨J,N+i,none⟩) aD).trans aN;have aA:=a7.out.below s lR;have aS:=Hd (fun(W:World) (Z:Below wr.heap.size wr W)=>Iq (.slice s1 s2 s3) Y W (I.below Z lR) O V);have S1:=fun(b:Bool) (hb:decide (X=Y)=b) (W:World) (Z:Below wr.heap.size wr W)=>Ex (.slice r1 r2 r3) (.slice s1 s2 s3) X Y W (aA.below Z lR) (I.below Z lR) a0.out O b hb;have S2:=fun(b:Bool) (hb:decide (shaF X=shaF Y)=b) (W:World) (Z:Below wr.heap.size wr W) (v:Value) (hv:Rd W v (bvs (shaF Y)))=>Ex (.slice h1 h2 h3) v (shaF X) (shaF Y) W (hh.below Z lR) hv (Zo X) (Zo Y) b hb;have bE:=Hd hY;cases hsb:decide (X=Y)with
     |true=>
      have aB:=Hd (S1 true hsb);have C:=Hd (show Zbm X (B.getD k [])=false by rw[←hY];unfold Zbm;rw[hsb];rfl);have z:=hsb;clear S1 S2 hk hh s U aA I O V hY;clear hsb z;go_wp2_with fail;refine Cb [eF (.slice (some ⟨J,N,none⟩) n q1),eF (.int .i64 (i:Nat)),eF (.pointer (some ⟨J,N+i,none⟩)),eF (.slice r1 r2 r3),eF (.slice (some ⟨F,f2,none⟩) m q2),eF (.int .i64 (k:Nat)),eF (.pointer (some ⟨F,f2+k,none⟩)),eF (.slice s1 s2 s3),eF (.bool true),eF (.bool false),eF (.bool false),eF undef,eF undef,eF undef,eF undef,eF undef,eF undef,eF undef,eF (.bool false)] (by kernel_rfl) (by kernel_rfl) (by kernel_rfl) (kE (kE (kE (kE (kE (kE (kE (kE (kE (kE (kE (kE (kE (kE (kE (kE (kE (kE (kE Ae))))))))))))))))))) ?_ ?_
      ·refine gQ ?_ (gQ ?_ (gQ ?_ (gQ ?_ (gQ ?_ (gQ ?_ (gQ ?_ (gQ ?_ (gB ?_ (gQ ?_ (gQ ?_ (fO rfl rfl rfl rfl rfl rfl (fun _ _ l=>l.1) rfl (fO rfl rfl rfl rfl rfl rfl (fun _ _ l=>l.1) rfl (fO rfl rfl rfl rfl rfl rfl (fun _ _ l=>l.1) rfl (fO rfl rfl rfl rfl rfl rfl (fun _ _ l=>l.2.2.1) rfl (fO rfl rfl rfl rfl rfl rfl (fun _ _ l=>l.2.1) rfl (fO rfl rfl rfl rfl rfl rfl (fun _ _ l=>l.2.1) rfl (fO rfl rfl rfl rfl rfl rfl (fun _ _ l=>l.2.2.2.1) rfl (gQ ?_ .nil))))))))))))))))));all_goals
        intro a T d G l;refine⟨rfl,?_⟩;intro K Q;try have P0:a.tmps[0]?.getD undef=.slice (some ⟨J,N,none⟩) n q1:=G 0 (by kernel_rfl)
        try have P1:a.tmps[1]?.getD undef=.slice (some ⟨F,f2,none⟩) m q2:=G 1 (by kernel_rfl)
        try have P5:a.tmps[5]?.getD undef=.int .i64 (i:Nat):=G 5 (by kernel_rfl)
        try have P7:a.tmps[7]?.getD undef=.int .i64 (k:Nat):=G 7 (by kernel_rfl)
        try have E0:=eqn l.1
        try have E1:=eqn l.2.1
        try have D0:=(d.cell (p:=⟨J,N+i,none⟩) aG).trans aI
        try have D1:=(d.cell (p:=⟨F,f2+k,none⟩) aL).trans aE
        try(refine Hd ?_;go_simp;exact Q _ rfl)
       ·go_simp;refine(aB.out T d).mono ?_;rintro e w2 ⟨rfl,n9,rfl⟩;exact Q _ _ rfl (Ab bR _)
      ·rintro f w9 g o;have g:Below wr.heap.size wr w9:=g;have E:f 43=.bool false:=o.2.2.2.2.2.2.2.2.2.2.2.2.2.2.2.2.2.2.1;clear o;simp only[Aj,Aq,Dr,cZ,dA,dB,dC,Nat.reduceBEq,Nat.reduceAdd,dD,dE,cond_true,cond_false];rw[E];clear E;have S:=Hd (P.out.trans (g.mono P.out.size));have aK:=Hd (HH.out.below g lR);clear g;go_wp2_with fail;go_roundg (gk-1);case measure=>have:=HK.out;omega
       case rel=>
        refine⟨k+1,by have:=HK.out;omega,by go_num,aK.out,S.out,fun j hj=> ?_⟩
        by_cases e:j=k
        ·rw[e];exact C.out
        ·exact aJ.out j (by omega)
     |false=>
      have aB:=Hd (S1 false hsb);cases z:decide (shaF X=shaF Y)with
      |true=>
       have aH:=Hd (S2 true z);have C:=Hd (HY.out i k hlt hlk (by rw[←HX.out,←hY];unfold Zbm;rw[hsb,z];rfl));clear S1 S2 hk hh s U aA I O V hY;clear hsb z;go_wp2_with fail;refine Cb [eF (.slice (some ⟨J,N,none⟩) n q1),eF (.int .i64 (i:Nat)),eF (.pointer (some ⟨J,N+i,none⟩)),eF (.slice r1 r2 r3),eF (.slice (some ⟨F,f2,none⟩) m q2),eF (.int .i64 (k:Nat)),eF (.pointer (some ⟨F,f2+k,none⟩)),eF (.slice s1 s2 s3),eF (.bool false),eF (.bool true),eF (.bool true),eF (.slice h1 h2 h3),eF (.slice (some ⟨F,f2,none⟩) m q2),eF (.int .i64 (k:Nat)),eF (.pointer (some ⟨F,f2+k,none⟩)),eF (.slice s1 s2 s3),fun v w'=>Own w' wr.heap.size 5 v (bvs (shaF Y)),eF (.bool true),eF (.bool true)] (by kernel_rfl) (by kernel_rfl) (by kernel_rfl) (kE (kE (kE (kE (kE (kE (kE (kE (kE (kE (kE (kE (kE (kE (kE (kE (Ah (fun v x y h _ hs=>Own.below h hs lR) (kE (kE Ae))))))))))))))))))) ?_ ?_
       ·refine gQ ?_ (gQ ?_ (gQ ?_ (gQ ?_ (gQ ?_ (gQ ?_ (gQ ?_ (gQ ?_ (gB ?_ (gQ ?_ (gQ ?_ (gQ ?_ (gQ ?_ (gQ ?_ (gQ ?_ (gQ ?_ (gB ?_ (gB ?_ (gQ ?_ .nil))))))))))))))))));all_goals
         intro a T d G l;refine⟨by first|rfl|exact Ag rfl rfl rfl l.1|exact Ag rfl rfl rfl l.2.1|exact Ag rfl rfl rfl l.2.2.1|exact Ag rfl rfl rfl l.2.2.2.1,?_⟩;intro K Q;try have P0:a.tmps[0]?.getD undef=.slice (some ⟨J,N,none⟩) n q1:=G 0 (by kernel_rfl)
         try have P1:a.tmps[1]?.getD undef=.slice (some ⟨F,f2,none⟩) m q2:=G 1 (by kernel_rfl)
         try have P5:a.tmps[5]?.getD undef=.int .i64 (i:Nat):=G 5 (by kernel_rfl)
         try have P6:a.tmps[6]?.getD undef=.slice h1 h2 h3:=G 6 (by kernel_rfl)
         try have P7:a.tmps[7]?.getD undef=.int .i64 (k:Nat):=G 7 (by kernel_rfl)
         try have E0:=eqn l.1
         try have E1:=eqn l.2.1
         try have D0:=(d.cell (p:=⟨J,N+i,none⟩) aG).trans aI
         try have D1:=(d.cell (p:=⟨F,f2+k,none⟩) aL).trans aE
         try(refine Hd ?_;go_simp;exact Q _ rfl)
        ·go_simp;refine(aB.out T d).mono ?_;rintro e w2 ⟨rfl,n9,rfl⟩;exact Q _ _ rfl (Ab bR _)
        ·go_simp;refine(aS.out T d).mono ?_;rintro e w2 ⟨v9,rfl,r,H⟩;exact Q _ _ (r.mono d.size) H
        ·have o1:Own T wr.heap.size 5 (a.tmps[41]?.getD undef) (bvs (shaF Y)):=l.2.1;obtain⟨v1,L⟩:=eX (a.tmps[41]?.getD undef);rw[←L]at o1;have e1:=L.symm;clear L;go_simp;refine(aH.out T d v1 o1.rd).mono ?_;rintro e w2 ⟨rfl,n9,rfl⟩;exact Q _ _ rfl (Ab bR _)
       ·rintro f w9 g o;have g:Below wr.heap.size wr w9:=g;have E:f 43=.bool true:=o.2.2.2.2.2.2.2.2.2.2.2.2.2.2.2.2.2.2.1;clear o;simp only[Aj,Aq,Dr,cZ,dA,dB,dC,Nat.reduceBEq,Nat.reduceAdd,dD,dE,cond_true,cond_false];rw[E];clear E;have S:=Hd (P.out.trans (g.mono P.out.size));clear g;go_wp2_with fail;go_ret;exact⟨Dh C.out,t.out.trans (S.out.mono t.out.size)⟩
      |false=>
       have aH:=Hd (S2 false z);have C:=Hd (show Zbm X (B.getD k [])=false by rw[←hY];unfold Zbm;rw[hsb,z];rfl);clear S1 S2 hk hh s U aA I O V hY;clear hsb z;go_wp2_with fail;refine Cb [eF (.slice (some ⟨J,N,none⟩) n q1),eF (.int .i64 (i:Nat)),eF (.pointer (some ⟨J,N+i,none⟩)),eF (.slice r1 r2 r3),eF (.slice (some ⟨F,f2,none⟩) m q2),eF (.int .i64 (k:Nat)),eF (.pointer (some ⟨F,f2+k,none⟩)),eF (.slice s1 s2 s3),eF (.bool false),eF (.bool true),eF (.bool true),eF (.slice h1 h2 h3),eF (.slice (some ⟨F,f2,none⟩) m q2),eF (.int .i64 (k:Nat)),eF (.pointer (some ⟨F,f2+k,none⟩)),eF (.slice s1 s2 s3),fun v w'=>Own w' wr.heap.size 5 v (bvs (shaF Y)),eF (.bool false),eF (.bool false)] (by kernel_rfl) (by kernel_rfl) (by kernel_rfl) (kE (kE (kE (kE (kE (kE (kE (kE (kE (kE (kE (kE (kE (kE (kE (kE (Ah (fun v x y h _ hs=>Own.below h hs lR) (kE (kE Ae))))))))))))))))))) ?_ ?_
       ·refine gQ ?_ (gQ ?_ (gQ ?_ (gQ ?_ (gQ ?_ (gQ ?_ (gQ ?_ (gQ ?_ (gB ?_ (gQ ?_ (gQ ?_ (gQ ?_ (gQ ?_ (gQ ?_ (gQ ?_ (gQ ?_ (gB ?_ (gB ?_ (gQ ?_ .nil))))))))))))))))));all_goals
         intro a T d G l;refine⟨by first|rfl|exact Ag rfl rfl rfl l.1|exact Ag rfl rfl rfl l.2.1|exact Ag rfl rfl rfl l.2.2.1|exact Ag rfl rfl rfl l.2.2.2.1,?_⟩;intro K Q;try have P0:a.tmps[0]?.getD undef=.slice (some ⟨J,N,none⟩) n q1:=G 0 (by kernel_rfl)
         try have P1:a.tmps[1]?.getD undef=.slice (some ⟨F,f2,none⟩) m q2:=G 1 (by kernel_rfl)
         try have P5:a.tmps[5]?.getD undef=.int .i64 (i:Nat):=G 5 (by kernel_rfl)
         try have P6:a.tmps[6]?.getD undef=.slice h1 h2 h3:=G 6 (by kernel_rfl)
         try have P7:a.tmps[7]?.getD undef=.int .i64 (k:Nat):=G 7 (by kernel_rfl)
         try have E0:=eqn l.1
         try have E1:=eqn l.2.1
         try have D0:=(d.cell (p:=⟨J,N+i,none⟩) aG).trans aI
         try have D1:=(d.cell (p:=⟨F,f2+k,none⟩) aL).trans aE
         try(refine Hd ?_;go_simp;exact Q _ rfl)
        ·go_simp;refine(aB.out T d).mono ?_;rintro e w2 ⟨rfl,n9,rfl⟩;exact Q _ _ rfl (Ab bR _)
        ·go_simp;refine(aS.out T d).mono ?_;rintro e w2 ⟨v9,rfl,r,H⟩;exact Q _ _ (r.mono d.size) H
        ·have o1:Own T wr.heap.size 5 (a.tmps[41]?.getD undef) (bvs (shaF Y)):=l.2.1;obtain⟨v1,L⟩:=eX (a.tmps[41]?.getD undef);rw[←L]at o1;have e1:=L.symm;clear L;go_simp;refine(aH.out T d v1 o1.rd).mono ?_;rintro e w2 ⟨rfl,n9,rfl⟩;exact Q _ _ rfl (Ab bR _)
       ·rintro f w9 g o;have g:Below wr.heap.size wr w9:=g;have E:f 43=.bool false:=o.2.2.2.2.2.2.2.2.2.2.2.2.2.2.2.2.2.2.1;clear o;simp only[Aj,Aq,Dr,cZ,dA,dB,dC,Nat.reduceBEq,Nat.reduceAdd,dD,dE,cond_true,cond_false];rw[E];clear E;have S:=Hd (P.out.trans (g.mono P.out.size));have aK:=Hd (HH.out.below g lR);clear g;go_wp2_with fail;go_roundg (gk-1);case measure=>have:=HK.out;omega
        case rel=>
         refine⟨k+1,by have:=HK.out;omega,by go_num,aK.out,S.out,fun j hj=> ?_⟩
         by_cases e:j=k
         ·rw[e];exact C.out
         ·exact aJ.out j (by omega)
    ·obtain rfl:k=m:=(by omega);have aR:decide (k<k)=false:=decide_eq_false hlk;have aW:=Hd (t.out.trans (s.mono t.out.size));clear hk hh s U hlk;go_wp2_with fail;go_roundg (go-1);case measure=>have:=HI.out;omega
     case rel=>
      refine⟨i+1,by have:=HI.out;omega,by go_num,aW.out,fun j hj k2 aP=> ?_⟩
      by_cases e:j=i
      ·rw[e,←HX.out];exact aJ.out k2 aP
      ·exact aQ.out j (by omega) k2 aP
  ·obtain rfl:i=n:=(by omega);have aO:decide (i<i)=false:=decide_eq_false hlt;have HF:=Hd (aX.out M);clear hi hb M hlt;go_wp2_with fail;go_ret;exact⟨Dh HF.out,t.out⟩
end Go.Proofs.YtfofaiommeckbaaGreat
