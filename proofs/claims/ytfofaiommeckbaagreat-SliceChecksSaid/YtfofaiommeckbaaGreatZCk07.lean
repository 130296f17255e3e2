import Derived.Test.YtfofaiommeckbaaGreatZCk06
open Go.Obj renaming cells -> rJ
open Go.Ending renaming returned -> rK
open Go.Value renaming slice -> rC, int -> rD, pointer -> rE
open Go.IntKind renaming u8 -> rG
open Option renaming none -> rI
open Go.Proofs.Tryz
open Nat renaming add_sub_cancel -> dQ, zero_le -> aA, lt_succ_self -> dU
open List renaming getElem?_toArray -> cR, getElem?_cons_zero -> cS, getElem?_cons_succ -> aP, eq_nil_of_length_eq_zero -> cN, length_nil -> cO, length_append -> bA, length_cons -> dB, filterMap_cons -> dG, filterMap_nil -> dH, contains_cons -> dJ, contains_nil -> dK, getD_eq_getElem?_getD -> aS, getElem?_eq_getElem -> bB
open Array renaming size_push -> dS
open Bool renaming false_eq_true -> dV, or_false -> dM, or_true -> dO
set_option linter.unusedVariables false
set_option maxRecDepth 100000
set_option maxHeartbeats 40000000
namespace Go.Proofs.YtfofaiommeckbaaGreat
open Go.RowKit WireM
theorem Zau {L:List Int} {r:Nat}(h:Np L r):∀i,i<r->0<=L.getD i 0:=by
 intro i
 induction i with
 |zero=>intro hi;have:=h 0 hi;unfold Hm at this;rw[iP rfl]at this;omega
 |succ i ih=>
  intro hi;have h1:=ih (by omega);have:=h (i+1) hi;unfold Hm at this;rw[iN (by omega),dQ]at this;omega
theorem Gz (F G B:Option Addr)(n1 a c1 c2 c3:Nat)(L:List Int)(w:World)(P:Rd w (.slice B L.length c3) (ivs .i64 L)):
  Calls prog 141 #[.agg #[rC F n1 c1,rC G a c2,.slice B L.length c3]] w fun e w'=>e=rK (.bool (rpB n1 a L))/\Below w.heap.size w w':=by
 have I:=Nr P;have j:=fun r (h:r<L.length)=>P.get (r:=r) (show(ivs .i64 L)[r]? =some (rD .i64 (L.getD r 0)) by simp[ivs,h]);obtain⟨k,hk⟩:=eX L.length;rw[<-hk]at I j|-;have g:=Blk.new w 50 #[rC F n1 c1,rC G a c2,rC B k c3];have z:=(Below.refl w.heap.size w).alloc lR (rJ #[rC F n1 c1,rC G a c2,rC B k c3] 50);obtain⟨W1,v⟩:=eX (w.alloc (rJ #[rC F n1 c1,rC G a c2,rC B k c3] 50));rw[<-v]at g z;have Z:=g.cell 0;have y1:=g.cell 1;have y2:=g.cell 2;simp only[cR,cS,aP]at Z y1 y2;have HG:=Hd j;have HK:=Hd hk;have S:=Hd z;have T:=Hd v;have U:=Hd Z;have V:=Hd y1;have W:=Hd y2;clear j hk P g z v Z y1 y2;go_in;go_wp2_with fail;rw[<-T.out]
 go_loopg [3] k (fun q i wr=>∃r:Nat,r+q=k/\i=rD .i64 (r:Int)/\Np L r/\∃m,wr=W1.drewN m)
 case atStart=>exact⟨0,by omega,rfl,fun i h=>absurd h (by omega),0,rfl⟩
 case round=>
  obtain⟨r,P,rfl,J,m,hm⟩:=hrel;have n:=Hd J;have A:=Hd hm;have z0:wr.cell? ⟨w.heap.size,0,rI⟩=some (rC F n1 c1):=(by rw[A.out];exact U.out);have z1:wr.cell? ⟨w.heap.size,1,rI⟩=some (rC G a c2):=(by rw[A.out];exact V.out);have z2:wr.cell? ⟨w.heap.size,2,rI⟩=some (rC B k c3):=(by rw[A.out];exact W.out);have c:Hid (Below w.heap.size w wr):=Hd (by rw[A.out];exact Ab S.out m);clear J hm
  by_cases hrk:r<k
  ·obtain⟨b,o,rfl,hb,c0⟩:=HG.out r hrk;have C:wr.cell? ⟨b,o+r,rI⟩=some (rD .i64 (L.getD r 0)):=(c.out.cell (p:=⟨b,o+r,rI⟩) hb).trans c0;have hF:= @Nq L r (by have:=HK.out;omega);have l:=Zau n.out;have d:decide ((r:Int)<(k:Int))=true:=(by rw[dI];omega);have aA:decide (r<k)=true:=(by rw[dI];omega);have Q:=Hd hF;have E:=Hd l;clear hF l c0
   by_cases k1:L.getD r 0<0
   ·have f:Hid (Lb L=false):=Hd (Q.out (by
     intro h;rcases Nat.eq_zero_or_pos r with h0|h0
     ·subst h0;unfold Hm at h;rw[iP rfl]at h;omega
     ·have:=E.out (r-1) (by omega);unfold Hm at h;rw[iN (by omega)]at h;omega))
    obtain⟨x,hx⟩:=eX (L.getD r 0);rw[<-hx]at C k1;have D:decide (x<0)=true:=dT k1;clear hx k1;go_wp2_with fail
    go_quiet (fail)
    go_wp2_with fail;go_ret;exact⟨by rw[rpB,f.out];rfl,Ab c.out _⟩
   ·by_cases k2:65535<L.getD r 0
    ·have f:Hid (Lb L=false):=Hd (Q.out (by intro h;omega));obtain⟨x,hx⟩:=eX (L.getD r 0);rw[<-hx]at C k1 k2;have D:decide (x<0)=false:=dF k1;have M:decide (65535<x)=true:=dT k2;clear hx k1 k2;go_wp2_with fail
     go_quiet (fail)
     go_wp2_with fail;go_ret;exact⟨by rw[rpB,f.out];rfl,Ab c.out _⟩
    ·cases r with
     |zero=>
      have R:Hid (Np L 1):=Hd (by
       intro i hi;obtain rfl:i=0:=(by omega);unfold Hm;rw[iP rfl];omega)
      obtain⟨x,hx⟩:=eX (L.getD 0 0);rw[<-hx]at C k1 k2;have D:decide (x<0)=false:=dF k1;have M:decide (65535<x)=false:=dF k2;have u:((0:Nat):Int)=0:=rfl;rw[Nat.add_zero]at C;simp only[u]at d|-;clear hx k1 k2 u;go_wp2_with fail
      go_quiet (fail)
      go_wp2_with fail;go_roundg (gk-1);case measure=>omega
      case rel=>exact⟨1,by omega,rfl,R.out,_,by rw[A.out,World.drewN_drewN]⟩
     |succ t=>
      obtain⟨b',o',H,X,s⟩:=HG.out t (by omega);simp only[Option.some.injEq,Addr.mk.injEq,and_true]at H;obtain⟨rfl,rfl⟩:=H;have e1:wr.cell? ⟨b,o+t,rI⟩=some (rD .i64 (L.getD t 0)):=(c.out.cell (p:=⟨b,o+t,rI⟩) X).trans s;have O:Hm L (t+1)=L.getD t 0:=(by unfold Hm;rw[iN (by omega),dQ]);have u:((t+1:Nat):Int)=(t:Int)+1:=rfl
      by_cases k3:L.getD (t+1) 0<=L.getD t 0
      ·have f:Hid (Lb L=false):=Hd (Q.out (by rw[O];intro h;omega));obtain⟨x,hx⟩:=eX (L.getD (t+1) 0);obtain⟨y,K⟩:=eX (L.getD t 0);rw[<-hx]at C k1 k2 k3;rw[<-K]at e1 k3;have D:decide (x<0)=false:=dF k1;have M:decide (65535<x)=false:=dF k2;have Y:decide (x<=y)=true:=dT k3;have t4:decide (0<(t:Int)+1)=true:=(by rw[dI];omega);simp only[u]at d|-;clear hx K k1 k2 k3 O s u;go_wp2_with fail
       go_quiet (fail)
       go_wp2_with fail;go_ret;exact⟨by rw[rpB,f.out];rfl,Ab c.out _⟩
      ·have R:Hid (Np L (t+1+1)):=Hd (by
        intro i hi;rcases Nat.lt_or_ge i (t+1)with h|h
        ·exact n.out i h
        ·obtain rfl:i=t+1:=(by omega);rw[O];omega)
       obtain⟨x,hx⟩:=eX (L.getD (t+1) 0);obtain⟨y,K⟩:=eX (L.getD t 0);rw[<-hx]at C k1 k2 k3;rw[<-K]at e1 k3;have D:decide (x<0)=false:=dF k1;have M:decide (65535<x)=false:=dF k2;have Y:decide (x<=y)=false:=dF k3;have t4:decide (0<(t:Int)+1)=true:=(by rw[dI];omega);simp only[u]at d|-;clear hx K k1 k2 k3 O s u;go_wp2_with fail
       go_quiet (fail)
       go_wp2_with fail;go_roundg (gk-1);case measure=>omega
       case rel=>exact⟨t+1+1,by omega,by go_num,R.out,_,by rw[A.out,World.drewN_drewN]⟩
  ·obtain rfl:r=k:=(by omega);have d:decide ((r:Int)<(r:Int))=false:=(by rw[dN];omega);have hl:Lb L=true:=(by rw[Hn,<-HK.out];exact n.out);have hB:rpB n1 a L=decide (n1=32/\(a=0\/a=32)):=(by rw[rpB,hl,Bool.true_and]);have N:=Hd hB;clear hl hB
   by_cases k1:n1=32
   ·have D:((n1:Int)==32)=true:=by rw[beq_iff_eq];omega
    by_cases k2:a=0
    ·have M:((a:Int)==0)=true:=(by rw[beq_iff_eq];omega);have f:=Hd (dT (show n1=32/\(a=0\/a=32)from⟨k1,.inl k2⟩));clear k1 k2;go_wp2_with fail;go_ret;exact⟨Ae (N.out.trans f.out).symm,c.out⟩
    ·have M:((a:Int)==0)=false:=by rw[qN];omega
     by_cases k3:a=32
     ·have Y:((a:Int)==32)=true:=(by rw[beq_iff_eq];omega);have f:=Hd (dT (show n1=32/\(a=0\/a=32)from⟨k1,.inr k3⟩));clear k1 k2 k3;go_wp2_with fail;go_ret;exact⟨Ae (N.out.trans f.out).symm,c.out⟩
     ·have Y:((a:Int)==32)=false:=(by rw[qN];omega);have f:=Hd (dF (show¬(n1=32/\(a=0\/a=32)) by omega));clear k1 k2 k3;go_wp2_with fail;go_ret;exact⟨Ae (N.out.trans f.out).symm,c.out⟩
   ·have D:((n1:Int)==32)=false:=(by rw[qN];omega);have f:=Hd (dF (show¬(n1=32/\(a=0\/a=32)) by omega));clear k1;go_wp2_with fail;go_ret;exact⟨Ae (N.out.trans f.out).symm,c.out⟩
theorem Below.draw1 {B:Nat} {a w:World}(h:Below B a w):Below B a w.drew:=Ab h 1
def noLeafD:LeafD:=⟨[],[],[],0,[],[]⟩
def noParD:ParD:=⟨[],[],[]⟩
def Am:NodeD:=⟨0,noLeafD,noParD⟩
theorem Fj (w:World):Rd w (rC rI 0 0) (bvs []):=⟨none,0,rfl,lR,aA _,.inl ⟨rfl,fun _=>rfl⟩⟩
theorem Rp (w:World):Rd w (rC rI 0 0) (ivs .i64 []):=⟨none,0,rfl,lR,aA _,.inl ⟨rfl,fun _=>rfl⟩⟩
theorem Mw (w:World):NodeC w Am #[rD rG 0,rC rI 0 0,rC rI 0 0,rC rI 0 0,rD rG 0,rC rI 0 0,rC rI 0 0,rC rI 0 0,rC rI 0 0,rC rI 0 0]:=
 ⟨none,0,none,0,none,0,none,0,none,0,none,0,none,0,none,0,rfl,Fj w,Fj w,Fj w,Fj w,Fj w,Fj w,Fj w,Rp w⟩
theorem Kf:NodeOk Am:=by constructor<;>simp[Am,noLeafD,noParD]
theorem Zg1 (d:LeafD):Ek ⟨0,d,noParD⟩ Am=nlB d.box.length d.sign.length d.ident.length d.source d.par.length d.sig.length:=by
 rw[Ek,nlB];apply decide_eq_decide.2;have e:Kb d noLeafD=true↔(d.box=[]/\d.sign=[]/\d.ident=[]/\d.source=0/\d.par=[]/\d.sig=[]):=by
  unfold Kb;rw[dI];exact Iff.rfl
 constructor
 ·rintro⟨_,h,_⟩;obtain⟨h1,h2,h3,a,b,c⟩:=e.1 h;rw[h1,h2,h3,a,b,c];exact⟨rfl,rfl⟩
 ·rintro⟨h1,h2⟩;exact⟨rfl,e.2 ⟨cN (by omega),cN (by omega),cN (by omega),h1,cN (by omega),cN (by omega)⟩,rfl,rfl,rfl⟩
theorem Zg2 (p:ParD):Ek ⟨0,noLeafD,p⟩ Am=npB p.box.length p.hash.length p.late.length:=by
 rw[Ek,npB];apply decide_eq_decide.2;have d:Kb noLeafD noLeafD=true:=(by decide);constructor
 ·rintro⟨_,_,h1,h2,h3⟩;have a:p.box=[]:=h1;have b:p.hash=[]:=h2;have c:p.late=[]:=h3;rw[a,b,c]
  rfl
 ·intro h;have i:p.box.length+p.hash.length+p.late.length=0:=h;have e:p.box=[]:=cN (by omega);have f:p.hash=[]:=cN (by omega);have g:p.late=[]:=cN (by omega);exact⟨rfl,d,e,f,g⟩
theorem Zkb {W w1:World}(hb:Below W.heap.size W w1):∀b o,b<W.heap.size->w1.cell? ⟨b,o,rI⟩=W.cell? ⟨b,o,rI⟩:=fun b o h=>hb.cell (p:=⟨b,o,rI⟩) h
theorem Zav (d:NodeD)(c:Array Value)(w:World)(h:NodeC w d c)(hk:NodeOk d):
  Calls prog 82 #[.agg c] w fun e w'=>e=rK (.bool (At d))/\Below w.heap.size w w':=by
 obtain⟨P,c1,Q,c2,R,c3,S,c4,T,c5,b1,e1,U,e2,V,e3,rfl,h1,h2,h3,X,Y,Z,h7,O⟩:=h;have j:=fun W (m:Below w.heap.size w W)=>Gq ⟨0,d.leaf,noParD⟩ Am _ _ W ⟨P,c1,Q,c2,R,c3,S,c4,T,c5,none,0,none,0,none,0,rfl,h1.below m lR,h2.below m lR,h3.below m lR,X.below m lR,Y.below m lR,Fj W,Fj W,Rp W⟩
  (Mw W) ⟨by simp,hk.source,hk.box,hk.sign,hk.ident,hk.par,hk.sig,by simp[noParD],by simp[noParD],by simp[noParD]⟩ Kf
 have k:=fun W (m:Below w.heap.size w W)=>Gq ⟨0,noLeafD,d.par⟩ Am _ _ W ⟨none,0,none,0,none,0,none,0,none,0,b1,e1,U,e2,V,e3,rfl,Fj W,Fj W,Fj W,Fj W,Fj W,Z.below m lR,h7.below m lR,O.below m lR⟩
  (Mw W) ⟨by simp,by simp[noLeafD],by simp[noLeafD],by simp[noLeafD],by simp[noLeafD],by simp[noLeafD],by simp[noLeafD],hk.pbox,hk.hash,hk.late⟩ Kf
 simp only[Zg1]at j;simp only[Zg2]at k;have K:=fun W=>Iy P Q R S T d.leaf.box.length d.leaf.sign.length d.leaf.ident.length d.leaf.par.length d.leaf.sig.length c1 c2 c3 c4 c5 d.leaf.source W;have L:=fun W (m:Below w.heap.size w W)=>Gz b1 U V d.par.box.length d.par.hash.length e1 e2 e3 d.par.late W (O.below m lR);have hB:At d=(if d.kind=0 then nlB d.leaf.box.length d.leaf.sign.length d.leaf.ident.length d.leaf.source d.leaf.par.length d.leaf.sig.length&&npB d.par.box.length d.par.hash.length d.par.late.length
  else if d.kind=1 then rlB d.leaf.box.length d.leaf.sign.length d.leaf.ident.length d.leaf.source d.leaf.par.length d.leaf.sig.length&&npB d.par.box.length d.par.hash.length d.par.late.length
  else if d.kind=2 then nlB d.leaf.box.length d.leaf.sign.length d.leaf.ident.length d.leaf.source d.leaf.par.length d.leaf.sig.length&&rpB d.par.box.length d.par.hash.length d.par.late else false):=rfl
 rw[hB];simp only[show noLeafD.box=[]from rfl,show noLeafD.sign=[]from rfl,show noLeafD.ident=[]from rfl,show noLeafD.source=0 from rfl,show noLeafD.par=[]from rfl,show noLeafD.sig=[]from rfl,show noParD.box=[]from rfl,show noParD.hash=[]from rfl,show noParD.late=[]from rfl,cO]at j k;obtain⟨m1,o⟩:=eX d.leaf.box.length;obtain⟨m2,p⟩:=eX d.leaf.sign.length;obtain⟨m3,q⟩:=eX d.leaf.ident.length;obtain⟨m4,r⟩:=eX d.leaf.par.length;obtain⟨m5,s⟩:=eX d.leaf.sig.length;obtain⟨m6,t⟩:=eX d.par.box.length;obtain⟨m7,u⟩:=eX d.par.hash.length;obtain⟨m8,v⟩:=eX d.par.late.length;obtain⟨J,g⟩:=eX d.leaf.source;obtain⟨z,E⟩:=eX d.kind;rw[<-o,<-p,<-q,<-r,<-s,<-g]at K;rw[<-t,<-u,<-v]at L;rw[<-o,<-p,<-q,<-r,<-s,<-g]at j;rw[<-t,<-u,<-v]at k;rw[<-o,<-p,<-q,<-r,<-s,<-t,<-u,<-v,<-g,<-E];obtain⟨rl,H⟩:=eX (rlB m1 m2 m3 J m4 m5);obtain⟨nl,F⟩:=eX (nlB m1 m2 m3 J m4 m5);obtain⟨np,G⟩:=eX (npB m6 m7 m8);obtain⟨rp,I⟩:=eX (rpB m6 m7 d.par.late);rw[<-H]at K|-;rw[<-F]at j|-;rw[<-G]at k|-;rw[<-I]at L|-;have x:=Hd j;have y:=Hd k;have M:=Hd K;have N:=Hd L;clear j k K L hB h1 h2 h3 X Y Z h7 O o p q r s t u v g E H F G I hk
 by_cases k0:z=0
 ·subst k0;rw[iP rfl];go_in;go_wp2_with fail
  go_region
  all_goals
   go_wp2_with fail;refine(x.out _ (by repeat any_goals(first|exact bR|exact lR|refine Below.alloc ?_ ?_ _|refine Below.draw1 ?_|refine Below.setCell ?_ ?_ _|(simp;done)|(simp;omega)))).mono ?_;rintro e i ⟨rfl,a⟩;have A:=Zkb a;have n:=a.size;have b:Hid (Below w.heap.size w i):=Hd (Below.trans (by repeat any_goals(first|exact bR|exact lR|refine Below.alloc ?_ ?_ _|refine Below.draw1 ?_|refine Below.setCell ?_ ?_ _|(simp;done)|(simp;omega))) (a.mono (by simp;omega)));clear a;simp only[World.alloc,World.drew,dS]at n;cases nl with
   |true=>
    have B:w.heap.size<i.heap.size:=(by omega);have C:w.heap.size+1<i.heap.size:=(by omega);have D:w.heap.size+1+1<i.heap.size:=(by omega);go_wp2_with fail;refine(y.out _ b.out).mono ?_;rintro e w4 ⟨rfl,f⟩;have l:=Hd (b.out.trans (f.mono (by omega)));clear f;go_wp2_with fail;go_ret;exact⟨rfl,l.out⟩
   |false=>
    go_wp2_with fail;go_ret;exact⟨rfl,b.out⟩
 ·by_cases k1:z=1
  ·subst k1;rw[iN (by omega),iP rfl];go_in;go_wp2_with fail
   go_region
   all_goals
    go_wp2_with fail;refine(M.out _).mono ?_;rintro e i ⟨rfl,a⟩;have A:=Zkb a;have n:=a.size;have b:Hid (Below w.heap.size w i):=Hd (Below.trans (by repeat any_goals(first|exact bR|exact lR|refine Below.alloc ?_ ?_ _|refine Below.draw1 ?_|refine Below.setCell ?_ ?_ _|(simp;done)|(simp;omega))) (a.mono (by simp;omega)));clear a;simp only[World.alloc,World.drew,dS]at n;cases rl with
    |true=>
     have B:w.heap.size<i.heap.size:=(by omega);have C:w.heap.size+1<i.heap.size:=(by omega);have D:w.heap.size+1+1<i.heap.size:=(by omega);go_wp2_with fail;refine(y.out _ b.out).mono ?_;rintro e w4 ⟨rfl,f⟩;have l:=Hd (b.out.trans (f.mono (by omega)));clear f;go_wp2_with fail;go_ret;exact⟨rfl,l.out⟩
    |false=>
     go_wp2_with fail;go_ret;exact⟨rfl,b.out⟩
  ·by_cases k2:z=2
   ·subst k2;rw[iN (by omega),iN (by omega),iP rfl,Bool.and_comm];go_in;go_wp2_with fail
    go_region
    all_goals
     go_wp2_with fail;refine(N.out _ (by repeat any_goals(first|exact bR|exact lR|refine Below.alloc ?_ ?_ _|refine Below.draw1 ?_|refine Below.setCell ?_ ?_ _|(simp;done)|(simp;omega)))).mono ?_;rintro e i ⟨rfl,a⟩;have A:=Zkb a;have n:=a.size;have b:Hid (Below w.heap.size w i):=Hd (Below.trans (by repeat any_goals(first|exact bR|exact lR|refine Below.alloc ?_ ?_ _|refine Below.draw1 ?_|refine Below.setCell ?_ ?_ _|(simp;done)|(simp;omega))) (a.mono (by simp;omega)));clear a;simp only[World.alloc,World.drew,dS]at n;cases rp with
     |true=>
      have B:w.heap.size<i.heap.size:=(by omega);have C:w.heap.size+1<i.heap.size:=(by omega);have D:w.heap.size+1+1<i.heap.size:=(by omega);go_wp2_with fail;refine(x.out _ b.out).mono ?_;rintro e w4 ⟨rfl,f⟩;have l:=Hd (b.out.trans (f.mono (by omega)));clear f;go_wp2_with fail;go_ret;exact⟨rfl,l.out⟩
     |false=>
      go_wp2_with fail;go_ret;exact⟨rfl,b.out⟩
   ·rw[iN k0,iN k1,iN k2];have t0:((z:Int)==0)=false:=(by rw[qN];omega);have t1:((z:Int)==1)=false:=(by rw[qN];omega);have t2:((z:Int)==2)=false:=(by rw[qN];omega);clear k0 k1 k2;go_in;go_wp2_with fail
    go_region
    all_goals
     go_wp2_with fail;go_ret;exact⟨rfl,(by repeat any_goals(first|exact bR|exact lR|refine Below.alloc ?_ ?_ _|refine Below.draw1 ?_|refine Below.setCell ?_ ?_ _|(simp;done)|(simp;omega)))⟩
def ltF (i:Int)(d:NodeD):List Nat×Nat:=if i<0\/65535<i then([],1)else if At d=false\/d.kind=2 then([],3)else([1]++beN 4 i.toNat++Bz d,0)
def ptF (d:NodeD)(l r:List Nat):List Nat×Nat:=if At d=false\/d.kind=1 then([],3)else if l.length≠32\/r.length≠32 then([],1)else([2]++Bz d++Bf l++Bf r,0)
def Wb (r:List Nat×Nat)(w:World)(e:Ending)(w':World):Prop:=
 Below w.heap.size w w'/\∃v,e=rK (.tuple #[v,rD rG (r.2:Nat)])/\Own w' w.heap.size 5 v (bvs r.1)
theorem Ec (n:Nat)(w w':World)(hb:Below w.heap.size w w'):Wb ([],n) w (rK (.tuple #[rC rI 0 0,rD rG (n:Nat)])) w':=⟨hb,_,rfl,Own.nil _ _ _⟩
theorem Zg3 {d:ParD}(h1:d.box.length<=200)(h2:d.hash.length<=200)(h3:d.late.length<=1000):(Zje d).length<=4800:=by
 have a:=Bi d.box (by omega);have b:=Bi d.hash (by omega);have l:=Ka d.late;have c:=Bi (Cr d.late) (by omega);unfold Zje;rw[bA,bA];omega
theorem Hp {d:NodeD}(c:Cj d=true):(Bz d).length<=6000:=by
 have a:=oD c;have b:Ns d.leaf:=⟨a.1,a.2.1,a.2.2.1,a.2.2.2.1,a.2.2.2.2.1⟩;have h1:=Ms b;have h2:=Bi d.leaf.sig (by have:=b.2.2.2.2;omega);have h3:=Zg3 a.2.2.2.2.2.1 a.2.2.2.2.2.2.1 a.2.2.2.2.2.2.2;have e:=b.2.2.2.2;unfold Bz
 split
 ·rw[dB,bA];omega
 ·split
  ·rw[dB];omega
  ·simp
theorem Pu (d:NodeD)(c:Array Value)(w:World)(h:NodeC w d c)(hk:NodeOk d)(hs:Cj d=true):
  Calls prog 108 #[.agg c] w (Et d w):=by
 cases hr:At d with
 |true=>exact Tp d c w h hk hs hr
 |false=>exact Pt d c w h hs hr
theorem Lu (i:Int)(d:NodeD)(c:Array Value)(w:World)(h:NodeC w d c)(hk:NodeOk d)(hs:Cj d=true):
  Calls prog 149 #[rD .i64 i,.agg c] w (Wb (ltF i d) w):=by
 have f:=Hd (Pu d c _ (h.below ((Below.refl w.heap.size w).alloc lR (.cells c 52)) lR) hk hs);have F:=Hp hs;have hF:ltF i d=if i<0\/65535<i then([],1)else if At d=false\/d.kind=2 then([],3)else([1]++beN 4 i.toNat++Bz d,0):=rfl;obtain⟨Q,c1,R,c2,S,c3,T,c4,U,c5,b1,e1,V,e2,X,e3,rfl,-⟩:=h;obtain⟨Y,G⟩:=eX d.leaf.box.length;obtain⟨Z,H⟩:=eX d.leaf.sign.length;obtain⟨m3,I⟩:=eX d.leaf.ident.length;obtain⟨m4,J⟩:=eX d.leaf.par.length;obtain⟨m5,K⟩:=eX d.leaf.sig.length;obtain⟨m6,M⟩:=eX d.par.box.length;obtain⟨m7,O⟩:=eX d.par.hash.length;obtain⟨m8,P⟩:=eX d.par.late.length;obtain⟨y,v⟩:=eX d.kind;obtain⟨o,q⟩:=eX d.leaf.source;obtain⟨NB,n⟩:=eX (Bz d);obtain⟨rb,x⟩:=eX (At d);rw[<-G,<-H,<-I,<-J,<-K,<-M,<-O,<-P,<-v,<-q]at f|-;unfold Et at f;rw[<-n,<-x]at f;rw[<-n]at F;simp only[<-n,<-x,<-v]at hF;rw[hF];have B:=(Below.refl w.heap.size w).alloc lR (rJ #[rD rG (y:Nat),rC Q Y c1,rC R Z c2,rC S m3 c3,rD rG (o:Nat),rC T m4 c4,rC U m5 c5,rC b1 m6 e1,rC V m7 e2,rC X m8 e3] 52);have A:=Hd B;clear hF hk hs G H I J K M O P v q n x B
 by_cases k0:i<0
 ·rw[iP (.inl k0)];have r:=Hd (Ec 1 w _ A.out);go_in;go_wp2_with fail;go_ret2;exact r.out
 ·by_cases k1:65535<i
  ·rw[iP (.inr k1)];have r:=Hd (Ec 1 w _ A.out);have k2:65536<=i:=(by omega);have k3:0<=i:=(by omega);clear k0 k1;go_in;go_wp2_with fail;go_ret2;exact r.out
  ·rw[iN (by omega)];have k2:i<65536:=(by omega);have k3:0<=i:=(by omega);clear k0 k1;cases rb with
   |false=>
    rw[iP (.inl rfl)];simp only[dV,if_false]at f;go_in;go_wp2_with fail;refine f.out.mono ?_;rintro e z ⟨a,v1,rfl,b⟩;have g:=(Blk.new w 52 _).below a (by simp);have x0:=g.cell 0;simp only[cR,cS]at x0;have m:=a.size;simp only[World.alloc]at m;have E:w.heap.size<z.heap.size:=(by simp at m;omega);have j:=Hd (((Below.refl w.heap.size w).alloc lR (rJ #[rD rG (y:Nat),rC Q Y c1,rC R Z c2,rC S m3 c3,rD rG (o:Nat),rC T m4 c4,rC U m5 c5,rC b1 m6 e1,rC V m7 e2,rC X m8 e3] 52)).trans (a.mono (by simp)));clear g a m;have r:=Hd (Ec 3 w _ j.out);clear b;go_wp2_with fail;go_ret2;exact r.out
   |true=>
    simp only[if_true]at f
    by_cases k4:y=2
    ·have t4:((y:Int)==2)=true:=(by rw[beq_iff_eq];omega);rw[iP (.inr k4)];clear k4;go_in;go_wp2_with fail;refine f.out.mono ?_;rintro e z ⟨a,v1,rfl,b⟩;have g:=(Blk.new w 52 _).below a (by simp);have x0:=g.cell 0;simp only[cR,cS]at x0;have m:=a.size;simp only[World.alloc]at m;have E:w.heap.size<z.heap.size:=(by simp at m;omega);have j:=Hd (((Below.refl w.heap.size w).alloc lR (rJ #[rD rG (y:Nat),rC Q Y c1,rC R Z c2,rC S m3 c3,rD rG (o:Nat),rC T m4 c4,rC U m5 c5,rC b1 m6 e1,rC V m7 e2,rC X m8 e3] 52)).trans (a.mono (by simp)));clear g a m;have r:=Hd (Ec 3 w _ j.out);clear b;go_wp2_with fail;go_ret2;exact r.out
    ·rw[iN (by simp[k4])];have t4:((y:Int)==2)=false:=(by rw[qN];omega);have PN:∀(N:Nat) (W:World),Rd W (rC (some ⟨N,0,rI⟩) 1 1) (bvs [1])->Calls prog 60 #[rC (some ⟨N,0,rI⟩) 1 1,rD .i64 4,rD .u64 i] W fun e w'=>∃v',e=rK v'/\Own w' W.heap.size 5 v' (bvs ([1]++beN 4 i.toNat))/\Below W.heap.size W w':=by
      intro N W hr;have:=Hk (rC (some ⟨N,0,rI⟩) 1 1) [1] 4 i.toNat W hr (by simp) rfl (by omega);rw[Int.toNat_of_nonneg k3]at this;exact this
     have p:=Hd PN;obtain⟨BN,s⟩:=eX (beN 4 i.toNat);have D:BN.length=4:=(by rw[s,beN_len]);rw[<-s]at p|-;have aC:=Hd D;clear k4 PN s D;go_in;go_wp2_with fail;refine f.out.mono ?_;rintro e z ⟨a,v1,rfl,b⟩;have g:=(Blk.new w 52 _).below a (by simp);have x0:=g.cell 0;simp only[cR,cS]at x0;have m:=a.size;simp only[World.alloc]at m;have E:w.heap.size<z.heap.size:=(by simp at m;omega);have j:=Hd (((Below.refl w.heap.size w).alloc lR (rJ #[rD rG (y:Nat),rC Q Y c1,rC R Z c2,rC S m3 c3,rD rG (o:Nat),rC T m4 c4,rC U m5 c5,rC b1 m6 e1,rC V m7 e2,rC X m8 e3] 52)).trans (a.mono (by simp)));clear g a m;have HO:=Hd b;have aG:=Hd (p.out z.heap.size _ (Xz (w:=z) (cs:=#[rD rG 1]) (L:=[1]) rfl rfl (by simp)));clear b;go_wp2_with fail;refine aG.out.mono ?_;rintro e w2 ⟨v2,rfl,k,t⟩;have u:=(j.out.alloc j.out.size (rJ #[rD rG 1] 5)).trans (t.mono (by simp;omega));have aA:=Hd u;have aD:=Hd (((HO.out.alloc (rJ #[rD rG 1] 5)).below t lR).rd);have aE:=Hd (k.mono (show w.heap.size<=_ by simp;omega));have aH:=u.size;clear k t u;go_wp2_with (at_builtin;refine Ak rfl (.tmp 29) (.tmp 30) 28 rfl w.heap.size 5 _ 1 Cq _ _ rfl aE.out _ (bvs NB) rfl aD.out (Ch _) ?c1 ?c2 ?_);case c1=>rw[bvs_len,bvs_len,bA,aC.out];simp only[dB,cO];omega
     case c2=>exact aH
     rintro v3 w3 l-C;have aF:=Hd l;have aB:=Hd (aA.out.trans C);clear l C;go_wp2_with fail;go_ret2;refine⟨aB.out,_,rfl,?_⟩;have:=aF.out;rw[<-Cl]at this;exact this
theorem Iz (d:NodeD)(c:Array Value)(vl vr:Value)(l r:List Nat)(w:World)(h:NodeC w d c)(hk:NodeOk d)(hs:Cj d=true)(Z:Rd w vl (bvs l))(hr:Rd w vr (bvs r)):
  Calls prog 150 #[.agg c,vl,vr] w (Wb (ptF d l r) w):=by
 have i:=Hd (Pu d c _ (h.below ((Below.refl w.heap.size w).alloc lR (.cells c 52)) lR) hk hs);have aA:=Hp hs;have hF:ptF d l r=if At d=false\/d.kind=1 then([],3)else if l.length≠32\/r.length≠32 then([],1)else([2]++Bz d++Bf l++Bf r,0):=rfl;obtain⟨G,c1,H,c2,I,c3,J,c4,K,c5,b1,e1,L,e2,M,e3,rfl,-⟩:=h;obtain⟨N,aB⟩:=eX d.leaf.box.length;obtain⟨O,aC⟩:=eX d.leaf.sign.length;obtain⟨P,aD⟩:=eX d.leaf.ident.length;obtain⟨Q,aE⟩:=eX d.leaf.par.length;obtain⟨R,aF⟩:=eX d.leaf.sig.length;obtain⟨S,aG⟩:=eX d.par.box.length;obtain⟨T,aH⟩:=eX d.par.hash.length;obtain⟨U,aI⟩:=eX d.par.late.length;obtain⟨y,C⟩:=eX d.kind;obtain⟨o,z⟩:=eX d.leaf.source;obtain⟨NB,u⟩:=eX (Bz d);obtain⟨rb,F⟩:=eX (At d);rw[<-aB,<-aC,<-aD,<-aE,<-aF,<-aG,<-aH,<-aI,<-C,<-z]at i|-;unfold Et at i;rw[<-u,<-F]at i;rw[<-u]at aA;simp only[<-u,<-F,<-C]at hF;rw[hF];have V:=(Below.refl w.heap.size w).alloc lR (rJ #[rD rG (y:Nat),rC G N c1,rC H O c2,rC I P c3,rD rG (o:Nat),rC J Q c4,rC K R c5,rC b1 S e1,rC L T e2,rC M U e3] 52);have aT:=Hd V;obtain⟨al,cl,rfl,-⟩:=id Z;obtain⟨ar,cr,rfl,-⟩:=id hr;rw[bvs_len]at Z hr|-;rw[bvs_len];obtain⟨nl,D⟩:=eX l.length;obtain⟨nr,E⟩:=eX r.length;rw[<-D]at Z|-;rw[<-E]at hr|-;have HL:=Hd Z;have HR:=Hd hr;have HN:=Hd (show nl=l.length/\nr=r.length from⟨D,E⟩);clear hF hk hs aB aC aD aE aF aG aH aI C z u F V Z hr D E;cases rb with
 |false=>
  rw[iP (.inl rfl)];simp only[dV,if_false]at i;go_in;go_wp2_with fail;refine i.out.mono ?_;rintro e s ⟨a,v1,rfl,b⟩;have f:=(Blk.new w 52 _).below a (by simp);have x0:=f.cell 0;simp only[cR,cS]at x0;have j:=a.size;simp only[World.alloc]at j;have x:w.heap.size<s.heap.size:=(by simp at j;omega);have g:=Hd (((Below.refl w.heap.size w).alloc lR (rJ #[rD rG (y:Nat),rC G N c1,rC H O c2,rC I P c3,rD rG (o:Nat),rC J Q c4,rC K R c5,rC b1 S e1,rC L T e2,rC M U e3] 52)).trans (a.mono (by simp)));clear f a j;have A:=Hd (Ec 3 w _ g.out);clear b;go_wp2_with fail;go_ret2;exact A.out
 |true=>
  simp only[if_true]at i
  by_cases k4:y=1
  ·have t4:((y:Int)==1)=true:=(by rw[beq_iff_eq];omega);rw[iP (.inr k4)];clear k4;go_in;go_wp2_with fail;refine i.out.mono ?_;rintro e s ⟨a,v1,rfl,b⟩;have f:=(Blk.new w 52 _).below a (by simp);have x0:=f.cell 0;simp only[cR,cS]at x0;have j:=a.size;simp only[World.alloc]at j;have x:w.heap.size<s.heap.size:=(by simp at j;omega);have g:=Hd (((Below.refl w.heap.size w).alloc lR (rJ #[rD rG (y:Nat),rC G N c1,rC H O c2,rC I P c3,rD rG (o:Nat),rC J Q c4,rC K R c5,rC b1 S e1,rC L T e2,rC M U e3] 52)).trans (a.mono (by simp)));clear f a j;have A:=Hd (Ec 3 w _ g.out);clear b;go_wp2_with fail;go_ret2;exact A.out
  ·rw[iN (by simp[k4])];have t4:((y:Int)==1)=false:=(by rw[qN];omega);clear k4
   by_cases k5:nl=32
   ·have t5:((nl:Int) !=32)=false:=by rw[bne_eq_false_iff_eq];omega
    by_cases k6:nr=32
    ·have t6:((nr:Int) !=32)=false:=(by rw[bne_eq_false_iff_eq];omega);rw[iN (by omega)];have t:=Hd (show l.length=32/\r.length=32 from⟨by rw[<-HN.out.1];exact k5,by rw[<-HN.out.2];exact k6⟩);clear k5 k6;go_in;go_wp2_with fail;refine i.out.mono ?_;rintro e s ⟨a,v1,rfl,b⟩;have f:=(Blk.new w 52 _).below a (by simp);have x0:=f.cell 0;simp only[cR,cS]at x0;have j:=a.size;simp only[World.alloc]at j;have x:w.heap.size<s.heap.size:=(by simp at j;omega);have g:=Hd (((Below.refl w.heap.size w).alloc lR (rJ #[rD rG (y:Nat),rC G N c1,rC H O c2,rC I P c3,rD rG (o:Nat),rC J Q c4,rC K R c5,rC b1 S e1,rC L T e2,rC M U e3] 52)).trans (a.mono (by simp)));clear f a j;have HO:=Hd b;have aU:=Hd (HL.out.below g.out lR);have aV:=Hd (HR.out.below g.out lR);have aJ:=g.out.size;clear b;go_wp2_with (at_builtin;refine Ak rfl (.tmp 32) (.tmp 33) 28 rfl w.heap.size 5 _ 1 Cq _ (bvs [2]) rfl (Own.full (w:=s) (B:=w.heap.size) (e:=5) (cs:=#[rD rG 2]) rfl aJ (by unfold maxLen;simp) (n:=1) rfl) _ (bvs NB) rfl (HO.out.rd.alloc _) (Ch _) ?c1 ?c2 ?_);case c1=>rw[bvs_len,bvs_len];simp only[dB,cO];omega
     case c2=>simp;omega
     rintro v3 w3 k-W;rw[<-Cl]at k;have v:=(g.out.alloc aJ (rJ #[rD rG 2] 5)).trans W;have aL:=Hd v;have aS:=v.size;have aP:=Hd (Dk v3 _ _ l w3 k.rd (HL.out.below v lR) (by rw[bA];simp only[dB,cO];omega) (by have:=t.out;omega));clear k W v;go_wp2_with fail;refine aP.out.mono ?_;rintro e w4 ⟨v4,rfl,p,X⟩;have m:=aL.out.trans (X.mono aS);have aM:=Hd m;have aK:=m.size;have aR:=Bi l (by have:=t.out;omega);have aQ:=Hd (Dk v4 _ _ r w4 p.rd (HR.out.below m lR) (by have:=t.out;rw[bA,bA];simp only[dB,cO];omega) (by have:=t.out;omega));clear p X m aR;go_wp2_with fail;refine aQ.out.mono ?_;rintro e w5 ⟨v5,rfl,q,Y⟩;have aO:=Hd (q.mono aK);have aN:=Hd (aM.out.trans (Y.mono aK));clear q Y;go_wp2_with fail;go_ret2;exact⟨aN.out,_,rfl,aO.out⟩
    ·have t6:((nr:Int) !=32)=true:=(by rw[bne_iff_ne];omega);rw[iP (.inr k6)];clear k5 k6;go_in;go_wp2_with fail;refine i.out.mono ?_;rintro e s ⟨a,v1,rfl,b⟩;have f:=(Blk.new w 52 _).below a (by simp);have x0:=f.cell 0;simp only[cR,cS]at x0;have j:=a.size;simp only[World.alloc]at j;have x:w.heap.size<s.heap.size:=(by simp at j;omega);have g:=Hd (((Below.refl w.heap.size w).alloc lR (rJ #[rD rG (y:Nat),rC G N c1,rC H O c2,rC I P c3,rD rG (o:Nat),rC J Q c4,rC K R c5,rC b1 S e1,rC L T e2,rC M U e3] 52)).trans (a.mono (by simp)));clear f a j;have A:=Hd (Ec 1 w _ g.out);clear b;go_wp2_with fail;go_ret2;exact A.out
   ·have t5:((nl:Int) !=32)=true:=(by rw[bne_iff_ne];omega);rw[iP (.inl k5)];clear k5;go_in;go_wp2_with fail;refine i.out.mono ?_;rintro e s ⟨a,v1,rfl,b⟩;have f:=(Blk.new w 52 _).below a (by simp);have x0:=f.cell 0;simp only[cR,cS]at x0;have j:=a.size;simp only[World.alloc]at j;have x:w.heap.size<s.heap.size:=(by simp at j;omega);have g:=Hd (((Below.refl w.heap.size w).alloc lR (rJ #[rD rG (y:Nat),rC G N c1,rC H O c2,rC I P c3,rD rG (o:Nat),rC J Q c4,rC K R c5,rC b1 S e1,rC L T e2,rC M U e3] 52)).trans (a.mono (by simp)));clear f a j;have A:=Hd (Ec 1 w _ g.out);clear b;go_wp2_with fail;go_ret2;exact A.out
def Zaw (d:LeafD):List Nat:=Lc d++Bf d.sig
theorem Pi (d:LeafD) (o q r s n:Option Addr) (c1 c2 c3 c4 c5:Nat) (w:World) (Z:Ns d) (t:d.source<256)
  (h1:Rd w (.slice o d.box.length c1) (bvs d.box)) (h2:Rd w (.slice q d.sign.length c2) (bvs d.sign)) (h3:Rd w (.slice r d.ident.length c3) (bvs d.ident)) (h4:Rd w (.slice s d.par.length c4) (bvs d.par)) (Y:Rd w (.slice n d.sig.length c5) (bvs d.sig)):
  Calls prog 176 #[.agg #[.slice o d.box.length c1,.slice q d.sign.length c2,.slice r d.ident.length c3,rD rG (d.source:Nat),.slice s d.par.length c4,.slice n d.sig.length c5]] w
   fun e w'=>∃v,e=rK v/\Own w' w.heap.size 5 v (bvs (Zaw d))/\Below w.heap.size w w':=by
 have aA:=Ms Z;have hu:Zaw d=Lc d++Bf d.sig:=rfl;have M:=Z;obtain⟨s1,s2,s3,s4,s5⟩:=Z;have l5:=Bi d.sig (by omega);have S:=fun W (R:Below w.heap.size w W)=>Zct d o q r s n c1 c2 c3 c4 c5 W M t (h1.below R lR) (h2.below R lR) (h3.below R lR) (h4.below R lR);obtain⟨n1,y⟩:=eX d.box.length;obtain⟨N,z⟩:=eX d.sign.length;obtain⟨O,A⟩:=eX d.ident.length;obtain⟨P,B⟩:=eX d.par.length;obtain⟨G,k⟩:=eX d.sig.length;obtain⟨m,C⟩:=eX d.source;rw[<-y,<-z,<-A,<-B,<-k,<-C]at S;rw[<-y,<-z,<-A,<-B,<-k,<-C];rw[<-k]at Y s5 l5;have c:=Blk.new w 44 #[rC o n1 c1,rC q N c2,rC r O c3,rD rG (m:Nat),rC s P c4,rC n G c5];have l:=(Below.refl w.heap.size w).alloc lR (rJ #[rC o n1 c1,rC q N c2,rC r O c3,rD rG (m:Nat),rC s P c4,rC n G c5] 44);have hz:(w.alloc (rJ #[rC o n1 c1,rC q N c2,rC r O c3,rD rG (m:Nat),rC s P c4,rC n G c5] 44)).heap.size=w.heap.size+1:=(by simp);obtain⟨W1,u⟩:=eX (w.alloc (rJ #[rC o n1 c1,rC q N c2,rC r O c3,rD rG (m:Nat),rC s P c4,rC n G c5] 44));rw[<-u]at c l hz;have r5:=Y.below l lR;have y0:=c.cell 0;have y1:=c.cell 1;have y2:=c.cell 2;have y3:=c.cell 3;have y4:=c.cell 4;have y5:=c.cell 5;simp only[cR,cS,aP]at y0 y1 y2 y3 y4 y5;have i:w.heap.size<W1.heap.size:=(by omega);have HU:=Hd hu;have X:=Hd u;have T:=Hd S;have V:=Hd k;clear c u hu y z A B k C h1 h2 h3 h4 Y S M t s1 s2 s3 s4;go_in;go_wp2_with fail;rw[<-X.out];refine Dj [eF (.agg #[rC o n1 c1,rC q N c2,rC r O c3,rD rG (m:Nat),rC s P c4,rC n G c5]),fun v w'=>Own w' w.heap.size 5 v (bvs (Lc d)),eF (rE (some ⟨w.heap.size,5,rI⟩)),eF (rC n G c5),fun v w'=>Own w' w.heap.size 5 v (bvs (Bf d.sig)),fun v w'=>Own w' w.heap.size 5 v (bvs ((Lc d)++(Bf d.sig))),fun v w'=>Own w' w.heap.size 5 v (bvs (Lc d++Bf d.sig))] (by kernel_rfl) (by kernel_rfl) (by kernel_rfl) (kE (bX (fun v w1 H h x=>Own.below h x lR) (kE (kE (bX (fun v w1 H h x=>Own.below h x lR) (bX (fun v w1 H h x=>Own.below h x lR) (bX (fun v w1 H h x=>Own.below h x lR) (Ag)))))))) ?_ ?_
 ·refine gQ ?_ (gB ?_ (gQ ?_ (gQ ?_ (gB ?_ (gB ?_ (gB ?_ .nil))))));all_goals
   intro a I b ho Q;refine⟨rfl,?_⟩;intro K J;try have P1:a.tmps[1]?.getD undef=rE (some ⟨w.heap.size,0,rI⟩):=ho 1 (by kernel_rfl)
   try have E0:=eqn Q.1
   try have D0:=(b.cell (p:=⟨w.heap.size,0,rI⟩) i).trans y0
   try have D1:=(b.cell (p:=⟨w.heap.size,1,rI⟩) i).trans y1
   try have D2:=(b.cell (p:=⟨w.heap.size,2,rI⟩) i).trans y2
   try have D3:=(b.cell (p:=⟨w.heap.size,3,rI⟩) i).trans y3
   try have D4:=(b.cell (p:=⟨w.heap.size,4,rI⟩) i).trans y4
   try have D5:=(b.cell (p:=⟨w.heap.size,5,rI⟩) i).trans y5
   try(refine Hd ?_;go_simp;exact J _ rfl)
  ·go_simp;refine(T.out I (l.trans (b.mono (by omega)))).mono ?_;rintro e H ⟨v2,rfl,g,j⟩;exact J _ _ (g.mono (by have:=b.size;omega)) j
  ·go_simp;refine(Dz _ d.sig I (r5.below b lR) (by have:=V.out;omega)).mono ?_;rintro e H ⟨v2,rfl,g,j⟩;exact J _ _ (g.mono (by have:=b.size;omega)) j
  ·have o1:Own I w.heap.size 5 (a.tmps[4]?.getD undef) (bvs (Lc d)):=Q.1;obtain⟨v1,E⟩:=eX (a.tmps[4]?.getD undef);rw[<-E]at o1;have e1:=E.symm;clear E;have o2:Own I w.heap.size 5 (a.tmps[7]?.getD undef) (bvs (Bf d.sig)):=Q.2.1;obtain⟨v2,F⟩:=eX (a.tmps[7]?.getD undef);rw[<-F]at o2;have e2:=F.symm;clear F;go_simp;refine(Cn v1 v2 _ _ I o1.rd o2.rd (by omega)).mono ?_;rintro e H ⟨v9,rfl,g,j⟩;exact J _ _ (g.mono (by have:=b.size;omega)) j
  ·have o0:Own I w.heap.size 5 (a.tmps[8]?.getD undef) (bvs (Lc d++Bf d.sig)):=Q.1;obtain⟨v0,D⟩:=eX (a.tmps[8]?.getD undef);rw[<-D]at o0;have e0:=D.symm;clear D;go_simp;exact J _ _ o0 bR
 ·rintro f w3 L ⟨-,-,-,-,-,-,f8,-⟩;have h8:Own w3 w.heap.size 5 (f 2) (bvs (Lc d++Bf d.sig)):=f8;have H8:=Hd h8;have U:=Hd (l.trans (L.mono (show w.heap.size<=W1.heap.size by omega)));clear h8 f8 L y0 y1 y2 y3 y4 y5 r5 l;simp only[Ao,Av,Ej,dG,dH,dJ,dK,Nat.reduceBEq,Nat.reduceAdd,dM,dO,cond_true,cond_false];go_wp2_with fail;go_ret;exact⟨_,rfl,by rw[HU.out];exact H8.out,U.out⟩
theorem Zax (d:NodeD)(c:Array Value)(w:World)(h:NodeC w d c)(hk:NodeOk d)(hs:Cj d=true)(O:d.kind=2->∀x∈d.par.late,0<=x/\x<65536):
  Calls prog 117 #[.agg c] w fun e w'=>∃v,e=rK v/\Own w' w.heap.size 5 v (bvs (Bz d))/\Below w.heap.size w w':=by
 have t:=oD hs;have T:Ns d.leaf:=⟨t.1,t.2.1,t.2.2.1,t.2.2.2.1,t.2.2.2.2.1⟩;obtain⟨a1,c1,a2,c2,a3,c3,a4,c4,a5,c5,b1,e1,b2,e2,b3,e3,rfl,h1,h2,h3,h4,h5,h6,h7,h8⟩:=h;have LB:=fun W (hw:Below w.heap.size w W)=>Pi d.leaf a1 a2 a3 a4 a5 c1 c2 c3 c4 c5 W T hk.source (h1.below hw lR) (h2.below hw lR) (h3.below hw lR) (h4.below hw lR) (h5.below hw lR);have b6:=Ms T;have b7:=Bi d.leaf.sig (by have:=T.2.2.2.2;omega);have bZ:(Zaw d.leaf).length<=1024:=(by have:=T.2.2.2.2;unfold Zaw;rw[bA];omega);have S:d.kind=1->Bz d=[1]++Zaw d.leaf:=fun h=>(by rw[Bz,iP h];rfl);have F:d.kind=2->Bz d=(([2]++Bf d.par.box)++(Bf d.par.hash++Bf (Cr d.par.late))):=fun h=>by
  rw[Bz,iN (by omega),iP h,Zje];simp[List.append_assoc]
 have aD:d.kind≠1->d.kind≠2->Bz d=[0]:=fun h h'=>(by rw[Bz,iN h,iN h']);have b0:=t.2.2.2.2.2.1;have b4:=t.2.2.2.2.2.2.1;have b5:=t.2.2.2.2.2.2.2;have bG:=Nr h8;have H:=fun r (hr:r<d.par.late.length)=>h8.get (r:=r) (show(ivs .i64 d.par.late)[r]? =some (rD .i64 (d.par.late.getD r 0)) by simp[ivs,hr]);have z:=fun(r:Nat) (h:r<d.par.late.length)=>(show d.par.late.take (r+1)=d.par.late.take r++[d.par.late.getD r 0] by rw[List.take_succ_eq_append_getElem h,aS,bB h];rfl);have A:=fun(h2:d.kind=2) (r:Nat) (h:r<d.par.late.length)=>(show 0<=d.par.late.getD r 0/\d.par.late.getD r 0<65536 by rw[aS,bB h];exact O h2 _ (List.getElem_mem h));have aW:=fun r=>Ka (d.par.late.take r);have v6:=Bi d.par.box (by omega);have v7:=Bi d.par.hash (by omega);obtain⟨m1,aQ⟩:=eX d.leaf.box.length;obtain⟨m2,aR⟩:=eX d.leaf.sign.length;obtain⟨m3,aT⟩:=eX d.leaf.ident.length;obtain⟨m4,aU⟩:=eX d.leaf.par.length;obtain⟨m5,aV⟩:=eX d.leaf.sig.length;obtain⟨m6,P⟩:=eX d.par.box.length;obtain⟨m7,Q⟩:=eX d.par.hash.length;obtain⟨m8,R⟩:=eX d.par.late.length;obtain⟨kd,aO⟩:=eX d.kind;obtain⟨aE,U⟩:=eX d.leaf.source;obtain⟨X,a8⟩:=eX d.par.box;obtain⟨Y,a9⟩:=eX d.par.hash;obtain⟨s,a7⟩:=eX d.par.late;obtain⟨LL,aL⟩:=eX (Zaw d.leaf);obtain⟨NB,aM⟩:=eX (Bz d);rw[<-aQ,<-aR,<-aT,<-aU,<-aV,<-P,<-Q,<-R,<-aO,<-U,<-aM];obtain⟨kz,aC⟩:∃kz:Int,kz=(kd:Int):=⟨_,rfl⟩;rw[<-aC];rw[<-aQ,<-aR,<-aT,<-aU,<-aV,<-U,<-aL]at LB;rw[<-P]at h6 b0 v6;rw[<-Q]at h7 b4 v7;rw[<-R]at b5 bG H z A;rw[<-aO]at aD S F A;rw[<-aL]at S bZ;rw[<-a8]at h6 P F v6;rw[<-a9]at h7 Q F v7;rw[<-a7]at R F H z A aW;rw[<-aM]at aD S F;have aY:=(Below.refl w.heap.size w).alloc lR (rJ #[rD rG kz,rC a1 m1 c1,rC a2 m2 c2,rC a3 m3 c3,rD rG (aE:Nat),rC a4 m4 c4,rC a5 m5 c5,rC b1 m6 e1,rC b2 m7 e2,rC b3 m8 e3] 52);have k:=Blk.new w 52 #[rD rG kz,rC a1 m1 c1,rC a2 m2 c2,rC a3 m3 c3,rD rG (aE:Nat),rC a4 m4 c4,rC a5 m5 c5,rC b1 m6 e1,rC b2 m7 e2,rC b3 m8 e3];have hz:(w.alloc (rJ #[rD rG kz,rC a1 m1 c1,rC a2 m2 c2,rC a3 m3 c3,rD rG (aE:Nat),rC a4 m4 c4,rC a5 m5 c5,rC b1 m6 e1,rC b2 m7 e2,rC b3 m8 e3] 52)).heap.size=w.heap.size+1:=(by simp);obtain⟨W1,aN⟩:=eX (w.alloc (rJ #[rD rG kz,rC a1 m1 c1,rC a2 m2 c2,rC a3 m3 c3,rD rG (aE:Nat),rC a4 m4 c4,rC a5 m5 c5,rC b1 m6 e1,rC b2 m7 e2,rC b3 m8 e3] 52));rw[<-aN]at aY k hz;have cB:w.heap.size<W1.heap.size:=(by omega);have x0:=k.cell 0;have x1:=k.cell 1;have x2:=k.cell 2;have x3:=k.cell 3;have x4:=k.cell 4;have x5:=k.cell 5;have x6:=k.cell 6;have x7:=k.cell 7;have x8:=k.cell 8;have x9:=k.cell 9;simp only[cR,cS,aP]at x0 x1 x2 x3 x4 x5 x6 x7 x8 x9;have bO:=Hd LB;have bP:=Hd aD;have bQ:=Hd S;have bS:=Hd F;have H6:=Hd h6;have H7:=Hd h7;have HM:=Hd (show m6=X.length/\m7=Y.length/\m8=s.length from⟨P,Q,R⟩);have J:=Hd aY;have aK:=Hd aN;have bN:=Hd H;have bW:=Hd z;have HV:=Hd A;have a0:=Hd aW;clear t T LB aD S F h1 h2 h3 h4 h5 h6 h7 h8 aQ aR aT aU aV P Q R aO U a8 a9 a7 aL aM aN H z A aW hs hk O aY b6 b7
 by_cases k1:kd=1
 ·obtain rfl:kz=1:=(by omega);subst k1;clear aC;go_in;go_wp2_with fail;rw[<-aK.out];have aB:=J.out.alloc J.out.size (rJ #[rD rG 1] 5);have HO:Hid (Rd (W1.alloc (rJ #[rD rG 1] 5)) (rC (some ⟨w.heap.size+1,0,rI⟩) 1 1) (bvs [1])):=Hd (Xz (w:=W1) (cs:=#[rD rG 1]) (L:=[1]) hz.symm rfl (by simp));refine(bO.out _ aB).mono ?_;rintro e w3 ⟨v3,rfl,b,D⟩;have b9:=D.size;have HJ:=Hd (Cn _ v3 [1] LL w3 (HO.out.below D lR) b.rd (by simp only[dB,cO];omega));have N:=aB.trans (D.mono aB.size);have aH:=Hd N;have aG:=N.size;clear b D aB N b9;go_wp2_with fail;refine HJ.out.mono ?_;rintro e w4 ⟨v4,rfl,b,bC⟩;have bT:=Hd (b.mono aG);have bL:=Hd (aH.out.trans (bC.mono aG));clear b bC;go_wp2_with fail;go_ret;exact⟨_,rfl,by rw[bQ.out trivial];exact bT.out,bL.out⟩
 ·have t1:(kz==1)=false:=by rw[qN];omega
  by_cases k2:kd=2
  ·obtain rfl:kz=2:=(by omega);subst k2;clear k1 t1 aC;go_in;go_wp2_with fail;rw[<-aK.out]
   go_loopg [3,4] m8 (fun q lv i wr=>∃r:Nat,r+q=m8/\i=rD .i64 (r:Int)/\Rd wr lv (bvs (Cr (s.take r)))/\Below (w.heap.size+1) W1 wr)
   case atStart=>exact⟨0,by omega,rfl,⟨none,0,rfl,lR,aA _,.inl ⟨rfl,fun _=>rfl⟩⟩,bR⟩
   case round=>
    obtain⟨r,hr,rfl,bH,E⟩:=hrel;have aJ:=Hd bH;have aI:=Hd E;have bI:=E.size;rw[hz]at bI;have y0:=(E.cell (p:=⟨w.heap.size,0,rI⟩) (dU _)).trans x0;have y7:=(E.cell (p:=⟨w.heap.size,7,rI⟩) (dU _)).trans x7;have y8:=(E.cell (p:=⟨w.heap.size,8,rI⟩) (dU _)).trans x8;have y9:=(E.cell (p:=⟨w.heap.size,9,rI⟩) (dU _)).trans x9;have bE:w.heap.size<wr.heap.size:=(by omega);clear bH E
    by_cases hrk:r<m8
    ·obtain⟨a6,bJ,rfl,aF,c0⟩:=bN.out r hrk;have bY:=(aI.out.cell (p:=⟨a6,bJ+r,rI⟩) (by simp only;omega)).trans ((J.out.cell (p:=⟨a6,bJ+r,rI⟩) aF).trans c0);have z:=bW.out r hrk;obtain⟨q0,q1⟩:=HV.out trivial r hrk;have y:=a0.out r;obtain⟨x,hx⟩:=eX (s.getD r 0);rw[<-hx]at bY z q0 q1;obtain⟨m,rfl⟩:∃m:Nat,x=(m:Int):=⟨x.toNat,by omega⟩;have bF:(s.take r).length<=r:=List.length_take_le _ _;have bV:=Hd (fun W=>Xy 4 m W (by omega) (by omega));have HT:=Hd z;have aZ:=Hd (show(Cr (s.take r)).length+(beN 4 m).length<1000000000 by rw[beN_len];omega);clear c0 hx z y bF aF;go_wp2_with fail;refine(bV.out _).mono ?_;rintro e C ⟨v2,rfl,b,g⟩;have cC:=g.size;have HJ:=Hd (Cn _ v2 _ _ C (aJ.out.below g lR) b.rd aZ.out);have bK:=Hd (aI.out.trans (g.mono bI));clear b g;go_wp2_with fail;refine HJ.out.mono ?_;rintro e w5 ⟨v5,rfl,b,bD⟩;have bU:=Hd b.rd;have bM:=Hd (bK.out.trans (bD.mono (by omega)));clear b bD;go_wp2_with fail;go_roundg (gk-1);case measure=>omega
     case rel=>exact⟨r+1,by omega,by go_num,by rw[HT.out,Ps,Int.toNat_natCast];exact bU.out,bM.out⟩
    ·obtain rfl:r=m8:=(by omega);have ht:s.take r=s:=(by rw[HM.out.2.2,List.take_length]);have y:=a0.out r;rw[ht]at aJ y;have cA:decide ((r:Int)<(r:Int))=false:=(by rw[dN];omega);have G:=J.out.trans (aI.out.mono (by omega));have r1:=H6.out.below G lR;have r2:=H7.out.below G lR;have r3:=aJ.out;have b8:w.heap.size<=wr.heap.size:=(by omega);have M:=Hd (show(Cr s).length<=4000 by have:=HM.out.2.2;rw[y];omega);clear y ht;go_wp2_with fail;refine Dj [fun v w'=>Rd w' v (bvs [2]),eF (rE (some ⟨w.heap.size,7,rI⟩)),eF (rE (some ⟨w.heap.size,7,rI⟩)),eF (rC b1 m6 e1),fun v w'=>Own w' w.heap.size 5 v (bvs (Bf X)),fun v w'=>Own w' w.heap.size 5 v (bvs (([2])++(Bf X))),eF (rE (some ⟨w.heap.size,7,rI⟩)),eF (rE (some ⟨w.heap.size,8,rI⟩)),eF (rC b2 m7 e2),fun v w'=>Own w' w.heap.size 5 v (bvs (Bf Y)),fun v w'=>Rd w' v (bvs (Cr s)),fun v w'=>Own w' w.heap.size 5 v (bvs (Bf (Cr s))),fun v w'=>Own w' w.heap.size 5 v (bvs ((Bf Y)++(Bf (Cr s)))),fun v w'=>Own w' w.heap.size 5 v (bvs (([2]++Bf X)++(Bf Y++Bf (Cr s)))),fun v w'=>Own w' w.heap.size 5 v (bvs (([2]++Bf X)++(Bf Y++Bf (Cr s))))] (by kernel_rfl) (by kernel_rfl) (by kernel_rfl) (bX (fun v w1 C h u=>Rd.below h u lR) (kE (kE (kE (bX (fun v w1 C h u=>Own.below h u lR) (bX (fun v w1 C h u=>Own.below h u lR) (kE (kE (kE (bX (fun v w1 C h u=>Own.below h u lR) (bX (fun v w1 C h u=>Rd.below h u lR) (bX (fun v w1 C h u=>Own.below h u lR) (bX (fun v w1 C h u=>Own.below h u lR) (bX (fun v w1 C h u=>Own.below h u lR) (bX (fun v w1 C h u=>Own.below h u lR) (Ag)))))))))))))))) ?_ ?_
     ·refine gB ?_ (gQ ?_ (gQ ?_ (gQ ?_ (gB ?_ (gB ?_ (gQ ?_ (gQ ?_ (gQ ?_ (gB ?_ (gB ?_ (gB ?_ (gB ?_ (gB ?_ (gB ?_ .nil))))))))))))));all_goals
       intro a I l ho hf;refine⟨rfl,?_⟩;intro K Z;try have P1:a.tmps[1]?.getD undef=rE (some ⟨w.heap.size,0,rI⟩):=ho 1 (by kernel_rfl)
       try have P3:a.tmps[3]?.getD undef=u3:=ho 3 (by kernel_rfl)
       try have E0:=eqn hf.1
       try have D0:=(l.cell (p:=⟨w.heap.size,7,rI⟩) bE).trans y7
       try have D1:=(l.cell (p:=⟨w.heap.size,8,rI⟩) bE).trans y8
       try(refine Hd ?_;go_simp;exact Z _ rfl)
      ·go_simp;exact Z _ _ (Xz (cs:=#[rD rG 2]) (L:=[2]) rfl rfl (by simp)) (bR.alloc lR _)
      ·go_simp;refine(Dz _ X I (r1.below l lR) (by have:=HM.out;omega)).mono ?_;rintro e C ⟨v2,rfl,b,g⟩;exact Z _ _ (b.mono (by have:=l.size;omega)) g
      ·have V:Rd I (a.tmps[34]?.getD undef) (bvs [2]):=hf.1;obtain⟨v1,j⟩:=eX (a.tmps[34]?.getD undef);rw[<-j]at V;have e1:=j.symm;clear j;have o2:Own I w.heap.size 5 (a.tmps[38]?.getD undef) (bvs (Bf X)):=hf.2.1;obtain⟨v2,o⟩:=eX (a.tmps[38]?.getD undef);rw[<-o]at o2;have e2:=o.symm;clear o;go_simp;refine(Cn v1 v2 _ _ I V o2.rd (by simp only[dB,cO];omega)).mono ?_;rintro e C ⟨v9,rfl,b,g⟩;exact Z _ _ (b.mono (by have:=l.size;omega)) g
      ·go_simp;refine(Dz _ Y I (r2.below l lR) (by have:=HM.out;omega)).mono ?_;rintro e C ⟨v2,rfl,b,g⟩;exact Z _ _ (b.mono (by have:=l.size;omega)) g
      ·go_simp;exact Z _ _ (r3.below l lR) bR
      ·have V:Rd I (a.tmps[44]?.getD undef) (bvs (Cr s)):=hf.1;obtain⟨v1,j⟩:=eX (a.tmps[44]?.getD undef);rw[<-j]at V;have e1:=j.symm;clear j;go_simp;refine(Dz v1 (Cr s) I V (by have:=M.out;omega)).mono ?_;rintro e C ⟨v2,rfl,b,g⟩;exact Z _ _ (b.mono (by have:=l.size;omega)) g
      ·have V:Own I w.heap.size 5 (a.tmps[43]?.getD undef) (bvs (Bf Y)):=hf.1;obtain⟨v1,j⟩:=eX (a.tmps[43]?.getD undef);rw[<-j]at V;have e1:=j.symm;clear j;have o2:Own I w.heap.size 5 (a.tmps[45]?.getD undef) (bvs (Bf (Cr s))):=hf.2.1;obtain⟨v2,o⟩:=eX (a.tmps[45]?.getD undef);rw[<-o]at o2;have e2:=o.symm;clear o;go_simp;refine(Cn v1 v2 _ _ I V.rd o2.rd (by have:=M.out;have:=Bi (Cr s) (by omega);omega)).mono ?_;rintro e C ⟨v9,rfl,b,g⟩;exact Z _ _ (b.mono (by have:=l.size;omega)) g
      ·have V:Own I w.heap.size 5 (a.tmps[39]?.getD undef) (bvs ([2]++Bf X)):=hf.1;obtain⟨v1,j⟩:=eX (a.tmps[39]?.getD undef);rw[<-j]at V;have e1:=j.symm;clear j;have o2:Own I w.heap.size 5 (a.tmps[46]?.getD undef) (bvs (Bf Y++Bf (Cr s))):=hf.2.1;obtain⟨v2,o⟩:=eX (a.tmps[46]?.getD undef);rw[<-o]at o2;have e2:=o.symm;clear o;go_simp;refine(Cn v1 v2 _ _ I V.rd o2.rd (by have:=M.out;have:=Bi (Cr s) (by omega);simp only[bA,dB,cO];omega)).mono ?_;rintro e C ⟨v9,rfl,b,g⟩;exact Z _ _ (b.mono (by have:=l.size;omega)) g
      ·have o0:Own I w.heap.size 5 (a.tmps[47]?.getD undef) (bvs (([2]++Bf X)++(Bf Y++Bf (Cr s)))):=hf.1;obtain⟨v0,aX⟩:=eX (a.tmps[47]?.getD undef);rw[<-aX]at o0;have e0:=aX.symm;clear aX;go_simp;exact Z _ _ o0 bR
     ·rintro f w3 D ⟨-,-,-,-,-,-,-,-,-,-,-,-,-,-,f8,-⟩;have h8:Own w3 w.heap.size 5 (f 2) (bvs (([2]++Bf X)++(Bf Y++Bf (Cr s)))):=f8;have H8:=Hd h8;have aH:=Hd (G.trans (D.mono b8));clear h8 f8 D r1 r2 r3 G;simp only[Ao,Av,Ej,dG,dH,dJ,dK,Nat.reduceBEq,Nat.reduceAdd,dM,dO,cond_true,cond_false];go_wp2_with fail;go_ret;exact⟨_,rfl,by rw[bS.out trivial];exact H8.out,aH.out⟩
  ·have t2:(kz==2)=false:=(by rw[qN];omega);have HN:=Hd (bP.out k1 k2);clear k1 k2 aC;go_in;go_wp2_with fail;rw[<-aK.out];go_ret;refine⟨_,rfl,?_,J.out.alloc J.out.size _⟩;rw[HN.out];exact Own.full (w:=W1) (B:=w.heap.size) (e:=5) (cs:=#[rD rG 0]) hz.symm (Nat.le_succ _) (by unfold maxLen;simp) (n:=1) rfl
