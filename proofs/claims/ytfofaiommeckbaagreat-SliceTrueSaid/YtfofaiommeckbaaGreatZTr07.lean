import Derived.Test.YtfofaiommeckbaaGreatZTr06
open Go.Obj renaming cells -> rK
open Go.Ending renaming returned -> rM
open Go.Value renaming slice -> rD, int -> rE, pointer -> rF
open Go.IntKind renaming u8 -> rH
open Option renaming none -> rJ
open Go.Proofs.Tryz
open Nat renaming add_sub_cancel -> dR, lt_succ_self -> dV
open List renaming getElem?_toArray -> bY, getElem?_cons_zero -> bZ, getElem?_cons_succ -> cA, length_append -> aD, length_cons -> dB, length_nil -> bU, filterMap_cons -> dG, filterMap_nil -> dH, contains_cons -> dJ, contains_nil -> dK, getD_eq_getElem?_getD -> aE, getElem?_eq_getElem -> aF
open Bool renaming false_eq_true -> dW, or_false -> dO, or_true -> dP
set_option linter.unusedVariables false
set_option maxRecDepth 100000
set_option maxHeartbeats 40000000
namespace Go.Proofs.YtfofaiommeckbaaGreat
open Go.RowKit WireM
theorem Zbf {L:List Int} {r:Nat}(h:Ng L r):∀i,i<r->0<=L.getD i 0:=by
 intro i
 induction i with
 |zero=>intro hi;have:=h 0 hi;unfold Ha at this;rw[iP rfl]at this;omega
 |succ i ih=>
  intro hi;have h1:=ih (by omega);have:=h (i+1) hi;unfold Ha at this;rw[iN (by omega),dR]at this;omega
theorem Ma (G H C:Option Addr)(d a c1 c2 c3:Nat)(L:List Int)(w:World)(Q:Rd w (.slice C L.length c3) (ivs .i64 L)):
  Calls prog 141 #[.agg #[rD G d c1,rD H a c2,.slice C L.length c3]] w fun e w'=>e=rM (.bool (rpB d a L))/\Below w.heap.size w w':=by
 have J:=Gg Q;have l:=fun r (h:r<L.length)=>Q.get (r:=r) (show(ivs .i64 L)[r]? =some (rE .i64 (L.getD r 0)) by simp[ivs,h]);obtain⟨k,hk⟩:=eX L.length;rw[<-hk]at J l|-;have j:=Blk.new w 50 #[rD G d c1,rD H a c2,rD C k c3];have A:=(Below.refl w.heap.size w).alloc lR (rK #[rD G d c1,rD H a c2,rD C k c3] 50);obtain⟨W1,z⟩:=eX (w.alloc (rK #[rD G d c1,rD H a c2,rD C k c3] 50));rw[<-z]at j A;have y0:=j.cell 0;have y1:=j.cell 1;have y2:=j.cell 2;simp only[bY,bZ,cA]at y0 y1 y2;have HG:=Hd l;have HK:=Hd hk;have T:=Hd A;have U:=Hd z;have V:=Hd y0;have W:=Hd y1;have X:=Hd y2;clear l hk Q j A z y0 y1 y2;go_in;go_wp2_with fail;rw[<-U.out]
 go_loopg [3] k (fun q i wr=>∃r:Nat,r+q=k/\i=rE .i64 (r:Int)/\Ng L r/\∃m,wr=W1.drewN m)
 case atStart=>exact⟨0,by omega,rfl,fun i h=>absurd h (by omega),0,rfl⟩
 case round=>
  obtain⟨r,Q,rfl,K,m,hm⟩:=hrel;have s:=Hd K;have B:=Hd hm;have z0:wr.cell? ⟨w.heap.size,0,rJ⟩=some (rD G d c1):=(by rw[B.out];exact V.out);have z1:wr.cell? ⟨w.heap.size,1,rJ⟩=some (rD H a c2):=(by rw[B.out];exact W.out);have z2:wr.cell? ⟨w.heap.size,2,rJ⟩=some (rD C k c3):=(by rw[B.out];exact X.out);have c:Hid (Below w.heap.size w wr):=Hd (by rw[B.out];exact Ab T.out m);clear K hm
  by_cases hrk:r<k
  ·obtain⟨b,o,rfl,hb,c0⟩:=HG.out r hrk;have D:wr.cell? ⟨b,o+r,rJ⟩=some (rE .i64 (L.getD r 0)):=(c.out.cell (p:=⟨b,o+r,rJ⟩) hb).trans c0;have hF:= @Nh L r (by have:=HK.out;omega);have n:=Zbf s.out;have f:decide ((r:Int)<(k:Int))=true:=(by rw[dI];omega);have aA:decide (r<k)=true:=(by rw[dI];omega);have R:=Hd hF;have F:=Hd n;clear hF n c0
   by_cases k1:L.getD r 0<0
   ·have g:Hid (Ji L=false):=Hd (R.out (by
     intro h;rcases Nat.eq_zero_or_pos r with h0|h0
     ·subst h0;unfold Ha at h;rw[iP rfl]at h;omega
     ·have:=F.out (r-1) (by omega);unfold Ha at h;rw[iN (by omega)]at h;omega))
    obtain⟨x,hx⟩:=eX (L.getD r 0);rw[<-hx]at D k1;have E:decide (x<0)=true:=dT k1;clear hx k1;go_wp2_with fail
    go_quiet (fail)
    go_wp2_with fail;go_ret;exact⟨by rw[rpB,g.out];rfl,Ab c.out _⟩
   ·by_cases k2:65535<L.getD r 0
    ·have g:Hid (Ji L=false):=Hd (R.out (by intro h;omega));obtain⟨x,hx⟩:=eX (L.getD r 0);rw[<-hx]at D k1 k2;have E:decide (x<0)=false:=dF k1;have N:decide (65535<x)=true:=dT k2;clear hx k1 k2;go_wp2_with fail
     go_quiet (fail)
     go_wp2_with fail;go_ret;exact⟨by rw[rpB,g.out];rfl,Ab c.out _⟩
    ·cases r with
     |zero=>
      have S:Hid (Ng L 1):=Hd (by
       intro i hi;obtain rfl:i=0:=(by omega);unfold Ha;rw[iP rfl];omega)
      obtain⟨x,hx⟩:=eX (L.getD 0 0);rw[<-hx]at D k1 k2;have E:decide (x<0)=false:=dF k1;have N:decide (65535<x)=false:=dF k2;have v:((0:Nat):Int)=0:=rfl;rw[Nat.add_zero]at D;simp only[v]at f|-;clear hx k1 k2 v;go_wp2_with fail
      go_quiet (fail)
      go_wp2_with fail;go_roundg (gk-1);case measure=>omega
      case rel=>exact⟨1,by omega,rfl,S.out,_,by rw[B.out,World.drewN_drewN]⟩
     |succ t=>
      obtain⟨b',o',I,Y,u⟩:=HG.out t (by omega);simp only[Option.some.injEq,Addr.mk.injEq,and_true]at I;obtain⟨rfl,rfl⟩:=I;have e1:wr.cell? ⟨b,o+t,rJ⟩=some (rE .i64 (L.getD t 0)):=(c.out.cell (p:=⟨b,o+t,rJ⟩) Y).trans u;have P:Ha L (t+1)=L.getD t 0:=(by unfold Ha;rw[iN (by omega),dR]);have v:((t+1:Nat):Int)=(t:Int)+1:=rfl
      by_cases k3:L.getD (t+1) 0<=L.getD t 0
      ·have g:Hid (Ji L=false):=Hd (R.out (by rw[P];intro h;omega));obtain⟨x,hx⟩:=eX (L.getD (t+1) 0);obtain⟨y,M⟩:=eX (L.getD t 0);rw[<-hx]at D k1 k2 k3;rw[<-M]at e1 k3;have E:decide (x<0)=false:=dF k1;have N:decide (65535<x)=false:=dF k2;have Z:decide (x<=y)=true:=dT k3;have t4:decide (0<(t:Int)+1)=true:=(by rw[dI];omega);simp only[v]at f|-;clear hx M k1 k2 k3 P u v;go_wp2_with fail
       go_quiet (fail)
       go_wp2_with fail;go_ret;exact⟨by rw[rpB,g.out];rfl,Ab c.out _⟩
      ·have S:Hid (Ng L (t+1+1)):=Hd (by
        intro i hi;rcases Nat.lt_or_ge i (t+1)with h|h
        ·exact s.out i h
        ·obtain rfl:i=t+1:=(by omega);rw[P];omega)
       obtain⟨x,hx⟩:=eX (L.getD (t+1) 0);obtain⟨y,M⟩:=eX (L.getD t 0);rw[<-hx]at D k1 k2 k3;rw[<-M]at e1 k3;have E:decide (x<0)=false:=dF k1;have N:decide (65535<x)=false:=dF k2;have Z:decide (x<=y)=false:=dF k3;have t4:decide (0<(t:Int)+1)=true:=(by rw[dI];omega);simp only[v]at f|-;clear hx M k1 k2 k3 P u v;go_wp2_with fail
       go_quiet (fail)
       go_wp2_with fail;go_roundg (gk-1);case measure=>omega
       case rel=>exact⟨t+1+1,by omega,by go_num,S.out,_,by rw[B.out,World.drewN_drewN]⟩
  ·obtain rfl:r=k:=(by omega);have f:decide ((r:Int)<(r:Int))=false:=(by rw[dN];omega);have hl:Ji L=true:=(by rw[Fa,<-HK.out];exact s.out);have hB:rpB d a L=decide (d=32/\(a=0\/a=32)):=(by rw[rpB,hl,Bool.true_and]);have O:=Hd hB;clear hl hB
   by_cases k1:d=32
   ·have E:((d:Int)==32)=true:=by rw[beq_iff_eq];omega
    by_cases k2:a=0
    ·have N:((a:Int)==0)=true:=(by rw[beq_iff_eq];omega);have g:=Hd (dT (show d=32/\(a=0\/a=32)from⟨k1,.inl k2⟩));clear k1 k2;go_wp2_with fail;go_ret;exact⟨Ac (O.out.trans g.out).symm,c.out⟩
    ·have N:((a:Int)==0)=false:=by rw[qN];omega
     by_cases k3:a=32
     ·have Z:((a:Int)==32)=true:=(by rw[beq_iff_eq];omega);have g:=Hd (dT (show d=32/\(a=0\/a=32)from⟨k1,.inr k3⟩));clear k1 k2 k3;go_wp2_with fail;go_ret;exact⟨Ac (O.out.trans g.out).symm,c.out⟩
     ·have Z:((a:Int)==32)=false:=(by rw[qN];omega);have g:=Hd (dF (show¬(d=32/\(a=0\/a=32)) by omega));clear k1 k2 k3;go_wp2_with fail;go_ret;exact⟨Ac (O.out.trans g.out).symm,c.out⟩
   ·have E:((d:Int)==32)=false:=(by rw[qN];omega);have g:=Hd (dF (show¬(d=32/\(a=0\/a=32)) by omega));clear k1;go_wp2_with fail;go_ret;exact⟨Ac (O.out.trans g.out).symm,c.out⟩
def ltF (i:Int)(d:NodeD):List Nat×Nat:=if i<0\/65535<i then([],1)else if Aq d=false\/d.kind=2 then([],3)else([1]++beN 4 i.toNat++Bk d,0)
def ptF (d:NodeD)(l r:List Nat):List Nat×Nat:=if Aq d=false\/d.kind=1 then([],3)else if l.length≠32\/r.length≠32 then([],1)else([2]++Bk d++Ba l++Ba r,0)
def Wb (r:List Nat×Nat)(w:World)(e:Ending)(w':World):Prop:=
 Below w.heap.size w w'/\∃v,e=rM (.tuple #[v,rE rH (r.2:Nat)])/\Own w' w.heap.size 5 v (bvs r.1)
theorem Ed (n:Nat)(w w':World)(hb:Below w.heap.size w w'):Wb ([],n) w (rM (.tuple #[rD rJ 0 0,rE rH (n:Nat)])) w':=⟨hb,_,rfl,Own.nil _ _ _⟩
theorem Zhu {d:ParD}(h1:d.box.length<=200)(h2:d.hash.length<=200)(h3:d.late.length<=1000):(Zg2 d).length<=4800:=by
 have a:=Bg d.box (by omega);have b:=Bg d.hash (by omega);have l:=Fb d.late;have c:=Bg (Cf d.late) (by omega);unfold Zg2;rw[aD,aD];omega
theorem Cz {d:NodeD}(c:Cb d=true):(Bk d).length<=6000:=by
 have a:=oD c;have b:Ni d.leaf:=⟨a.1,a.2.1,a.2.2.1,a.2.2.2.1,a.2.2.2.2.1⟩;have e:=Mg b;have h2:=Bg d.leaf.sig (by have:=b.2.2.2.2;omega);have h3:=Zhu a.2.2.2.2.2.1 a.2.2.2.2.2.2.1 a.2.2.2.2.2.2.2;have f:=b.2.2.2.2;unfold Bk
 split
 ·rw[dB,aD];omega
 ·split
  ·rw[dB];omega
  ·simp
theorem Kv (d:NodeD)(c:Array Value)(w:World)(h:NodeC w d c)(hk:NodeOk d)(hs:Cb d=true):
  Calls prog 108 #[.agg c] w (Ej d w):=by
 cases hr:Aq d with
 |true=>exact Tj d c w h hk hs hr
 |false=>exact Pj d c w h hs hr
theorem Ll (i:Int)(d:NodeD)(c:Array Value)(w:World)(h:NodeC w d c)(hk:NodeOk d)(hs:Cb d=true):
  Calls prog 149 #[rE .i64 i,.agg c] w (Wb (ltF i d) w):=by
 have f:=Hd (Kv d c _ (h.below ((Below.refl w.heap.size w).alloc lR (.cells c 52)) lR) hk hs);have F:=Cz hs;have hF:ltF i d=if i<0\/65535<i then([],1)else if Aq d=false\/d.kind=2 then([],3)else([1]++beN 4 i.toNat++Bk d,0):=rfl;obtain⟨Q,c1,R,c2,S,c3,T,c4,U,c5,V,Z,X,e2,Y,e3,rfl,-⟩:=h;obtain⟨m1,G⟩:=eX d.leaf.box.length;obtain⟨m2,H⟩:=eX d.leaf.sign.length;obtain⟨m3,I⟩:=eX d.leaf.ident.length;obtain⟨m4,J⟩:=eX d.leaf.par.length;obtain⟨m5,K⟩:=eX d.leaf.sig.length;obtain⟨m6,M⟩:=eX d.par.box.length;obtain⟨m7,O⟩:=eX d.par.hash.length;obtain⟨m8,P⟩:=eX d.par.late.length;obtain⟨y,v⟩:=eX d.kind;obtain⟨o,q⟩:=eX d.leaf.source;obtain⟨NB,n⟩:=eX (Bk d);obtain⟨rb,x⟩:=eX (Aq d);rw[<-G,<-H,<-I,<-J,<-K,<-M,<-O,<-P,<-v,<-q]at f|-;unfold Ej at f;rw[<-n,<-x]at f;rw[<-n]at F;simp only[<-n,<-x,<-v]at hF;rw[hF];have B:=(Below.refl w.heap.size w).alloc lR (rK #[rE rH (y:Nat),rD Q m1 c1,rD R m2 c2,rD S m3 c3,rE rH (o:Nat),rD T m4 c4,rD U m5 c5,rD V m6 Z,rD X m7 e2,rD Y m8 e3] 52);have A:=Hd B;clear hF hk hs G H I J K M O P v q n x B
 by_cases k0:i<0
 ·rw[iP (.inl k0)];have r:=Hd (Ed 1 w _ A.out);go_in;go_wp2_with fail;go_ret2;exact r.out
 ·by_cases k1:65535<i
  ·rw[iP (.inr k1)];have r:=Hd (Ed 1 w _ A.out);have k2:65536<=i:=(by omega);have k3:0<=i:=(by omega);clear k0 k1;go_in;go_wp2_with fail;go_ret2;exact r.out
  ·rw[iN (by omega)];have k2:i<65536:=(by omega);have k3:0<=i:=(by omega);clear k0 k1;cases rb with
   |false=>
    rw[iP (.inl rfl)];simp only[dW,if_false]at f;go_in;go_wp2_with fail;refine f.out.mono ?_;rintro e z ⟨a,v1,rfl,b⟩;have g:=(Blk.new w 52 _).below a (by simp);have x0:=g.cell 0;simp only[bY,bZ]at x0;have m:=a.size;simp only[World.alloc]at m;have E:w.heap.size<z.heap.size:=(by simp at m;omega);have j:=Hd (((Below.refl w.heap.size w).alloc lR (rK #[rE rH (y:Nat),rD Q m1 c1,rD R m2 c2,rD S m3 c3,rE rH (o:Nat),rD T m4 c4,rD U m5 c5,rD V m6 Z,rD X m7 e2,rD Y m8 e3] 52)).trans (a.mono (by simp)));clear g a m;have r:=Hd (Ed 3 w _ j.out);clear b;go_wp2_with fail;go_ret2;exact r.out
   |true=>
    simp only[if_true]at f
    by_cases k4:y=2
    ·have t4:((y:Int)==2)=true:=(by rw[beq_iff_eq];omega);rw[iP (.inr k4)];clear k4;go_in;go_wp2_with fail;refine f.out.mono ?_;rintro e z ⟨a,v1,rfl,b⟩;have g:=(Blk.new w 52 _).below a (by simp);have x0:=g.cell 0;simp only[bY,bZ]at x0;have m:=a.size;simp only[World.alloc]at m;have E:w.heap.size<z.heap.size:=(by simp at m;omega);have j:=Hd (((Below.refl w.heap.size w).alloc lR (rK #[rE rH (y:Nat),rD Q m1 c1,rD R m2 c2,rD S m3 c3,rE rH (o:Nat),rD T m4 c4,rD U m5 c5,rD V m6 Z,rD X m7 e2,rD Y m8 e3] 52)).trans (a.mono (by simp)));clear g a m;have r:=Hd (Ed 3 w _ j.out);clear b;go_wp2_with fail;go_ret2;exact r.out
    ·rw[iN (by simp[k4])];have t4:((y:Int)==2)=false:=(by rw[qN];omega);have PN:∀(N:Nat) (W:World),Rd W (rD (some ⟨N,0,rJ⟩) 1 1) (bvs [1])->Calls prog 60 #[rD (some ⟨N,0,rJ⟩) 1 1,rE .i64 4,rE .u64 i] W fun e w'=>∃v',e=rM v'/\Own w' W.heap.size 5 v' (bvs ([1]++beN 4 i.toNat))/\Below W.heap.size W w':=by
      intro N W hr;have:=Ey (rD (some ⟨N,0,rJ⟩) 1 1) [1] 4 i.toNat W hr (by simp) rfl (by omega);rw[Int.toNat_of_nonneg k3]at this;exact this
     have p:=Hd PN;obtain⟨BN,s⟩:=eX (beN 4 i.toNat);have D:BN.length=4:=(by rw[s,beN_len]);rw[<-s]at p|-;have aC:=Hd D;clear k4 PN s D;go_in;go_wp2_with fail;refine f.out.mono ?_;rintro e z ⟨a,v1,rfl,b⟩;have g:=(Blk.new w 52 _).below a (by simp);have x0:=g.cell 0;simp only[bY,bZ]at x0;have m:=a.size;simp only[World.alloc]at m;have E:w.heap.size<z.heap.size:=(by simp at m;omega);have j:=Hd (((Below.refl w.heap.size w).alloc lR (rK #[rE rH (y:Nat),rD Q m1 c1,rD R m2 c2,rD S m3 c3,rE rH (o:Nat),rD T m4 c4,rD U m5 c5,rD V m6 Z,rD X m7 e2,rD Y m8 e3] 52)).trans (a.mono (by simp)));clear g a m;have HO:=Hd b;have aH:=Hd (p.out z.heap.size _ (Yk (w:=z) (cs:=#[rE rH 1]) (L:=[1]) rfl rfl (by simp)));clear b;go_wp2_with fail;refine aH.out.mono ?_;rintro e w2 ⟨v2,rfl,k,t⟩;have u:=(j.out.alloc j.out.size (rK #[rE rH 1] 5)).trans (t.mono (by simp;omega));have aA:=Hd u;have aE:=Hd (((HO.out.alloc (rK #[rE rH 1] 5)).below t lR).rd);have aF:=Hd (k.mono (show w.heap.size<=_ by simp;omega));have aI:=u.size;clear k t u;go_wp2_with (at_builtin;refine An rfl (.tmp 29) (.tmp 30) 28 rfl w.heap.size 5 _ 1 Ca _ _ rfl aF.out _ (bvs NB) rfl aE.out (By _) ?c1 ?c2 ?_);case c1=>rw[bvs_len,bvs_len,aD,aC.out];simp only[dB,bU];omega
     case c2=>exact aI
     rintro v3 w3 l-C;have aG:=Hd l;have aB:=Hd (aA.out.trans C);clear l C;go_wp2_with fail;go_ret2;refine⟨aB.out,_,rfl,?_⟩;have:=aG.out;rw[<-Cj]at this;exact this
theorem It (d:NodeD)(c:Array Value)(vl vr:Value)(l r:List Nat)(w:World)(h:NodeC w d c)(hk:NodeOk d)(hs:Cb d=true)(hl:Rd w vl (bvs l))(hr:Rd w vr (bvs r)):
  Calls prog 150 #[.agg c,vl,vr] w (Wb (ptF d l r) w):=by
 have i:=Hd (Kv d c _ (h.below ((Below.refl w.heap.size w).alloc lR (.cells c 52)) lR) hk hs);have aB:=Cz hs;have hF:ptF d l r=if Aq d=false\/d.kind=1 then([],3)else if l.length≠32\/r.length≠32 then([],1)else([2]++Bk d++Ba l++Ba r,0):=rfl;obtain⟨G,c1,H,c2,I,c3,J,c4,K,c5,L,O,M,e2,N,e3,rfl,-⟩:=h;obtain⟨P,aC⟩:=eX d.leaf.box.length;obtain⟨Q,aE⟩:=eX d.leaf.sign.length;obtain⟨R,aF⟩:=eX d.leaf.ident.length;obtain⟨S,aG⟩:=eX d.leaf.par.length;obtain⟨T,aH⟩:=eX d.leaf.sig.length;obtain⟨U,aI⟩:=eX d.par.box.length;obtain⟨V,aJ⟩:=eX d.par.hash.length;obtain⟨W,aK⟩:=eX d.par.late.length;obtain⟨y,C⟩:=eX d.kind;obtain⟨o,z⟩:=eX d.leaf.source;obtain⟨NB,u⟩:=eX (Bk d);obtain⟨rb,F⟩:=eX (Aq d);rw[<-aC,<-aE,<-aF,<-aG,<-aH,<-aI,<-aJ,<-aK,<-C,<-z]at i|-;unfold Ej at i;rw[<-u,<-F]at i;rw[<-u]at aB;simp only[<-u,<-F,<-C]at hF;rw[hF];have X:=(Below.refl w.heap.size w).alloc lR (rK #[rE rH (y:Nat),rD G P c1,rD H Q c2,rD I R c3,rE rH (o:Nat),rD J S c4,rD K T c5,rD L U O,rD M V e2,rD N W e3] 52);have aV:=Hd X;obtain⟨al,cl,rfl,-⟩:=id hl;obtain⟨ar,cr,rfl,-⟩:=id hr;rw[bvs_len]at hl hr|-;rw[bvs_len];obtain⟨nl,D⟩:=eX l.length;obtain⟨nr,E⟩:=eX r.length;rw[<-D]at hl|-;rw[<-E]at hr|-;have HL:=Hd hl;have HR:=Hd hr;have HN:=Hd (show nl=l.length/\nr=r.length from⟨D,E⟩);clear hF hk hs aC aE aF aG aH aI aJ aK C z u F X hl hr D E;cases rb with
 |false=>
  rw[iP (.inl rfl)];simp only[dW,if_false]at i;go_in;go_wp2_with fail;refine i.out.mono ?_;rintro e s ⟨a,v1,rfl,b⟩;have f:=(Blk.new w 52 _).below a (by simp);have x0:=f.cell 0;simp only[bY,bZ]at x0;have j:=a.size;simp only[World.alloc]at j;have x:w.heap.size<s.heap.size:=(by simp at j;omega);have g:=Hd (((Below.refl w.heap.size w).alloc lR (rK #[rE rH (y:Nat),rD G P c1,rD H Q c2,rD I R c3,rE rH (o:Nat),rD J S c4,rD K T c5,rD L U O,rD M V e2,rD N W e3] 52)).trans (a.mono (by simp)));clear f a j;have A:=Hd (Ed 3 w _ g.out);clear b;go_wp2_with fail;go_ret2;exact A.out
 |true=>
  simp only[if_true]at i
  by_cases k4:y=1
  ·have t4:((y:Int)==1)=true:=(by rw[beq_iff_eq];omega);rw[iP (.inr k4)];clear k4;go_in;go_wp2_with fail;refine i.out.mono ?_;rintro e s ⟨a,v1,rfl,b⟩;have f:=(Blk.new w 52 _).below a (by simp);have x0:=f.cell 0;simp only[bY,bZ]at x0;have j:=a.size;simp only[World.alloc]at j;have x:w.heap.size<s.heap.size:=(by simp at j;omega);have g:=Hd (((Below.refl w.heap.size w).alloc lR (rK #[rE rH (y:Nat),rD G P c1,rD H Q c2,rD I R c3,rE rH (o:Nat),rD J S c4,rD K T c5,rD L U O,rD M V e2,rD N W e3] 52)).trans (a.mono (by simp)));clear f a j;have A:=Hd (Ed 3 w _ g.out);clear b;go_wp2_with fail;go_ret2;exact A.out
  ·rw[iN (by simp[k4])];have t4:((y:Int)==1)=false:=(by rw[qN];omega);clear k4
   by_cases k5:nl=32
   ·have t5:((nl:Int) !=32)=false:=by rw[bne_eq_false_iff_eq];omega
    by_cases k6:nr=32
    ·have t6:((nr:Int) !=32)=false:=(by rw[bne_eq_false_iff_eq];omega);rw[iN (by omega)];have t:=Hd (show l.length=32/\r.length=32 from⟨by rw[<-HN.out.1];exact k5,by rw[<-HN.out.2];exact k6⟩);clear k5 k6;go_in;go_wp2_with fail;refine i.out.mono ?_;rintro e s ⟨a,v1,rfl,b⟩;have f:=(Blk.new w 52 _).below a (by simp);have x0:=f.cell 0;simp only[bY,bZ]at x0;have j:=a.size;simp only[World.alloc]at j;have x:w.heap.size<s.heap.size:=(by simp at j;omega);have g:=Hd (((Below.refl w.heap.size w).alloc lR (rK #[rE rH (y:Nat),rD G P c1,rD H Q c2,rD I R c3,rE rH (o:Nat),rD J S c4,rD K T c5,rD L U O,rD M V e2,rD N W e3] 52)).trans (a.mono (by simp)));clear f a j;have HO:=Hd b;have aW:=Hd (HL.out.below g.out lR);have aX:=Hd (HR.out.below g.out lR);have aL:=g.out.size;clear b;go_wp2_with (at_builtin;refine An rfl (.tmp 32) (.tmp 33) 28 rfl w.heap.size 5 _ 1 Ca _ (bvs [2]) rfl (Own.full (w:=s) (B:=w.heap.size) (e:=5) (cs:=#[rE rH 2]) rfl aL (by unfold maxLen;simp) (n:=1) rfl) _ (bvs NB) rfl (HO.out.rd.alloc _) (By _) ?c1 ?c2 ?_);case c1=>rw[bvs_len,bvs_len];simp only[dB,bU];omega
     case c2=>simp;omega
     rintro v3 w3 k-Y;rw[<-Cj]at k;have v:=(g.out.alloc aL (rK #[rE rH 2] 5)).trans Y;have aN:=Hd v;have aU:=v.size;have aR:=Hd (Dd v3 _ _ l w3 k.rd (HL.out.below v lR) (by rw[aD];simp only[dB,bU];omega) (by have:=t.out;omega));clear k Y v;go_wp2_with fail;refine aR.out.mono ?_;rintro e w4 ⟨v4,rfl,p,Z⟩;have m:=aN.out.trans (Z.mono aU);have aO:=Hd m;have aM:=m.size;have aT:=Bg l (by have:=t.out;omega);have aS:=Hd (Dd v4 _ _ r w4 p.rd (HR.out.below m lR) (by have:=t.out;rw[aD,aD];simp only[dB,bU];omega) (by have:=t.out;omega));clear p Z m aT;go_wp2_with fail;refine aS.out.mono ?_;rintro e w5 ⟨v5,rfl,q,aA⟩;have aQ:=Hd (q.mono aM);have aP:=Hd (aO.out.trans (aA.mono aM));clear q aA;go_wp2_with fail;go_ret2;exact⟨aP.out,_,rfl,aQ.out⟩
    ·have t6:((nr:Int) !=32)=true:=(by rw[bne_iff_ne];omega);rw[iP (.inr k6)];clear k5 k6;go_in;go_wp2_with fail;refine i.out.mono ?_;rintro e s ⟨a,v1,rfl,b⟩;have f:=(Blk.new w 52 _).below a (by simp);have x0:=f.cell 0;simp only[bY,bZ]at x0;have j:=a.size;simp only[World.alloc]at j;have x:w.heap.size<s.heap.size:=(by simp at j;omega);have g:=Hd (((Below.refl w.heap.size w).alloc lR (rK #[rE rH (y:Nat),rD G P c1,rD H Q c2,rD I R c3,rE rH (o:Nat),rD J S c4,rD K T c5,rD L U O,rD M V e2,rD N W e3] 52)).trans (a.mono (by simp)));clear f a j;have A:=Hd (Ed 1 w _ g.out);clear b;go_wp2_with fail;go_ret2;exact A.out
   ·have t5:((nl:Int) !=32)=true:=(by rw[bne_iff_ne];omega);rw[iP (.inl k5)];clear k5;go_in;go_wp2_with fail;refine i.out.mono ?_;rintro e s ⟨a,v1,rfl,b⟩;have f:=(Blk.new w 52 _).below a (by simp);have x0:=f.cell 0;simp only[bY,bZ]at x0;have j:=a.size;simp only[World.alloc]at j;have x:w.heap.size<s.heap.size:=(by simp at j;omega);have g:=Hd (((Below.refl w.heap.size w).alloc lR (rK #[rE rH (y:Nat),rD G P c1,rD H Q c2,rD I R c3,rE rH (o:Nat),rD J S c4,rD K T c5,rD L U O,rD M V e2,rD N W e3] 52)).trans (a.mono (by simp)));clear f a j;have A:=Hd (Ed 1 w _ g.out);clear b;go_wp2_with fail;go_ret2;exact A.out
def Zbg (d:LeafD):List Nat:=Jj d++Ba d.sig
theorem Ov (d:LeafD) (o q r s n:Option Addr) (c1 c2 c3 c4 c5:Nat) (w:World) (hs:Ni d) (t:d.source<256)
  (h1:Rd w (.slice o d.box.length c1) (bvs d.box)) (h2:Rd w (.slice q d.sign.length c2) (bvs d.sign)) (h3:Rd w (.slice r d.ident.length c3) (bvs d.ident)) (h4:Rd w (.slice s d.par.length c4) (bvs d.par)) (Z:Rd w (.slice n d.sig.length c5) (bvs d.sig)):
  Calls prog 176 #[.agg #[.slice o d.box.length c1,.slice q d.sign.length c2,.slice r d.ident.length c3,rE rH (d.source:Nat),.slice s d.par.length c4,.slice n d.sig.length c5]] w
   fun e w'=>∃v,e=rM v/\Own w' w.heap.size 5 v (bvs (Zbg d))/\Below w.heap.size w w':=by
 have aA:=Mg hs;have hu:Zbg d=Jj d++Ba d.sig:=rfl;have M:=hs;obtain⟨s1,s2,s3,s4,s5⟩:=hs;have l5:=Bg d.sig (by omega);have T:=fun W (S:Below w.heap.size w W)=>Zdi d o q r s n c1 c2 c3 c4 c5 W M t (h1.below S lR) (h2.below S lR) (h3.below S lR) (h4.below S lR);obtain⟨N,y⟩:=eX d.box.length;obtain⟨O,z⟩:=eX d.sign.length;obtain⟨P,A⟩:=eX d.ident.length;obtain⟨Q,B⟩:=eX d.par.length;obtain⟨G,k⟩:=eX d.sig.length;obtain⟨m,C⟩:=eX d.source;rw[<-y,<-z,<-A,<-B,<-k,<-C]at T;rw[<-y,<-z,<-A,<-B,<-k,<-C];rw[<-k]at Z s5 l5;have c:=Blk.new w 44 #[rD o N c1,rD q O c2,rD r P c3,rE rH (m:Nat),rD s Q c4,rD n G c5];have l:=(Below.refl w.heap.size w).alloc lR (rK #[rD o N c1,rD q O c2,rD r P c3,rE rH (m:Nat),rD s Q c4,rD n G c5] 44);have hz:(w.alloc (rK #[rD o N c1,rD q O c2,rD r P c3,rE rH (m:Nat),rD s Q c4,rD n G c5] 44)).heap.size=w.heap.size+1:=(by simp);obtain⟨W1,u⟩:=eX (w.alloc (rK #[rD o N c1,rD q O c2,rD r P c3,rE rH (m:Nat),rD s Q c4,rD n G c5] 44));rw[<-u]at c l hz;have r5:=Z.below l lR;have y0:=c.cell 0;have y1:=c.cell 1;have y2:=c.cell 2;have y3:=c.cell 3;have y4:=c.cell 4;have y5:=c.cell 5;simp only[bY,bZ,cA]at y0 y1 y2 y3 y4 y5;have i:w.heap.size<W1.heap.size:=(by omega);have HU:=Hd hu;have Y:=Hd u;have U:=Hd T;have X:=Hd k;clear c u hu y z A B k C h1 h2 h3 h4 Z T M t s1 s2 s3 s4;go_in;go_wp2_with fail;rw[<-Y.out];refine Cx [eF (.agg #[rD o N c1,rD q O c2,rD r P c3,rE rH (m:Nat),rD s Q c4,rD n G c5]),fun v w'=>Own w' w.heap.size 5 v (bvs (Jj d)),eF (rF (some ⟨w.heap.size,5,rJ⟩)),eF (rD n G c5),fun v w'=>Own w' w.heap.size 5 v (bvs (Ba d.sig)),fun v w'=>Own w' w.heap.size 5 v (bvs ((Jj d)++(Ba d.sig))),fun v w'=>Own w' w.heap.size 5 v (bvs (Jj d++Ba d.sig))] (by kernel_rfl) (by kernel_rfl) (by kernel_rfl) (kE (bX (fun v w1 H h x=>Own.below h x lR) (kE (kE (bX (fun v w1 H h x=>Own.below h x lR) (bX (fun v w1 H h x=>Own.below h x lR) (bX (fun v w1 H h x=>Own.below h x lR) (Ae)))))))) ?_ ?_
 ·refine gQ ?_ (gB ?_ (gQ ?_ (gQ ?_ (gB ?_ (gB ?_ (gB ?_ .nil))))));all_goals
   intro a I b ho R;refine⟨rfl,?_⟩;intro K J;try have P1:a.tmps[1]?.getD undef=rF (some ⟨w.heap.size,0,rJ⟩):=ho 1 (by kernel_rfl)
   try have E0:=eqn R.1
   try have D0:=(b.cell (p:=⟨w.heap.size,0,rJ⟩) i).trans y0
   try have D1:=(b.cell (p:=⟨w.heap.size,1,rJ⟩) i).trans y1
   try have D2:=(b.cell (p:=⟨w.heap.size,2,rJ⟩) i).trans y2
   try have D3:=(b.cell (p:=⟨w.heap.size,3,rJ⟩) i).trans y3
   try have D4:=(b.cell (p:=⟨w.heap.size,4,rJ⟩) i).trans y4
   try have D5:=(b.cell (p:=⟨w.heap.size,5,rJ⟩) i).trans y5
   try(refine Hd ?_;go_simp;exact J _ rfl)
  ·go_simp;refine(U.out I (l.trans (b.mono (by omega)))).mono ?_;rintro e H ⟨v2,rfl,g,j⟩;exact J _ _ (g.mono (by have:=b.size;omega)) j
  ·go_simp;refine(Ea _ d.sig I (r5.below b lR) (by have:=X.out;omega)).mono ?_;rintro e H ⟨v2,rfl,g,j⟩;exact J _ _ (g.mono (by have:=b.size;omega)) j
  ·have o1:Own I w.heap.size 5 (a.tmps[4]?.getD undef) (bvs (Jj d)):=R.1;obtain⟨v1,E⟩:=eX (a.tmps[4]?.getD undef);rw[<-E]at o1;have e1:=E.symm;clear E;have o2:Own I w.heap.size 5 (a.tmps[7]?.getD undef) (bvs (Ba d.sig)):=R.2.1;obtain⟨v2,F⟩:=eX (a.tmps[7]?.getD undef);rw[<-F]at o2;have e2:=F.symm;clear F;go_simp;refine(Cl v1 v2 _ _ I o1.rd o2.rd (by omega)).mono ?_;rintro e H ⟨v9,rfl,g,j⟩;exact J _ _ (g.mono (by have:=b.size;omega)) j
  ·have o0:Own I w.heap.size 5 (a.tmps[8]?.getD undef) (bvs (Jj d++Ba d.sig)):=R.1;obtain⟨v0,D⟩:=eX (a.tmps[8]?.getD undef);rw[<-D]at o0;have e0:=D.symm;clear D;go_simp;exact J _ _ o0 bR
 ·rintro f w3 L ⟨-,-,-,-,-,-,f8,-⟩;have h8:Own w3 w.heap.size 5 (f 2) (bvs (Jj d++Ba d.sig)):=f8;have H8:=Hd h8;have V:=Hd (l.trans (L.mono (show w.heap.size<=W1.heap.size by omega)));clear h8 f8 L y0 y1 y2 y3 y4 y5 r5 l;simp only[Ak,At,Ei,dG,dH,dJ,dK,Nat.reduceBEq,Nat.reduceAdd,dO,dP,cond_true,cond_false];go_wp2_with fail;go_ret;exact⟨_,rfl,by rw[HU.out];exact H8.out,V.out⟩
theorem Kw (d:NodeD)(c:Array Value)(w:World)(h:NodeC w d c)(hk:NodeOk d)(hs:Cb d=true)(O:d.kind=2->∀x∈d.par.late,0<=x/\x<65536):
  Calls prog 117 #[.agg c] w fun e w'=>∃v,e=rM v/\Own w' w.heap.size 5 v (bvs (Bk d))/\Below w.heap.size w w':=by
 have t:=oD hs;have T:Ni d.leaf:=⟨t.1,t.2.1,t.2.2.1,t.2.2.2.1,t.2.2.2.2.1⟩;obtain⟨a1,c1,a2,c2,a3,c3,a4,c4,a5,c5,b1,e1,b2,e2,b3,e3,rfl,h1,h2,h3,h4,h5,h6,h7,h8⟩:=h;have LB:=fun W (hw:Below w.heap.size w W)=>Ov d.leaf a1 a2 a3 a4 a5 c1 c2 c3 c4 c5 W T hk.source (h1.below hw lR) (h2.below hw lR) (h3.below hw lR) (h4.below hw lR) (h5.below hw lR);have b7:=Mg T;have b8:=Bg d.leaf.sig (by have:=T.2.2.2.2;omega);have b0:(Zbg d.leaf).length<=1024:=(by have:=T.2.2.2.2;unfold Zbg;rw[aD];omega);have S:d.kind=1->Bk d=[1]++Zbg d.leaf:=fun h=>(by rw[Bk,iP h];rfl);have F:d.kind=2->Bk d=(([2]++Ba d.par.box)++(Ba d.par.hash++Ba (Cf d.par.late))):=fun h=>by
  rw[Bk,iN (by omega),iP h,Zg2];simp[List.append_assoc]
 have aC:d.kind≠1->d.kind≠2->Bk d=[0]:=fun h h'=>(by rw[Bk,iN h,iN h']);have b4:=t.2.2.2.2.2.1;have b5:=t.2.2.2.2.2.2.1;have b6:=t.2.2.2.2.2.2.2;have bE:=Gg h8;have H:=fun r (hr:r<d.par.late.length)=>h8.get (r:=r) (show(ivs .i64 d.par.late)[r]? =some (rE .i64 (d.par.late.getD r 0)) by simp[ivs,hr]);have z:=fun(r:Nat) (h:r<d.par.late.length)=>(show d.par.late.take (r+1)=d.par.late.take r++[d.par.late.getD r 0] by rw[List.take_succ_eq_append_getElem h,aE,aF h];rfl);have A:=fun(h2:d.kind=2) (r:Nat) (h:r<d.par.late.length)=>(show 0<=d.par.late.getD r 0/\d.par.late.getD r 0<65536 by rw[aE,aF h];exact O h2 _ (List.getElem_mem h));have aW:=fun r=>Fb (d.par.late.take r);have v6:=Bg d.par.box (by omega);have v7:=Bg d.par.hash (by omega);obtain⟨m1,aR⟩:=eX d.leaf.box.length;obtain⟨m2,aS⟩:=eX d.leaf.sign.length;obtain⟨m3,aT⟩:=eX d.leaf.ident.length;obtain⟨m4,aU⟩:=eX d.leaf.par.length;obtain⟨m5,aV⟩:=eX d.leaf.sig.length;obtain⟨m6,P⟩:=eX d.par.box.length;obtain⟨m7,Q⟩:=eX d.par.hash.length;obtain⟨m8,R⟩:=eX d.par.late.length;obtain⟨kd,aQ⟩:=eX d.kind;obtain⟨aG,U⟩:=eX d.leaf.source;obtain⟨X,a8⟩:=eX d.par.box;obtain⟨Y,a9⟩:=eX d.par.hash;obtain⟨s,a7⟩:=eX d.par.late;obtain⟨LL,aN⟩:=eX (Zbg d.leaf);obtain⟨NB,aO⟩:=eX (Bk d);rw[<-aR,<-aS,<-aT,<-aU,<-aV,<-P,<-Q,<-R,<-aQ,<-U,<-aO];obtain⟨kz,aB⟩:∃kz:Int,kz=(kd:Int):=⟨_,rfl⟩;rw[<-aB];rw[<-aR,<-aS,<-aT,<-aU,<-aV,<-U,<-aN]at LB;rw[<-P]at h6 b4 v6;rw[<-Q]at h7 b5 v7;rw[<-R]at b6 bE H z A;rw[<-aQ]at aC S F A;rw[<-aN]at S b0;rw[<-a8]at h6 P F v6;rw[<-a9]at h7 Q F v7;rw[<-a7]at R F H z A aW;rw[<-aO]at aC S F;have aY:=(Below.refl w.heap.size w).alloc lR (rK #[rE rH kz,rD a1 m1 c1,rD a2 m2 c2,rD a3 m3 c3,rE rH (aG:Nat),rD a4 m4 c4,rD a5 m5 c5,rD b1 m6 e1,rD b2 m7 e2,rD b3 m8 e3] 52);have k:=Blk.new w 52 #[rE rH kz,rD a1 m1 c1,rD a2 m2 c2,rD a3 m3 c3,rE rH (aG:Nat),rD a4 m4 c4,rD a5 m5 c5,rD b1 m6 e1,rD b2 m7 e2,rD b3 m8 e3];have hz:(w.alloc (rK #[rE rH kz,rD a1 m1 c1,rD a2 m2 c2,rD a3 m3 c3,rE rH (aG:Nat),rD a4 m4 c4,rD a5 m5 c5,rD b1 m6 e1,rD b2 m7 e2,rD b3 m8 e3] 52)).heap.size=w.heap.size+1:=(by simp);obtain⟨W1,aP⟩:=eX (w.alloc (rK #[rE rH kz,rD a1 m1 c1,rD a2 m2 c2,rD a3 m3 c3,rE rH (aG:Nat),rD a4 m4 c4,rD a5 m5 c5,rD b1 m6 e1,rD b2 m7 e2,rD b3 m8 e3] 52));rw[<-aP]at aY k hz;have cD:w.heap.size<W1.heap.size:=(by omega);have x0:=k.cell 0;have x1:=k.cell 1;have x2:=k.cell 2;have x3:=k.cell 3;have x4:=k.cell 4;have x5:=k.cell 5;have x6:=k.cell 6;have x7:=k.cell 7;have x8:=k.cell 8;have x9:=k.cell 9;simp only[bY,bZ,cA]at x0 x1 x2 x3 x4 x5 x6 x7 x8 x9;have bM:=Hd LB;have bN:=Hd aC;have bO:=Hd S;have bP:=Hd F;have H6:=Hd h6;have H7:=Hd h7;have HM:=Hd (show m6=X.length/\m7=Y.length/\m8=s.length from⟨P,Q,R⟩);have J:=Hd aY;have aM:=Hd aP;have bL:=Hd H;have bV:=Hd z;have HV:=Hd A;have a0:=Hd aW;clear t T LB aC S F h1 h2 h3 h4 h5 h6 h7 h8 aR aS aT aU aV P Q R aQ U a8 a9 a7 aN aO aP H z A aW hs hk O aY b7 b8
 by_cases k1:kd=1
 ·obtain rfl:kz=1:=(by omega);subst k1;clear aB;go_in;go_wp2_with fail;rw[<-aM.out];have aA:=J.out.alloc J.out.size (rK #[rE rH 1] 5);have HO:Hid (Rd (W1.alloc (rK #[rE rH 1] 5)) (rD (some ⟨w.heap.size+1,0,rJ⟩) 1 1) (bvs [1])):=Hd (Yk (w:=W1) (cs:=#[rE rH 1]) (L:=[1]) hz.symm rfl (by simp));refine(bM.out _ aA).mono ?_;rintro e w3 ⟨v3,rfl,b,D⟩;have cB:=D.size;have HJ:=Hd (Cl _ v3 [1] LL w3 (HO.out.below D lR) b.rd (by simp only[dB,bU];omega));have N:=aA.trans (D.mono aA.size);have aJ:=Hd N;have aI:=N.size;clear b D aA N cB;go_wp2_with fail;refine HJ.out.mono ?_;rintro e w4 ⟨v4,rfl,b,bA⟩;have bQ:=Hd (b.mono aI);have bJ:=Hd (aJ.out.trans (bA.mono aI));clear b bA;go_wp2_with fail;go_ret;exact⟨_,rfl,by rw[bO.out trivial];exact bQ.out,bJ.out⟩
 ·have t1:(kz==1)=false:=by rw[qN];omega
  by_cases k2:kd=2
  ·obtain rfl:kz=2:=(by omega);subst k2;clear k1 t1 aB;go_in;go_wp2_with fail;rw[<-aM.out]
   go_loopg [3,4] m8 (fun q lv i wr=>∃r:Nat,r+q=m8/\i=rE .i64 (r:Int)/\Rd wr lv (bvs (Cf (s.take r)))/\Below (w.heap.size+1) W1 wr)
   case atStart=>exact⟨0,by omega,rfl,⟨none,0,rfl,lR,Nat.zero_le _,.inl ⟨rfl,fun _=>rfl⟩⟩,bR⟩
   case round=>
    obtain⟨r,hr,rfl,bF,E⟩:=hrel;have aL:=Hd bF;have aK:=Hd E;have bG:=E.size;rw[hz]at bG;have y0:=(E.cell (p:=⟨w.heap.size,0,rJ⟩) (dV _)).trans x0;have y7:=(E.cell (p:=⟨w.heap.size,7,rJ⟩) (dV _)).trans x7;have y8:=(E.cell (p:=⟨w.heap.size,8,rJ⟩) (dV _)).trans x8;have y9:=(E.cell (p:=⟨w.heap.size,9,rJ⟩) (dV _)).trans x9;have bC:w.heap.size<wr.heap.size:=(by omega);clear bF E
    by_cases hrk:r<m8
    ·obtain⟨a6,bH,rfl,aH,c0⟩:=bL.out r hrk;have bW:=(aK.out.cell (p:=⟨a6,bH+r,rJ⟩) (by simp only;omega)).trans ((J.out.cell (p:=⟨a6,bH+r,rJ⟩) aH).trans c0);have z:=bV.out r hrk;obtain⟨q0,q1⟩:=HV.out trivial r hrk;have y:=a0.out r;obtain⟨x,hx⟩:=eX (s.getD r 0);rw[<-hx]at bW z q0 q1;obtain⟨m,rfl⟩:∃m:Nat,x=(m:Int):=⟨x.toNat,by omega⟩;have bD:(s.take r).length<=r:=List.length_take_le _ _;have bT:=Hd (fun W=>Yj 4 m W (by omega) (by omega));have HT:=Hd z;have aZ:=Hd (show(Cf (s.take r)).length+(beN 4 m).length<1000000000 by rw[beN_len];omega);clear c0 hx z y bD aH;go_wp2_with fail;refine(bT.out _).mono ?_;rintro e C ⟨v2,rfl,b,g⟩;have cE:=g.size;have HJ:=Hd (Cl _ v2 _ _ C (aL.out.below g lR) b.rd aZ.out);have bI:=Hd (aK.out.trans (g.mono bG));clear b g;go_wp2_with fail;refine HJ.out.mono ?_;rintro e w5 ⟨v5,rfl,b,bB⟩;have bS:=Hd b.rd;have bK:=Hd (bI.out.trans (bB.mono (by omega)));clear b bB;go_wp2_with fail;go_roundg (gk-1);case measure=>omega
     case rel=>exact⟨r+1,by omega,by go_num,by rw[HT.out,Pi,Int.toNat_natCast];exact bS.out,bK.out⟩
    ·obtain rfl:r=m8:=(by omega);have ht:s.take r=s:=(by rw[HM.out.2.2,List.take_length]);have y:=a0.out r;rw[ht]at aL y;have cC:decide ((r:Int)<(r:Int))=false:=(by rw[dN];omega);have G:=J.out.trans (aK.out.mono (by omega));have r1:=H6.out.below G lR;have r2:=H7.out.below G lR;have r3:=aL.out;have b9:w.heap.size<=wr.heap.size:=(by omega);have M:=Hd (show(Cf s).length<=4000 by have:=HM.out.2.2;rw[y];omega);clear y ht;go_wp2_with fail;refine Cx [fun v w'=>Rd w' v (bvs [2]),eF (rF (some ⟨w.heap.size,7,rJ⟩)),eF (rF (some ⟨w.heap.size,7,rJ⟩)),eF (rD b1 m6 e1),fun v w'=>Own w' w.heap.size 5 v (bvs (Ba X)),fun v w'=>Own w' w.heap.size 5 v (bvs (([2])++(Ba X))),eF (rF (some ⟨w.heap.size,7,rJ⟩)),eF (rF (some ⟨w.heap.size,8,rJ⟩)),eF (rD b2 m7 e2),fun v w'=>Own w' w.heap.size 5 v (bvs (Ba Y)),fun v w'=>Rd w' v (bvs (Cf s)),fun v w'=>Own w' w.heap.size 5 v (bvs (Ba (Cf s))),fun v w'=>Own w' w.heap.size 5 v (bvs ((Ba Y)++(Ba (Cf s)))),fun v w'=>Own w' w.heap.size 5 v (bvs (([2]++Ba X)++(Ba Y++Ba (Cf s)))),fun v w'=>Own w' w.heap.size 5 v (bvs (([2]++Ba X)++(Ba Y++Ba (Cf s))))] (by kernel_rfl) (by kernel_rfl) (by kernel_rfl) (bX (fun v w1 C h u=>Rd.below h u lR) (kE (kE (kE (bX (fun v w1 C h u=>Own.below h u lR) (bX (fun v w1 C h u=>Own.below h u lR) (kE (kE (kE (bX (fun v w1 C h u=>Own.below h u lR) (bX (fun v w1 C h u=>Rd.below h u lR) (bX (fun v w1 C h u=>Own.below h u lR) (bX (fun v w1 C h u=>Own.below h u lR) (bX (fun v w1 C h u=>Own.below h u lR) (bX (fun v w1 C h u=>Own.below h u lR) (Ae)))))))))))))))) ?_ ?_
     ·refine gB ?_ (gQ ?_ (gQ ?_ (gQ ?_ (gB ?_ (gB ?_ (gQ ?_ (gQ ?_ (gQ ?_ (gB ?_ (gB ?_ (gB ?_ (gB ?_ (gB ?_ (gB ?_ .nil))))))))))))));all_goals
       intro a I l ho hf;refine⟨rfl,?_⟩;intro K Z;try have P1:a.tmps[1]?.getD undef=rF (some ⟨w.heap.size,0,rJ⟩):=ho 1 (by kernel_rfl)
       try have P3:a.tmps[3]?.getD undef=u3:=ho 3 (by kernel_rfl)
       try have E0:=eqn hf.1
       try have D0:=(l.cell (p:=⟨w.heap.size,7,rJ⟩) bC).trans y7
       try have D1:=(l.cell (p:=⟨w.heap.size,8,rJ⟩) bC).trans y8
       try(refine Hd ?_;go_simp;exact Z _ rfl)
      ·go_simp;exact Z _ _ (Yk (cs:=#[rE rH 2]) (L:=[2]) rfl rfl (by simp)) (bR.alloc lR _)
      ·go_simp;refine(Ea _ X I (r1.below l lR) (by have:=HM.out;omega)).mono ?_;rintro e C ⟨v2,rfl,b,g⟩;exact Z _ _ (b.mono (by have:=l.size;omega)) g
      ·have V:Rd I (a.tmps[34]?.getD undef) (bvs [2]):=hf.1;obtain⟨v1,j⟩:=eX (a.tmps[34]?.getD undef);rw[<-j]at V;have e1:=j.symm;clear j;have o2:Own I w.heap.size 5 (a.tmps[38]?.getD undef) (bvs (Ba X)):=hf.2.1;obtain⟨v2,o⟩:=eX (a.tmps[38]?.getD undef);rw[<-o]at o2;have e2:=o.symm;clear o;go_simp;refine(Cl v1 v2 _ _ I V o2.rd (by simp only[dB,bU];omega)).mono ?_;rintro e C ⟨v9,rfl,b,g⟩;exact Z _ _ (b.mono (by have:=l.size;omega)) g
      ·go_simp;refine(Ea _ Y I (r2.below l lR) (by have:=HM.out;omega)).mono ?_;rintro e C ⟨v2,rfl,b,g⟩;exact Z _ _ (b.mono (by have:=l.size;omega)) g
      ·go_simp;exact Z _ _ (r3.below l lR) bR
      ·have V:Rd I (a.tmps[44]?.getD undef) (bvs (Cf s)):=hf.1;obtain⟨v1,j⟩:=eX (a.tmps[44]?.getD undef);rw[<-j]at V;have e1:=j.symm;clear j;go_simp;refine(Ea v1 (Cf s) I V (by have:=M.out;omega)).mono ?_;rintro e C ⟨v2,rfl,b,g⟩;exact Z _ _ (b.mono (by have:=l.size;omega)) g
      ·have V:Own I w.heap.size 5 (a.tmps[43]?.getD undef) (bvs (Ba Y)):=hf.1;obtain⟨v1,j⟩:=eX (a.tmps[43]?.getD undef);rw[<-j]at V;have e1:=j.symm;clear j;have o2:Own I w.heap.size 5 (a.tmps[45]?.getD undef) (bvs (Ba (Cf s))):=hf.2.1;obtain⟨v2,o⟩:=eX (a.tmps[45]?.getD undef);rw[<-o]at o2;have e2:=o.symm;clear o;go_simp;refine(Cl v1 v2 _ _ I V.rd o2.rd (by have:=M.out;have:=Bg (Cf s) (by omega);omega)).mono ?_;rintro e C ⟨v9,rfl,b,g⟩;exact Z _ _ (b.mono (by have:=l.size;omega)) g
      ·have V:Own I w.heap.size 5 (a.tmps[39]?.getD undef) (bvs ([2]++Ba X)):=hf.1;obtain⟨v1,j⟩:=eX (a.tmps[39]?.getD undef);rw[<-j]at V;have e1:=j.symm;clear j;have o2:Own I w.heap.size 5 (a.tmps[46]?.getD undef) (bvs (Ba Y++Ba (Cf s))):=hf.2.1;obtain⟨v2,o⟩:=eX (a.tmps[46]?.getD undef);rw[<-o]at o2;have e2:=o.symm;clear o;go_simp;refine(Cl v1 v2 _ _ I V.rd o2.rd (by have:=M.out;have:=Bg (Cf s) (by omega);simp only[aD,dB,bU];omega)).mono ?_;rintro e C ⟨v9,rfl,b,g⟩;exact Z _ _ (b.mono (by have:=l.size;omega)) g
      ·have o0:Own I w.heap.size 5 (a.tmps[47]?.getD undef) (bvs (([2]++Ba X)++(Ba Y++Ba (Cf s)))):=hf.1;obtain⟨v0,aX⟩:=eX (a.tmps[47]?.getD undef);rw[<-aX]at o0;have e0:=aX.symm;clear aX;go_simp;exact Z _ _ o0 bR
     ·rintro f w3 D ⟨-,-,-,-,-,-,-,-,-,-,-,-,-,-,f8,-⟩;have h8:Own w3 w.heap.size 5 (f 2) (bvs (([2]++Ba X)++(Ba Y++Ba (Cf s)))):=f8;have H8:=Hd h8;have aJ:=Hd (G.trans (D.mono b9));clear h8 f8 D r1 r2 r3 G;simp only[Ak,At,Ei,dG,dH,dJ,dK,Nat.reduceBEq,Nat.reduceAdd,dO,dP,cond_true,cond_false];go_wp2_with fail;go_ret;exact⟨_,rfl,by rw[bP.out trivial];exact H8.out,aJ.out⟩
  ·have t2:(kz==2)=false:=(by rw[qN];omega);have HN:=Hd (bN.out k1 k2);clear k1 k2 aB;go_in;go_wp2_with fail;rw[<-aM.out];go_ret;refine⟨_,rfl,?_,J.out.alloc J.out.size _⟩;rw[HN.out];exact Own.full (w:=W1) (B:=w.heap.size) (e:=5) (cs:=#[rE rH 0]) hz.symm (Nat.le_succ _) (by unfold maxLen;simp) (n:=1) rfl
