import Derived.Laws.BytesArg
import Derived.Lib.Bytes
import Derived.Test.YtfofaiommeckbaaGreatZTr24
open Go.Obj renaming cells -> rK
open Go.Ending renaming returned -> rM
open Go.Value renaming slice -> rD, int -> rE
open Go.IntKind renaming i64 -> rG
open Go.Proofs.Tryz
open Bool renaming eq_iff_iff -> gH, and_eq_true -> cK
open List renaming range -> aC, getElem?_toArray -> bY, getElem?_cons_zero -> bZ, getElem?_cons_succ -> cA
set_option linter.unusedVariables false
set_option maxRecDepth 100000
set_option maxHeartbeats 40000000
namespace Go.Proofs.YtfofaiommeckbaaGreat
open Go.RowKit
theorem Qo {w:World} {v:Value} {L:List Nat}(h:Rd w v (bvs L)):(convert 28 9 v).run prog w=.ok (.string (strOfNums (L.map fun(n:Nat)=>(n:Int)))) w:=by
 obtain⟨a,cap,rfl,k,h2,h3⟩:=h;rcases h3 with⟨e,l⟩|⟨b,c,rfl,j⟩
 ·have g:L=[]:=by
   have:=congrArg List.length e;rw[bvs_len]at this;exact List.eq_nil_of_length_eq_zero this
  subst g;cases a with
  |none=>exact run_convert_bytes_nil w 28 5 underlying28 underlying5 _ _ 9 underlying9
  |some a=>
   obtain⟨b,c,f⟩:=a;rw[run_convert_bytes_string w 28 9 5 _ _ _ underlying28 underlying5 underlying9]
   rfl
 ·refine run_convert_bytes_arg w 28 5 underlying28 underlying5 b c _ _ _ ?_ ?_ 9 underlying9
  ·rw[List.length_map,bvs_len]
  ·intro i d;rw[bvs_len]at d;rw[j i _ (Zkn d)]
   congr 2
   rw[List.getD_eq_getElem?_getD,List.getElem?_map,List.getElem?_eq_getElem d];rfl
theorem Xy {L M:List Nat}(b:∀n∈L,n<256)(c:∀n∈M,n<256)(h:(strOfNums (L.map fun(n:Nat)=>(n:Int))).toList=(strOfNums (M.map fun(n:Nat)=>(n:Int))).toList):L=M:=by
 rw[Lib.strOfNums_toList,Lib.strOfNums_toList]at h;have h2:=congrArg (List.map UInt8.toNat) h;unfold Lib.bytesOf at h2;simp only[List.map_map]at h2;have e:∀(K:List Nat),(∀n∈K,n<256)->K.map (UInt8.toNat∘((fun(n:Int)=>UInt8.ofNat n.toNat)∘fun(n:Nat)=>(n:Int)))=K:=by
  intro K a
  conv=>rhs;rw[<-List.map_id K]
  apply List.map_congr_left;intro n d;simp[Nat.mod_eq_of_lt (a n d)]
 rw[e L b,e M c]at h2;exact h2
theorem Eu (f g:Value)(L M:List Nat)(w:World)(d:Rd w f (bvs L))(h2:Rd w g (bvs M))(l:∀n∈L,n<256)(m:∀n∈M,n<256):
  Calls prog 96 #[f,g] w fun e w'=>e=rM (.bool (decide (L=M)))/\w'=w:=by
 have k:=Qo d;have g2:=Qo h2;have b:decide (L=M)=((strOfNums (L.map fun(n:Nat)=>(n:Int))).toList==(strOfNums (M.map fun(n:Nat)=>(n:Int))).toList):=by
  by_cases e:L=M
  ·subst e;simp
  ·rw[dF e,Eq.comm,qN];exact fun h=>e (Xy l m h)
 rw[b];obtain⟨S,i⟩:=eX (strOfNums (L.map fun(n:Nat)=>(n:Int)));obtain⟨T,j⟩:=eX (strOfNums (M.map fun(n:Nat)=>(n:Int)));rw[<-i]at k|-;rw[<-j]at g2|-;obtain⟨o,s,q,rfl⟩:∃a n c,f=.slice a n c:=(by obtain⟨a,c,e,_⟩:=d;exact⟨_,_,_,e⟩);obtain⟨p,t,r,rfl⟩:∃a n c,g=.slice a n c:=(by obtain⟨a,c,e,_⟩:=h2;exact⟨_,_,_,e⟩);clear i j d h2 b;go_in;go_wp2_with fail;go_ret;exact⟨rfl,rfl⟩
open WalkM WireM
def Qp (d:NodeD):Prop:=d.par.late.length<=1000000
theorem Zcs (D E:NodeD)(c c':Array Value)(w:World)(L:NodeC w D c)(h2:NodeC w E c')(f:NodeOk D)(g:NodeOk E)(sD:Qp D)(sE:Qp E):
  Calls prog 93 #[.agg c,.agg c'] w fun e w'=>e=rM (.bool (Co D E))/\Below w.heap.size w w':=by
 obtain⟨a1,aE,a2,aF,a3,aG,a4,aH,a5,aI,a6,aJ,a7,aK,a8,aL,rfl,M,N,O,P,Q,R,S,T⟩:=L;obtain⟨b1,aM,b2,aN,b3,aO,b4,aP,b5,aQ,b6,aR,b7,aS,b8,aT,rfl,U,V,X,Y,Z,aA,aB,aC⟩:=h2;have h:=Hd fun(W:World) (a:Below w.heap.size w W)=>Eu _ _ _ _ W (M.below a lR) (U.below a lR) f.box g.box;have i:=Hd fun(W:World) (a:Below w.heap.size w W)=>Eu _ _ _ _ W (N.below a lR) (V.below a lR) f.sign g.sign;have j:=Hd fun(W:World) (a:Below w.heap.size w W)=>Eu _ _ _ _ W (O.below a lR) (X.below a lR) f.ident g.ident;have l:=Hd fun(W:World) (a:Below w.heap.size w W)=>Eu _ _ _ _ W (P.below a lR) (Y.below a lR) f.par g.par;have m:=Hd fun(W:World) (a:Below w.heap.size w W)=>Eu _ _ _ _ W (Q.below a lR) (Z.below a lR) f.sig g.sig;have n:=Hd fun(W:World) (a:Below w.heap.size w W)=>Eu _ _ _ _ W (R.below a lR) (aA.below a lR) f.pbox g.pbox;have o:=Hd fun(W:World) (a:Below w.heap.size w W)=>Eu _ _ _ _ W (S.below a lR) (aB.below a lR) f.hash g.hash;have p:=Hd fun(W:World) (a:Below w.heap.size w W)=>Rw _ _ _ _ W (T.below a lR) (aC.below a lR) sD sE;have b:Co D E=(decide (D.kind=E.kind)&&decide (D.leaf.source=E.leaf.source)&&decide (D.par.late=E.par.late)&&decide (D.leaf.box=E.leaf.box)&&decide (D.leaf.sign=E.leaf.sign)&&decide (D.leaf.ident=E.leaf.ident)&&decide (D.leaf.par=E.leaf.par)&&decide (D.leaf.sig=E.leaf.sig)&&decide (D.par.box=E.par.box)&&decide (D.par.hash=E.par.hash)):=by
  rw[Co,Ht,gH];simp only[decide_eq_true_eq,cK];constructor
  ·rintro⟨L,⟨h2,h3,h4,h5,h6,h7⟩,h8,h9,q⟩;exact⟨⟨⟨⟨⟨⟨⟨⟨⟨L,h5⟩,q⟩,h2⟩,h3⟩,h4⟩,h6⟩,h7⟩,h8⟩,h9⟩
  ·rintro⟨⟨⟨⟨⟨⟨⟨⟨⟨L,h5⟩,q⟩,h2⟩,h3⟩,h4⟩,h6⟩,h7⟩,h8⟩,h9⟩;exact⟨L,⟨h2,h3,h4,h5,h6,h7⟩,h8,h9,q⟩
 generalize hz1:decide (D.leaf.box=E.leaf.box)=z1 at b h;obtain⟨l1,r⟩:=eX D.leaf.box.length;obtain⟨m1,B⟩:=eX E.leaf.box.length;rw[<-r,<-B]at h;rw[<-r,<-B];generalize hz2:decide (D.leaf.sign=E.leaf.sign)=z2 at b i;obtain⟨l2,t⟩:=eX D.leaf.sign.length;obtain⟨m2,C⟩:=eX E.leaf.sign.length;rw[<-t,<-C]at i;rw[<-t,<-C];generalize hz3:decide (D.leaf.ident=E.leaf.ident)=z3 at b j;obtain⟨l3,u⟩:=eX D.leaf.ident.length;obtain⟨m3,F⟩:=eX E.leaf.ident.length;rw[<-u,<-F]at j;rw[<-u,<-F];generalize hz4:decide (D.leaf.par=E.leaf.par)=z4 at b l;obtain⟨l4,v⟩:=eX D.leaf.par.length;obtain⟨m4,G⟩:=eX E.leaf.par.length;rw[<-v,<-G]at l;rw[<-v,<-G];generalize hz5:decide (D.leaf.sig=E.leaf.sig)=z5 at b m;obtain⟨l5,x⟩:=eX D.leaf.sig.length;obtain⟨m5,H⟩:=eX E.leaf.sig.length;rw[<-x,<-H]at m;rw[<-x,<-H];generalize hz6:decide (D.par.box=E.par.box)=z6 at b n;obtain⟨l6,y⟩:=eX D.par.box.length;obtain⟨m6,I⟩:=eX E.par.box.length;rw[<-y,<-I]at n;rw[<-y,<-I];generalize hz7:decide (D.par.hash=E.par.hash)=z7 at b o;obtain⟨l7,z⟩:=eX D.par.hash.length;obtain⟨m7,J⟩:=eX E.par.hash.length;rw[<-z,<-J]at o;rw[<-z,<-J];generalize hz8:decide (D.par.late=E.par.late)=z8 at b p;obtain⟨l8,A⟩:=eX D.par.late.length;obtain⟨m8,K⟩:=eX E.par.late.length;rw[<-A,<-K]at p;rw[<-A,<-K];rw[b];generalize D.kind=kd at b|-;generalize E.kind=ke at b|-;generalize D.leaf.source=s at b|-;generalize E.leaf.source=s' at b|-;clear b f g sD sE M N O P Q R S T U V X Y Z aA aB aC r B hz1 t C hz2 u F hz3 v G hz4 x H hz5 y I hz6 z J hz7 A K hz8
 by_cases hk:kd=ke
 ·subst hk
  by_cases hs:s=s'
  ·subst hs;go_in;go_wp2_with fail
   go_region
   all_goals
    go_wp2_with fail;refine(p.out _ ?_).mono ?_
    ·(repeat any_goals(first|exact bR|exact lR|refine Below.alloc ?_ ?_ _|refine Below.draw1 ?_|refine Ab ?_ _|refine Below.setCell ?_ ?_ _|(simp;done)|(simp;omega)))
    rintro e aU ⟨rfl,k,rfl⟩;cases z8 with
    |false=>go_wp2_with fail;go_ret;refine⟨by simp,?_⟩;(repeat any_goals(first|exact bR|exact lR|refine Below.alloc ?_ ?_ _|refine Below.draw1 ?_|refine Ab ?_ _|refine Below.setCell ?_ ?_ _|(simp;done)|(simp;omega)))
    |true=>
    go_wp2_with fail;refine(h.out _ ?_).mono ?_
    ·(repeat any_goals(first|exact bR|exact lR|refine Below.alloc ?_ ?_ _|refine Below.draw1 ?_|refine Ab ?_ _|refine Below.setCell ?_ ?_ _|(simp;done)|(simp;omega)))
    rintro e d ⟨rfl,rfl⟩;cases z1 with
    |false=>go_wp2_with fail;go_ret;refine⟨by simp,?_⟩;(repeat any_goals(first|exact bR|exact lR|refine Below.alloc ?_ ?_ _|refine Below.draw1 ?_|refine Ab ?_ _|refine Below.setCell ?_ ?_ _|(simp;done)|(simp;omega)))
    |true=>
    go_wp2_with fail;refine(i.out _ ?_).mono ?_
    ·(repeat any_goals(first|exact bR|exact lR|refine Below.alloc ?_ ?_ _|refine Below.draw1 ?_|refine Ab ?_ _|refine Below.setCell ?_ ?_ _|(simp;done)|(simp;omega)))
    rintro e d ⟨rfl,rfl⟩;cases z2 with
    |false=>go_wp2_with fail;go_ret;refine⟨by simp,?_⟩;(repeat any_goals(first|exact bR|exact lR|refine Below.alloc ?_ ?_ _|refine Below.draw1 ?_|refine Ab ?_ _|refine Below.setCell ?_ ?_ _|(simp;done)|(simp;omega)))
    |true=>
    go_wp2_with fail;refine(j.out _ ?_).mono ?_
    ·(repeat any_goals(first|exact bR|exact lR|refine Below.alloc ?_ ?_ _|refine Below.draw1 ?_|refine Ab ?_ _|refine Below.setCell ?_ ?_ _|(simp;done)|(simp;omega)))
    rintro e d ⟨rfl,rfl⟩;cases z3 with
    |false=>go_wp2_with fail;go_ret;refine⟨by simp,?_⟩;(repeat any_goals(first|exact bR|exact lR|refine Below.alloc ?_ ?_ _|refine Below.draw1 ?_|refine Ab ?_ _|refine Below.setCell ?_ ?_ _|(simp;done)|(simp;omega)))
    |true=>
    go_wp2_with fail;refine(l.out _ ?_).mono ?_
    ·(repeat any_goals(first|exact bR|exact lR|refine Below.alloc ?_ ?_ _|refine Below.draw1 ?_|refine Ab ?_ _|refine Below.setCell ?_ ?_ _|(simp;done)|(simp;omega)))
    rintro e d ⟨rfl,rfl⟩;cases z4 with
    |false=>go_wp2_with fail;go_ret;refine⟨by simp,?_⟩;(repeat any_goals(first|exact bR|exact lR|refine Below.alloc ?_ ?_ _|refine Below.draw1 ?_|refine Ab ?_ _|refine Below.setCell ?_ ?_ _|(simp;done)|(simp;omega)))
    |true=>
    go_wp2_with fail;refine(m.out _ ?_).mono ?_
    ·(repeat any_goals(first|exact bR|exact lR|refine Below.alloc ?_ ?_ _|refine Below.draw1 ?_|refine Ab ?_ _|refine Below.setCell ?_ ?_ _|(simp;done)|(simp;omega)))
    rintro e d ⟨rfl,rfl⟩;cases z5 with
    |false=>go_wp2_with fail;go_ret;refine⟨by simp,?_⟩;(repeat any_goals(first|exact bR|exact lR|refine Below.alloc ?_ ?_ _|refine Below.draw1 ?_|refine Ab ?_ _|refine Below.setCell ?_ ?_ _|(simp;done)|(simp;omega)))
    |true=>
    go_wp2_with fail;refine(n.out _ ?_).mono ?_
    ·(repeat any_goals(first|exact bR|exact lR|refine Below.alloc ?_ ?_ _|refine Below.draw1 ?_|refine Ab ?_ _|refine Below.setCell ?_ ?_ _|(simp;done)|(simp;omega)))
    rintro e d ⟨rfl,rfl⟩;cases z6 with
    |false=>go_wp2_with fail;go_ret;refine⟨by simp,?_⟩;(repeat any_goals(first|exact bR|exact lR|refine Below.alloc ?_ ?_ _|refine Below.draw1 ?_|refine Ab ?_ _|refine Below.setCell ?_ ?_ _|(simp;done)|(simp;omega)))
    |true=>
    go_wp2_with fail;refine(o.out _ ?_).mono ?_
    ·(repeat any_goals(first|exact bR|exact lR|refine Below.alloc ?_ ?_ _|refine Below.draw1 ?_|refine Ab ?_ _|refine Below.setCell ?_ ?_ _|(simp;done)|(simp;omega)))
    rintro e d ⟨rfl,rfl⟩;go_wp2_with fail;go_ret;refine⟨by simp,?_⟩;(repeat any_goals(first|exact bR|exact lR|refine Below.alloc ?_ ?_ _|refine Below.draw1 ?_|refine Ab ?_ _|refine Below.setCell ?_ ?_ _|(simp;done)|(simp;omega)))
  ·have aD:¬((s:Int)=(s':Int)):=(by omega);go_in;go_wp2_with fail
   go_region
   all_goals(go_wp2_with fail;go_ret;refine⟨by simp[hs],?_⟩;(repeat any_goals(first|exact bR|exact lR|refine Below.alloc ?_ ?_ _|refine Below.draw1 ?_|refine Ab ?_ _|refine Below.setCell ?_ ?_ _|(simp;done)|(simp;omega))))
 ·have aD:¬((kd:Int)=(ke:Int)):=(by omega);go_in;go_wp2_with fail
  go_region
  all_goals(go_wp2_with fail;go_ret;refine⟨by simp[hk],?_⟩;(repeat any_goals(first|exact bR|exact lR|refine Below.alloc ?_ ?_ _|refine Below.draw1 ?_|refine Ab ?_ _|refine Below.setCell ?_ ?_ _|(simp;done)|(simp;omega))))
def Pe (f:Nat->Bool)(n m:Nat):Bool:=decide (n=m)&&(aC n).all f
theorem Zaw {f:Nat->Bool} {n m:Nat}(h:n≠m):Pe f n m=false:=by rw[Pe,dF h];rfl
theorem Zax {f:Nat->Bool} {n m i:Nat}(hi:i<n)(h:f i=false):Pe f n m=false:=by
 have:(aC n).all f=false:=List.all_eq_false.2 ⟨i,List.mem_range.2 hi,by rw[h];simp⟩;rw[Pe,this,Bool.and_false]
theorem Vf {f:Nat->Bool} {n:Nat}(h:∀i,i<n->f i=true):Pe f n n=true:=by
 rw[Pe,dT rfl,Bool.true_and,List.all_eq_true];exact fun i hi=>h i (List.mem_range.1 hi)
def Zgv (l m:List (Int×NodeD)):Bool:=Pe (fun i=>decide ((spt l i).1=(spt m i).1)&&Co (spt l i).2 (spt m i).2) l.length m.length
def Zgw (l m:List (Int×List Nat)):Bool:=Pe (fun i=>decide ((stb l i).1=(stb m i).1)&&decide ((stb l i).2=(stb m i).2)) l.length m.length
theorem Vg (a b:SparseD):Va a b=(decide (a.leaves=b.leaves)&&decide (a.own=b.own)&&Zgv a.op b.op&&Zgw a.sh b.sh):=by
 rw[Va,Zgv,Zgw,Pe,Pe,gH];simp only[decide_eq_true_eq,cK];constructor
 ·rintro⟨⟨⟨c,h2,h3,d⟩,e⟩,f⟩;exact⟨⟨⟨c,h2⟩,h3,e⟩,d,f⟩
 ·rintro⟨⟨⟨c,h2⟩,h3,e⟩,d,f⟩;exact⟨⟨⟨c,h2,h3,d⟩,e⟩,f⟩
theorem Vh (x y:Int) (x0 x1 x2 x3 x4 x5 x6 x7 x8 x9 g h i j k l m n o p:Value) (z:Bool) (w:World)
  (f:∀W,Below w.heap.size w W->Calls prog 93 #[.agg #[x0,x1,x2,x3,x4,x5,x6,x7,x8,x9],.agg #[g,h,i,j,k,l,m,n,o,p]] W fun e w'=>e=rM (.bool z)/\Below W.heap.size W w'):
  Calls prog 92 #[.agg #[rE rG x,x0,x1,x2,x3,x4,x5,x6,x7,x8,x9],.agg #[rE rG y,g,h,i,j,k,l,m,n,o,p]] w fun e w'=>e=rM (.bool (decide (x=y)&&z))/\Below w.heap.size w w':=by
 have d:=Hd f;clear f
 by_cases hxy:x=y
 ·subst hxy;go_in;go_wp2_with fail;have a:=fun(q r:Obj)=>((Below.refl w.heap.size w).alloc lR q).alloc (by simp) r;refine(d.out _ (a _ _)).mono ?_;rintro e s ⟨rfl,b⟩;have c:=Hd ((a _ _).trans (b.mono (a _ _).size));clear b a;go_wp2_with fail;go_ret;exact⟨by simp,c.out⟩
 ·go_in;go_wp2_with fail;go_ret;exact⟨by simp[hxy],((Below.refl w.heap.size w).alloc lR _).alloc (by simp) _⟩
theorem Vi (x y:Int) (d h:Option Addr) (g f j i:Nat) (z:Bool) (w:World)
  (k:∀W,Below w.heap.size w W->Calls prog 96 #[rD d g f,rD h j i] W fun e w'=>e=rM (.bool z)/\w'=W):
  Calls prog 95 #[.agg #[rE rG x,rD d g f],.agg #[rE rG y,rD h j i]] w fun e w'=>e=rM (.bool (decide (x=y)&&z))/\Below w.heap.size w w':=by
 have c:=Hd k;clear k
 by_cases hxy:x=y
 ·subst hxy;go_in;go_wp2_with fail;have a:=fun(l m:Obj)=>((Below.refl w.heap.size w).alloc lR l).alloc (by simp) m;refine(c.out _ (a _ _)).mono ?_;rintro e n ⟨rfl,rfl⟩;have b:=Hd (a (rK #[rE rG x,rD d g f] 89) (rK #[rE rG x,rD h j i] 89));clear a;go_wp2_with fail;go_ret;exact⟨by simp,b.out⟩
 ·go_in;go_wp2_with fail;go_ret;exact⟨by simp[hxy],((Below.refl w.heap.size w).alloc lR _).alloc (by simp) _⟩
theorem Xz (v v':Value)(l m:List (Int×NodeD))(w:World)(h:SpotsR w v l)(U:SpotsR w v' m)(X:∀p∈l,NodeOk p.2/\Qp p.2)(Y:∀p∈m,NodeOk p.2/\Qp p.2)(hl:l.length<=1000000)(hm:m.length<=1000000):
  Calls prog 91 #[v,v',.func (.func 92) #[] #[]] w fun e w'=>e=rM (.bool (Zgv l m))/\Below w.heap.size w w':=by
 obtain⟨a1,q1,rfl,aB,aE⟩:=h.sl;obtain⟨a2,q2,rfl,aC,aF⟩:=U.sl;have T:=fun(i:Nat) (a:i<l.length) (D:i<m.length) (c c':Array Value) (W:World) (hc:NodeC W (spt l i).2 c) (V:NodeC W (spt m i).2 c')=>Zcs _ _ c c' W hc V (X _ (Oc a)).1 (Y _ (Oc D)).1 (X _ (Oc a)).2 (Y _ (Oc D)).2;have I:=fun(W:World) (b:Below w.heap.size w W) (i:Nat) (a:i<l.length)=>(h.below b lR).at a;have J:=fun(W:World) (b:Below w.heap.size w W) (i:Nat) (a:i<m.length)=>(U.below b lR).at a;rw[Zgv];obtain⟨f,Z⟩:=eX (fun i=>decide ((spt l i).1=(spt m i).1)&&Co (spt l i).2 (spt m i).2);rw[<-Z];obtain⟨n,hn⟩:=eX l.length;obtain⟨n',s⟩:∃n,n=m.length:=⟨_,rfl⟩;rw[<-hn]at I aB hl|-;rw[<-s]at J aC hm|-;rw[<-hn,<-s]at T;have S:=Hd T;have M:=Hd I;have N:=Hd J;have L:=Hd Z;clear T I J h U hn s Z X Y
 by_cases hnn:n=n'
 ·subst hnn;go_in;go_wp2_with fail
  go_loopg [17] n (fun q iv wr=>∃i:Nat,i+q=n/\iv=rE rG (i:Nat)/\Below w.heap.size w wr/\∀j,j<i->f j=true)
  case atStart=>exact⟨0,by omega,rfl,bR,fun j r=>absurd r (Nat.not_lt_zero _)⟩
  case round=>
   obtain⟨i,a,rfl,z,r⟩:=hrel;have HI:=Hd a;have K:=Hd z;have HJ:=Hd r
   by_cases hlt:i<n
   ·have E:decide (i<n)=true:=dT hlt;have aD:(i:Int)<(n:Int):=(by omega);have g:=Hd hlt;obtain⟨b1,f1,C1,rfl,aO,t,F⟩:=M.out wr z i hlt;obtain⟨b2,f2,C2,rfl,aA,u,G⟩:=N.out wr z i hlt;have O:=Hd t;have P:=Hd u;obtain⟨kd,sd,k1,k2,k3,k4,k5,k6,k7,k8,d1,d2,d3,d4,d5,e1,e2,e3,n1,n2,n3,n4,n5,m1,m2,m3,rfl,-,-,-⟩:=t.flat;obtain⟨aY,a9,aQ,aR,aS,aT,aU,aV,aW,aX,aG,aH,aI,aJ,aK,aL,aM,aN,a4,a5,a6,a7,a8,aZ,a0,a3,rfl,-,-,-⟩:=u.flat;have Q:=Hd F;have R:=Hd (fun(o:Obj)=>Am G ((Below.refl wr.heap.size wr).alloc lR o) aA);have k:f i=(decide ((spt l i).1=(spt m i).1)&&Co (spt l i).2 (spt m i).2):=(by rw[L.out]);have HS:=Hd (fun(W:World) (b:Below wr.heap.size wr W)=>Vh (spt l i).1 (spt m i).1 _ _ _ _ _ _ _ _ _ _ _ _ _ _ _ _ _ _ _ _ _ W fun W2 H=>S.out i g.out g.out _ _ W2 (O.out.below (b.trans (H.mono b.size)) lR) (P.out.below (b.trans (H.mono b.size)) lR));have C:=fun(o1 o2:Obj)=>((Below.refl wr.heap.size wr).alloc lR o1).alloc (by simp) o2;have d:=Hd C;generalize(decide ((spt l i).1=(spt m i).1)&&Co (spt l i).2 (spt m i).2)=B at k HS;have y:=Hd k.symm;clear a z r F G t u C k;go_wp2_with (first|(refine wpList_load_mid rfl 87 (.tmp 20) rfl b1 (f1+i*11) rfl _ _ Q.out underlying87 rfl Kb ?_)|(refine wpList_load_mid rfl 87 (.tmp 24) rfl b2 (f2+i*11) rfl _ _ (R.out _) underlying87 rfl Kb ?_));refine(HS.out _ (d.out _ _)).mono ?_;rintro e w2 ⟨rfl,A⟩;have x:=Hd (K.out.trans ((d.out _ _).trans (A.mono (d.out _ _).size)|>.mono K.out.size));clear A;cases B with
    |true=>
     go_wp2_with fail;go_roundg (gk-1);case measure=>have:=HI.out;omega
     case rel=>exact⟨i+1,by have:=HI.out;omega,by go_num,x.out,fun j r=>(Nat.lt_succ_iff_lt_or_eq.1 r).elim (HJ.out j) fun e=>e▸y.out.symm⟩
    |false=>
     go_wp2_with fail;go_ret;exact⟨by rw[Zax g.out y.out.symm];rfl,x.out⟩
   ·obtain rfl:i=n:=(by omega);have E:decide (i<i)=false:=dF hlt;clear a z r hlt;go_wp2_with fail;go_ret;exact⟨by rw[Vf HJ.out];rfl,K.out⟩
 ·have aP:¬((n:Int)=(n':Int)):=(by omega);go_in;go_wp2_with fail;go_ret;exact⟨by rw[Zaw hnn];rfl,bR⟩
theorem Ya (v v':Value)(l m:List (Int×List Nat))(w:World)(h:StubsR w v l)(X:StubsR w v' m)(hd:∀p∈l,∀x∈p.2,x<256)(he:∀p∈m,∀x∈p.2,x<256)(hl:l.length<=1000000)(hm:m.length<=1000000):
  Calls prog 94 #[v,v',.func (.func 95) #[] #[]] w fun e w'=>e=rM (.bool (Zgw l m))/\Below w.heap.size w w':=by
 obtain⟨a1,q1,rfl,aC,aF⟩:=h.sl;obtain⟨a2,q2,rfl,aD,aG⟩:=X.sl;have V:=fun(i:Nat) (b:i<l.length) (aA:i<m.length) (u u':Value) (W:World) (hc:Rd W u (bvs (stb l i).2)) (Y:Rd W u' (bvs (stb m i).2))=>Eu u u' _ _ W hc Y (hd _ (Xb b)) (he _ (Xb aA));have K:=fun(W:World) (d:Below w.heap.size w W) (i:Nat) (b:i<l.length)=>(h.below d lR).at b;have L:=fun(W:World) (d:Below w.heap.size w W) (i:Nat) (b:i<m.length)=>(X.below d lR).at b;rw[Zgw];obtain⟨f,Z⟩:=eX (fun i=>decide ((stb l i).1=(stb m i).1)&&decide ((stb l i).2=(stb m i).2));rw[<-Z];obtain⟨n,hn⟩:=eX l.length;obtain⟨n',t⟩:∃n,n=m.length:=⟨_,rfl⟩;rw[<-hn]at K aC hl|-;rw[<-t]at L aD hm|-;rw[<-hn,<-t]at V;have U:=Hd V;have O:=Hd K;have P:=Hd L;have N:=Hd Z;clear V K L h X hn t Z hd he
 by_cases hnn:n=n'
 ·subst hnn;go_in;go_wp2_with fail
  go_loopg [17] n (fun q iv wr=>∃i:Nat,i+q=n/\iv=rE rG (i:Nat)/\Below w.heap.size w wr/\∀j,j<i->f j=true)
  case atStart=>exact⟨0,by omega,rfl,bR,fun j s=>absurd s (Nat.not_lt_zero _)⟩
  case round=>
   obtain⟨i,b,rfl,D,s⟩:=hrel;have HI:=Hd b;have M:=Hd D;have HJ:=Hd s
   by_cases hlt:i<n
   ·have G:decide (i<n)=true:=dT hlt;have aE:(i:Int)<(n:Int):=(by omega);have k:=Hd hlt;obtain⟨b1,f1,u1,rfl,aH,y,H⟩:=O.out wr D i hlt;obtain⟨b2,f2,u2,rfl,aB,z,I⟩:=P.out wr D i hlt;have Q:=Hd y;have R:=Hd z;obtain⟨ua,un,uc,rfl⟩:∃a n c,u1=.slice a n c:=(by obtain⟨a,c,e,_⟩:=y;exact⟨_,_,_,e⟩);obtain⟨va,vn,vc,rfl⟩:∃a n c,u2=.slice a n c:=(by obtain⟨a,c,e,_⟩:=z;exact⟨_,_,_,e⟩);have S:=Hd H;have T:=Hd (fun(o:Obj)=>Am I ((Below.refl wr.heap.size wr).alloc lR o) aB);have r:f i=(decide ((stb l i).1=(stb m i).1)&&decide ((stb l i).2=(stb m i).2)):=(by rw[N.out]);have HS:=Hd (fun(W:World) (d:Below wr.heap.size wr W)=>Vi (stb l i).1 (stb m i).1 ua va un uc vn vc _ W fun W2 J=>U.out i k.out k.out _ _ W2 (Q.out.below (d.trans (J.mono d.size)) lR) (R.out.below (d.trans (J.mono d.size)) lR));have F:=fun(o1 o2:Obj)=>((Below.refl wr.heap.size wr).alloc lR o1).alloc (by simp) o2;have g:=Hd F;generalize(decide ((stb l i).1=(stb m i).1)&&decide ((stb l i).2=(stb m i).2))=B at r HS;have C:=Hd r.symm;clear b D s H I y z F r;go_wp2_with (first|(refine wpList_load_mid rfl 89 (.tmp 20) rfl b1 (f1+i*2) rfl _ _ S.out underlying89 rfl Kc ?_)|(refine wpList_load_mid rfl 89 (.tmp 24) rfl b2 (f2+i*2) rfl _ _ (T.out _) underlying89 rfl Kc ?_));refine(HS.out _ (g.out _ _)).mono ?_;rintro e w2 ⟨rfl,E⟩;have A:=Hd (M.out.trans ((g.out _ _).trans (E.mono (g.out _ _).size)|>.mono M.out.size));clear E;cases B with
    |true=>
     go_wp2_with fail;go_roundg (gk-1);case measure=>have:=HI.out;omega
     case rel=>exact⟨i+1,by have:=HI.out;omega,by go_num,A.out,fun j s=>(Nat.lt_succ_iff_lt_or_eq.1 s).elim (HJ.out j) fun e=>e▸C.out.symm⟩
    |false=>
     go_wp2_with fail;go_ret;exact⟨by rw[Zax k.out C.out.symm];rfl,A.out⟩
   ·obtain rfl:i=n:=(by omega);have G:decide (i<i)=false:=dF hlt;clear b D s hlt;go_wp2_with fail;go_ret;exact⟨by rw[Vf HJ.out];rfl,M.out⟩
 ·have aI:¬((n:Int)=(n':Int)):=(by omega);go_in;go_wp2_with fail;go_ret;exact⟨by rw[Zaw hnn];rfl,bR⟩
theorem Yb (v v':Value)(s t:SparseD)(w:World)(h:SparseR w v s)(h':SparseR w v' t)(k:SparseOk s)(f:SparseOk t)(z:Bx s=true)(K:Bx t=true):
  Calls prog 45 #[v,v'] w fun e w'=>e=rM (.bool (Va s t))/\Below w.heap.size w w':=by
 obtain⟨o,g,rfl,Q,P⟩:=h;obtain⟨o',g',rfl,u,r⟩:=h';have q:∀ {s:SparseD},Bx s=true->s.op.length<=1000000/\s.sh.length<=1000000/\∀p∈s.op,Qp p.2:=by
  intro s z;simp only[Bx,cK,decide_eq_true_eq]at z;refine⟨by omega,by omega,fun p i=> ?_⟩;have:=oD (List.all_eq_true.1 z.1.2 _ i);unfold Qp;omega
 have A:=fun(W:World) (F:Below w.heap.size w W)=>Xz o o' s.op t.op W (Q.below F lR) (u.below F lR) (fun p i=>⟨(k.op p i).2,(q z).2.2 p i⟩) (fun p i=>⟨(f.op p i).2,(q K).2.2 p i⟩) (q z).1 (q K).1;have B:=fun(W:World) (F:Below w.heap.size w W)=>Ya g g' s.sh t.sh W (P.below F lR) (r.below F lR) (fun p i=>(k.sh p i).2) (fun p i=>(f.sh p i).2) (q z).2.1 (q K).2.1;obtain⟨L,M,rfl,-,-⟩:=Q.sl;obtain⟨I,J,rfl,-,-⟩:=P.sl;obtain⟨G,H,rfl,-,-⟩:=u.sl;obtain⟨C,D,rfl,-,-⟩:=r.sl;rw[Vg];generalize Zgv s.op t.op=z1 at A|-;generalize Zgw s.sh t.sh=z2 at B|-;generalize s.op.length=n1 at A|-;generalize s.sh.length=n2 at B|-;generalize t.op.length=n3 at A|-;generalize t.sh.length=n4 at B|-;generalize s.leaves=x at k|-;generalize s.own=y;generalize t.leaves=x';generalize t.own=y';have N:=Hd A;have O:=Hd B;have E:=fun(o1 o2:Obj)=>((Below.refl w.heap.size w).alloc lR o1).alloc (by simp) o2;have n:=Hd E;clear A B Q P u r k f z K q E;go_in;go_wp2_with fail;refine(N.out _ (n.out _ _)).mono ?_;rintro e w1 ⟨rfl,j⟩;have l:=Hd ((n.out _ _).trans (j.mono (n.out _ _).size));have a:=Hd (Blk.below (Blk.new (w.alloc (rK #[rE rG x,rE rG y,rD L n1 M,rD I n2 J] 25)) 25 #[rE rG x',rE rG y',rD G n3 H,rD C n4 D]) j (by simp));have b:=Hd (Blk.below ((Blk.new w 25 #[rE rG x,rE rG y,rD L n1 M,rD I n2 J]).alloc (rK #[rE rG x',rE rG y',rD G n3 H,rD C n4 D] 25)) j (by simp;omega));have R:=a.out.cell 0;have S:=a.out.cell 1;have T:=a.out.cell 3;have U:=b.out.cell 0;have V:=b.out.cell 1;have X:=b.out.cell 3;simp only[bY,bZ,cA]at R S T U V X;have d:(w.alloc (rK #[rE rG x,rE rG y,rD L n1 M,rD I n2 J] 25)).heap.size=w.heap.size+1:=(by simp);rw[d]at R S T;clear j d;go_wp2_with fail;refine(O.out _ l.out).mono ?_;rintro e w2 ⟨rfl,c⟩;have m:=Hd (l.out.trans (c.mono l.out.size));have Y:=(a.out.below c a.out.lt).cell 0;have Z:=(a.out.below c a.out.lt).cell 1;have t0:=(b.out.below c b.out.lt).cell 0;have t1:=(b.out.below c b.out.lt).cell 1;simp only[bY,bZ,cA]at Y Z t0 t1;have d:(w.alloc (rK #[rE rG x,rE rG y,rD L n1 M,rD I n2 J] 25)).heap.size=w.heap.size+1:=(by simp);rw[d]at Y Z;clear c d R S T U V X
 by_cases h1:x=x'
 ·subst h1
  by_cases h2:y=y'
  ·subst h2;cases z1<;>cases z2;all_goals(go_wp2_with fail;go_ret;exact⟨by simp,m.out⟩)
  ·go_wp2_with fail;go_ret;exact⟨by simp,m.out⟩
 ·go_wp2_with fail;go_ret;exact⟨by simp[h1],m.out⟩
