import Derived.Deep.RegionWith
import Derived.Test.YtfofaiommeckbaaGreatZCk04
open Go.Obj renaming cells -> rJ
open Go.Ending renaming returned -> rK
open Go.Value renaming slice -> rC, int -> rD, pointer -> rE
open Go.IntKind renaming i64 -> rF, u8 -> rG
open Option renaming none -> rI
open Go.Proofs.Tryz
open List renaming length_append -> bA, append_assoc -> cY, map_cons -> cZ, flatten_cons -> dA, length_cons -> dB, take_succ_eq_append_getElem -> cM, getElem?_eq_getElem -> bB, getElem?_toArray -> cR, getElem?_cons_zero -> cS, getElem?_cons_succ -> aP, mem_cons -> aZ, not_mem_nil -> dC, mem_of_mem_take -> cL, length_nil -> cO, getElem_mem -> bC, take_length -> dD, append_nil -> dE, getD_eq_getElem?_getD -> aS, filterMap_cons -> dG, filterMap_nil -> dH, contains_cons -> dJ, contains_nil -> dK
open Bool renaming not_eq_true -> cX, true_and -> dL, or_false -> dM, or_true -> dO, and_eq_true -> aT, false_and -> dP
open Nat renaming add_sub_cancel -> dQ, lt_or_ge -> aB, zero_le -> aA, pow_succ -> bF, sub_zero -> dR
open Int renaming toNat_natCast -> cV
open Array renaming size_push -> dS
set_option linter.unusedVariables false
set_option maxRecDepth 100000
set_option maxHeartbeats 40000000
namespace Go.Proofs.YtfofaiommeckbaaGreat
open Go.RowKit WireM
def Bf (v:List Nat):List Nat:=lenB v.length++v
def Pf (l:List (List Nat)):List Nat:=(l.map Bf).flatten
def RdL (w:World)(v:Value)(rows:List (List Nat)):Prop:=
 ∃vs:List Value,Rd w v vs/\vs.length=rows.length/\∀(i:Nat) r,rows[i]? =some r->∃u,vs[i]? =some u/\Rd w u (bvs r)
theorem RdL.below {w w':World} {B:Nat} {v:Value} {rows:List (List Nat)}(h:RdL w v rows)(hb:Below B w w')(hB:w.heap.size<=B):RdL w' v rows:=by
 obtain⟨vs,h1,h2,h3⟩:=h;refine⟨vs,h1.below hb hB,h2,?_⟩;intro i r hr;obtain⟨u,h4,h5⟩:=h3 i r hr;exact⟨u,h4,h5.below hb hB⟩
theorem Bi (v:List Nat)(h:v.length<1073741824):(Bf v).length<=v.length+4:=by
 rw[Bf,bA,lenB_len h];unfold lenS
 split<;>(try split)<;>(try split)<;>omega
theorem Fn {v:List Nat}(h:v.length<1073741824)(hv:∀n∈v,n<256):∀n∈Bf v,n<256:=by
 intro n hn;rw[Bf,List.mem_append]at hn;rcases hn with hn|hn
 ·exact lenB_lt h n hn
 ·exact hv n hn
theorem Dz (v:Value)(L:List Nat)(w:World)(h:Rd w v (bvs L))(k:L.length<1073741824):
  Calls prog 147 #[v] w fun e w'=>∃v',e=rK v'/\Own w' w.heap.size 5 v' (bvs (Bf L))/\Below w.heap.size w w':=by
 have m:=Hd (Mo L.length w k);have e2:(lenB L.length).length<=4:=by
  rw[lenB_len k];unfold lenS;split<;>(try split)<;>(try split)<;>omega
 obtain⟨a,cap,rfl,_⟩:=id h;rw[bvs_len]at h|-;have o:=Hd h;clear h;go_in;go_wp2_with fail;refine m.out.mono ?_;rintro e r ⟨p,rfl,b,d⟩;have n:=Hd b;have l:=Hd d;have i:=Hd (o.out.below d lR);have j:=d.size;clear b d;go_wp2_with (at_builtin;refine Ak rfl (.tmp 5) (.tmp 6) 28 rfl w.heap.size 5 _ 1 Cq _ _ rfl n.out _ (bvs L) rfl i.out (Ch _) ?c2 ?c3 ?_);case c2=>rw[bvs_len,bvs_len];omega
 case c3=>exact j
 rintro q s b-c;have g:=Hd b;have f:=Hd (l.out.trans c);clear b c;go_wp2_with fail;go_ret;refine⟨_,rfl,?_,f.out⟩;rw[Bf,Cl];exact g.out
theorem Dk (b v:Value)(B L:List Nat)(w:World)(d:Rd w b (bvs B))(h:Rd w v (bvs L))(q:B.length<274877906944)(l:L.length<1073741824):
  Calls prog 170 #[b,v] w fun e w'=>∃v',e=rK v'/\Own w' w.heap.size 5 v' (bvs (B++Bf L))/\Below w.heap.size w w':=by
 have n:=Hd (Zcg b B L.length w d (by omega) l);have e2:(lenB L.length).length<=4:=by
  rw[lenB_len l];unfold lenS;split<;>(try split)<;>(try split)<;>omega
 obtain⟨a,cap,rfl,_⟩:=id h;rw[bvs_len]at h|-;have p:=Hd h;clear h d;go_in;go_wp2_with fail;refine n.out.mono ?_;rintro e t ⟨r,rfl,c,d⟩;have o:=Hd c;have m:=Hd d;have j:=Hd (p.out.below d lR);have k:=d.size;clear c d;go_wp2_with (at_builtin;refine Ak rfl (.tmp 8) (.tmp 9) 28 rfl w.heap.size 5 _ 1 Cq _ _ rfl o.out _ (bvs L) rfl j.out (Ch _) ?c2 ?c3 ?_);case c2=>rw[bvs_len,bvs_len,bA];omega
 case c3=>exact k
 rintro s u c-f;have i:=Hd c;have g:=Hd (m.out.trans f);clear c f;go_wp2_with fail;go_ret;refine⟨_,rfl,?_,g.out⟩;rw[Bf,<-cY,Cl];exact i.out
theorem Tk (l:List (List Nat))(r:List Nat):Pf (l++[r])=Pf l++Bf r:=by simp[Pf]
theorem Ye:∀(l:List (List Nat)),(∀r∈l,r.length<=200)->(Pf l).length<=l.length*204:=by
 intro l
 induction l with
 |nil=>intro _;simp[Pf]
 |cons r l ih=>
  intro h;have h1:=ih fun q a=>h q (by simp[a]);have h2:=Bi r (by have:=h r (by simp);omega);have h3:=h r (by simp);simp only[Pf,cZ,dA,bA,dB]at h1|-;omega
theorem Zco {l:List (List Nat)} {r:Nat}(h:r<l.length):l.take (r+1)=l.take r++[l[r]]:=cM h
theorem RdL.cases {w:World} {v:Value} {c:List (List Nat)}(h:RdL w v c):
  ∃a cap,v=.slice a c.length cap/\c.length<=cap/\cap<=maxLen/\∀i (g:i<c.length),∃b d u,a=some ⟨b,d,rI⟩/\b<w.heap.size/\w.cell? ⟨b,d+i,rI⟩=some u/\Rd w u (bvs c[i]):=by
 obtain⟨n,h1,h2,h3⟩:=h;obtain⟨a,cap,rfl,f,j,e⟩:=h1;rw[h2]at f;refine⟨a,cap,by rw[h2],f,j,?_⟩;intro i g;obtain⟨u,m,l⟩:=h3 i _ (bB g);rcases e with⟨e,_⟩|⟨b,d,rfl,k⟩
 ·rw[e]at h2;simp at h2;omega
 ·have:=k i u m;exact⟨b,d,u,rfl,World.block_lt_of_cell? w _ this,this,l⟩
structure LeafD where
 box:List Nat
 sign:List Nat
 ident:List Nat
 source:Nat
 par:List Nat
 sig:List Nat
structure ParD where
 box:List Nat
 hash:List Nat
 late:List Int
structure NodeD where
 kind:Nat
 leaf:LeafD
 par:ParD
def rlB (n1 n2 n3 s n4 n5:Nat):Bool:=decide (n1=32/\n2=32/\n5=64/\1<=n3/\n3<=64/\1<=s/\s<=3/\(n4=0\/(s=3/\n4=32)))
def nlB (n1 n2 n3 s n4 n5:Nat):Bool:=decide (s=0/\n1+n2+n3+n4+n5=0)
def npB (n1 n2 n3:Nat):Bool:=decide (n1+n2+n3=0)
theorem Jz (g h i j k:Option Addr)(n1 d b c f c1 c2 c3 c4 c5 s:Nat)(w:World):
  Calls prog 210 #[.agg #[rC g n1 c1,rC h d c2,rC i b c3,rD rG (s:Nat),rC j c c4,rC k f c5]] w fun e w'=>e=rK (.bool (rlB n1 d b s c f))/\Below w.heap.size w w':=by
 by_cases k0:n1≠32
 ·have a:Hid (rlB n1 d b s c f=false):=Hd (by rw[rlB,dN];omega);have l:((n1:Int) !=32)=true:=(by rw[bne_iff_ne];omega);clear k0;go_in;go_wp2_with fail;go_ret;exact⟨Ae a.out.symm,bR.alloc lR _⟩
 ·have l:((n1:Int) !=32)=false:=by rw[bne_eq_false_iff_eq];omega
  by_cases k1:d≠32
  ·have a:Hid (rlB n1 d b s c f=false):=Hd (by rw[rlB,dN];omega);have m:((d:Int) !=32)=true:=(by rw[bne_iff_ne];omega);clear k1;go_in;go_wp2_with fail;go_ret;exact⟨Ae a.out.symm,bR.alloc lR _⟩
  ·have m:((d:Int) !=32)=false:=by rw[bne_eq_false_iff_eq];omega
   by_cases k2:f≠64
   ·have a:Hid (rlB n1 d b s c f=false):=Hd (by rw[rlB,dN];omega);have n:((f:Int) !=64)=true:=(by rw[bne_iff_ne];omega);clear k2;go_in;go_wp2_with fail;go_ret;exact⟨Ae a.out.symm,bR.alloc lR _⟩
   ·have n:((f:Int) !=64)=false:=by rw[bne_eq_false_iff_eq];omega
    by_cases k3:b<1
    ·have a:Hid (rlB n1 d b s c f=false):=Hd (by rw[rlB,dN];omega);have o:decide ((b:Int)<1)=true:=(by rw[dI];omega);clear k3;go_in;go_wp2_with fail;go_ret;exact⟨Ae a.out.symm,bR.alloc lR _⟩
    ·have o:decide ((b:Int)<1)=false:=by rw[dN];omega
     by_cases k4:64<b
     ·have a:Hid (rlB n1 d b s c f=false):=Hd (by rw[rlB,dN];omega);have p:decide (64<(b:Int))=true:=(by rw[dI];omega);clear k4;go_in;go_wp2_with fail;go_ret;exact⟨Ae a.out.symm,bR.alloc lR _⟩
     ·have p:decide (64<(b:Int))=false:=by rw[dN];omega
      by_cases k5:s<1
      ·have a:Hid (rlB n1 d b s c f=false):=Hd (by rw[rlB,dN];omega);have q:decide ((s:Int)<1)=true:=(by rw[dI];omega);clear k5;go_in;go_wp2_with fail;go_ret;exact⟨Ae a.out.symm,bR.alloc lR _⟩
      ·have q:decide ((s:Int)<1)=false:=by rw[dN];omega
       by_cases k6:3<s
       ·have a:Hid (rlB n1 d b s c f=false):=Hd (by rw[rlB,dN];omega);have r:decide (3<(s:Int))=true:=(by rw[dI];omega);clear k6;go_in;go_wp2_with fail;go_ret;exact⟨Ae a.out.symm,bR.alloc lR _⟩
       ·have r:decide (3<(s:Int))=false:=by rw[dN];omega
        by_cases k7:c=0
        ·have a:Hid (rlB n1 d b s c f=true):=Hd (by rw[rlB,dI];omega);have t:((c:Int)==0)=true:=(by rw[beq_iff_eq];omega);clear k0 k1 k2 k3 k4 k5 k6 k7;go_in;go_wp2_with fail;go_ret;exact⟨Ae a.out.symm,bR.alloc lR _⟩
        ·have t:((c:Int)==0)=false:=by rw[qN];omega
         by_cases k8:s=3
         ·have u:((s:Int)==3)=true:=by rw[beq_iff_eq];omega
          by_cases k9:c=32
          ·have a:Hid (rlB n1 d b s c f=true):=Hd (by rw[rlB,dI];omega);have v:((c:Int)==32)=true:=(by rw[beq_iff_eq];omega);clear k0 k1 k2 k3 k4 k5 k6 k7 k8 k9;go_in;go_wp2_with fail;go_ret;exact⟨Ae a.out.symm,bR.alloc lR _⟩
          ·have a:Hid (rlB n1 d b s c f=false):=Hd (by rw[rlB,dN];omega);have v:((c:Int)==32)=false:=(by rw[qN];omega);clear k0 k1 k2 k3 k4 k5 k6 k7 k8 k9;go_in;go_wp2_with fail;go_ret;exact⟨Ae a.out.symm,bR.alloc lR _⟩
         ·have a:Hid (rlB n1 d b s c f=false):=Hd (by rw[rlB,dN];omega);have u:((s:Int)==3)=false:=(by rw[qN];omega);clear k0 k1 k2 k3 k4 k5 k6 k7 k8;go_in;go_wp2_with fail;go_ret;exact⟨Ae a.out.symm,bR.alloc lR _⟩
theorem Zap (g h i j k:Option Addr)(n1 a b c d c1 c2 c3 c4 c5 s:Nat)(h1:n1<=maxLen)(n:n1+a+b+c+d<4611686018427387904)(w:World):
  Calls prog 208 #[.agg #[rC g n1 c1,rC h a c2,rC i b c3,rD rG (s:Nat),rC j c c4,rC k d c5]] w fun e w'=>e=rK (.bool (nlB n1 a b s c d))/\Below w.heap.size w w':=by
 by_cases k0:s=0
 ·have l:((s:Int)==0)=true:=by rw[beq_iff_eq];omega
  by_cases k1:n1+a+b+c+d=0
  ·have f:Hid (nlB n1 a b s c d=true):=Hd (by rw[nlB,dI];omega);have m:((n1:Int)+(a:Int)+(b:Int)+(c:Int)+(d:Int)==0)=true:=(by rw[beq_iff_eq];omega);clear k0 k1 h1;go_in;go_wp2_with fail;go_ret;exact⟨Ae f.out.symm,bR.alloc lR _⟩
  ·have f:Hid (nlB n1 a b s c d=false):=Hd (by rw[nlB,dN];omega);have m:((n1:Int)+(a:Int)+(b:Int)+(c:Int)+(d:Int)==0)=false:=(by rw[qN];omega);clear k0 k1 h1;go_in;go_wp2_with fail;go_ret;exact⟨Ae f.out.symm,bR.alloc lR _⟩
 ·have f:Hid (nlB n1 a b s c d=false):=Hd (by rw[nlB,dN];omega);have l:((s:Int)==0)=false:=(by rw[qN];omega);clear k0 h1;go_in;go_wp2_with fail;go_ret;exact⟨Ae f.out.symm,bR.alloc lR _⟩
theorem Tl (d f g:Option Addr)(n1 a b c1 c2 c3:Nat)(i:n1+a+b<4611686018427387904)(w:World):
  Calls prog 209 #[.agg #[rC d n1 c1,rC f a c2,rC g b c3]] w fun e w'=>e=rK (.bool (npB n1 a b))/\Below w.heap.size w w':=by
 by_cases k1:n1+a+b=0
 ·have c:Hid (npB n1 a b=true):=Hd (by rw[npB,dI];omega);have h:((n1:Int)+(a:Int)+(b:Int)==0)=true:=(by rw[beq_iff_eq];omega);clear k1;go_in;go_wp2_with fail;go_ret;exact⟨Ae c.out.symm,bR.alloc lR _⟩
 ·have c:Hid (npB n1 a b=false):=Hd (by rw[npB,dN];omega);have h:((n1:Int)+(a:Int)+(b:Int)==0)=false:=(by rw[qN];omega);clear k1;go_in;go_wp2_with fail;go_ret;exact⟨Ae c.out.symm,bR.alloc lR _⟩
def Hm (L:List Int)(i:Nat):Int:=if i=0 then-1 else L.getD (i-1) 0
def Np (L:List Int)(r:Nat):Prop:=∀i,i<r->Hm L i<L.getD i 0/\L.getD i 0<65536
def Lb (L:List Int):Bool:=(List.range L.length).all fun i=>decide (Hm L i<L.getD i 0/\L.getD i 0<65536)
theorem Hn (L:List Int):Lb L=true↔Np L L.length:=by
 unfold Lb Np;rw[List.all_eq_true];constructor
 ·intro h i hi;have:=h i (List.mem_range.2 hi);exact oD this
 ·intro h i hi;exact dT (h i (List.mem_range.1 hi))
theorem Nq {L:List Int} {r:Nat}(hr:r<L.length)(h:¬(Hm L r<L.getD r 0/\L.getD r 0<65536)):Lb L=false:=by
 rw[<-cX,Hn];intro hl;exact h (hl r hr)
def rpB (n1 n2:Nat)(late:List Int):Bool:=Lb late&&decide (n1=32/\(n2=0\/n2=32))
theorem Ho (H I t:Option Addr)(n1 a c1 c2 c3:Nat)(L:List Int)(w:World)(v:Rd w (.slice t L.length c3) (ivs .i64 L)):
  Calls prog 211 #[.agg #[rC H n1 c1,rC I a c2,.slice t L.length c3]] w fun e w'=>e=rK (.bool (rpB n1 a L))/\Below w.heap.size w w':=by
 have l:=v.icases;obtain⟨R,cap,f,j,z,-⟩:=id v;rw[Fi]at j;simp only[Value.slice.injEq]at f;obtain⟨rfl,-,rfl⟩:=f;obtain⟨k,hk⟩:=eX L.length;have d:∀r,r<k->∃b o,t=some ⟨b,o,rI⟩/\b<w.heap.size/\w.cell? ⟨b,o+r,rI⟩=some (rD rF (L.getD r 0)):=by
  intro r n;rcases l with⟨_,_,f,h0⟩|⟨b,E,cap',_,_,_,f,K,T⟩
  ·rw[h0]at hk;simp at hk;omega
  ·simp only[Value.slice.injEq]at f;exact⟨b,E,f.1,K,T r (by omega)⟩
 rw[<-hk]at j|-;have U:k<=9223372036854775807:=(by unfold maxLen at z;omega);have N:=Hd d;have G:=Hd hk;clear l d hk v;go_in;go_wp2_with fail
 go_loopg [3,9] k (fun q p i wr=>∃r:Nat,r+q=k/\i=rD rF (r:Int)/\p=rD rF (Hm L r)/\Np L r/\wr=w.alloc (rJ #[rC H n1 c1,rC I a c2,rC t k c3] 50))
 case atStart=>exact⟨0,by omega,rfl,rfl,fun i h=>absurd h (by omega),rfl⟩
 case round=>
  obtain⟨r,v,rfl,rfl,m,rfl⟩:=hrel;have g:=Hd m;clear m
  by_cases n:r<k
  ·obtain⟨b,o,rfl,K,S⟩:=N.out r n;have A:Hm L (r+1)=L.getD r 0:=(by rw[Hm,iN (by omega),dQ]);have u:= @Nq L r (by have:=G.out;omega);obtain⟨x,hx⟩:=eX (L.getD r 0);rw[<-hx]at S A u;obtain⟨y,B⟩:=eX (Hm L r);rw[<-B]at u|-;have P:=Hd hx;have Q:=Hd B;have O:=Hd A;have F:=Hd u;clear hx B A u
   by_cases k1:x<=y
   ·have c:=Hd (F.out (by omega));go_wp2_with fail;go_ret;exact⟨by rw[rpB,c.out];rfl,bR.alloc lR _⟩
   ·have C:y<x:=by omega
    by_cases k2:65536<=x
    ·have c:=Hd (F.out (by omega));clear k1;go_wp2_with fail;go_ret;exact⟨by rw[rpB,c.out];rfl,bR.alloc lR _⟩
    ·have D:x<65536:=(by omega);clear k1 k2;go_wp2_with fail;go_roundg (gk-1);case measure=>omega
     case rel=>
      refine⟨r+1,by omega,by go_num,by rw[O.out],?_,rfl⟩;intro i Y;rcases aB i r with h|h
      ·exact g.out i h
      ·obtain rfl:i=r:=(by omega);rw[<-P.out,<-Q.out];exact⟨C,D⟩
  ·obtain rfl:r=k:=(by omega);have M:Lb L=true:=(by rw[Hn,<-G.out];exact g.out);have J:rpB n1 a L=decide (n1=32/\(a=0\/a=32)):=(by rw[rpB,M,dL]);have s:=Hd J;clear M J
   by_cases k1:n1=32
   ·have V:((n1:Int)==32)=true:=by rw[beq_iff_eq];omega
    by_cases k2:a=0
    ·have W:((a:Int)==0)=true:=(by rw[beq_iff_eq];omega);have c:=Hd (dT (show n1=32/\(a=0\/a=32)from⟨k1,.inl k2⟩));clear k1 k2;go_wp2_with fail;go_ret;exact⟨Ae (s.out.trans c.out).symm,bR.alloc lR _⟩
    ·have W:((a:Int)==0)=false:=by rw[qN];omega
     by_cases k3:a=32
     ·have X:((a:Int)==32)=true:=(by rw[beq_iff_eq];omega);have c:=Hd (dT (show n1=32/\(a=0\/a=32)from⟨k1,.inr k3⟩));clear k1 k2 k3;go_wp2_with fail;go_ret;exact⟨Ae (s.out.trans c.out).symm,bR.alloc lR _⟩
     ·have X:((a:Int)==32)=false:=(by rw[qN];omega);have c:=Hd (dF (show¬(n1=32/\(a=0\/a=32)) by omega));clear k1 k2 k3;go_wp2_with fail;go_ret;exact⟨Ae (s.out.trans c.out).symm,bR.alloc lR _⟩
   ·have V:((n1:Int)==32)=false:=(by rw[qN];omega);have c:=Hd (dF (show¬(n1=32/\(a=0\/a=32)) by omega));clear k1;go_wp2_with fail;go_ret;exact⟨Ae (s.out.trans c.out).symm,bR.alloc lR _⟩
def At (d:NodeD):Bool:=
 let l:=d.leaf
 let p:=d.par
 if d.kind=0 then nlB l.box.length l.sign.length l.ident.length l.source l.par.length l.sig.length&&npB p.box.length p.hash.length p.late.length
 else if d.kind=1 then rlB l.box.length l.sign.length l.ident.length l.source l.par.length l.sig.length&&npB p.box.length p.hash.length p.late.length
 else if d.kind=2 then nlB l.box.length l.sign.length l.ident.length l.source l.par.length l.sig.length&&rpB p.box.length p.hash.length p.late
 else false
def NodeC (w:World)(d:NodeD)(c:Array Value):Prop:=
 ∃a1 c1 a2 c2 a3 c3 a4 c4 a5 c5 b1 e1 b2 e2 b3 e3,c=#[rD rG (d.kind:Nat),.slice a1 d.leaf.box.length c1,.slice a2 d.leaf.sign.length c2,.slice a3 d.leaf.ident.length c3,rD rG (d.leaf.source:Nat),.slice a4 d.leaf.par.length c4,.slice a5 d.leaf.sig.length c5,
  .slice b1 d.par.box.length e1,.slice b2 d.par.hash.length e2,.slice b3 d.par.late.length e3]/\
  Rd w (.slice a1 d.leaf.box.length c1) (bvs d.leaf.box)/\Rd w (.slice a2 d.leaf.sign.length c2) (bvs d.leaf.sign)/\Rd w (.slice a3 d.leaf.ident.length c3) (bvs d.leaf.ident)/\
  Rd w (.slice a4 d.leaf.par.length c4) (bvs d.leaf.par)/\Rd w (.slice a5 d.leaf.sig.length c5) (bvs d.leaf.sig)/\
  Rd w (.slice b1 d.par.box.length e1) (bvs d.par.box)/\Rd w (.slice b2 d.par.hash.length e2) (bvs d.par.hash)/\Rd w (.slice b3 d.par.late.length e3) (ivs .i64 d.par.late)
structure NodeOk (d:NodeD):Prop where
 kind:d.kind<256
 source:d.leaf.source<256
 box:∀n∈d.leaf.box,n<256
 sign:∀n∈d.leaf.sign,n<256
 ident:∀n∈d.leaf.ident,n<256
 par:∀n∈d.leaf.par,n<256
 sig:∀n∈d.leaf.sig,n<256
 pbox:∀n∈d.par.box,n<256
 hash:∀n∈d.par.hash,n<256
 late:∀n∈d.par.late,-9223372036854775808<=n/\n<=9223372036854775807
def Cj (d:NodeD):Bool:=decide (d.leaf.box.length<=200/\d.leaf.sign.length<=200/\d.leaf.ident.length<=200/\d.leaf.par.length<=200/\d.leaf.sig.length<=200/\d.par.box.length<=200/\d.par.hash.length<=200/\d.par.late.length<=1000)
def exB (d:NodeD):Bool:=decide (d.leaf.box.length<=200/\d.leaf.sign.length<=200/\d.leaf.ident.length<=200/\d.leaf.par.length<=200/\d.leaf.sig.length<=200/\d.par.box.length<=200/\d.par.hash.length<=200/\d.par.late.length<=60)
theorem Tm {d:NodeD}(h:exB d=true):Cj d=true:=by
 have:=oD h;exact dT ⟨this.1,this.2.1,this.2.2.1,this.2.2.2.1,this.2.2.2.2.1,this.2.2.2.2.2.1,this.2.2.2.2.2.2.1,Nat.le_trans this.2.2.2.2.2.2.2 (by decide)⟩
theorem NodeC.below {w w':World} {B:Nat} {d:NodeD} {c:Array Value}(h:NodeC w d c)(b:Below B w w')(a:w.heap.size<=B):NodeC w' d c:=by
 obtain⟨e,c1,f,c2,g,c3,i,c4,j,c5,b1,e1,k,e2,l,e3,rfl,h1,h2,h3,m,n,o,p,q⟩:=h;exact⟨e,c1,f,c2,g,c3,i,c4,j,c5,b1,e1,k,e2,l,e3,rfl,h1.below b a,h2.below b a,h3.below b a,m.below b a,n.below b a,o.below b a,p.below b a,q.below b a⟩
theorem Nr {w:World} {a:Option Addr} {n c:Nat} {xs:List Value}(h:Rd w (rC a n c) xs):n<=c/\c<=9223372036854775807:=by
 obtain⟨a',c',he,h1,h2,_⟩:=h;simp only[Value.slice.injEq]at he;obtain⟨_,rfl,rfl⟩:=he;unfold maxLen at h2;exact⟨h1,h2⟩
theorem Tn (d:NodeD)(c:Array Value)(w:World)(h:NodeC w d c)(hs:Cj d=true):
  Calls prog 169 #[.agg c] w fun e w'=>e=rK (.bool (At d))/\Below w.heap.size w w':=by
 have J:=oD hs;obtain⟨Q,c1,R,c2,S,c3,T,c4,U,c5,b1,e1,V,e2,W,e3,rfl,h1,h2,h3,X,Y,Z,h7,M⟩:=h;obtain⟨kind,leaf,par⟩:=d;simp only at h1 h2 h3 X Y Z h7 M J|-;have A:=fun w=>Jz Q R S T U leaf.box.length leaf.sign.length leaf.ident.length leaf.par.length leaf.sig.length c1 c2 c3 c4 c5 leaf.source w;have y:=fun w=>Zap Q R S T U leaf.box.length leaf.sign.length leaf.ident.length leaf.par.length leaf.sig.length c1 c2 c3 c4 c5 leaf.source (by unfold maxLen;omega) (by omega) w;have z:=fun w=>Tl b1 V W par.box.length par.hash.length par.late.length e1 e2 e3 (by omega) w;have B:=fun w h=>Ho b1 V W par.box.length par.hash.length e1 e2 e3 par.late w h;have hB:At ⟨kind,leaf,par⟩=(if kind=0 then nlB leaf.box.length leaf.sign.length leaf.ident.length leaf.source leaf.par.length leaf.sig.length&&npB par.box.length par.hash.length par.late.length
  else if kind=1 then rlB leaf.box.length leaf.sign.length leaf.ident.length leaf.source leaf.par.length leaf.sig.length&&npB par.box.length par.hash.length par.late.length
  else if kind=2 then nlB leaf.box.length leaf.sign.length leaf.ident.length leaf.source leaf.par.length leaf.sig.length&&rpB par.box.length par.hash.length par.late else false):=rfl
 rw[hB];obtain⟨m1,o⟩:=eX leaf.box.length;obtain⟨m2,p⟩:=eX leaf.sign.length;obtain⟨m3,q⟩:=eX leaf.ident.length;obtain⟨m4,r⟩:=eX leaf.par.length;obtain⟨m5,s⟩:=eX leaf.sig.length;obtain⟨m6,t⟩:=eX par.box.length;obtain⟨m7,u⟩:=eX par.hash.length;rw[<-o,<-p,<-q,<-r,<-s]at A y;rw[<-t,<-u]at z B;rw[<-o,<-p,<-q,<-r,<-s,<-t,<-u];obtain⟨m8,E⟩:=eX par.late.length;rw[<-E]at z B M|-;obtain⟨K,m⟩:=eX leaf.source;rw[<-m]at A y|-;obtain⟨rl,H⟩:=eX (rlB m1 m2 m3 K m4 m5);rw[<-H]at A|-;obtain⟨nl,F⟩:=eX (nlB m1 m2 m3 K m4 m5);rw[<-F]at y|-;obtain⟨np,G⟩:=eX (npB m6 m7 m8);rw[<-G]at z|-;obtain⟨rp,I⟩:=eX (rpB m6 m7 par.late);rw[<-I]at B|-;have O:=Hd A;have v:=Hd y;have x:=Hd z;have P:=Hd B;have N:=Hd M;clear A y z B h1 h2 h3 X Y Z h7 M o p q r s t u E m H F G I hB hs J;have C:∀cs:Array Value,Below w.heap.size w (w.alloc (.cells cs 52)):=fun cs=>bR.alloc lR _;have l:=Hd C;clear C
 by_cases k0:kind=0
 ·subst k0;rw[iP rfl];go_in;go_wp2_with fail;refine(v.out _).mono ?_;rintro e L ⟨rfl,a⟩;have k:=a.size;simp only[World.alloc]at k;have D:w.heap.size<L.heap.size:=(by simp at k;omega);have b:=(Blk.new w 52 _).below a (by simp);have x7:=b.cell 7;have x8:=b.cell 8;have x9:=b.cell 9;simp only[cR,cS,aP]at x7 x8 x9;have f:=(l.out _).trans (a.mono (by simp));have g:=Hd f;have n:=Hd (N.out.below f lR);clear a k b f;cases nl with
  |true=>
   go_wp2_with fail;refine(x.out _).mono ?_;rintro e w2 ⟨rfl,i⟩;have j:=Hd (g.out.trans (i.mono (by omega)));clear i;go_wp2_with fail;go_ret;exact⟨rfl,j.out⟩
  |false=>
   go_wp2_with fail;go_ret;exact⟨rfl,g.out⟩
 ·by_cases k1:kind=1
  ·subst k1;rw[iN (by omega),iP rfl];go_in;go_wp2_with fail;refine(O.out _).mono ?_;rintro e L ⟨rfl,a⟩;have k:=a.size;simp only[World.alloc]at k;have D:w.heap.size<L.heap.size:=(by simp at k;omega);have b:=(Blk.new w 52 _).below a (by simp);have x7:=b.cell 7;have x8:=b.cell 8;have x9:=b.cell 9;simp only[cR,cS,aP]at x7 x8 x9;have f:=(l.out _).trans (a.mono (by simp));have g:=Hd f;have n:=Hd (N.out.below f lR);clear a k b f;cases rl with
   |true=>
    go_wp2_with fail;refine(x.out _).mono ?_;rintro e w2 ⟨rfl,i⟩;have j:=Hd (g.out.trans (i.mono (by omega)));clear i;go_wp2_with fail;go_ret;exact⟨rfl,j.out⟩
   |false=>
    go_wp2_with fail;go_ret;exact⟨rfl,g.out⟩
  ·by_cases k2:kind=2
   ·subst k2;rw[iN (by omega),iN (by omega),iP rfl];go_in;go_wp2_with fail;refine(v.out _).mono ?_;rintro e L ⟨rfl,a⟩;have k:=a.size;simp only[World.alloc]at k;have D:w.heap.size<L.heap.size:=(by simp at k;omega);have b:=(Blk.new w 52 _).below a (by simp);have x7:=b.cell 7;have x8:=b.cell 8;have x9:=b.cell 9;simp only[cR,cS,aP]at x7 x8 x9;have f:=(l.out _).trans (a.mono (by simp));have g:=Hd f;have n:=Hd (N.out.below f lR);clear a k b f;cases nl with
    |true=>
     go_wp2_with fail;refine(P.out _ n.out).mono ?_;rintro e w2 ⟨rfl,i⟩;have j:=Hd (g.out.trans (i.mono (by omega)));clear i;go_wp2_with fail;go_ret;exact⟨rfl,j.out⟩
    |false=>
     go_wp2_with fail;go_ret;exact⟨rfl,g.out⟩
   ·rw[iN k0,iN k1,iN k2];have t0:((kind:Int)==0)=false:=(by rw[qN];omega);have t1:((kind:Int)==1)=false:=(by rw[qN];omega);have t2:((kind:Int)==2)=false:=(by rw[qN];omega);clear k0 k1 k2;go_in;go_wp2_with fail;go_ret;exact⟨rfl,l.out _⟩
def Lc (d:LeafD):List Nat:=Pf [d.box,d.sign,d.ident]++[d.source]++(if d.source=3 then Bf d.par else [])
def Ns (d:LeafD):Prop:=d.box.length<=200/\d.sign.length<=200/\d.ident.length<=200/\d.par.length<=200/\d.sig.length<=200
theorem To (b:Value) (B:List Nat) (d:LeafD) (k o p a4 a5:Option Addr) (c1 c2 c3 c4 c5:Nat) (w:World) (hb:Rd w b (bvs B)) (hB:B.length<1000000000) (hs:Ns d) (a6:d.source<256)
  (h1:Rd w (.slice k d.box.length c1) (bvs d.box)) (h2:Rd w (.slice o d.sign.length c2) (bvs d.sign)) (h3:Rd w (.slice p d.ident.length c3) (bvs d.ident)) (h4:Rd w (.slice a4 d.par.length c4) (bvs d.par)):
  Calls prog 171 #[b,.agg #[.slice k d.box.length c1,.slice o d.sign.length c2,.slice p d.ident.length c3,rD rG (d.source:Nat),.slice a4 d.par.length c4,.slice a5 d.sig.length c5]] w
   fun e w'=>∃v,e=rK v/\Own w' w.heap.size 5 v (bvs (B++Lc d))/\Below w.heap.size w w':=by
 obtain⟨s1,s2,s3,s4,s5⟩:=hs;have j:∀r∈[d.box,d.sign,d.ident],r.length<=200:=by
  intro r hr;simp only[aZ,dC,or_false]at hr;rcases hr with rfl|rfl|rfl<;>assumption
 have s:∀r,(Pf ([d.box,d.sign,d.ident].take r)).length<=612:=by
  intro r;have h:=Ye ([d.box,d.sign,d.ident].take r) (fun x hx=>j x (cL hx));have:([d.box,d.sign,d.ident].take r).length<=3:=(by rw[List.length_take];simp only[dB,cO];omega);omega
 have V:Lc d=Pf [d.box,d.sign,d.ident]++[d.source]++(if d.source=3 then Bf d.par else []):=rfl;obtain⟨f,O⟩:=eX ([d.box,d.sign,d.ident]);rw[<-O]at s V j;have H:f.length=3:=(by rw[O];rfl);obtain⟨V1,bM⟩:=eX (Value.slice k d.box.length c1);have a7:∀W:World,∀N,N=W.heap.size->Below w.heap.size w W->RdL (W.alloc (rJ #[.slice k d.box.length c1,.slice o d.sign.length c2,.slice p d.ident.length c3] 28)) (rC (some ⟨N,0,rI⟩) 3 3) f:=by
  intro W N hN hW;refine⟨[.slice k d.box.length c1,.slice o d.sign.length c2,.slice p d.ident.length c3],?_,by rw[H];rfl,?_⟩
  ·exact(Own.full (w:=W) (B:=W.heap.size) (e:=28) (cs:=#[.slice k d.box.length c1,.slice o d.sign.length c2,.slice p d.ident.length c3]) hN (by omega) (by unfold maxLen;simp) (n:=3) rfl).rd
  ·intro i r y;rw[O]at y;have k1:=(h1.below hW lR).alloc (rJ #[.slice k d.box.length c1,.slice o d.sign.length c2,.slice p d.ident.length c3] 28);have k2:=(h2.below hW lR).alloc (rJ #[.slice k d.box.length c1,.slice o d.sign.length c2,.slice p d.ident.length c3] 28);have k3:=(h3.below hW lR).alloc (rJ #[.slice k d.box.length c1,.slice o d.sign.length c2,.slice p d.ident.length c3] 28)
   match i,y with
   |0,y=>simp only[cS,Option.some.injEq]at y;subst y;exact⟨_,rfl,k1⟩
   |1,y=>simp only[aP,cS,Option.some.injEq]at y;subst y;exact⟨_,rfl,k2⟩
   |2,y=>simp only[aP,cS,Option.some.injEq]at y;subst y;exact⟨_,rfl,k3⟩
   |n+3,y=>simp at y
 clear V1 bM;have z:=fun(r:Nat) (h:r<f.length)=>Zco (l:=f) h;have C:Below w.heap.size w (w.alloc (rJ #[.slice k d.box.length c1,.slice o d.sign.length c2,.slice p d.ident.length c3,rD rG (d.source:Nat),.slice a4 d.par.length c4,.slice a5 d.sig.length c5] 44)):=bR.alloc lR _;have hM:=a7 _ (w.heap.size+1) (by simp) C;have T:=h4;have t:=Blk.new w 44 #[.slice k d.box.length c1,.slice o d.sign.length c2,.slice p d.ident.length c3,rD rG (d.source:Nat),.slice a4 d.par.length c4,.slice a5 d.sig.length c5];obtain⟨n1,aT⟩:=eX d.box.length;obtain⟨n2,aU⟩:=eX d.sign.length;obtain⟨n3,aV⟩:=eX d.ident.length;obtain⟨n5,aW⟩:=eX d.sig.length;rw[<-aT,<-aU,<-aV]at hM C t|-;rw[<-aW]at hM C t|-;have E:=t.alloc (rJ #[rC k n1 c1,rC o n2 c2,rC p n3 c3] 28);have D:=C.alloc (by simp) (rJ #[rC k n1 c1,rC o n2 c2,rC p n3 c3] 28);have hz:((w.alloc (rJ #[rC k n1 c1,rC o n2 c2,rC p n3 c3,rD rG (d.source:Nat),.slice a4 d.par.length c4,rC a5 n5 c5] 44)).alloc (rJ #[rC k n1 c1,rC o n2 c2,rC p n3 c3] 28)).heap.size=w.heap.size+2:=(by simp);have aC:=hb.below D lR;have aE:=T.below D lR;obtain⟨W1,aB⟩:=eX (((w.alloc (rJ #[rC k n1 c1,rC o n2 c2,rC p n3 c3,rD rG (d.source:Nat),.slice a4 d.par.length c4,rC a5 n5 c5] 44)).alloc (rJ #[rC k n1 c1,rC o n2 c2,rC p n3 c3] 28)));rw[<-aB]at hM E D hz aC aE;have HM:=Hd hM;have aH:=Hd E;have bK:=Hd D;have HZ:=Hd hz;have a8:=Hd aC;have bF:=Hd aE;have bL:=Hd aB;have HU:=Hd V;have bJ:=Hd z;have aJ:=Hd s;have HR:=Hd j;have A:=Hd H;clear hM t E C D hz aC aE aB V z s j H T a7 h1 h2 h3 h4 hb O aT aU aV aW;go_in;go_wp2_with fail;rw[<-bL.out]
 go_loopg [0,15] 3 (fun q bv i wr=>∃r:Nat,r+q=3/\i=rD rF (r:Int)/\Rd wr bv (bvs (B++Pf (f.take r)))/\(0<r->Own wr (w.heap.size+2) 5 bv (bvs (B++Pf (f.take r))))/\Below (w.heap.size+2) W1 wr)
 case atStart=>exact⟨0,by omega,rfl,by simpa [Pf]using a8.out,fun h=>absurd h (by omega),bR⟩
 case round=>
  obtain⟨r,hr,rfl,aY,S,M⟩:=hrel;have bI:=Hd aY;have HO:=Hd S;have X:=Hd M;have P:=M.size;rw[HZ.out]at P;have hm:=HM.out.below M (by rw[HZ.out];exact lR);obtain⟨am,bS,he,bO,bP,U⟩:=hm.cases;rw[A.out]at he;simp only[Value.slice.injEq]at he;obtain⟨rfl,-,rfl⟩:=he;have aM:=Hd U;clear aY S M U hm bO bP
  by_cases hrk:r<3
  ·have aF:r<f.length:=(by have:=A.out;omega);obtain⟨b2,o2,u,aS,bU,c0,V⟩:=aM.out r aF;simp only[Option.some.injEq,Addr.mk.injEq,and_true]at aS;obtain⟨rfl,rfl⟩:=aS;rw[Nat.zero_add]at c0;have G:=HR.out _ (bC aF);have z:=bJ.out r aF;have s:=aJ.out r;obtain⟨x,hx⟩:=eX (f[r]);rw[<-hx]at V G z;obtain⟨au,nu,cu,rfl⟩:∃a n c,u=.slice a n c:=(by obtain⟨a,cap,e,_⟩:=V;exact⟨a,_,cap,e⟩);have Y:=Hd (fun b' (bN:Rd wr b' (bvs (B++Pf (f.take r))))=>Dk b' (rC au nu cu) _ x wr bN V (by rw[bA];omega) (by omega));have aN:=Hd z;have a0:decide ((r:Int)<3)=true:=(by rw[dI];omega);clear hx V z G s;go_wp2_with fail;refine(Y.out _ bI.out).mono ?_;rintro e w5 ⟨v5,rfl,I,aO⟩;have aK:=Hd (I.mono P);have a9:=Hd (X.out.trans (aO.mono P));clear I aO;go_wp2_with fail;go_roundg (gk-1);case measure=>omega
   case rel=>
    refine⟨r+1,by omega,by go_num,?_,fun _=> ?_,a9.out⟩
    ·rw[aN.out,Tk,<-cY];exact aK.out.rd
    ·rw[aN.out,Tk,<-cY];exact aK.out
  ·obtain rfl:r=3:=(by omega);have ho:=HO.out (by omega);have ht:f.take 3=f:=(by rw[<-A.out,dD]);rw[ht]at ho;have s:=aJ.out 3;rw[ht]at s;have bD:=Hd ho;have L:=aH.out.below X.out (by omega);have x3:=L.cell 3;have x4:=L.cell 4;simp only[cR,cS,aP]at x3 x4;have bV:w.heap.size<wr.heap.size:=(by omega);have bQ:=Hd L;have a0:decide (((3:Nat):Int)<3)=false:=(by decide);obtain⟨g,aG⟩:=eX d.source;rw[<-aG]at x3 a6;have Z:=Hd aG;clear ho ht L aG;go_wp2_with (at_builtin;refine An rfl (.tmp 23) (.tmp 26) 28 rfl (w.heap.size+2) 5 _ 1 Cq _ _ rfl (bD.out.alloc _) ⟨wr.heap.size,0,rI⟩ (rD rG (g:Nat)) rfl ?c1 rfl ?c2 ?c3 ?_);case c1=>exact Aq rfl
   case c2=>rw[bvs_len,bA];omega
   case c3=>simp;omega
   rintro v6 w6 J-aD;have m:=(X.out.alloc P (rJ #[rD rG (g:Nat)] 5)).trans aD;have aL:=Hd J;have bT:=Hd m;have bW:w.heap.size+2<=w6.heap.size:=(by have:=aD.size;simp at this;omega);have F:=aH.out.below m (by omega);have y3:=F.cell 3;have y4:=F.cell 4;simp only[cR,cS,aP]at y3 y4;rw[<-Z.out]at y3;have aX:=bF.out.below m (by rw[HZ.out];exact lR);have bG:=Hd aX;have R:=(bK.out.trans (m.mono (by omega)));have Q:=Hd R;clear J aD m F aX R x3 x4;have aR:bvs (B++Pf f)++[rD rG (g:Nat)]=bvs (B++Pf f++[g]):=(Xx _ _).symm;have aI:=Hd aR;clear aR
   by_cases k3:g=3
   ·have t3:((g:Int)==3)=true:=(by rw[beq_iff_eq];omega);have aA:Hid (Lc d=Pf f++[g]++Bf d.par):=Hd (by rw[HU.out,<-Z.out,iP k3]);have bH:Hid (Rd w6 v6 (bvs (B++Pf f++[g]))):=Hd (by rw[<-aI.out];exact aL.out.rd);have Y:=Hd (Dk v6 _ _ d.par w6 bH.out bG.out (by rw[bA,bA];simp;omega) (by omega));clear k3;go_wp2_with fail;refine Y.out.mono ?_;rintro e w7 ⟨v7,rfl,K,aQ⟩;have bE:=Hd (K.mono (show w.heap.size<=w6.heap.size by omega));have bB:=Hd (Q.out.trans (aQ.mono (by omega)));clear K aQ;go_wp2_with fail;go_ret;refine⟨_,rfl,?_,bB.out⟩;rw[aA.out,<-cY,<-cY];exact bE.out
   ·have t3:((g:Int)==3)=false:=(by rw[qN];omega);have aA:Hid (Lc d=Pf f++[g]):=Hd (by rw[HU.out,<-Z.out,iN k3,dE]);clear k3;go_wp2_with fail;go_ret;refine⟨_,rfl,?_,Q.out⟩;rw[aA.out,<-cY,<-aI.out];exact aL.out.mono (by omega)
def Cr (L:List Int):List Nat:=(L.map fun x=>beN 4 x.toNat).flatten
theorem Ps (L:List Int)(x:Int):Cr (L++[x])=Cr L++beN 4 x.toNat:=by simp[Cr]
theorem Ka:∀L:List Int,(Cr L).length=4*L.length:=by
 intro L
 induction L with
 |nil=>rfl
 |cons x L ih=>simp only[Cr,cZ,dA,bA,dB,beN_len]at ih|-;omega
def Zje (d:ParD):List Nat:=Bf d.box++Bf d.hash++Bf (Cr d.late)
theorem Nt (b:Value) (B:List Nat) (d:ParD) (J M V:Option Addr) (c1 c2 c3:Nat) (w:World) (o:Rd w b (bvs B)) (hB:B.length<1000000000) (aO:d.box.length<=200) (aQ:d.hash.length<=200) (aR:d.late.length<=1000) (hl:∀x∈d.late,0<=x/\x<65536)
  (h1:Rd w (.slice J d.box.length c1) (bvs d.box)) (h2:Rd w (.slice M d.hash.length c2) (bvs d.hash)) (h3:Rd w (.slice V d.late.length c3) (ivs .i64 d.late)):
  Calls prog 172 #[b,.agg #[.slice J d.box.length c1,.slice M d.hash.length c2,.slice V d.late.length c3]] w
   fun e w'=>∃v,e=rK v/\Own w' w.heap.size 5 v (bvs (B++Zje d))/\Below w.heap.size w w':=by
 have hp:Zje d=Bf d.box++Bf d.hash++Bf (Cr d.late):=rfl;have aE:=Nr h3;have A:=fun r (hr:r<d.late.length)=>h3.get (r:=r) (show(ivs .i64 d.late)[r]? =some (rD rF (d.late.getD r 0)) by simp[ivs,hr]);have n:=fun(r:Nat) (h:r<d.late.length)=>(show d.late.take (r+1)=d.late.take r++[d.late.getD r 0] by rw[cM h,aS,bB h];rfl);have D:=fun(r:Nat) (h:r<d.late.length)=>(show 0<=d.late.getD r 0/\d.late.getD r 0<65536 by rw[aS,bB h];exact hl _ (bC h));have t:=fun r=>Ka (d.late.take r);obtain⟨k,hk⟩:=eX d.late.length;rw[<-hk]at A n aR aE D|-;have HP:=Hd hp;have H1:=Hd h1;have H2:=Hd h2;have HB:=Hd o;have HG:=Hd A;have aK:=Hd n;have HV:=Hd D;have Y:=Hd t;have HK:=Hd hk;clear hp h1 h2 h3 o A n D t hk hl;obtain⟨n1,Q⟩:=eX d.box.length;obtain⟨n2,R⟩:=eX d.hash.length;rw[<-Q]at H1 aO|-;rw[<-R]at H2 aQ|-;have G:=Hd Q;have H:=Hd R;clear Q R;have z:=Blk.new w 50 #[rC J n1 c1,rC M n2 c2,rC V k c3];have S:Below w.heap.size w (w.alloc (rJ #[rC J n1 c1,rC M n2 c2,rC V k c3] 50)):=bR.alloc lR _;have T:(w.alloc (rJ #[rC J n1 c1,rC M n2 c2,rC V k c3] 50)).heap.size=w.heap.size+1:=(by simp);obtain⟨W1,N⟩:=eX (w.alloc (rJ #[rC J n1 c1,rC M n2 c2,rC V k c3] 50));rw[<-N]at z S T;have aI:=Hd z;have Z:=Hd S;have aM:=Hd T;have aL:=Hd N;clear z S T N;go_in;go_wp2_with fail;rw[<-aL.out]
 go_loopg [5,11] k (fun q lv i wr=>∃r:Nat,r+q=k/\i=rD rF (r:Int)/\Rd wr lv (bvs (Cr (d.late.take r)))/\Below (w.heap.size+1) W1 wr)
 case atStart=>exact⟨0,by omega,rfl,⟨none,0,rfl,lR,aA _,.inl ⟨rfl,fun _=>rfl⟩⟩,bR⟩
 case round=>
  obtain⟨r,hr,rfl,aF,P⟩:=hrel;have I:=Hd aF;have E:=Hd P;have aG:=P.size;rw[aM.out]at aG;clear aF P
  by_cases hrk:r<k
  ·obtain⟨b1,o1,rfl,aB,c0⟩:=HG.out r hrk;have aN:=(E.out.cell (p:=⟨b1,o1+r,rI⟩) (by simp only;omega)).trans ((Z.out.cell (p:=⟨b1,o1+r,rI⟩) aB).trans c0);have n:=aK.out r hrk;obtain⟨v0,v1⟩:=HV.out r hrk;have t:=Y.out r;obtain⟨x,hx⟩:=eX (d.late.getD r 0);rw[<-hx]at aN n v0 v1;obtain⟨m,rfl⟩:∃m:Nat,x=(m:Int):=⟨x.toNat,by omega⟩;have aD:(d.late.take r).length<=r:=List.length_take_le _ _;have aJ:=Hd (fun lv (h:Rd wr lv (bvs (Cr (d.late.take r))))=>Hk lv _ 4 m wr h (by omega) rfl (by omega));have HT:=Hd n;clear c0 hx n t aD aB;go_wp2_with fail;refine(aJ.out _ I.out).mono ?_;rintro e l ⟨v2,rfl,c,g⟩;have HO:=Hd c.rd;have aH:=Hd (E.out.trans (g.mono aG));clear c g;go_wp2_with fail;go_roundg (gk-1);case measure=>omega
   case rel=>exact⟨r+1,by omega,by go_num,by rw[HT.out,Ps,cV];exact HO.out,aH.out⟩
  ·obtain rfl:r=k:=(by omega);have ht:d.late.take r=d.late:=(by rw[HK.out,dD]);rw[ht]at I;have t:=Y.out r;rw[ht,<-HK.out]at t;have aW:decide ((r:Int)<(r:Int))=false:=(by rw[dN];omega);go_wp2_with fail;have O:=aI.out.below E.out (by omega);have y0:=O.cell 0;have y1:=O.cell 1;simp only[cR,cS,aP]at y0 y1;have aT:=Bi d.box (by rw[<-G.out];omega);have aU:=Bi d.hash (by rw[<-H.out];omega);rw[<-G.out]at aT;rw[<-H.out]at aU;have s:=Z.out.trans (E.out.mono (by omega));have r1:=H1.out.below s lR;have r2:=H2.out.below s lR;have rb:=HB.out.below s lR;have r3:=I.out;have aC:w.heap.size<wr.heap.size:=(by omega);have aV:w.heap.size<=wr.heap.size:=(by omega);have own:∀(v:Value) (y l:World) (L:List Nat),Own y w.heap.size 5 v (bvs L)->Below y.heap.size y l->Own l w.heap.size 5 v (bvs L):=fun v y l L h o=>h.below o lR;clear O;refine Dj [eF b,eF (rE (some ⟨w.heap.size,0,rI⟩)),eF (rC J n1 c1),fun v w'=>Own w' w.heap.size 5 v (bvs (B++Bf d.box)),eF (rE (some ⟨w.heap.size,1,rI⟩)),eF (rC M n2 c2),fun v w'=>Own w' w.heap.size 5 v (bvs (B++Bf d.box++Bf d.hash)),fun v w'=>Rd w' v (bvs (Cr d.late)),fun v w'=>Own w' w.heap.size 5 v (bvs (B++Bf d.box++Bf d.hash++Bf (Cr d.late))),fun v w'=>Own w' w.heap.size 5 v (bvs (B++Bf d.box++Bf d.hash++Bf (Cr d.late)))] (by kernel_rfl) (by kernel_rfl) (by kernel_rfl) (kE (kE (kE (bX (fun v y l h o=>own v y l _ h o) (kE (kE (bX (fun v y l h o=>own v y l _ h o) (bX (fun v y l h o=>h.below o lR) (bX (fun v y l h o=>own v y l _ h o) (bX (fun v y l h o=>own v y l _ h o) (Ag))))))))))) ?_ ?_
   ·refine gQ ?_ (gQ ?_ (gQ ?_ (gB ?_ (gQ ?_ (gQ ?_ (gB ?_ (gB ?_ (gB ?_ (gB ?_ .nil)))))))));all_goals
     intro a U j ho X;refine⟨rfl,?_⟩;intro K W;try have P0:a.tmps[0]?.getD undef=b:=ho 0 (by kernel_rfl)
     try have P3:a.tmps[3]?.getD undef=rE (some ⟨w.heap.size,0,rI⟩):=ho 3 (by kernel_rfl)
     try have P5:a.tmps[5]?.getD undef=u5:=ho 5 (by kernel_rfl)
     try have E0:=eqn X.1
     try have E1:=eqn X.2.1
     try have D0:=(j.cell (p:=⟨w.heap.size,0,rI⟩) aC).trans y0
     try have D1:=(j.cell (p:=⟨w.heap.size,1,rI⟩) aC).trans y1
     try(refine Hd ?_;go_simp;exact W _ rfl)
    ·go_simp;refine(Dk b _ B d.box U (rb.below j lR) (r1.below j lR) (by omega) (by rw[<-G.out];omega)).mono ?_;rintro e l ⟨v2,rfl,c,g⟩;exact W _ _ (c.mono (by have:=j.size;omega)) g
    ·have F:Own U w.heap.size 5 (a.tmps[23]?.getD undef) (bvs (B++Bf d.box)):=X.1;obtain⟨v,C⟩:=eX (a.tmps[23]?.getD undef);rw[<-C]at F;have e0:=C.symm;clear C;go_simp;refine(Dk v _ _ d.hash U F.rd (r2.below j lR) (by rw[bA];omega) (by rw[<-H.out];omega)).mono ?_;rintro e l ⟨v2,rfl,c,g⟩;exact W _ _ (c.mono (by have:=j.size;omega)) g
    ·go_simp;exact W _ _ (r3.below j lR) bR
    ·have F:Own U w.heap.size 5 (a.tmps[26]?.getD undef) (bvs (B++Bf d.box++Bf d.hash)):=X.1;obtain⟨v,C⟩:=eX (a.tmps[26]?.getD undef);rw[<-C]at F;have e0:=C.symm;have o1:Rd U (a.tmps[27]?.getD undef) (bvs (Cr d.late)):=X.2.1;obtain⟨u,hu⟩:=eX (a.tmps[27]?.getD undef);rw[<-hu]at o1;have e1:=hu.symm;clear C hu;go_simp;refine(Dk v u _ (Cr d.late) U F.rd o1 (by rw[bA,bA];omega) (by omega)).mono ?_;rintro e l ⟨v2,rfl,c,g⟩;exact W _ _ (c.mono (by have:=j.size;omega)) g
    ·have F:Own U w.heap.size 5 (a.tmps[28]?.getD undef) (bvs (B++Bf d.box++Bf d.hash++Bf (Cr d.late))):=X.1;obtain⟨v,C⟩:=eX (a.tmps[28]?.getD undef);rw[<-C]at F;have e0:=C.symm;clear C;go_simp;exact W _ _ F bR
   ·rintro f l g ⟨-,-,-,-,-,-,-,-,-,f9,-⟩;have h9:Own l w.heap.size 5 (f 4) (bvs (B++Bf d.box++Bf d.hash++Bf (Cr d.late))):=f9;simp only[Ao,Av,Ej,dG,dH,dJ,dK,Nat.reduceBEq,Nat.reduceAdd,dM,dO,cond_true,cond_false];go_wp2_with fail;go_ret;refine⟨_,rfl,?_,s.trans (g.mono aV)⟩;rw[HP.out,<-cY,<-cY];exact h9
theorem Zgu {L:List Int}(h:Lb L=true):∀i,i<L.length->0<=L.getD i 0/\L.getD i 0<65536:=by
 rw[Hn]at h;intro i
 induction i with
 |zero=>intro a;have:=h 0 a;unfold Hm at this;rw[iP rfl]at this;omega
 |succ i ih=>
  intro a;have h1:=ih (by omega);have:=h (i+1) a;unfold Hm at this;rw[iN (by omega),dQ]at this;omega
theorem Fo {L:List Int}(h:Lb L=true):∀x∈L,0<=x/\x<65536:=by
 intro x hx;obtain⟨i,hi,rfl⟩:=List.getElem_of_mem hx;have:=Zgu h i hi;rw[aS,bB hi]at this;exact this
def Bz (d:NodeD):List Nat:=if d.kind=1 then 1::(Lc d.leaf++Bf d.leaf.sig)else if d.kind=2 then 2::Zje d.par else [0]
def Et (d:NodeD)(w:World)(e:Ending)(w':World):Prop:=
 Below w.heap.size w w'/\∃v,e=rK (.tuple #[v,rD rG (if At d=true then 0 else 3)])/\Own w' w.heap.size 5 v (bvs (if At d=true then Bz d else []))
theorem Ms {d:LeafD}(h:Ns d):(Lc d).length<=820:=by
 obtain⟨b,c,e,f,g⟩:=h;have h1:=Ye [d.box,d.sign,d.ident] (by intro r a;simp only[aZ,dC,or_false]at a;rcases a with rfl|rfl|rfl<;>assumption);have h2:=Bi d.par (by omega);simp only[dB,cO]at h1;unfold Lc;rw[bA,bA]
 split
 ·simp only[dB,cO];omega
 ·simp only[dB,cO];omega
theorem Pt (d:NodeD)(c:Array Value)(w:World)(h:NodeC w d c)(t:Cj d=true)(q:At d=false):
  Calls prog 108 #[.agg c] w (Et d w):=by
 have R:=fun w h=>Tn d c w h t;rw[q]at R;have r:=Hd (R _ (h.below ((Below.refl w.heap.size w).alloc lR (.cells c 52)) lR));obtain⟨y,c1,z,c2,A,c3,B,c4,C,c5,b1,e1,D,e2,E,e3,rfl,-⟩:=h;have s:∀e w',Et d w e w'↔Below w.heap.size w w'/\∃v,e=rK (.tuple #[v,rD rG 3])/\Own w' w.heap.size 5 v (bvs []):=by
  intro e w';unfold Et;rw[q];exact Iff.rfl
 have u:=Hd s;obtain⟨G,g⟩:=eX d.leaf.box.length;obtain⟨H,i⟩:=eX d.leaf.sign.length;obtain⟨I,j⟩:=eX d.leaf.ident.length;obtain⟨J,k⟩:=eX d.leaf.par.length;obtain⟨K,l⟩:=eX d.leaf.sig.length;obtain⟨L,m⟩:=eX d.par.box.length;obtain⟨M,n⟩:=eX d.par.hash.length;obtain⟨N,o⟩:=eX d.par.late.length;obtain⟨F,f⟩:=eX d.kind;obtain⟨x,a⟩:=eX d.leaf.source;rw[<-g,<-i,<-j,<-k,<-l,<-m,<-n,<-o,<-f,<-a]at r|-;clear R t q s g i j k l m n o f a;go_in;go_wp2_with fail;refine r.out.mono ?_;rintro e O ⟨rfl,b⟩;have p:=Hd (((Below.refl w.heap.size w).alloc lR _).trans (b.mono (by simp)));clear b;go_wp2_with fail;go_ret2;exact(u.out _ _).2 ⟨p.out,_,rfl,Own.nil _ _ _⟩
theorem Tp (d:NodeD)(c:Array Value)(w:World)(h:NodeC w d c)(hk:NodeOk d)(hs:Cj d=true)(Z:At d=true):
  Calls prog 108 #[.agg c] w (Et d w):=by
 have R:=fun w h=>Tn d c w h hs;rw[Z]at R;have G:=(Below.refl w.heap.size w).alloc lR (.cells c 52);have HR:=Hd (R _ (h.below G lR));have q:=oD hs;have aA:d.kind=0\/d.kind=1\/d.kind=2:=by
  by_cases h0:d.kind=0
  ·exact .inl h0
  ·by_cases h1:d.kind=1
   ·exact .inr (.inl h1)
   ·by_cases h2:d.kind=2
    ·exact .inr (.inr h2)
    ·rw[At,iN h0,iN h1,iN h2]at Z;cases Z
 have u:d.kind=2->∀x∈d.par.late,0<=x/\x<65536:=by
  intro h2;rw[At,iN (by omega),iN (by omega),iP h2,aT,rpB,aT]at Z;exact Fo Z.2.1
 have F:Ns d.leaf:=⟨q.1,q.2.1,q.2.2.1,q.2.2.2.1,q.2.2.2.2.1⟩;have eP:∀e w',Et d w e w'↔Below w.heap.size w w'/\∃v,e=rK (.tuple #[v,rD rG 0])/\Own w' w.heap.size 5 v (bvs (Bz d)):=by
  intro e w';unfold Et;rw[Z];exact Iff.rfl
 have HE:=Hd eP;obtain⟨a1,c1,a2,c2,a3,c3,a4,c4,a5,c5,b1,e1,b2,e2,b3,e3,rfl,h1,h2,h3,h4,h5,h6,h7,h8⟩:=h;have U:=fun(b:Value) (B:List Nat) W (s:Rd W b (bvs B)) (hB:B.length<1000000000) (H:Below w.heap.size w W)=>To b B d.leaf a1 a2 a3 a4 a5 c1 c2 c3 c4 c5 W s hB F hk.source (h1.below H lR) (h2.below H lR) (h3.below H lR) (h4.below H lR);have PB:=fun(h2:d.kind=2) (b:Value) (B:List Nat) W (s:Rd W b (bvs B)) (hB:B.length<1000000000) (H:Below w.heap.size w W)=>Nt b B d.par b1 b2 b3 e1 e2 e3 W s hB q.2.2.2.2.2.1 q.2.2.2.2.2.2.1 q.2.2.2.2.2.2.2 (u h2) (h6.below H lR) (h7.below H lR) (h8.below H lR);have aL:=Ms F;have X:d.kind=1->Bz d=[1]++Lc d.leaf++Bf d.leaf.sig:=fun h=>(by rw[Bz,iP h];rfl);have Y:d.kind=2->Bz d=[2]++Zje d.par:=fun h=>(by rw[Bz,iN (by omega),iP h];rfl);have V:d.kind=0->Bz d=[0]:=fun h=>(by rw[Bz,iN (by omega),iN (by omega)]);have aJ:=F.2.2.2.2;obtain⟨m1,M⟩:=eX d.leaf.box.length;obtain⟨m2,N⟩:=eX d.leaf.sign.length;obtain⟨m3,O⟩:=eX d.leaf.ident.length;obtain⟨m4,P⟩:=eX d.leaf.par.length;obtain⟨m5,y⟩:=eX d.leaf.sig.length;obtain⟨m6,Q⟩:=eX d.par.box.length;obtain⟨m7,S⟩:=eX d.par.hash.length;obtain⟨m8,T⟩:=eX d.par.late.length;obtain⟨kd,E⟩:=eX d.kind;obtain⟨aK,z⟩:=eX d.leaf.source;rw[<-M,<-N,<-O,<-P,<-y,<-Q,<-S,<-T,<-E,<-z]at HR G|-;rw[<-M,<-N,<-O,<-P,<-y,<-z]at U;rw[<-Q,<-S,<-T,<-E]at PB;rw[<-E]at aA V X Y;rw[<-y]at h5 aJ;have HU:=Hd U;have aG:=Hd PB;have aC:=Hd V;have aD:=Hd X;have aE:=Hd Y;have H5:=Hd h5;have aB:=Hd y;have aH:=Hd G;clear R eP hs Z M N O P y Q S T E z U PB V X Y h1 h2 h3 h4 h5 h6 h7 h8 u F q G hk;go_in;go_wp2_with fail;refine HR.out.mono ?_;rintro e l ⟨rfl,D⟩;have g:=(Blk.new w 52 _).below D (by simp);have hz:=D.size;simp only[World.alloc]at hz;have aI:w.heap.size<l.heap.size:=(by simp at hz;omega);have x0:=g.cell 0;have x1:=g.cell 1;have x2:=g.cell 2;have x3:=g.cell 3;have x4:=g.cell 4;have x5:=g.cell 5;have x6:=g.cell 6;have x7:=g.cell 7;have x8:=g.cell 8;have x9:=g.cell 9;simp only[cR,cS,aP]at x0 x1 x2 x3 x4 x5 x6 x7 x8 x9;have o:=Hd (aH.out.trans (D.mono (by simp)));clear g hz D;rcases aA with rfl|rfl|rfl
 ·go_wp2_with fail;go_ret2;refine(HE.out _ _).2 ⟨o.out.alloc o.out.size _,_,rfl,?_⟩;rw[aC.out trivial];have:=Own.full (w:=l) (B:=w.heap.size) (e:=5) (cs:=#[rD rG 0]) rfl o.out.size (by unfold maxLen;simp) (n:=1) rfl;exact this
 ·go_wp2_with fail;have j:=o.out.alloc o.out.size (rJ #[rD rG 1] 5);have HO:=Hd (Own.full (w:=l) (B:=w.heap.size) (e:=5) (cs:=#[rD rG 1]) rfl o.out.size (by unfold maxLen;simp) (n:=1) rfl);obtain⟨W2,C⟩:=eX (l.alloc (rJ #[rD rG 1] 5));rw[<-C]at j HO|-;have aM:W2.heap.size=l.heap.size+1:=(by rw[C];simp);have zz:∀i v,l.cell? ⟨w.heap.size,i,rI⟩=some v->W2.cell? ⟨w.heap.size,i,rI⟩=some v:=fun i v h=>(by rw[C];exact(World.cell?_alloc_lt l _ _ aI).trans h);have z1:=zz _ _ x1;have z2:=zz _ _ x2;have z3:=zz _ _ x3;have z4:=zz _ _ x4;have z5:=zz _ _ x5;have z6:=zz _ _ x6;have r:w.heap.size<W2.heap.size:=(by omega);clear C zz x0 x1 x2 x3 x4 x5 x6 x7 x8 x9;have own:∀(v:Value) (l A:World) (L:List Nat),Own l w.heap.size 5 v (bvs L)->Below l.heap.size l A->Own A w.heap.size 5 v (bvs L):=fun v l A L h s=>h.below s lR;refine Dj [eF (rC (some ⟨l.heap.size,0,rI⟩) 1 1),eF (rE (some ⟨w.heap.size,1,rI⟩)),eF (.agg #[rC a1 m1 c1,rC a2 m2 c2,rC a3 m3 c3,rD rG (aK:Nat),rC a4 m4 c4,rC a5 m5 c5]),fun v w'=>Own w' w.heap.size 5 v (bvs ([1]++Lc d.leaf)),eF (rE (some ⟨w.heap.size,1,rI⟩)),eF (rE (some ⟨w.heap.size,6,rI⟩)),eF (rC a5 m5 c5),fun v w'=>Own w' w.heap.size 5 v (bvs ([1]++Lc d.leaf++Bf d.leaf.sig)),fun v w'=>Own w' w.heap.size 5 v (bvs ([1]++Lc d.leaf++Bf d.leaf.sig))] (by kernel_rfl) (by kernel_rfl) (by kernel_rfl) (kE (kE (kE (bX (fun v l A h s=>own v l A _ h s) (kE (kE (kE (bX (fun v l A h s=>own v l A _ h s) (bX (fun v l A h s=>own v l A _ h s) (Ag)))))))))) ?_ ?_
  ·refine gQ ?_ (gQ ?_ (gQ ?_ (gB ?_ (gQ ?_ (gQ ?_ (gQ ?_ (gB ?_ (gB ?_ .nil))))))));all_goals
    intro a wx k ho hf;refine⟨rfl,?_⟩;intro K hK;try have P1:a.tmps[1]?.getD undef=rE (some ⟨w.heap.size,0,rI⟩):=ho 1 (by kernel_rfl)
    try have P4:a.tmps[4]?.getD undef=rC (some ⟨l.heap.size,0,rI⟩) 1 1:=ho 4 (by kernel_rfl)
    try have E0:=eqn hf.1
    try have E1:=eqn hf.2.1
    try have D0:=(k.cell (p:=⟨w.heap.size,1,rI⟩) r).trans z1
    try have D1:=(k.cell (p:=⟨w.heap.size,2,rI⟩) r).trans z2
    try have D2:=(k.cell (p:=⟨w.heap.size,3,rI⟩) r).trans z3
    try have D3:=(k.cell (p:=⟨w.heap.size,4,rI⟩) r).trans z4
    try have D4:=(k.cell (p:=⟨w.heap.size,5,rI⟩) r).trans z5
    try have D5:=(k.cell (p:=⟨w.heap.size,6,rI⟩) r).trans z6
    try(refine Hd ?_;go_simp;exact hK _ rfl)
   ·go_simp;refine(HU.out _ [1] wx (HO.out.rd.below k lR) (by simp) (j.trans (k.mono (by omega)))).mono ?_;rintro e A ⟨v2,rfl,m,J⟩;exact hK _ _ (m.mono (by have:=k.size;omega)) J
   ·have o0:Own wx w.heap.size 5 (a.tmps[18]?.getD undef) (bvs ([1]++Lc d.leaf)):=hf.1;obtain⟨v,hv⟩:=eX (a.tmps[18]?.getD undef);rw[<-hv]at o0;have e0:=hv.symm;clear hv;go_simp;refine(Dk v _ _ d.leaf.sig wx o0.rd (H5.out.below (j.trans (k.mono (by omega))) lR) (by rw[bA];simp;omega) (by rw[<-aB.out];omega)).mono ?_;rintro e A ⟨v2,rfl,m,J⟩;exact hK _ _ (m.mono (by have:=k.size;omega)) J
   ·have o0:Own wx w.heap.size 5 (a.tmps[22]?.getD undef) (bvs ([1]++Lc d.leaf++Bf d.leaf.sig)):=hf.1;obtain⟨v,hv⟩:=eX (a.tmps[22]?.getD undef);rw[<-hv]at o0;have e0:=hv.symm;clear hv;go_simp;exact hK _ _ o0 bR
  ·rintro f w3 t ⟨-,-,-,-,-,-,-,-,f8,-⟩;have h8:Own w3 w.heap.size 5 (f 4) (bvs ([1]++Lc d.leaf++Bf d.leaf.sig)):=f8;have H8:=Hd h8;have I:=Hd (j.trans (t.mono (show w.heap.size<=W2.heap.size by omega)));clear h8 f8 t z1 z2 z3 z4 z5 z6 own j;simp only[Ao,Av,Ej,dG,dH,dJ,dK,Nat.reduceBEq,Nat.reduceAdd,dM,dO,cond_true,cond_false];go_wp2_with fail;go_ret2;refine(HE.out _ _).2 ⟨I.out,_,rfl,?_⟩;rw[aD.out trivial];exact H8.out
 ·go_wp2_with fail;have j:=o.out.alloc o.out.size (rJ #[rD rG 2] 5);have HO:=Hd (Own.full (w:=l) (B:=w.heap.size) (e:=5) (cs:=#[rD rG 2]) rfl o.out.size (by unfold maxLen;simp) (n:=1) rfl);refine(aG.out trivial _ [2] _ HO.out.rd (by simp) j).mono ?_;rintro e w3 ⟨v3,rfl,m,t⟩;have aF:=Hd (m.mono j.size);have I:=Hd (j.trans (t.mono j.size));clear m t j;go_wp2_with fail;go_ret2;refine(HE.out _ _).2 ⟨I.out,_,rfl,?_⟩;rw[aE.out trivial];exact aF.out
theorem Gp (v a:Value)(A B:List Nat)(w:World)(h:Rd w v (bvs A))(d:Rd w a (bvs B))(f:∀n∈A,n<256)(g:∀n∈B,n<256)(b:Bool)(i:decide (A=B)=b):
  Calls prog 19 #[v,a] w fun e w'=>e=rK (.bool b)/\∃n,w'=w.drewN n:=by
 refine(Re v a A B w h d f g).mono ?_;rintro e w' ⟨c,j⟩;rw[i]at c;exact⟨c,j⟩
structure LeafOk (d:LeafD):Prop where
 source:d.source<256
 box:∀n∈d.box,n<256
 sign:∀n∈d.sign,n<256
 ident:∀n∈d.ident,n<256
 par:∀n∈d.par,n<256
 sig:∀n∈d.sig,n<256
theorem NodeOk.leaf {d:NodeD}(h:NodeOk d):LeafOk d.leaf:=⟨h.source,h.box,h.sign,h.ident,h.par,h.sig⟩
def Zaq (w:World)(d:LeafD)(c:Array Value):Prop:=
 ∃a1 c1 a2 c2 a3 c3 a4 c4 a5 c5,c=#[.slice a1 d.box.length c1,.slice a2 d.sign.length c2,.slice a3 d.ident.length c3,rD rG (d.source:Nat),.slice a4 d.par.length c4,.slice a5 d.sig.length c5]/\
  Rd w (.slice a1 d.box.length c1) (bvs d.box)/\Rd w (.slice a2 d.sign.length c2) (bvs d.sign)/\Rd w (.slice a3 d.ident.length c3) (bvs d.ident)/\
  Rd w (.slice a4 d.par.length c4) (bvs d.par)/\Rd w (.slice a5 d.sig.length c5) (bvs d.sig)
def Kb (a b:LeafD):Bool:=decide (a.box=b.box/\a.sign=b.sign/\a.ident=b.ident/\a.source=b.source/\a.par=b.par/\a.sig=b.sig)
theorem Ri (d e:LeafD)(c c':Array Value)(w:World)(hc:Zaq w d c)(aI:Zaq w e c')(hd:LeafOk d)(he:LeafOk e):
  Calls prog 28 #[.agg c,.agg c'] w fun f w'=>f=rK (.bool (Kb d e))/\Below w.heap.size w w':=by
 obtain⟨a1,c1,a2,c2,a3,c3,a4,c4,a5,c5,rfl,h1,h2,h3,h4,h5⟩:=hc;obtain⟨b1,e1,b2,e2,b3,e3,b4,e4,b5,e5,rfl,i,j,m,s,H⟩:=aI;have S1:=fun W (n:Below w.heap.size w W) b hb=>Gp _ _ d.box e.box W (h1.below n lR) (i.below n lR) hd.box he.box b hb;have S2:=fun W (n:Below w.heap.size w W) b hb=>Gp _ _ d.sign e.sign W (h2.below n lR) (j.below n lR) hd.sign he.sign b hb;have S3:=fun W (n:Below w.heap.size w W) b hb=>Gp _ _ d.ident e.ident W (h3.below n lR) (m.below n lR) hd.ident he.ident b hb;have S4:=fun W (n:Below w.heap.size w W) b hb=>Gp _ _ d.par e.par W (h4.below n lR) (s.below n lR) hd.par he.par b hb;have S5:=fun W (n:Below w.heap.size w W) b hb=>Gp _ _ d.sig e.sig W (h5.below n lR) (H.below n lR) hd.sig he.sig b hb;have hE:Kb d e=decide (d.box=e.box/\d.sign=e.sign/\d.ident=e.ident/\d.source=e.source/\d.par=e.par/\d.sig=e.sig):=rfl;rw[hE];clear hE;obtain⟨m1,T⟩:=eX d.box.length;obtain⟨q1,Z⟩:=eX e.box.length;rw[<-T,<-Z]at S1;obtain⟨m2,U⟩:=eX d.sign.length;obtain⟨q2,aA⟩:=eX e.sign.length;rw[<-U,<-aA]at S2;obtain⟨m3,V⟩:=eX d.ident.length;obtain⟨q3,aB⟩:=eX e.ident.length;rw[<-V,<-aB]at S3;obtain⟨m4,X⟩:=eX d.par.length;obtain⟨q4,aC⟩:=eX e.par.length;rw[<-X,<-aC]at S4;obtain⟨m5,Y⟩:=eX d.sig.length;obtain⟨q5,aD⟩:=eX e.sig.length;rw[<-Y,<-aD]at S5;rw[<-T,<-U,<-V,<-X,<-Y,<-Z,<-aA,<-aB,<-aC,<-aD];obtain⟨t,aF⟩:=eX d.source;obtain⟨u,aG⟩:=eX e.source;rw[<-aF,<-aG];obtain⟨v,J⟩:=eX d.box;obtain⟨B,O⟩:=eX e.box;rw[<-J,<-O]at S1;obtain⟨x,K⟩:=eX d.sign;obtain⟨C,P⟩:=eX e.sign;rw[<-K,<-P]at S2;obtain⟨y,L⟩:=eX d.ident;obtain⟨D,Q⟩:=eX e.ident;rw[<-L,<-Q]at S3;obtain⟨z,M⟩:=eX d.par;obtain⟨E,R⟩:=eX e.par;rw[<-M,<-R]at S4;obtain⟨A,N⟩:=eX d.sig;obtain⟨F,S⟩:=eX e.sig;rw[<-N,<-S]at S5;rw[<-J,<-K,<-L,<-M,<-N,<-O,<-P,<-Q,<-R,<-S];have l:=Hd S1;have p:=Hd S2;have r:=Hd S3;have I:=Hd S4;have aE:=Hd S5;have a:=Hd (((Below.refl w.heap.size w).alloc lR (rJ #[rC a1 m1 c1,rC a2 m2 c2,rC a3 m3 c3,rD rG (t:Nat),rC a4 m4 c4,rC a5 m5 c5] 44)).alloc (by simp) (rJ #[rC b1 q1 e1,rC b2 q2 e2,rC b3 q3 e3,rD rG (u:Nat),rC b4 q4 e4,rC b5 q5 e5] 44));clear h1 i S1 T Z J O h2 j S2 U aA K P h3 m S3 V aB L Q h4 s S4 X aC M R h5 H S5 Y aD N S aF aG hd he
 by_cases i:v=B
 ·skip
  by_cases j:x=C
  ·skip
   by_cases m:y=D
   ·skip
    by_cases ks:t=u
    ·have ts:((t:Int)==(u:Int))=true:=by rw[beq_iff_eq];omega
     by_cases s:z=E
     ·skip
      by_cases H:A=F
      ·skip
       have o:Hid (decide (v=B/\x=C/\y=D/\t=u/\z=E/\A=F)=true):=Hd (dT ⟨i,j,m,ks,s,H⟩);have HK:=Hd (show v=B/\x=C/\y=D/\z=E/\A=F from⟨i,j,m,s,H⟩);clear i j m ks s H;go_in;go_wp2_with fail;refine(l.out _ (by repeat(first|exact a.out|refine Ab ?_ _)) true (dT (HK.out.1))).mono ?_;rintro f w' ⟨rfl,n1,rfl⟩;go_wp2_with fail;refine(p.out _ (by repeat(first|exact a.out|refine Ab ?_ _)) true (dT (HK.out.2.1))).mono ?_;rintro f w' ⟨rfl,n2,rfl⟩;go_wp2_with fail;refine(r.out _ (by repeat(first|exact a.out|refine Ab ?_ _)) true (dT (HK.out.2.2.1))).mono ?_;rintro f w' ⟨rfl,n3,rfl⟩;go_wp2_with fail;refine(I.out _ (by repeat(first|exact a.out|refine Ab ?_ _)) true (dT (HK.out.2.2.2.1))).mono ?_;rintro f w' ⟨rfl,n4,rfl⟩;go_wp2_with fail;refine(aE.out _ (by repeat(first|exact a.out|refine Ab ?_ _)) true (dT (HK.out.2.2.2.2))).mono ?_;rintro f w' ⟨rfl,n5,rfl⟩;go_wp2_with fail;go_ret;exact⟨Ae o.out.symm,(by repeat(first|exact a.out|refine Ab ?_ _))⟩
      ·have o:Hid (decide (v=B/\x=C/\y=D/\t=u/\z=E/\A=F)=false):=Hd (dF (fun h=>H (h.2.2.2.2.2)));have g:=Hd i;have k:=Hd j;have q:=Hd m;have aH:=Hd s;have G:=Hd H;clear i j m ks s H;go_in;go_wp2_with fail;refine(l.out _ (by repeat(first|exact a.out|refine Ab ?_ _)) true (dT g.out)).mono ?_;rintro f w' ⟨rfl,n1,rfl⟩;go_wp2_with fail;refine(p.out _ (by repeat(first|exact a.out|refine Ab ?_ _)) true (dT k.out)).mono ?_;rintro f w' ⟨rfl,n2,rfl⟩;go_wp2_with fail;refine(r.out _ (by repeat(first|exact a.out|refine Ab ?_ _)) true (dT q.out)).mono ?_;rintro f w' ⟨rfl,n3,rfl⟩;go_wp2_with fail;refine(I.out _ (by repeat(first|exact a.out|refine Ab ?_ _)) true (dT aH.out)).mono ?_;rintro f w' ⟨rfl,n4,rfl⟩;go_wp2_with fail;refine(aE.out _ (by repeat(first|exact a.out|refine Ab ?_ _)) false (dF G.out)).mono ?_;rintro f w' ⟨rfl,n5,rfl⟩;go_wp2_with fail;go_ret;exact⟨Ae o.out.symm,(by repeat(first|exact a.out|refine Ab ?_ _))⟩
     ·have o:Hid (decide (v=B/\x=C/\y=D/\t=u/\z=E/\A=F)=false):=Hd (dF (fun h=>s (h.2.2.2.2.1)));have g:=Hd i;have k:=Hd j;have q:=Hd m;have G:=Hd s;clear i j m ks s;go_in;go_wp2_with fail;refine(l.out _ (by repeat(first|exact a.out|refine Ab ?_ _)) true (dT g.out)).mono ?_;rintro f w' ⟨rfl,n1,rfl⟩;go_wp2_with fail;refine(p.out _ (by repeat(first|exact a.out|refine Ab ?_ _)) true (dT k.out)).mono ?_;rintro f w' ⟨rfl,n2,rfl⟩;go_wp2_with fail;refine(r.out _ (by repeat(first|exact a.out|refine Ab ?_ _)) true (dT q.out)).mono ?_;rintro f w' ⟨rfl,n3,rfl⟩;go_wp2_with fail;refine(I.out _ (by repeat(first|exact a.out|refine Ab ?_ _)) false (dF G.out)).mono ?_;rintro f w' ⟨rfl,n4,rfl⟩;go_wp2_with fail;go_ret;exact⟨Ae o.out.symm,(by repeat(first|exact a.out|refine Ab ?_ _))⟩
    ·have o:Hid (decide (v=B/\x=C/\y=D/\t=u/\z=E/\A=F)=false):=Hd (dF (fun h=>ks (h.2.2.2.1)));have g:=Hd i;have k:=Hd j;have q:=Hd m;have ts:((t:Int)==(u:Int))=false:=(by rw[qN];omega);clear i j m ks;go_in;go_wp2_with fail;refine(l.out _ (by repeat(first|exact a.out|refine Ab ?_ _)) true (dT g.out)).mono ?_;rintro f w' ⟨rfl,n1,rfl⟩;go_wp2_with fail;refine(p.out _ (by repeat(first|exact a.out|refine Ab ?_ _)) true (dT k.out)).mono ?_;rintro f w' ⟨rfl,n2,rfl⟩;go_wp2_with fail;refine(r.out _ (by repeat(first|exact a.out|refine Ab ?_ _)) true (dT q.out)).mono ?_;rintro f w' ⟨rfl,n3,rfl⟩;go_wp2_with fail;go_ret;exact⟨Ae o.out.symm,(by repeat(first|exact a.out|refine Ab ?_ _))⟩
   ·have o:Hid (decide (v=B/\x=C/\y=D/\t=u/\z=E/\A=F)=false):=Hd (dF (fun h=>m (h.2.2.1)));have g:=Hd i;have k:=Hd j;have G:=Hd m;clear i j m;go_in;go_wp2_with fail;refine(l.out _ (by repeat(first|exact a.out|refine Ab ?_ _)) true (dT g.out)).mono ?_;rintro f w' ⟨rfl,n1,rfl⟩;go_wp2_with fail;refine(p.out _ (by repeat(first|exact a.out|refine Ab ?_ _)) true (dT k.out)).mono ?_;rintro f w' ⟨rfl,n2,rfl⟩;go_wp2_with fail;refine(r.out _ (by repeat(first|exact a.out|refine Ab ?_ _)) false (dF G.out)).mono ?_;rintro f w' ⟨rfl,n3,rfl⟩;go_wp2_with fail;go_ret;exact⟨Ae o.out.symm,(by repeat(first|exact a.out|refine Ab ?_ _))⟩
  ·have o:Hid (decide (v=B/\x=C/\y=D/\t=u/\z=E/\A=F)=false):=Hd (dF (fun h=>j (h.2.1)));have g:=Hd i;have G:=Hd j;clear i j;go_in;go_wp2_with fail;refine(l.out _ (by repeat(first|exact a.out|refine Ab ?_ _)) true (dT g.out)).mono ?_;rintro f w' ⟨rfl,n1,rfl⟩;go_wp2_with fail;refine(p.out _ (by repeat(first|exact a.out|refine Ab ?_ _)) false (dF G.out)).mono ?_;rintro f w' ⟨rfl,n2,rfl⟩;go_wp2_with fail;go_ret;exact⟨Ae o.out.symm,(by repeat(first|exact a.out|refine Ab ?_ _))⟩
 ·have o:Hid (decide (v=B/\x=C/\y=D/\t=u/\z=E/\A=F)=false):=Hd (dF (fun h=>i (h.1)));have G:=Hd i;clear i;go_in;go_wp2_with fail;refine(l.out _ (by repeat(first|exact a.out|refine Ab ?_ _)) false (dF G.out)).mono ?_;rintro f w' ⟨rfl,n1,rfl⟩;go_wp2_with fail;go_ret;exact⟨Ae o.out.symm,(by repeat(first|exact a.out|refine Ab ?_ _))⟩
def Ek (a b:NodeD):Bool:=decide (a.kind=b.kind/\Kb a.leaf b.leaf=true/\a.par.box=b.par.box/\a.par.hash=b.par.hash/\a.par.late=b.par.late)
theorem Gq (d e:NodeD)(c c':Array Value)(w:World)(hc:NodeC w d c)(aW:NodeC w e c')(hd:NodeOk d)(he:NodeOk e):
  Calls prog 71 #[.agg c,.agg c'] w fun m w'=>m=rK (.bool (Ek d e))/\Below w.heap.size w w':=by
 obtain⟨a1,c1,a2,c2,a3,c3,a4,c4,a5,c5,a6,c6,a7,c7,a8,c8,rfl,h1,h2,h3,h4,h5,h6,h7,h8⟩:=hc;obtain⟨b1,e1,b2,e2,b3,e3,b4,e4,b5,e5,b6,e6,b7,e7,b8,e8,rfl,k1,k2,k3,k4,k5,q,y,D⟩:=aW;have SL:=fun W (l:Below w.heap.size w W)=>Ri d.leaf e.leaf _ _ W ⟨a1,c1,a2,c2,a3,c3,a4,c4,a5,c5,rfl,h1.below l lR,h2.below l lR,h3.below l lR,h4.below l lR,h5.below l lR⟩
  ⟨b1,e1,b2,e2,b3,e3,b4,e4,b5,e5,rfl,k1.below l lR,k2.below l lR,k3.below l lR,k4.below l lR,k5.below l lR⟩ hd.leaf he.leaf
 have S6:=fun W (l:Below w.heap.size w W) b hb=>Gp _ _ d.par.box e.par.box W (h6.below l lR) (q.below l lR) hd.pbox he.pbox b hb;have S7:=fun W (l:Below w.heap.size w W) b hb=>Gp _ _ d.par.hash e.par.hash W (h7.below l lR) (y.below l lR) hd.hash he.hash b hb;have S8:=fun W (l:Below w.heap.size w W)=>Nj _ _ d.par.late e.par.late W (h8.below l lR) (D.below l lR);have hE:Ek d e=decide (d.kind=e.kind/\Kb d.leaf e.leaf=true/\d.par.box=e.par.box/\d.par.hash=e.par.hash/\d.par.late=e.par.late):=rfl;rw[hE];clear hE;obtain⟨m1,S⟩:=eX d.leaf.box.length;obtain⟨q1,aB⟩:=eX e.leaf.box.length;obtain⟨m2,T⟩:=eX d.leaf.sign.length;obtain⟨q2,aC⟩:=eX e.leaf.sign.length;obtain⟨m3,U⟩:=eX d.leaf.ident.length;obtain⟨q3,aD⟩:=eX e.leaf.ident.length;obtain⟨m4,V⟩:=eX d.leaf.par.length;obtain⟨q4,aE⟩:=eX e.leaf.par.length;obtain⟨m5,X⟩:=eX d.leaf.sig.length;obtain⟨q5,aF⟩:=eX e.leaf.sig.length;obtain⟨m6,Y⟩:=eX d.par.box.length;obtain⟨q6,aG⟩:=eX e.par.box.length;obtain⟨m7,Z⟩:=eX d.par.hash.length;obtain⟨q7,aH⟩:=eX e.par.hash.length;obtain⟨m8,aA⟩:=eX d.par.late.length;obtain⟨q8,aI⟩:=eX e.par.late.length;obtain⟨s1,aJ⟩:=eX d.leaf.source;obtain⟨s2,aK⟩:=eX e.leaf.source;obtain⟨p,aT⟩:=eX d.kind;obtain⟨r,aU⟩:=eX e.kind;rw[<-S,<-T,<-U,<-V,<-X,<-aB,<-aC,<-aD,<-aE,<-aF,<-aJ,<-aK]at SL;rw[<-Y,<-aG]at S6;rw[<-Z,<-aH]at S7;rw[<-aA,<-aI]at S8;rw[<-S,<-T,<-U,<-V,<-X,<-Y,<-Z,<-aA,<-aB,<-aC,<-aD,<-aE,<-aF,<-aG,<-aH,<-aI,<-aJ,<-aK,<-aT,<-aU];obtain⟨sl,aV⟩:=eX (Kb d.leaf e.leaf);rw[<-aV]at SL|-;obtain⟨K,aM⟩:=eX d.par.box;obtain⟨N,aQ⟩:=eX e.par.box;rw[<-aM,<-aQ]at S6|-;obtain⟨L,aN⟩:=eX d.par.hash;obtain⟨O,aR⟩:=eX e.par.hash;rw[<-aN,<-aR]at S7|-;obtain⟨M,aO⟩:=eX d.par.late;obtain⟨P,aS⟩:=eX e.par.late;rw[<-aO,<-aS]at S8|-;have v:=Hd SL;have A:=Hd S6;have R:=Hd S7;have aL:=Hd S8;have g:=Hd (((Below.refl w.heap.size w).alloc lR (rJ #[rD rG (p:Nat),rC a1 m1 c1,rC a2 m2 c2,rC a3 m3 c3,rD rG (s1:Nat),rC a4 m4 c4,rC a5 m5 c5,rC a6 m6 c6,rC a7 m7 c7,rC a8 m8 c8] 52)).alloc (by simp) (rJ #[rD rG (r:Nat),rC b1 q1 e1,rC b2 q2 e2,rC b3 q3 e3,rD rG (s2:Nat),rC b4 q4 e4,rC b5 q5 e5,rC b6 q6 e6,rC b7 q7 e7,rC b8 q8 e8] 52));have t:=Hd ((Blk.new w 52 #[rD rG (p:Nat),rC a1 m1 c1,rC a2 m2 c2,rC a3 m3 c3,rD rG (s1:Nat),rC a4 m4 c4,rC a5 m5 c5,rC a6 m6 c6,rC a7 m7 c7,rC a8 m8 c8]).alloc (rJ #[rD rG (r:Nat),rC b1 q1 e1,rC b2 q2 e2,rC b3 q3 e3,rD rG (s2:Nat),rC b4 q4 e4,rC b5 q5 e5,rC b6 q6 e6,rC b7 q7 e7,rC b8 q8 e8] 52));have f:=Blk.new (w.alloc (rJ #[rD rG (p:Nat),rC a1 m1 c1,rC a2 m2 c2,rC a3 m3 c3,rD rG (s1:Nat),rC a4 m4 c4,rC a5 m5 c5,rC a6 m6 c6,rC a7 m7 c7,rC a8 m8 c8] 52)) 52 #[rD rG (r:Nat),rC b1 q1 e1,rC b2 q2 e2,rC b3 q3 e3,rD rG (s2:Nat),rC b4 q4 e4,rC b5 q5 e5,rC b6 q6 e6,rC b7 q7 e7,rC b8 q8 e8];have hz:(w.alloc (rJ #[rD rG (p:Nat),rC a1 m1 c1,rC a2 m2 c2,rC a3 m3 c3,rD rG (s1:Nat),rC a4 m4 c4,rC a5 m5 c5,rC a6 m6 c6,rC a7 m7 c7,rC a8 m8 c8] 52)).heap.size=w.heap.size+1:=(by simp);rw[hz]at f;have u:=Hd f;clear hz f SL S6 S7 S8 hd he h1 k1 S aB h2 k2 T aC h3 k3 U aD h4 k4 V aE h5 k5 X aF h6 q Y aG h7 y Z aH h8 D aA aI aJ aK aT aU aV aM aN aO aQ aR aS
 by_cases k0:p=r
 ·have t0:((p:Int)==(r:Int))=true:=(by rw[beq_iff_eq];omega);cases sl with
  |true=>
   by_cases q:K=N
   ·by_cases y:L=O
    ·have o:=Hd q;have z:=Hd y
     by_cases D:M=P
     ·have s:Hid (decide (p=r/\(true:Bool)=true/\K=N/\L=O/\M=P)=true):=Hd (dT ⟨k0,rfl,q,y,D⟩);have Q:=Hd D;clear k0 q y D;go_in;go_wp2_with fail;refine(v.out _ g.out).mono ?_;rintro m n ⟨rfl,a⟩;have i:=t.out.below a (by simp;omega);have f:=u.out.below a (by simp);have E:=i.cell 7;have F:=i.cell 8;have G:=i.cell 9;have H:=f.cell 7;have I:=f.cell 8;have J:=f.cell 9;simp only[cR,cS,aP]at E F G H I J;have j:=Hd (g.out.trans (a.mono (by simp;omega)));have k:=a.size;simp only[World.alloc,dS]at k;have B:w.heap.size<n.heap.size:=(by omega);have C:w.heap.size+1<n.heap.size:=(by omega);clear i f a k;go_wp2_with fail;refine(A.out _ (by repeat(first|exact j.out|exact g.out|refine Ab ?_ _)) true (dT o.out)).mono ?_;rintro m w' ⟨rfl,n6,rfl⟩;go_wp2_with fail;refine(R.out _ (by repeat(first|exact j.out|exact g.out|refine Ab ?_ _)) true (dT z.out)).mono ?_;rintro m w' ⟨rfl,n7,rfl⟩;go_wp2_with fail;refine(aL.out _ (by repeat(first|exact j.out|exact g.out|refine Ab ?_ _))).mono ?_;rintro m w' ⟨x,n8,rfl⟩;rw[dT Q.out]at x;subst x;go_wp2_with fail;go_ret;exact⟨Ae s.out.symm,(by repeat(first|exact j.out|exact g.out|refine Ab ?_ _))⟩
     ·have s:Hid (decide (p=r/\(true:Bool)=true/\K=N/\L=O/\M=P)=false):=Hd (dF (fun h=>D h.2.2.2.2));have Q:=Hd D;clear k0 q y D;go_in;go_wp2_with fail;refine(v.out _ g.out).mono ?_;rintro m n ⟨rfl,a⟩;have i:=t.out.below a (by simp;omega);have f:=u.out.below a (by simp);have E:=i.cell 7;have F:=i.cell 8;have G:=i.cell 9;have H:=f.cell 7;have I:=f.cell 8;have J:=f.cell 9;simp only[cR,cS,aP]at E F G H I J;have j:=Hd (g.out.trans (a.mono (by simp;omega)));have k:=a.size;simp only[World.alloc,dS]at k;have B:w.heap.size<n.heap.size:=(by omega);have C:w.heap.size+1<n.heap.size:=(by omega);clear i f a k;go_wp2_with fail;refine(A.out _ (by repeat(first|exact j.out|exact g.out|refine Ab ?_ _)) true (dT o.out)).mono ?_;rintro m w' ⟨rfl,n6,rfl⟩;go_wp2_with fail;refine(R.out _ (by repeat(first|exact j.out|exact g.out|refine Ab ?_ _)) true (dT z.out)).mono ?_;rintro m w' ⟨rfl,n7,rfl⟩;go_wp2_with fail;refine(aL.out _ (by repeat(first|exact j.out|exact g.out|refine Ab ?_ _))).mono ?_;rintro m w' ⟨x,n8,rfl⟩;rw[dF Q.out]at x;subst x;go_wp2_with fail;go_ret;exact⟨Ae s.out.symm,(by repeat(first|exact j.out|exact g.out|refine Ab ?_ _))⟩
    ·have s:Hid (decide (p=r/\(true:Bool)=true/\K=N/\L=O/\M=P)=false):=Hd (dF (fun h=>y h.2.2.2.1));have o:=Hd q;have z:=Hd y;clear k0 q y;go_in;go_wp2_with fail;refine(v.out _ g.out).mono ?_;rintro m n ⟨rfl,a⟩;have i:=t.out.below a (by simp;omega);have f:=u.out.below a (by simp);have E:=i.cell 7;have F:=i.cell 8;have G:=i.cell 9;have H:=f.cell 7;have I:=f.cell 8;have J:=f.cell 9;simp only[cR,cS,aP]at E F G H I J;have j:=Hd (g.out.trans (a.mono (by simp;omega)));have k:=a.size;simp only[World.alloc,dS]at k;have B:w.heap.size<n.heap.size:=(by omega);have C:w.heap.size+1<n.heap.size:=(by omega);clear i f a k;go_wp2_with fail;refine(A.out _ (by repeat(first|exact j.out|exact g.out|refine Ab ?_ _)) true (dT o.out)).mono ?_;rintro m w' ⟨rfl,n6,rfl⟩;go_wp2_with fail;refine(R.out _ (by repeat(first|exact j.out|exact g.out|refine Ab ?_ _)) false (dF z.out)).mono ?_;rintro m w' ⟨rfl,n7,rfl⟩;go_wp2_with fail;go_ret;exact⟨Ae s.out.symm,(by repeat(first|exact j.out|exact g.out|refine Ab ?_ _))⟩
   ·have s:Hid (decide (p=r/\(true:Bool)=true/\K=N/\L=O/\M=P)=false):=Hd (dF (fun h=>q h.2.2.1));have o:=Hd q;clear k0 q;go_in;go_wp2_with fail;refine(v.out _ g.out).mono ?_;rintro m n ⟨rfl,a⟩;have i:=t.out.below a (by simp;omega);have f:=u.out.below a (by simp);have E:=i.cell 7;have F:=i.cell 8;have G:=i.cell 9;have H:=f.cell 7;have I:=f.cell 8;have J:=f.cell 9;simp only[cR,cS,aP]at E F G H I J;have j:=Hd (g.out.trans (a.mono (by simp;omega)));have k:=a.size;simp only[World.alloc,dS]at k;have B:w.heap.size<n.heap.size:=(by omega);have C:w.heap.size+1<n.heap.size:=(by omega);clear i f a k;go_wp2_with fail;refine(A.out _ (by repeat(first|exact j.out|exact g.out|refine Ab ?_ _)) false (dF o.out)).mono ?_;rintro m w' ⟨rfl,n6,rfl⟩;go_wp2_with fail;go_ret;exact⟨Ae s.out.symm,(by repeat(first|exact j.out|exact g.out|refine Ab ?_ _))⟩
  |false=>
   have s:Hid (decide (p=r/\(false:Bool)=true/\K=N/\L=O/\M=P)=false):=Hd (dF (fun h=>by simp at h));clear k0;go_in;go_wp2_with fail;refine(v.out _ g.out).mono ?_;rintro m n ⟨rfl,a⟩;have i:=t.out.below a (by simp;omega);have f:=u.out.below a (by simp);have E:=i.cell 7;have F:=i.cell 8;have G:=i.cell 9;have H:=f.cell 7;have I:=f.cell 8;have J:=f.cell 9;simp only[cR,cS,aP]at E F G H I J;have j:=Hd (g.out.trans (a.mono (by simp;omega)));have k:=a.size;simp only[World.alloc,dS]at k;have B:w.heap.size<n.heap.size:=(by omega);have C:w.heap.size+1<n.heap.size:=(by omega);clear i f a k;go_wp2_with fail;go_ret;exact⟨Ae s.out.symm,(by repeat(first|exact j.out|exact g.out|refine Ab ?_ _))⟩
 ·have t0:((p:Int)==(r:Int))=false:=(by rw[qN];omega);have s:Hid (decide (p=r/\sl=true/\K=N/\L=O/\M=P)=false):=Hd (dF (fun h=>k0 h.1));clear k0;go_in;go_wp2_with fail;go_ret;exact⟨Ae s.out.symm,g.out⟩
end Go.Proofs.YtfofaiommeckbaaGreat
namespace Go.Proofs.YtfofaiommeckbaaGreat
open Go.RowKit WalkM
def Tq (y:Int):Int:=2^(Mh y).toNat-1
def Bv (x y:Int):Bool:=Bk x&&Bk y&&decide (y-Tq y<=x/\x<=y+Tq y)
theorem Cs (x y:Int)(w:World):
  Calls prog 192 #[rD rF x,rD rF y] w fun e w'=>e=rK (.bool (Bv x y))/\w=w':=by
 have N:=Mp x
 by_cases hx:Bk x=true
 ·rw[hx]at N;have f:=Hd N;have M:=Mp y;clear N
  by_cases hy:Bk y=true
  ·rw[hy]at M;have i:=Hd M;have e:Bv x y=decide (y-Tq y<=x/\x<=y+Tq y):=(by rw[Bv,hx,hy];rfl);rw[e];have B:=oD hx;have C:=oD hy;clear hx hy e M;obtain⟨m,rfl⟩:∃m:Nat,y=(m:Int):=⟨y.toNat,by omega⟩;have n:m<=131070:=(by omega);have L:=Nk (m:Int);have q:Tq (m:Int)=2^(lev m)-1:=(by rw[Tq,Gn n,cV]);rw[q];rw[Gn n]at L;have t:=lev_le n;obtain⟨l,g⟩:∃l,l=lev m:=⟨_,rfl⟩;rw[<-g]at L t|-;have o:=Hd L;have u:=As (show l<=16 by omega);have v:=two_pow_pos l;have j:(2:Int)^l=((2^l:Nat):Int):=(by simp);rw[j];have k:=Mq (show l<=17 by omega);rw[j]at k;obtain⟨p,r⟩:=eX (2^l);rw[<-r]at u v k j|-;have A:=Hd k;have z:=Hd j;clear g L q r
   by_cases ha:(m:Int)-((p:Int)-1)<=x
   ·have e:decide ((m:Int)-((p:Int)-1)<=x/\x<=(m:Int)+((p:Int)-1))=decide (x<=(m:Int)+((p:Int)-1)):=by
     by_cases a:x<=(m:Int)+((p:Int)-1)
     ·rw[dT ⟨ha,a⟩,dT a]
     ·rw[dF (fun h=>a h.2),dF a]
    rw[e];clear e;obtain⟨b,a⟩:=eX (decide (x<=(m:Int)+((p:Int)-1)));rw[<-a];have s:=Hd a;clear a;go_in;go_wp2_with fail;refine(f.out _).mono ?_;rintro e w' ⟨rfl,rfl⟩;go_wp2_with fail;refine(i.out _).mono ?_;rintro e w' ⟨rfl,rfl⟩;go_wp2_with fail;refine(o.out _).mono ?_;rintro e w' ⟨rfl,rfl⟩;go_wp2_with fail;go_ret;exact⟨Ae s.out.symm,rfl⟩
   ·rw[dF (fun h=>ha h.1)];go_in;go_wp2_with fail;refine(f.out _).mono ?_;rintro e w' ⟨rfl,rfl⟩;go_wp2_with fail;refine(i.out _).mono ?_;rintro e w' ⟨rfl,rfl⟩;go_wp2_with fail;refine(o.out _).mono ?_;rintro e w' ⟨rfl,rfl⟩;go_wp2_with fail;go_ret;exact⟨rfl,rfl⟩
  ·have d:Bk y=false:=(by rw[<-cX];exact hy);rw[d]at M;have i:=Hd M;have e:Bv x y=false:=(by rw[Bv,d,Bool.and_false,dP]);rw[e];clear hx hy d e M;go_in;go_wp2_with fail;refine(f.out _).mono ?_;rintro e w' ⟨rfl,rfl⟩;go_wp2_with fail;refine(i.out _).mono ?_;rintro e w' ⟨rfl,rfl⟩;go_wp2_with fail;go_ret;exact⟨rfl,rfl⟩
 ·have c:Bk x=false:=(by rw[<-cX];exact hx);rw[c]at N;have f:=Hd N;have e:Bv x y=false:=(by rw[Bv,c,dP,dP]);rw[e];clear hx c e N;go_in;go_wp2_with fail;refine(f.out _).mono ?_;rintro e w' ⟨rfl,rfl⟩;go_wp2_with fail;go_ret;exact⟨rfl,rfl⟩
theorem Rj {x d:Nat}(hd:d<=16):Kw (x:Int) ((2^d:Nat):Int)=decide (x+1<2^(d+1)):=by
 have hf:fits (2^d)=true:=(fits_iff _).2 ⟨d,hd,rfl⟩;have hp:=pow_pos' d;rw[Kw,cV,hf,dL,bF];generalize 2^d=p at*
 by_cases h:x+1<p*2
 ·rw[dT h,dT];omega
 ·rw[dF h,dF];omega
def nxt (x d j:Nat):Int:=if j<d then((anc x (j+1):Nat):Int)else-1
theorem Mt {x d:Nat}(c:d<=16)(hx:x+1<2^(d+1)):La (x:Int) ((2^d:Nat):Int)=nxt x d (lev x):=by
 have b:=As (show d+1<=17 by omega);have a:=lev_root hx (lev_is (by omega));have f:=pow_pos' d;unfold La nxt;rw[Rj c,dT hx,cV]
 by_cases h:lev x<d
 ·rw[iP h,iP];refine⟨rfl,fun e=> ?_⟩;have:x=2^d-1:=(by omega);have:=a.2.2 this;omega
 ·rw[iN h,iN];rintro⟨_,e⟩;apply e;have:=a.2.1 (by omega);omega
theorem Yf {x d j:Nat}(hd:d<=16)(hx:x+1<2^(d+1))(hj:j<=d):La ((anc x j:Nat):Int) ((2^d:Nat):Int)=nxt x d j:=by
 have h17:=As (show d+1<=17 by omega);have hle:=anc_le (show x<2^(d+1) by omega) hj;rw[Mt hd hle,lev_eq (by omega) (anc_lev x j)];unfold nxt;rw[anc_anc (by omega)]
def ups (x:Nat):Nat->Nat->List Nat
 |_,0=>[]
 |j,k+1=>anc x (j+1)::ups x (j+1) k
theorem Rk (x:Nat):∀k j,(ups x j k).length=k:=by
 intro k
 induction k with
 |zero=>intro j;rfl
 |succ k ih=>intro j;simp[ups,ih]
theorem Yg (x:Nat):∀k j,ups x j (k+1)=ups x j k++[anc x (j+k+1)]:=by
 intro k
 induction k with
 |zero=>intro j;rfl
 |succ k ih=>
  intro j;rw[ups,ih,ups];simp only[List.cons_append];rw[show j+1+k+1=j+(k+1)+1 by omega]
def nvs (L:List Nat):List Value:=ivs .i64 (L.map fun(n:Nat)=>(n:Int))
theorem Ld (L:List Nat):(nvs L).length=L.length:=by simp[nvs,ivs]
theorem Yh (L:List Nat)(x:Nat):nvs (L++[x])=nvs L++[rD rF (x:Int)]:=by simp[nvs,ivs]
theorem Cg:Elem prog 48 3 (rD rF 0) 8:=⟨underlying48,by kernel_rfl,rfl,by omega⟩
theorem Zgv (x d:Nat)(C:d<=16)(hx:x+1<2^(d+1))(w:World):
  Calls prog 269 #[rD rF x,rD rF ((2^d:Nat):Int)] w fun e w'=>∃v,e=rK v/\Own w' w.heap.size 3 v (nvs (ups x (lev x) (d-lev x)))/\Below w.heap.size w w':=by
 have z:=As (show d+1<=17 by omega);have m:=As C;have M:=(lev_root hx (lev_is (by omega))).1;have u:=fun w=>Pr x ((2^d:Nat):Int) w (by omega) (by omega);rw[Mt C hx]at u;have H:∀j,j<=d->∀w,Calls prog 288 #[rD rF (anc x j:Nat),rD rF ((2^d:Nat):Int)] w fun e w'=>e=rK (rD rF (nxt x d j))/\∃k,w'=w.drewN k:=by
  intro j L w;have:=Pr (anc x j:Nat) ((2^d:Nat):Int) w (by omega) (by omega);rw[Yf C hx L]at this;exact this
 have g:=Hd u;have h:=Hd H;obtain⟨l,p⟩:∃l,l=lev x:=⟨_,rfl⟩;rw[<-p]at g M|-;obtain⟨n,q⟩:=eX (2^d);have O:=Hd hx;have N:=Hd q;have I:n<=65536:=(by rw[q];exact m);rw[<-q]at g h|-;clear u H p hx q z m;go_in;go_wp2_with fail;refine(g.out _).mono ?_;rintro e w' ⟨rfl,k,rfl⟩;go_wp2_with fail
 go_loopg [0,5] (d-l) (fun k y r wr=>∃i:Nat,i+k=d-l/\y=rD rF (nxt x d (l+i))/\Own wr w.heap.size 3 r (nvs (ups x l i))/\Below w.heap.size w wr)
 case atStart=>exact⟨0,by omega,rfl,Own.nil _ _ _,Ab bR _⟩
 case round=>
  obtain⟨i,P,rfl,f,b⟩:=hrel;have G:=Hd f;have F:=Hd b;have E:=b.size;clear f b
  by_cases hlt:l+i<d
  ·rw[nxt,iP hlt];have A:=h.out (l+i+1) (by omega);obtain⟨a,B⟩:=eX (anc x (l+i+1));rw[<-B]at A|-;have J:=Hd B;have K:=Hd A;clear B A;go_wp2_with (at_builtin;refine An rfl (.tmp 14) (.tmp 16) 48 rfl w.heap.size 3 _ 8 Cg _ _ rfl (G.out.alloc _) ⟨wr.heap.size,0,rI⟩ (rD rF (a:Int)) rfl ?c1 rfl ?c2 ?c3 ?_);case c1=>exact Aq rfl
   case c2=>rw[Ld,Rk];omega
   case c3=>simp;omega
   rintro R S c D o;clear D;have t:=Hd c;have s:=Hd o;clear c o;go_wp2_with fail;refine(K.out _).mono ?_;rintro e w' ⟨rfl,Q,rfl⟩;go_wp2_with fail;go_roundg (gk-1);case measure=>omega
   case rel=>
    refine⟨i+1,by omega,by rw[Nat.add_assoc],?_,?_⟩
    ·rw[Yg,Yh,<-J.out];exact t.out.drewN _
    ·exact Ab ((F.out.alloc E _).trans s.out) _
  ·rw[nxt,iN hlt];obtain rfl:i=d-l:=(by omega);go_wp2_with fail;go_ret;exact⟨_,rfl,G.out,F.out⟩
theorem Mu {x n:Int}(h:Kw x n=true):∃m d:Nat,x=(m:Int)/\n=((2^d:Nat):Int)/\d<=16/\m+1<2^(d+1):=by
 have hb:=Zcn h;unfold Kw at h;rw[aT]at h;obtain⟨d,hd,e⟩:=(fits_iff _).1 h.1;refine⟨x.toNat,d,by omega,by omega,hd,?_⟩;rw[bF];omega
def Pg (x n:Int):List Nat:=if Kw x n=true then ups x.toNat (lev x.toNat) (Nat.log2 n.toNat-lev x.toNat)else []
theorem Rl {x d:Nat}(hd:d<=16)(hx:x+1<2^(d+1)):Pg (x:Int) ((2^d:Nat):Int)=ups x (lev x) (d-lev x):=by
 rw[Pg,iP (by rw[Rj hd,dT hx]),cV,cV,Nat.log2_two_pow]
theorem Zcp {x n:Int}(h:Kw x n=false):Pg x n=[]:=by rw[Pg,iN (by rw[h];simp)]
theorem Kc (n:Int)(w:World):
  Calls prog 69 #[rD rF n] w fun e w'=>e=rK (.bool (fits n.toNat))/\w=w':=by
 go_in;go_wp2_with fail
 go_loopg [3] 17 (fun k i wr=>∃d:Nat,d+k=17/\i=rD rF ((2^d:Nat):Int)/\(∀e,e<d->n≠((2^e:Nat):Int))/\wr=w)
 case atStart=>exact⟨0,rfl,rfl,fun e h=>absurd h (by omega),rfl⟩
 case round=>
  obtain⟨d,v,rfl,g,rfl⟩:=hrel;have b:=Hd g;clear g
  by_cases h17:d=17
  ·subst h17;have f:fits n.toNat=false:=by
    rw[<-cX];intro h;obtain⟨e,t,h⟩:=(fits_iff _).1 h;have j:=pow_pos' e;exact b.out e (by omega) (by omega)
   have l:=Hd f;clear f;have q:((2^17:Nat):Int)=131072:=(by decide);rw[q];go_wp2_with fail;go_ret;exact⟨Ae l.out.symm,rfl⟩
  ·have a:d<=16:=(by omega);have r:=As a;have c:2^(d+1)=2*2^d:=(by rw[bF];omega);obtain⟨p,j⟩:=eX (2^d);have s:=Hd c;have o:=Hd j;rw[<-j]at r|-;clear c j h17
   by_cases hn:n=(p:Int)
   ·subst hn;have f:fits (p:Int).toNat=true:=(by rw[cV,o.out];exact(fits_iff _).2 ⟨d,a,rfl⟩);have l:=Hd f;clear f;go_wp2_with fail;go_ret;exact⟨Ae l.out.symm,rfl⟩
   ·have u:((p:Int)==n)=false:=(by rw[qN];omega);have m:=Hd hn;clear hn;go_wp2_with fail;go_roundg (gk-1);case measure=>omega
    case rel=>
     refine⟨d+1,by omega,by rw[s.out,<-o.out];go_num,?_,rfl⟩;intro e t
     by_cases h:e=d
     ·subst h;rw[<-o.out];exact m.out
     ·exact b.out e (by omega)
end Go.Proofs.YtfofaiommeckbaaGreat
namespace Go.Proofs.YtfofaiommeckbaaGreat
open Go.RowKit WireM
theorem Zgw (L:List Int):∀u∈ivs .i64 L,u.oneCell'=true:=by
 intro u hu;simp only[ivs,List.mem_map]at hu;obtain⟨n,_,rfl⟩:=hu
 rfl
theorem Zar (v:Value)(L:List Int)(w:World)(h:Rd w v (ivs .i64 L))(m:L.length<1099511627776):
  Calls prog 130 #[v] w fun e w'=>∃f,e=rK f/\Own w' w.heap.size 3 f (ivs .i64 L)/\Below w.heap.size w w':=by
 have d:(ivs .i64 L).length=L.length:=Fi .i64 L;have h1:=Zgw L;rcases h.nilOr with rfl|⟨a,cap,rfl⟩
 ·have h0:ivs .i64 L=[]:=by
   obtain⟨a,cap,e,_⟩:=h;simp only[Value.slice.injEq]at e;exact List.eq_nil_of_length_eq_zero e.2.1.symm
  rw[h0];clear h h0 d h1;have q:∀w,(binOp .eql 48 (rC rI 0 0) (rC rI 0 0)).run prog w=.ok (.bool true) w:=fun w=>Lib.run_eql_slice_nil w _ 3 none 0 0 0 0 underlying48;go_in;go_wp2_with fail;go_ret;exact⟨_,rfl,Own.nil _ _ _,bR⟩
 ·obtain⟨xs,c⟩:=eX (ivs .i64 L);rw[<-c]at h h1 d|-;have hx:xs.length<1099511627776:=(by omega);have l:=Hd h;have i:=Hd h1;clear h h1 d c m;have q:∀w,(binOp .eql 48 (.slice (some a) xs.length cap) (rC rI 0 0)).run prog w=.ok (.bool false) w:=fun w=>Lib.run_eql_slice_nil w _ 3 (some a) _ _ 0 0 underlying48;go_in;go_wp2_with (at_builtin;refine Ak rfl (.tmp 5) (.tmp 6) 48 rfl w.heap.size 3 _ 8 Cg _ [] rfl (Own.lit0 rfl lR) _ xs rfl (l.out.alloc _) i.out ?c2 ?c3 ?_);case c2=>simpa using hx
  case c3=>simp
  rintro f n b-g;have k:=Hd b;have j:=Hd g;clear b g;go_wp2_with fail;go_ret;exact⟨_,rfl,k.out,(bR.alloc lR _).trans j.out⟩
theorem Own.ne_blk {w:World} {B g:Nat} {e t:TypeId} {v:Value} {xs:List Value} {cs:Array Value}(h:Own w B e v xs)(a:Blk w g t cs)(b:e≠t):v.ownBlock≠some g:=by
 intro c;rcases h.2 with⟨rfl,_⟩|⟨j,i,d,rfl,k,f,_⟩
 ·simp[Value.ownBlock]at c
 ·simp[Value.ownBlock]at c;subst c;rw[Blk]at a;rw[f]at a;simp at a;exact b a.2
def LeafO (w:World)(B:Nat)(d:LeafD)(c:Array Value):Prop:=
 ∃c0 c1 c2 c3 c4,c=#[c0,c1,c2,rD rG (d.source:Nat),c3,c4]/\Own w B 5 c0 (bvs d.box)/\Own w B 5 c1 (bvs d.sign)/\Own w B 5 c2 (bvs d.ident)/\Own w B 5 c3 (bvs d.par)/\Own w B 5 c4 (bvs d.sig)
def LfJ (B g p r:Nat)(d:LeafD)(o0 o1 o2 o3 o4:Value)(Z:Array Value)(i:Nat)(w:World):Prop:=
 ∃c0 c1 c2 c3 c4:Value,Blk w g 44 #[c0,c1,c2,rD rG (d.source:Nat),c3,c4]/\Blk w p 217 #[rE (some ⟨g,0,rI⟩),rE (some ⟨g,1,rI⟩),rE (some ⟨g,2,rI⟩),rE (some ⟨g,4,rI⟩),rE (some ⟨g,5,rI⟩)]/\Blk w r 44 Z/\
  (if 0<i then Own w B 5 c0 (bvs d.box)else c0=o0)/\(if 1<i then Own w B 5 c1 (bvs d.sign)else c1=o1)/\(if 2<i then Own w B 5 c2 (bvs d.ident)else c2=o2)/\(if 3<i then Own w B 5 c3 (bvs d.par)else c3=o3)/\(if 4<i then Own w B 5 c4 (bvs d.sig)else c4=o4)
theorem Df {w:World} {B:Nat} {e:TypeId} {v:Value} {xs:List Value}(h:Own w B e v xs):∃a n c,v=.slice a n c:=by
 obtain⟨a,c,e,_⟩:=h.rd;exact⟨_,_,_,e⟩
theorem Tr (d:LeafD)(c:Array Value)(w:World)(h:Zaq w d c)(aT:d.box.length<1000000/\d.sign.length<1000000/\d.ident.length<1000000/\d.par.length<1000000/\d.sig.length<1000000):
  Calls prog 129 #[.agg c] w fun e w'=>∃c',e=rK (.agg c')/\LeafO w' w.heap.size d c'/\Below w.heap.size w w':=by
 obtain⟨N,c1,O,c2,P,c3,Q,c4,R,c5,rfl,h1,h2,h3,h4,h5⟩:=h;have C1:=Hd (fun(W:World) (hw:Below w.heap.size w W)=>Cm _ d.box W (h1.below hw lR) (by omega));have C2:=Hd (fun(W:World) (hw:Below w.heap.size w W)=>Cm _ d.sign W (h2.below hw lR) (by omega));have C3:=Hd (fun(W:World) (hw:Below w.heap.size w W)=>Cm _ d.ident W (h3.below hw lR) (by omega));have C4:=Hd (fun(W:World) (hw:Below w.heap.size w W)=>Cm _ d.par W (h4.below hw lR) (by omega));have C5:=Hd (fun(W:World) (hw:Below w.heap.size w W)=>Cm _ d.sig W (h5.below hw lR) (by omega));obtain⟨S,aG⟩:=eX d.box.length;obtain⟨T,aH⟩:=eX d.sign.length;obtain⟨U,aI⟩:=eX d.ident.length;obtain⟨V,aJ⟩:=eX d.par.length;obtain⟨X,aK⟩:=eX d.sig.length;obtain⟨s,K⟩:=eX d.source;rw[<-aG,<-aH,<-aI,<-aJ,<-aK,<-K];rw[<-aG]at C1;rw[<-aH]at C2;rw[<-aI]at C3;rw[<-aJ]at C4;rw[<-aK]at C5;have HS:=Hd K;clear h1 h2 h3 h4 h5 aG aH aI aJ aK K aT;go_in;go_wp2_with fail;obtain⟨wz,C⟩:=eX (((w.alloc (rJ #[rC N S c1,rC O T c2,rC P U c3,rD rG (s:Nat),rC Q V c4,rC R X c5] 44)).alloc (rJ #[rC rI 0 0,rC rI 0 0,rC rI 0 0,rD rG 0,rC rI 0 0,rC rI 0 0] 44)).alloc (rJ #[rE (some ⟨w.heap.size,0,rI⟩),rE (some ⟨w.heap.size,1,rI⟩),rE (some ⟨w.heap.size,2,rI⟩),rE (some ⟨w.heap.size,4,rI⟩),rE (some ⟨w.heap.size,5,rI⟩)] 217));have hA:=(Below.refl w.heap.size w).alloc lR (rJ #[rC N S c1,rC O T c2,rC P U c3,rD rG (s:Nat),rC Q V c4,rC R X c5] 44);have B0:=Hd (show Blk wz w.heap.size 44 #[rC N S c1,rC O T c2,rC P U c3,rD rG (s:Nat),rC Q V c4,rC R X c5] by rw[C];exact((Blk.new w _ _).alloc _).alloc _);have B1:=Hd (show Blk wz (w.heap.size+1) 44 #[rC rI 0 0,rC rI 0 0,rC rI 0 0,rD rG 0,rC rI 0 0,rC rI 0 0] by
  have h1:=Blk.new (w.alloc (rJ #[rC N S c1,rC O T c2,rC P U c3,rD rG (s:Nat),rC Q V c4,rC R X c5] 44)) 44 #[rC rI 0 0,rC rI 0 0,rC rI 0 0,rD rG 0,rC rI 0 0,rC rI 0 0];have h2:Blk ((w.alloc (rJ #[rC N S c1,rC O T c2,rC P U c3,rD rG (s:Nat),rC Q V c4,rC R X c5] 44)).alloc (rJ #[rC rI 0 0,rC rI 0 0,rC rI 0 0,rD rG 0,rC rI 0 0,rC rI 0 0] 44)) (w.heap.size+1) 44 #[rC rI 0 0,rC rI 0 0,rC rI 0 0,rD rG 0,rC rI 0 0,rC rI 0 0]:=(by simpa using h1);rw[C];exact h2.alloc _)
 have B2:=Hd (show Blk wz (w.heap.size+1+1) 217 #[rE (some ⟨w.heap.size,0,rI⟩),rE (some ⟨w.heap.size,1,rI⟩),rE (some ⟨w.heap.size,2,rI⟩),rE (some ⟨w.heap.size,4,rI⟩),rE (some ⟨w.heap.size,5,rI⟩)] by rw[C];have:=Blk.new ((w.alloc (rJ #[rC N S c1,rC O T c2,rC P U c3,rD rG (s:Nat),rC Q V c4,rC R X c5] 44)).alloc (rJ #[rC rI 0 0,rC rI 0 0,rC rI 0 0,rD rG 0,rC rI 0 0,rC rI 0 0] 44)) 217 #[rE (some ⟨w.heap.size,0,rI⟩),rE (some ⟨w.heap.size,1,rI⟩),rE (some ⟨w.heap.size,2,rI⟩),rE (some ⟨w.heap.size,4,rI⟩),rE (some ⟨w.heap.size,5,rI⟩)];simpa using this);have aN:=Hd (show Below w.heap.size w wz by rw[C];exact(hA.alloc hA.size _).alloc (hA.alloc hA.size _).size _);have aO:=Hd (show LfJ w.heap.size w.heap.size (w.heap.size+1+1) (w.heap.size+1) d (rC N S c1) (rC O T c2) (rC P U c3) (rC Q V c4) (rC R X c5) #[rC rI 0 0,rC rI 0 0,rC rI 0 0,rD rG 0,rC rI 0 0,rC rI 0 0] 0 wz from⟨_,_,_,_,_,by rw[<-HS.out];exact B0.out,B2.out,B1.out,by simp,by simp,by simp,by simp,by simp⟩);rw[<-C];clear C hA B0 B1 B2
 go_loopg [12] 5 (fun q iv wr=>∃i:Nat,i+q=5/\iv=rD rF (i:Nat)/\LfJ w.heap.size w.heap.size (w.heap.size+1+1) (w.heap.size+1) d (rC N S c1) (rC O T c2) (rC P U c3) (rC Q V c4) (rC R X c5) #[rC rI 0 0,rC rI 0 0,rC rI 0 0,rD rG 0,rC rI 0 0,rC rI 0 0] i wr/\Below w.heap.size w wr)
 case atStart=>exact⟨0,rfl,rfl,aO.out,aN.out⟩
 case round=>
  obtain⟨i,hi,rfl,hJ,hb⟩:=hrel;have k:=Hd hb;obtain⟨x0,x1,x2,x3,x4,bg,bp,br,n,t,u,y,A⟩:=hJ;have D:=Hd bg;have M:=Hd bp;have HR:=Hd br;have H:w.heap.size<wr.heap.size:=bg.lt;have I:w.heap.size+1+1<wr.heap.size:=bp.lt;have J:w.heap.size+1<wr.heap.size:=br.lt;rcases(show i=0\/i=1\/i=2\/i=3\/i=4\/i=5 by omega)with rfl|rfl|rfl|rfl|rfl|rfl
  ·have m:gk=5:=(by omega);have r:((0:Nat):Int)=0:=rfl;rw[r];clear r;rw[iN (by omega)]at n;subst n;rw[iN (by omega)]at t;subst t;rw[iN (by omega)]at u;subst u;rw[iN (by omega)]at y;subst y;rw[iN (by omega)]at A;subst A;have kp:wr.cell? ⟨w.heap.size+1+1,0,rI⟩=some (rE (some ⟨w.heap.size,0,rI⟩)):=M.out.cell 0;have kc:wr.cell? ⟨w.heap.size,0,rI⟩=some (rC N S c1):=D.out.cell 0;clear hi hb bg bp br;go_wp2_with fail;refine(C1.out wr k.out).mono ?_;rintro e B ⟨v2,rfl,f,b⟩;have g:=Hd (D.out.below b H);have Y:=Hd (M.out.below b I);have Z:=Hd (HR.out.below b J);have z:=Hd (f.mono k.out.size);have l:=Hd (k.out.trans (b.mono k.out.size));have aA:B.cell? ⟨w.heap.size,0,rI⟩=some (rC N S c1):=g.out.cell 0;have aB:B.frozen? ⟨w.heap.size,0,rI⟩=false:=g.out.frozen 0;obtain⟨y1,y2,y3,rfl⟩:=Df f;clear f b;go_wp2_with fail;subst m;go_roundg 4;case measure=>omega
   case rel=>
    refine⟨1,rfl,rfl,⟨_,_,_,_,_,g.out.set 0 _,Y.out.far (show w.heap.size+1+1≠w.heap.size by omega) _,Z.out.far (show w.heap.size+1≠w.heap.size by omega) _,?_,?_,?_,?_,?_⟩,l.out.setCell (p:=⟨w.heap.size,0,rI⟩) lR _⟩
    ·rw[iP (by omega)];exact z.out.setOther (a:=⟨w.heap.size,0,rI⟩) (z.out.ne_blk g.out (by decide)) _
    ·rw[iN (by omega)]
    ·rw[iN (by omega)]
    ·rw[iN (by omega)]
    ·rw[iN (by omega)]
  ·have m:gk=4:=(by omega);have r:((1:Nat):Int)=1:=rfl;rw[r];clear r;rw[iP (by omega)]at n;have x:=Hd n;rw[iN (by omega)]at t;subst t;rw[iN (by omega)]at u;subst u;rw[iN (by omega)]at y;subst y;rw[iN (by omega)]at A;subst A;have kp:wr.cell? ⟨w.heap.size+1+1,1,rI⟩=some (rE (some ⟨w.heap.size,1,rI⟩)):=M.out.cell 1;have kc:wr.cell? ⟨w.heap.size,1,rI⟩=some (rC O T c2):=D.out.cell 1;clear hi hb bg bp br n;go_wp2_with fail;refine(C2.out wr k.out).mono ?_;rintro e B ⟨v2,rfl,f,b⟩;have g:=Hd (D.out.below b H);have Y:=Hd (M.out.below b I);have Z:=Hd (HR.out.below b J);have z:=Hd (f.mono k.out.size);have l:=Hd (k.out.trans (b.mono k.out.size));have j:=Hd (x.out.below b lR);have aA:B.cell? ⟨w.heap.size,1,rI⟩=some (rC O T c2):=g.out.cell 1;have aB:B.frozen? ⟨w.heap.size,1,rI⟩=false:=g.out.frozen 1;obtain⟨y1,y2,y3,rfl⟩:=Df f;clear f b;go_wp2_with fail;subst m;go_roundg 3;case measure=>omega
   case rel=>
    refine⟨2,rfl,rfl,⟨x0,_,_,_,_,g.out.set 1 _,Y.out.far (show w.heap.size+1+1≠w.heap.size by omega) _,Z.out.far (show w.heap.size+1≠w.heap.size by omega) _,?_,?_,?_,?_,?_⟩,l.out.setCell (p:=⟨w.heap.size,1,rI⟩) lR _⟩
    ·rw[iP (by omega)];exact j.out.setOther (a:=⟨w.heap.size,1,rI⟩) (j.out.ne_blk g.out (by decide)) _
    ·rw[iP (by omega)];exact z.out.setOther (a:=⟨w.heap.size,1,rI⟩) (z.out.ne_blk g.out (by decide)) _
    ·rw[iN (by omega)]
    ·rw[iN (by omega)]
    ·rw[iN (by omega)]
  ·have m:gk=3:=(by omega);have r:((2:Nat):Int)=2:=rfl;rw[r];clear r;rw[iP (by omega)]at n;have x:=Hd n;rw[iP (by omega)]at t;have F:=Hd t;rw[iN (by omega)]at u;subst u;rw[iN (by omega)]at y;subst y;rw[iN (by omega)]at A;subst A;have kp:wr.cell? ⟨w.heap.size+1+1,2,rI⟩=some (rE (some ⟨w.heap.size,2,rI⟩)):=M.out.cell 2;have kc:wr.cell? ⟨w.heap.size,2,rI⟩=some (rC P U c3):=D.out.cell 2;clear hi hb bg bp br n t;go_wp2_with fail;refine(C3.out wr k.out).mono ?_;rintro e B ⟨v2,rfl,f,b⟩;have g:=Hd (D.out.below b H);have Y:=Hd (M.out.below b I);have Z:=Hd (HR.out.below b J);have z:=Hd (f.mono k.out.size);have l:=Hd (k.out.trans (b.mono k.out.size));have j:=Hd (x.out.below b lR);have o:=Hd (F.out.below b lR);have aA:B.cell? ⟨w.heap.size,2,rI⟩=some (rC P U c3):=g.out.cell 2;have aB:B.frozen? ⟨w.heap.size,2,rI⟩=false:=g.out.frozen 2;obtain⟨y1,y2,y3,rfl⟩:=Df f;clear f b;go_wp2_with fail;subst m;go_roundg 2;case measure=>omega
   case rel=>
    refine⟨3,rfl,rfl,⟨x0,x1,_,_,_,g.out.set 2 _,Y.out.far (show w.heap.size+1+1≠w.heap.size by omega) _,Z.out.far (show w.heap.size+1≠w.heap.size by omega) _,?_,?_,?_,?_,?_⟩,l.out.setCell (p:=⟨w.heap.size,2,rI⟩) lR _⟩
    ·rw[iP (by omega)];exact j.out.setOther (a:=⟨w.heap.size,2,rI⟩) (j.out.ne_blk g.out (by decide)) _
    ·rw[iP (by omega)];exact o.out.setOther (a:=⟨w.heap.size,2,rI⟩) (o.out.ne_blk g.out (by decide)) _
    ·rw[iP (by omega)];exact z.out.setOther (a:=⟨w.heap.size,2,rI⟩) (z.out.ne_blk g.out (by decide)) _
    ·rw[iN (by omega)]
    ·rw[iN (by omega)]
  ·have m:gk=2:=(by omega);have r:((3:Nat):Int)=3:=rfl;rw[r];clear r;rw[iP (by omega)]at n;have x:=Hd n;rw[iP (by omega)]at t;have F:=Hd t;rw[iP (by omega)]at u;have aF:=Hd u;rw[iN (by omega)]at y;subst y;rw[iN (by omega)]at A;subst A;have kp:wr.cell? ⟨w.heap.size+1+1,3,rI⟩=some (rE (some ⟨w.heap.size,4,rI⟩)):=M.out.cell 3;have kc:wr.cell? ⟨w.heap.size,4,rI⟩=some (rC Q V c4):=D.out.cell 4;clear hi hb bg bp br n t u;go_wp2_with fail;refine(C4.out wr k.out).mono ?_;rintro e B ⟨v2,rfl,f,b⟩;have g:=Hd (D.out.below b H);have Y:=Hd (M.out.below b I);have Z:=Hd (HR.out.below b J);have z:=Hd (f.mono k.out.size);have l:=Hd (k.out.trans (b.mono k.out.size));have j:=Hd (x.out.below b lR);have o:=Hd (F.out.below b lR);have E:=Hd (aF.out.below b lR);have aA:B.cell? ⟨w.heap.size,4,rI⟩=some (rC Q V c4):=g.out.cell 4;have aB:B.frozen? ⟨w.heap.size,4,rI⟩=false:=g.out.frozen 4;obtain⟨y1,y2,y3,rfl⟩:=Df f;clear f b;go_wp2_with fail;subst m;go_roundg 1;case measure=>omega
   case rel=>
    refine⟨4,rfl,rfl,⟨x0,x1,x2,_,_,g.out.set 4 _,Y.out.far (show w.heap.size+1+1≠w.heap.size by omega) _,Z.out.far (show w.heap.size+1≠w.heap.size by omega) _,?_,?_,?_,?_,?_⟩,l.out.setCell (p:=⟨w.heap.size,4,rI⟩) lR _⟩
    ·rw[iP (by omega)];exact j.out.setOther (a:=⟨w.heap.size,4,rI⟩) (j.out.ne_blk g.out (by decide)) _
    ·rw[iP (by omega)];exact o.out.setOther (a:=⟨w.heap.size,4,rI⟩) (o.out.ne_blk g.out (by decide)) _
    ·rw[iP (by omega)];exact E.out.setOther (a:=⟨w.heap.size,4,rI⟩) (E.out.ne_blk g.out (by decide)) _
    ·rw[iP (by omega)];exact z.out.setOther (a:=⟨w.heap.size,4,rI⟩) (z.out.ne_blk g.out (by decide)) _
    ·rw[iN (by omega)]
  ·have m:gk=1:=(by omega);have r:((4:Nat):Int)=4:=rfl;rw[r];clear r;rw[iP (by omega)]at n;have x:=Hd n;rw[iP (by omega)]at t;have F:=Hd t;rw[iP (by omega)]at u;have aF:=Hd u;rw[iP (by omega)]at y;have aP:=Hd y;rw[iN (by omega)]at A;subst A;have kp:wr.cell? ⟨w.heap.size+1+1,4,rI⟩=some (rE (some ⟨w.heap.size,5,rI⟩)):=M.out.cell 4;have kc:wr.cell? ⟨w.heap.size,5,rI⟩=some (rC R X c5):=D.out.cell 5;clear hi hb bg bp br n t u y;go_wp2_with fail;refine(C5.out wr k.out).mono ?_;rintro e B ⟨v2,rfl,f,b⟩;have g:=Hd (D.out.below b H);have Y:=Hd (M.out.below b I);have Z:=Hd (HR.out.below b J);have z:=Hd (f.mono k.out.size);have l:=Hd (k.out.trans (b.mono k.out.size));have j:=Hd (x.out.below b lR);have o:=Hd (F.out.below b lR);have E:=Hd (aF.out.below b lR);have aL:=Hd (aP.out.below b lR);have aA:B.cell? ⟨w.heap.size,5,rI⟩=some (rC R X c5):=g.out.cell 5;have aB:B.frozen? ⟨w.heap.size,5,rI⟩=false:=g.out.frozen 5;obtain⟨y1,y2,y3,rfl⟩:=Df f;clear f b;go_wp2_with fail;subst m;go_roundg 0;case measure=>omega
   case rel=>
    refine⟨5,rfl,rfl,⟨x0,x1,x2,x3,_,g.out.set 5 _,Y.out.far (show w.heap.size+1+1≠w.heap.size by omega) _,Z.out.far (show w.heap.size+1≠w.heap.size by omega) _,?_,?_,?_,?_,?_⟩,l.out.setCell (p:=⟨w.heap.size,5,rI⟩) lR _⟩
    ·rw[iP (by omega)];exact j.out.setOther (a:=⟨w.heap.size,5,rI⟩) (j.out.ne_blk g.out (by decide)) _
    ·rw[iP (by omega)];exact o.out.setOther (a:=⟨w.heap.size,5,rI⟩) (o.out.ne_blk g.out (by decide)) _
    ·rw[iP (by omega)];exact E.out.setOther (a:=⟨w.heap.size,5,rI⟩) (E.out.ne_blk g.out (by decide)) _
    ·rw[iP (by omega)];exact aL.out.setOther (a:=⟨w.heap.size,5,rI⟩) (aL.out.ne_blk g.out (by decide)) _
    ·rw[iP (by omega)];exact z.out.setOther (a:=⟨w.heap.size,5,rI⟩) (z.out.ne_blk g.out (by decide)) _
  ·rw[iP (by omega)]at n t u y A;have r:((5:Nat):Int)=5:=rfl;rw[r];have HQ:=Hd (And.intro n (And.intro t (And.intro u (And.intro y A))));have aD:(#[x0,x1,x2,rD rG (d.source:Nat),x3,x4]:Array Value).toList.all (·.oneCell')=true:=by
    simp only[List.all_cons,List.all_nil,Bool.and_true,n.oneCell,t.oneCell,u.oneCell,y.oneCell,A.oneCell,dL];rfl
   have aC:=Hd aD;obtain⟨XS,G⟩:=eX ((#[x0,x1,x2,rD rG (d.source:Nat),x3,x4]:Array Value));rw[<-G]at aC D;have aE:=Hd (show(prog.info? 44).map (·.size)=some XS.size by rw[G];kernel_rfl);have aR:=Hd (show(#[rC rI 0 0,rC rI 0 0,rC rI 0 0,rD rG 0,rC rI 0 0,rC rI 0 0]:Array Value).size=XS.size by rw[G];rfl);have aQ:=Hd G;clear hi hb bg bp br n t u y A r aD G;go_wp2_with (first|(refine wpList_load_row rfl 44 (.tmp 1) rfl w.heap.size rfl 44 XS (0,0) _ D.out underlying44 rfl aE.out ?_)|(refine Aa rfl 44 (.tmp 2) (.tmp 23) rfl (w.heap.size+1) XS rfl rfl 44 #[rC rI 0 0,rC rI 0 0,rC rI 0 0,rD rG 0,rC rI 0 0,rC rI 0 0] HR.out aE.out aR.out aC.out ?_));intro w3 m0 mb mo aU;have M0:=Hd m0;have aM:=Hd (k.out.trans ((mb (w.heap.size+1) lR).mono (by omega)));have M3:=Hd (show∀v L,Own wr w.heap.size 5 v L->Own w3 w.heap.size 5 v L from fun v L hv=>by
    refine⟨hv.1,?_⟩;rcases hv.2 with h|⟨g',cp,aS,e,hg,hh,rest⟩
    ·exact .inl h
    ·refine .inr ⟨g',cp,aS,e,hg,?_,rest⟩;rw[mo g' (fun e2=>hv.ne_blk HR.out (by decide) (by rw[e,<-e2];rfl))];exact hh)
   clear m0 mb mo aU;go_wp2_with fail;exact bodyPost_ret (v:=.agg XS) (Hi rfl _ _ (w.heap.size+1) 44 XS _ rfl M0.out underlying44 rfl aE.out) rfl ⟨XS,rfl,⟨x0,x1,x2,x3,x4,aQ.out,M3.out _ _ HQ.out.1,M3.out _ _ HQ.out.2.1,M3.out _ _ HQ.out.2.2.1,M3.out _ _ HQ.out.2.2.2.1,M3.out _ _ HQ.out.2.2.2.2⟩,aM.out⟩
end Go.Proofs.YtfofaiommeckbaaGreat
namespace Go.Proofs.YtfofaiommeckbaaGreat
open Go.RowKit WalkM
def Zas (x j:Nat):List Value:=[rD rF (anc x j:Nat),rD rF (plo x j:Nat),rD rF (phi x j:Nat)]
def Ix (x d:Nat):Nat->List Value
 |0=>[]
 |k+1=>Ix x d k++Zas x (d-k)
theorem Le (x d:Nat):∀k,(Ix x d k).length=k*3:=by
 intro k
 induction k with
 |zero=>rfl
 |succ k ih=>rw[Ix,bA,ih];simp[Zas];omega
theorem Ie (x d:Nat):∀k i c,i<k->c<3->(Ix x d k)[i*3+c]? =(Zas x (d-i))[c]? :=by
 intro k
 induction k with
 |zero=>intro i c h;omega
 |succ k ih=>
  intro i c b a;rw[Ix]
  by_cases h:i<k
  ·rw[List.getElem?_append_left (by rw[Le];omega)];exact ih i c h a
  ·obtain rfl:i=k:=(by omega);rw[List.getElem?_append_right (by rw[Le];omega),Le]
   congr 1
   omega
theorem Zjf:ElemK prog 131 134 (.agg #[rD rF 0,rD rF 0,rD rF 0]) 3 24:=⟨underlying131,by kernel_rfl,rfl,by omega,by omega⟩
theorem Rm (x d:Nat)(hd:d<=16)(hx:x+1<2^(d+1))(w:World):
  Calls prog 97 #[rD rF x,rD rF ((2^d:Nat):Int)] w fun e w'=>∃v,e=rK v/\OwnK w' w.heap.size 134 3 v (d-lev x+1) (Ix x d (d-lev x+1))/\Below w.heap.size w w':=by
 have H:=As (show d+1<=17 by omega);have R:=As hd;have f:=lev_is (x:=x) (by omega);have hl:=(lev_root hx f).1;have F:=fun w=>Kc ((2^d:Nat):Int) w;rw[cV,(fits_iff _).2 ⟨d,hd,rfl⟩]at F;have HF:=Hd F;have c:=anc_self f;have D:∀j,j≠lev x->anc x j≠x:=fun j U=>anc_ne fun h=>U (lev_unique h f);have he:2^(d+1)=2*2^d:=(by rw[bF];omega);have r1:=plo_root (show x<2^(d+1) by omega);have N:=phi_root (show x<2^(d+1) by omega);have r:∀j,j<=d->phi x j+2<=2^(d+1):=fun j U=>phi_le (by omega) U;obtain⟨l,J⟩:∃l,l=lev x:=⟨_,rfl⟩;rw[<-J]at hl c D|-;obtain⟨n,hn⟩:=eX (2^d);rw[he]at hx N r H;rw[<-hn]at HF R hx N r H|-;have B:=Hd c;have P:=Hd D;have R1:=Hd r1;have R2:=Hd N;have Q:=Hd r;have aE:phi x d<=131070:=(by omega);clear F c D r1 N r he f J hn;go_in;go_wp2_with fail;refine(HF.out _).mono ?_;rintro e w' ⟨rfl,rfl⟩;go_wp2_with fail
 go_loopg [5,6,7] (d-l) (fun k M hi v wr=>∃i:Nat,i+k=d-l/\M=rD rF (plo x (d-i):Nat)/\hi=rD rF (phi x (d-i):Nat)/\OwnK wr w.heap.size 134 3 v i (Ix x d i)/\Below w.heap.size w wr)
 case atStart=>
  refine⟨0,by omega,?_,?_,OwnK.nil _ _ _ _,bR⟩
  ·rw[dR,R1.out];rfl
  ·rw[dR,R2.out];exact Gk (by omega)
 case round=>
  obtain⟨i,hi,rfl,rfl,s,p⟩:=hrel;have HO:=Hd s;have Z:=Hd p;have K:=p.size;clear s p;have X:=Q.out (d-i) (by omega);have W:=mid_eq x (d-i);have V:plo x (d-i)<=phi x (d-i):=(by unfold phi;omega);obtain⟨M,q⟩:=eX (plo x (d-i));obtain⟨C,g⟩:∃a,a=phi x (d-i):=⟨_,rfl⟩;obtain⟨a,S⟩:=eX (anc x (d-i));rw[<-q,<-g]at V;rw[<-g]at X;rw[<-q,<-g,<-S]at W;rw[<-q,<-g];have aD:((M:Int)+(C:Int))/2=(a:Int):=(by rw[<-W];omega);have aC:a<=131070:=(by omega);have z:=Hd q;have y:=Hd g;have E:=Hd S;clear W q g S
  by_cases hxa:x=a
  ·subst hxa;have I:d-i=l:=by
    rcases Nat.decEq (d-i) l with h|h
    ·exact absurd E.out.symm (P.out _ h)
    ·exact h
   have O:=Hd I;clear I;go_wp2_with (at_builtin;refine Lt rfl (.tmp 30) (.tmp 35) 131 rfl w.heap.size 134 _ 3 24 Zjf _ i _ rfl (HO.out.alloc _) wr.heap.size [rD rF (x:Nat),rD rF (M:Nat),rD rF (C:Nat)] rfl rfl ?c1 ?c2 ?c3 ?c4 ?_);case c1=>exact Tb rfl
   case c2=>intro u L;simp at L;rcases L with rfl|rfl|rfl<;>rfl
   case c3=>omega
   case c4=>simp;omega
   rintro v' w1 b m;have o:=(Z.out.alloc K _).trans m;have A:=Hd b;have t:=Hd o;clear b m o;go_wp2_with fail;go_ret;refine⟨_,rfl,?_,t.out⟩;have e1:i=d-l:=(by have:=O.out;omega);have h:=A.out;rw[e1]at h;rw[Ix];have e2:d-(d-l)=d-i:=(by rw[e1]);rw[e2,Zas,<-E.out,<-z.out,<-y.out];exact h
  ·have aA:i<d-l:=by
    rcases aB i (d-l)with h|h
    ·exact h
    ·exfalso;have e1:d-i=l:=(by omega);apply hxa;rw[E.out,e1];exact B.out.symm
   have G:=Hd hxa;have hc:((a:Int)==(x:Int))=false:=(by rw[qN];omega);have T:=halves x (d-(i+1));rw[show d-(i+1)+1=d-i by omega,<-E.out,<-y.out,<-z.out]at T;have HH:=Hd T;clear hxa T
   by_cases hxl:x<a
   all_goals
    go_wp2_with (at_builtin;refine Lt rfl (.tmp 30) (.tmp 35) 131 rfl w.heap.size 134 _ 3 24 Zjf _ i _ rfl (HO.out.alloc _) wr.heap.size [rD rF (a:Nat),rD rF (M:Nat),rD rF (C:Nat)] rfl rfl ?c1 ?c2 ?c3 ?c4 ?_);case c1=>exact Tb rfl
    case c2=>intro u L;simp at L;rcases L with rfl|rfl|rfl<;>rfl
    case c3=>omega
    case c4=>simp;omega
    rintro v' w1 b m;have o:=(Z.out.alloc K _).trans m;have A:=Hd b;have t:=Hd o;clear b m o;go_wp2_with fail;go_roundg (gk-1);case measure=>omega
    case rel=>
     refine⟨i+1,by omega,?_,?_,?_,t.out⟩
     ·refine Gk ?_;have Y:=G.out;rcases HH.out with⟨h1,h2,h3⟩|⟨h1,h2,h3⟩<;>omega
     ·refine Gk ?_;have Y:=G.out;rcases HH.out with⟨h1,h2,h3⟩|⟨h1,h2,h3⟩<;>omega
     ·rw[Ix,Zas,<-E.out,<-z.out,<-y.out];exact A.out
theorem Mv (x n:Int)(w:World)(h1: -9223372036854775808<=n)(h2:n<=9223372036854775807)(b:Kw x n=false):
  Calls prog 97 #[rD rF x,rD rF n] w fun e w'=>e=rK (rC rI 0 0)/\w=w':=by
 have F:=fun w=>Kc n w
 by_cases hf:fits n.toNat=true
 ·have j:=Fs hf;rw[hf]at F;have c:=Hd F;rw[Kw,hf,dL]at b;have d:=of_decide_eq_false b;have g:1<=n:=(by omega);have i:n<=65536:=(by omega);have f:x<0\/(0<=x/\2*n-2<x):=(by omega);clear F hf j h1 h2 b d;rcases f with h|⟨h,k⟩
  all_goals
   go_in;go_wp2_with fail;refine(c.out _).mono ?_;rintro e w' ⟨rfl,rfl⟩;go_wp2_with fail;go_ret;exact⟨rfl,rfl⟩
 ·have a:fits n.toNat=false:=(by rw[<-cX];exact hf);rw[a]at F;have c:=Hd F;clear F hf a h1 h2 b;go_in;go_wp2_with fail;refine(c.out _).mono ?_;rintro e w' ⟨rfl,rfl⟩;go_wp2_with fail;go_ret;exact⟨rfl,rfl⟩
theorem Vy {w w':World} {cs:Array Value} {e:TypeId}(hb:Below (w.alloc (.cells cs e)).heap.size (w.alloc (.cells cs e)) w'):w'.heap[w.heap.size]? =some (.cells cs e (0,0)):=
 (hb.block _ (by simp)).trans (heap_alloc_new w _)
theorem Zj9 (x d:Nat)(I:d<=16)(hx:x+1<2^(d+1))(w:World):
  Calls prog 142 #[rD rF x,rD rF ((2^d:Nat):Int)] w fun e w'=>e=rK (.tuple #[.agg #[rD rF x,rD rF (plo x (lev x):Nat),rD rF (phi x (lev x):Nat)],.bool true])/\Below w.heap.size w w':=by
 have D:=fun w=>Rm x d I hx w;have r:=As (show d+1<=17 by omega);have b:=lev_is (x:=x) (by omega);have c:=anc_self b;have K:=(lev_root hx b).1;have h:=Ie x d (d-lev x+1) (d-lev x) 0 (by omega) (by omega);have i:=Ie x d (d-lev x+1) (d-lev x) 1 (by omega) (by omega);have g2:=Ie x d (d-lev x+1) (d-lev x) 2 (by omega) (by omega);have e1:d-(d-lev x)=lev x:=(by omega);rw[e1,Zas,c]at h i g2;obtain⟨m,u⟩:=eX (d-lev x);have y:m<=16:=(by omega);rw[<-u]at D h i g2;obtain⟨z,n⟩:=eX (plo x (lev x));obtain⟨t,k⟩:=eX (phi x (lev x));rw[<-n,<-k]at h i g2|-;have A:=Hd h;have B:=Hd i;have C:=Hd g2;have F:=Hd D;clear D h i g2 u n k e1 K c b r hx;go_in;go_wp2_with fail;refine(F.out _).mono ?_;rintro e w' ⟨v,rfl,f,a⟩;obtain⟨g,cap,rfl,M,J,N,L,o,-⟩:=f.out (by omega);have H:=o _ _ A.out;have c1:=o _ _ B.out;have c2:=o _ _ C.out;rw[Nat.add_zero]at H;have s:=Vy a;have G:Hid (Blk w' w.heap.size 134 _):=Hd s;have E:=Hd a;clear o f a s;go_wp2_with (refine Aa rfl 134 (.tmp 4) (.tmp 19) rfl w.heap.size #[rD rF x,rD rF z,rD rF t] rfl rfl _ _ G.out (by kernel_rfl) rfl rfl ?_);rintro O l j- -;have q:=Hd l;have p:=Hd (j _ lR);clear l j;go_wp2_with fail;refine bodyPost_ret (v:=.tuple #[.agg #[rD rF x,rD rF z,rD rF t],.bool true]) (Ac results142 _ _ w.heap.size _ _ _ rfl q.out underlying134 rfl (by kernel_rfl)) rfl ⟨rfl,?_⟩;exact((bR.alloc lR _).trans (E.out.mono (by simp))).trans p.out
theorem Zgx (x n:Int)(w:World)(h1: -9223372036854775808<=n)(h2:n<=9223372036854775807)(a:Kw x n=false):
  Calls prog 142 #[rD rF x,rD rF n] w fun e w'=>e=rK (.tuple #[.agg #[rD rF 0,rD rF 0,rD rF 0],.bool false])/\Below w.heap.size w w':=by
 have D:=fun w=>Mv x n w h1 h2 a;have b:=Hd D;clear D h1 h2 a;go_in;go_wp2_with fail;refine(b.out _).mono ?_;rintro e w' ⟨rfl,rfl⟩;go_wp2_with fail;refine bodyPost_ret (v:=.tuple #[.agg #[rD rF 0,rD rF 0,rD rF 0],.bool false]) (Ac results142 _ _ w.heap.size _ _ _ rfl (Blk.new _ _ _) underlying134 rfl (by kernel_rfl)) rfl ⟨rfl,?_⟩;exact bR.alloc lR _
theorem Zcq (x:Int):Kw x 65536=Bk x:=by
 have h:fits (65536:Int).toNat=true:=(by decide);unfold Kw Bk;rw[h,dL]
 rfl
theorem Kd (x:Nat)(hx:x<=131070)(w:World):
  Calls prog 142 #[rD rF x,rD rF 65536] w fun e w'=>e=rK (.tuple #[.agg #[rD rF x,rD rF (plo x (lev x):Nat),rD rF (phi x (lev x):Nat)],.bool true])/\Below w.heap.size w w':=by
 have h:=Zj9 x 16 (by omega) (by omega) w;have e:((2^16:Nat):Int)=65536:=(by decide);rw[e]at h;exact h
theorem Ke (x:Int)(hx:Bk x=false)(w:World):
  Calls prog 142 #[rD rF x,rD rF 65536] w fun e w'=>e=rK (.tuple #[.agg #[rD rF 0,rD rF 0,rD rF 0],.bool false])/\Below w.heap.size w w':=
 Zgx x 65536 w (by omega) (by omega) (by rw[Zcq];exact hx)
end Go.Proofs.YtfofaiommeckbaaGreat
namespace Go.Proofs.YtfofaiommeckbaaGreat
open Go.RowKit WireM
def Bl (L:List Nat)(er:Nat):Option Nat×List Nat×Nat:=
 if er≠0 then(none,L,er)else match L with
  |[]=>(none,[],4)
  |b::M=>Sy b M
theorem Zat (B:Nat)(L:List Nat)(er:Nat)(w:World)(h:RS w B L er)(i:∀n∈L,n<256):
  Calls prog 282 #[rE (some ⟨B,0,rI⟩)] w (Znb B w (Bl L er)):=by
 by_cases he:er=0
 ·subst he;cases L with
  |cons b M=>
   rw[Bl,iN (by simp)];exact Vw B b M w h i
  |nil=>
   rw[Bl,iN (by simp)];have a:=Hd (Mr B [] 1 w h (by simp));clear h;go_in;go_wp2_with fail;go_step3;go_wp2_with fail;refine a.out.mono ?_;rintro e j ⟨rfl,h1,h2,-⟩;have d:=Hd h1;have f:=Hd h2;clear h1 h2;go_wp2_with fail;simp only[Exit.noGoto];go_ret2;exact⟨rfl,d.out,f.out⟩
 ·have c:Bl L er=(none,L,er):=(by unfold Bl;rw[iP he]);rw[c];clear c;have a:=Hd (Rg B L er 1 w h he);have g:=Hd h;clear h he;go_in;go_wp2_with fail;go_step3;go_wp2_with fail;refine a.out.mono ?_;rintro e j ⟨rfl,rfl⟩;go_wp2_with fail;simp only[Exit.noGoto];go_ret2;exact⟨rfl,g.out,Only.refl _ _⟩
def Cc (L:List Nat)(er:Nat)(n:Int):List Nat×List Nat×Nat:=
 if er≠0 then([],L,er)else if n<0 then([],L,1)else if(L.length:Int)<n then([],L,4)else(L.take n.toNat,L.drop n.toNat,0)
def Mj (B:Nat)(w:World)(r:List Nat×List Nat×Nat)(e:Ending)(w':World):Prop:=
 ∃v,e=rK v/\Own w' w.heap.size 5 v (bvs r.1)/\RS w' B r.2.1 r.2.2/\Only B w w'
def Zm1 (B:Nat)(w:World)(r:List Nat×List Nat×Nat)(e:Ending)(w':World):Prop:=
 ∃v b,e=rK (.tuple #[v,.bool b])/\RdK w' B v (bvs r.1)/\RS w' B r.2.1 r.2.2/\Only B w w'
theorem Vz (w:World)(B:Nat):RdK w B (rC rI 0 0) (bvs []):=⟨none,0,rfl,lR,aA _,.inl ⟨rfl,fun _=>rfl⟩⟩
theorem Rn (B:Nat)(L:List Nat)(er:Nat)(n:Int)(w:World)(h:RS w B L er):
  Calls prog 200 #[rE (some ⟨B,0,rI⟩),rD rF n] w (Zm1 B w (Cc L er n)):=by
 unfold Cc
 by_cases he:er=0
 ·subst he;rw[iN (by simp)]
  by_cases hn:n<0
  ·rw[iP hn];refine(Zgq B L n w h hn).mono ?_;rintro e w' ⟨rfl,h1,h2,-⟩;exact⟨_,_,rfl,Vz _ _,h1,h2⟩
  ·rw[iN hn]
   by_cases hl:(L.length:Int)<n
   ·rw[iP hl];refine(Mr B L n w h hl).mono ?_;rintro e w' ⟨rfl,h1,h2,-⟩;exact⟨_,_,rfl,Vz _ _,h1,h2⟩
   ·rw[iN hl];obtain⟨k,rfl⟩:∃k:Nat,n=(k:Int):=⟨n.toNat,by omega⟩;refine(Rh B L k w h (by omega)).mono ?_;rintro e w' ⟨⟨v,rfl,a⟩,h1,h2,-⟩;exact⟨_,_,rfl,a,h1,h2⟩
 ·rw[iP he];refine(Rg B L er n w h he).mono ?_;rintro e w' ⟨rfl,rfl⟩;exact⟨_,_,rfl,Vz _ _,h,Only.refl _ _⟩
theorem Zcr (L:List Nat)(er:Nat)(n:Int):(Cc L er n).1.length<=L.length:=by
 unfold Cc
 split
 ·simp
 ·split
  ·simp
  ·split
   ·simp
   ·simp;omega
theorem Ts (B:Nat)(L:List Nat)(er:Nat)(n:Int)(w:World)(h:RS w B L er)(p:L.length<1099511627776):
  Calls prog 178 #[rE (some ⟨B,0,rI⟩),rD rF n] w (Mj B w (Cc L er n)):=by
 have g:=Hd (Rn B L er n w h);have c:=Zcr L er n;obtain⟨r,j⟩:=eX (Cc L er n);rw[<-j]at g c|-;clear h j;go_in;go_wp2_with fail;refine g.out.mono ?_;rintro e o ⟨v,b,rfl,h1,h2,h3⟩;have l:=Hd (Cm v r.1 o h1.rd (by omega));have k:=Hd h2;have d:=Hd h3;clear h1 h2 h3;go_wp2_with fail;refine l.out.mono ?_;rintro e s ⟨q,rfl,a,i⟩;have m:=Hd a;have f:=Hd i;clear a i;go_wp2_with fail;go_ret;exact⟨_,rfl,m.out.mono d.out.size,k.out.below f.out,d.out.trans (Only.of f.out)⟩
def Bg (L:List Nat)(er:Nat):List Nat×List Nat×Nat:=
 match Bl L er with
 |(none,M,e)=>([],M,e)
 |(some n,M,e)=>Cc M e (n:Int)
theorem Zgy (b:Nat)(M:List Nat):(Sy b M).2.1.length<=M.length:=by
 unfold Sy
 split
 ·exact lR
 ·split
  ·exact lR
  ·split<;>simp
theorem Wa (L:List Nat)(er:Nat):(Bl L er).2.1.length<=L.length:=by
 unfold Bl
 split
 ·exact lR
 ·split
  ·exact lR
  ·rename_i b M
   have:=Zgy b M
   simp;omega
theorem Zcs (B:Nat)(L:List Nat)(er:Nat)(w:World)(h:RS w B L er)(s:L.length<1099511627776)(j:∀n∈L,n<256):
  Calls prog 254 #[rE (some ⟨B,0,rI⟩)] w (Mj B w (Bg L er)):=by
 have f:=Hd (Zat B L er w h j);have a:=Wa L er;unfold Bg;obtain⟨r,k⟩:=eX (Bl L er);rw[<-k]at f a|-;clear h k j;obtain⟨o,M,e⟩:=r;cases o with
 |none=>
  go_in;go_wp2_with fail;refine f.out.mono ?_;rintro i l ⟨rfl,h1,h2⟩;have d:=Hd h1;have c:=Hd h2;clear h1 h2;go_wp2_with fail;go_ret;exact⟨_,rfl,Own.nil _ _ _,d.out,c.out⟩
 |some n=>
  have T:=fun w h=>Ts B M e (n:Int) w h (by simp only at a;omega);have q:=Hd T;clear T;go_in;go_wp2_with fail;refine f.out.mono ?_;rintro i l ⟨rfl,h1,h2⟩;have c:=Hd h2;have g:=Hd (q.out l h1);clear h1 h2;go_wp2_with fail;refine g.out.mono ?_;rintro i u ⟨t,rfl,b,h1,h3⟩;have d:=Hd h1;have m:=Hd h3;have p:=Hd b;clear h1 h3 b;go_wp2_with fail;go_ret;exact⟨_,rfl,p.out.mono c.out.size,d.out,c.out.trans m.out⟩
theorem RS.low {w w':World} {B C:Nat} {L:List Nat} {er:Nat}(h:RS w B L er)(hb:Below C w w')(hC:B<C):RS w' B L er:=by
 obtain⟨v,h1,h2⟩:=h;exact⟨v,h1.below hb hC,h2.keep fun p hp=>hb.cell (Nat.lt_trans hp hC)⟩
theorem RS.only {w w':World} {B C:Nat} {L:List Nat} {er:Nat}(h:RS w B L er)(hb:Only C w w')(hC:B<C)(hs:C<=w.heap.size):RS w' B L er:=
 h.low (hb.below lR hs) hC
theorem Own.only {w w':World} {B C:Nat} {e:TypeId} {v:Value} {xs:List Value}(h:Own w B e v xs)(a:Only C w w')(b:C<B):Own w' B e v xs:=by
 refine World.ownsRow.kept h a ?_;rcases h.form with rfl|⟨g,cap,rfl⟩
 ·exact .inl rfl
 ·right
  have:=(World.ownsRow.lt h) g rfl;simp only[Value.ownBlock,ne_eq,Option.some.injEq];omega
theorem Zm2:Elem prog 64 28 (rC rI 0 0) 24:=⟨underlying64,by kernel_rfl,rfl,by omega⟩
theorem Yi (L:List Nat)(er:Nat)(n:Int):(Cc L er n).1.length<=n.toNat:=by
 unfold Cc
 split
 ·simp
 ·split
  ·simp
  ·split
   ·simp
   ·simp;omega
theorem Tt (L:List Nat)(er:Nat)(n:Int):∀x∈(Cc L er n).1,x∈L:=by
 intro x hx;unfold Cc at hx
 split at hx
 ·simp at hx
 ·split at hx
  ·simp at hx
  ·split at hx
   ·simp at hx
   ·exact cL hx
def Eg (L:List Nat)(er:Nat)(s:Int):List Nat×List Nat×Nat:=Cc L er (if Zgd s=true then s else-1)
def Zni (B:Nat)(w:World)(r:List Nat×List Nat×Nat)(e:Ending)(w':World):Prop:=e=rK (rD .u64 (Du r.1:Nat))/\RS w' B r.2.1 r.2.2/\Only B w w'
theorem Nu (B:Nat)(L:List Nat)(er:Nat)(s:Int)(w:World)(h:RS w B L er)(j:∀n∈L,n<256):
  Calls prog 154 #[rE (some ⟨B,0,rI⟩),rD rF s] w (Zni B w (Eg L er s)):=by
 have m:=Hd (fun w=>Zcf s w);have d:Zgd s=true->1<=s/\s<=8:=fun h=>(by have:=oD h;omega);unfold Eg;obtain⟨b,p⟩:=eX (Zgd s);rw[<-p]at m d|-;cases b with
 |true=>
  rw[iP rfl];have g:=Hd (Rn B L er s w h);have c:=Yi L er s;have a:=Tt L er s;obtain⟨r,i⟩:=eX (Cc L er s);rw[<-i]at g c a|-;have u:=d rfl;have f:=Hd (show r.1.length<=8/\∀n∈r.1,n<256 from⟨by omega,fun n q=>j n (a n q)⟩);clear c a i h j d p u;go_in;go_wp2_with fail;refine(m.out _).mono ?_;rintro e w' ⟨rfl,rfl⟩;go_wp2_with fail;refine g.out.mono ?_;rintro e t ⟨v,b,rfl,h1,h2,h3⟩;have o:=Hd (Kz v r.1 t h1.rd f.out.1 f.out.2);have k:=Hd h2;have l:=Hd h3;clear h1 h2 h3;go_wp2_with fail;refine o.out.mono ?_;rintro e w' ⟨rfl,rfl⟩;go_wp2_with fail;go_ret;exact⟨rfl,k.out,l.out⟩
 |false=>
  rw[iN (by simp)];have g:=Hd (Rn B L er (-1) w h);have c:=Yi L er (-1);have a:=Tt L er (-1);obtain⟨r,i⟩:=eX (Cc L er (-1));rw[<-i]at g c a|-;have f:=Hd (show r.1.length<=8/\∀n∈r.1,n<256 from⟨by omega,fun n q=>j n (a n q)⟩);clear c a i h j d p;go_in;go_wp2_with fail;refine(m.out _).mono ?_;rintro e w' ⟨rfl,rfl⟩;go_wp2_with fail;refine g.out.mono ?_;rintro e t ⟨v,b,rfl,h1,h2,h3⟩;have o:=Hd (Kz v r.1 t h1.rd f.out.1 f.out.2);have k:=Hd h2;have l:=Hd h3;clear h1 h2 h3;go_wp2_with fail;refine o.out.mono ?_;rintro e w' ⟨rfl,rfl⟩;go_wp2_with fail;go_ret;exact⟨rfl,k.out,l.out⟩
theorem Zgz (B:Nat)(L:List Nat)(er:Nat)(w:World)(h:RS w B L er):
  Calls prog 255 #[rE (some ⟨B,0,rI⟩)] w fun e w'=>e=rK (rD rF (L.length:Nat))/\w=w':=by
 obtain⟨v,b,c⟩:=h;obtain⟨a,cap,rfl,_⟩:=c;rw[bvs_len]at b;have d:=b.cell 0;simp only[cR,cS]at d;clear b;go_in;go_wp2_with fail;go_ret;exact⟨rfl,rfl⟩
def Ph (L:List Nat)(er:Nat):Bool×List Nat×Nat:=
 if er≠0 then(false,L,er)else match L with
  |[]=>(false,[],4)
  |b::M=>if 1<b then(false,M,3)else(b==1,M,0)
def Zg0 (B:Nat)(w:World)(r:Bool×List Nat×Nat)(e:Ending)(w':World):Prop:=e=rK (.bool r.1)/\RS w' B r.2.1 r.2.2/\Only B w w'
theorem Ro (B:Nat)(L:List Nat)(er:Nat)(w:World)(h:RS w B L er)(m:∀n∈L,n<256):
  Calls prog 177 #[rE (some ⟨B,0,rI⟩)] w (Zg0 B w (Ph L er)):=by
 by_cases he:er=0
 ·subst he;cases L with
  |nil=>
   have d:=Hd (Mr B [] 1 w h (by simp));clear h m;go_in;go_wp2_with fail;refine d.out.mono ?_;rintro e f ⟨rfl,h1,h2,-⟩;have g:=Hd h1;have i:=Hd h2;clear h1 h2;go_wp2_with fail;go_ret;exact⟨rfl,g.out,i.out⟩
  |cons b M=>
   have u:=m b (by simp);have T:=Rh B (b::M) 1 w h (by simp);simp only[List.take_succ_cons,List.take_zero,List.drop_succ_cons,List.drop_zero]at T;have d:=Hd T;have j:Ph (b::M) 0=if 1<b then(false,M,3)else(b==1,M,0):=(by rw[Ph,iN (by simp)]);rw[j];clear T h m j
   by_cases h1b:1<b
   ·rw[iP h1b];go_in;go_wp2_with fail;refine d.out.mono ?_;rintro e f ⟨⟨v,rfl,l⟩,h1,h2,-⟩;obtain⟨b1,c,cap,rfl,t⟩:∃b1 c cap,v=rC (some ⟨b1,c,rI⟩) 1 cap/\f.cell? ⟨b1,c,rI⟩=some (rD rG (b:Nat)):=by
     obtain⟨a,cap,rfl,_,_,h|⟨b1,c,rfl,_,p⟩⟩:=l
     ·exact absurd h.1 (by simp[bvs])
     ·exact⟨b1,c,cap,rfl,p 0 _ rfl⟩
    have r:=Hd (Fu B M 3 f h1 (by omega));have i:=Hd h2;clear h1 h2 l;go_wp2_with fail;refine r.out.mono ?_;rintro e x ⟨rfl,h1,h2,-⟩;have g:=Hd h1;have q:=Hd (i.out.trans h2);clear h1 h2;go_wp2_with fail;go_ret;exact⟨rfl,g.out,q.out⟩
   ·rw[iN h1b];go_in;go_wp2_with fail;refine d.out.mono ?_;rintro e f ⟨⟨v,rfl,l⟩,h1,h2,-⟩;obtain⟨b1,c,cap,rfl,t⟩:∃b1 c cap,v=rC (some ⟨b1,c,rI⟩) 1 cap/\f.cell? ⟨b1,c,rI⟩=some (rD rG (b:Nat)):=by
     obtain⟨a,cap,rfl,_,_,h|⟨b1,c,rfl,_,p⟩⟩:=l
     ·exact absurd h.1 (by simp[bvs])
     ·exact⟨b1,c,cap,rfl,p 0 _ rfl⟩
    have g:=Hd h1;have i:=Hd h2;have k:(b==1)=((b:Int)==1):=by
     rw[Bool.eq_iff_iff,beq_iff_eq,beq_iff_eq];omega
    have o:=Hd k;clear h1 h2 l k;go_wp2_with fail;go_ret;exact⟨Ae o.out.symm,g.out,i.out⟩
 ·have j:Ph L er=(false,L,er):=(by unfold Ph;rw[iP he]);rw[j];have d:=Hd (Rg B L er 1 w h he);have s:=Hd h;clear h he m j;go_in;go_wp2_with fail;refine d.out.mono ?_;rintro e f ⟨rfl,rfl⟩;go_wp2_with fail;go_ret;exact⟨rfl,s.out,Only.refl _ _⟩
theorem Cn (x y:Value)(A B:List Nat)(w:World)(hx:Rd w x (bvs A))(j:Rd w y (bvs B))(n:A.length+B.length<1000000000):
  Calls prog 175 #[x,y] w fun e w'=>∃v',e=rK v'/\Own w' w.heap.size 5 v' (bvs (A++B))/\Below w.heap.size w w':=by
 have l:=Hd hx;have m:=Hd j;clear hx j;go_in;go_wp2_with (at_builtin;refine Ak rfl (.tmp 5) (.tmp 6) 28 rfl w.heap.size 5 _ 1 Cq _ [] rfl (Own.lit0 rfl lR) _ (bvs A) rfl (l.out.alloc _) (Ch _) ?c2 ?c3 ?_);case c2=>rw[bvs_len];simp;omega
 case c3=>simp
 rintro o q a-c;have b:=((Below.refl w.heap.size w).alloc lR (rJ #[] 5)).trans c;have k:=Hd a;have i:=Hd b;have h:=Hd (m.out.below b lR);clear a c b;go_wp2_with (at_builtin;refine Ak rfl (.tmp 7) (.tmp 8) 28 rfl w.heap.size 5 _ 1 Cq _ _ rfl k.out _ (bvs B) rfl h.out (Ch _) ?c4 ?c5 ?_);case c4=>simp only[bvs_len];omega
 case c5=>exact i.out.size
 rintro p r a-d;have g:=Hd a;have f:=Hd (i.out.trans d);clear a d;go_wp2_with fail;go_ret;refine⟨_,rfl,?_,f.out⟩;rw[Cl];exact g.out
theorem Zka (d:LeafD):Lc d=(Bf d.box++Bf d.sign)++(Bf d.ident++[d.source])++(if d.source=3 then Bf d.par else []):=by
 unfold Lc Pf;simp[cY]
theorem Zct (d:LeafD) (N O P V Z:Option Addr) (c1 c2 c3 c4 c5:Nat) (w:World) (hs:Ns d) (aG:d.source<256)
  (h1:Rd w (.slice N d.box.length c1) (bvs d.box)) (h2:Rd w (.slice O d.sign.length c2) (bvs d.sign)) (h3:Rd w (.slice P d.ident.length c3) (bvs d.ident)) (h4:Rd w (.slice V d.par.length c4) (bvs d.par)):
  Calls prog 216 #[.agg #[.slice N d.box.length c1,.slice O d.sign.length c2,.slice P d.ident.length c3,rD rG (d.source:Nat),.slice V d.par.length c4,.slice Z d.sig.length c5]] w
   fun e w'=>∃v,e=rK v/\Own w' w.heap.size 5 v (bvs (Lc d))/\Below w.heap.size w w':=by
 obtain⟨s1,s2,s3,s4,s5⟩:=hs;have G:=Zka d;have l1:=Bi d.box (by omega);have l2:=Bi d.sign (by omega);have l3:=Bi d.ident (by omega);have l4:=Bi d.par (by omega);obtain⟨n1,u⟩:=eX d.box.length;obtain⟨W,x⟩:=eX d.sign.length;obtain⟨X,y⟩:=eX d.ident.length;obtain⟨n4,z⟩:=eX d.par.length;obtain⟨n5,aF⟩:=eX d.sig.length;obtain⟨c,R⟩:=eX d.source;obtain⟨A,aA⟩:=eX d.box;obtain⟨B,aB⟩:=eX d.sign;obtain⟨C,aC⟩:=eX d.ident;obtain⟨D4,aD⟩:=eX d.par;rw[<-u,<-x,<-y,<-z,<-aF,<-R];rw[<-u]at h1 s1 l1;rw[<-x]at h2 s2 l2;rw[<-y]at h3 s3 l3;rw[<-z]at h4 s4 l4;rw[<-R]at aG G;rw[<-aA]at h1 u G l1;rw[<-aB]at h2 x G l2;rw[<-aC]at h3 y G l3;rw[<-aD]at h4 z G l4;obtain⟨U,hU⟩:=eX (Lc d);rw[<-hU]at G|-;have n:=Blk.new w 44 #[rC N n1 c1,rC O W c2,rC P X c3,rD rG (c:Nat),rC V n4 c4,rC Z n5 c5];have o:=(Below.refl w.heap.size w).alloc lR (rJ #[rC N n1 c1,rC O W c2,rC P X c3,rD rG (c:Nat),rC V n4 c4,rC Z n5 c5] 44);have hz:(w.alloc (rJ #[rC N n1 c1,rC O W c2,rC P X c3,rD rG (c:Nat),rC V n4 c4,rC Z n5 c5] 44)).heap.size=w.heap.size+1:=(by simp);obtain⟨W1,Q⟩:=eX (w.alloc (rJ #[rC N n1 c1,rC O W c2,rC P X c3,rD rG (c:Nat),rC V n4 c4,rC Z n5 c5] 44));rw[<-Q]at n o hz;have r1:=h1.below o lR;have r2:=h2.below o lR;have r3:=h3.below o lR;have r4:=h4.below o lR;have y0:=n.cell 0;have y1:=n.cell 1;have y2:=n.cell 2;have y3:=n.cell 3;have y4:=n.cell 4;simp only[cR,cS,aP]at y0 y1 y2 y3 y4;have r:w.heap.size<W1.heap.size:=(by omega);have HU:=Hd G;have aM:=Hd Q;have aL:=Hd o;have aN:=Hd y3;have aO:=Hd y4;have aK:=Hd r4;have HL:=Hd (show n1=A.length/\W=B.length/\X=C.length/\n4=D4.length from⟨u,x,y,z⟩);clear n o Q G hU u x y z aF R aA aB aC aD h1 h2 h3 h4;go_in;go_wp2_with fail;rw[<-aM.out]
 refine Dj [eF (rE (some ⟨w.heap.size,0,rI⟩)),eF (rC N n1 c1),fun v w'=>Own w' w.heap.size 5 v (bvs (Bf A)),eF (rE (some ⟨w.heap.size,1,rI⟩)),eF (rC O W c2),fun v w'=>Own w' w.heap.size 5 v (bvs (Bf B)),fun v w'=>Own w' w.heap.size 5 v (bvs ((Bf A)++(Bf B))),eF (rE (some ⟨w.heap.size,2,rI⟩)),eF (rC P X c3),fun v w'=>Own w' w.heap.size 5 v (bvs (Bf C)),eF (rE (some ⟨w.heap.size,3,rI⟩)),eF (rD rG (c:Nat)),fun v w'=>Rd w' v (bvs [c]),fun v w'=>Own w' w.heap.size 5 v (bvs (Bf C++[c])),fun v w'=>Own w' w.heap.size 5 v (bvs ((Bf A++Bf B)++(Bf C++[c]))),fun v w'=>Own w' w.heap.size 5 v (bvs ((Bf A++Bf B)++(Bf C++[c])))] (by kernel_rfl) (by kernel_rfl) (by kernel_rfl) (kE (kE (bX (fun v T s h m=>Own.below h m lR) (kE (kE (bX (fun v T s h m=>Own.below h m lR) (bX (fun v T s h m=>Own.below h m lR) (kE (kE (bX (fun v T s h m=>Own.below h m lR) (kE (kE (bX (fun v T s h m=>Rd.below h m lR) (bX (fun v T s h m=>Own.below h m lR) (bX (fun v T s h m=>Own.below h m lR) (bX (fun v T s h m=>Own.below h m lR) (Ag))))))))))))))))) ?_ ?_
 ·refine gQ ?_ (gQ ?_ (gB ?_ (gQ ?_ (gQ ?_ (gB ?_ (gB ?_ (gQ ?_ (gQ ?_ (gB ?_ (gQ ?_ (gQ ?_ (gB ?_ (gB ?_ (gB ?_ (gB ?_ .nil)))))))))))))));all_goals
   intro a t g ho F;refine⟨rfl,?_⟩;intro K D;try have aW:a.tmps[1]?.getD undef=rE (some ⟨w.heap.size,0,rI⟩):=ho 1 (by kernel_rfl)
   try have aV:=eqn F.1
   try have aR:=(g.cell (p:=⟨w.heap.size,0,rI⟩) r).trans y0
   try have aS:=(g.cell (p:=⟨w.heap.size,1,rI⟩) r).trans y1
   try have aT:=(g.cell (p:=⟨w.heap.size,2,rI⟩) r).trans y2
   try have aU:=(g.cell (p:=⟨w.heap.size,3,rI⟩) r).trans y3
   try(refine Hd ?_;go_simp;exact D _ rfl)
  ·go_simp;refine(Dz _ A t (r1.below g lR) (by have:=HL.out;omega)).mono ?_;rintro e s ⟨J,rfl,b,i⟩;exact D _ _ (b.mono (by have:=g.size;omega)) i
  ·go_simp;refine(Dz _ B t (r2.below g lR) (by have:=HL.out;omega)).mono ?_;rintro e s ⟨J,rfl,b,i⟩;exact D _ _ (b.mono (by have:=g.size;omega)) i
  ·have H:Own t w.heap.size 5 (a.tmps[6]?.getD undef) (bvs (Bf A)):=F.1;obtain⟨v1,j⟩:=eX (a.tmps[6]?.getD undef);rw[<-j]at H;have e1:=j.symm;clear j;have I:Own t w.heap.size 5 (a.tmps[9]?.getD undef) (bvs (Bf B)):=F.2.1;obtain⟨J,k⟩:=eX (a.tmps[9]?.getD undef);rw[<-k]at I;have e2:=k.symm;clear k;go_simp;refine(Cn v1 J _ _ t H.rd I.rd (by omega)).mono ?_;rintro e s ⟨v9,rfl,b,i⟩;exact D _ _ (b.mono (by have:=g.size;omega)) i
  ·go_simp;refine(Dz _ C t (r3.below g lR) (by have:=HL.out;omega)).mono ?_;rintro e s ⟨J,rfl,b,i⟩;exact D _ _ (b.mono (by have:=g.size;omega)) i
  ·go_simp;exact D _ _ (Xz (cs:=#[rD rG (c:Nat)]) (L:=[c]) rfl rfl (by simp)) (bR.alloc lR _)
  ·have H:Own t w.heap.size 5 (a.tmps[13]?.getD undef) (bvs (Bf C)):=F.1;obtain⟨v1,j⟩:=eX (a.tmps[13]?.getD undef);rw[<-j]at H;have e1:=j.symm;clear j;have I:Rd t (a.tmps[16]?.getD undef) (bvs [c]):=F.2.1;obtain⟨J,k⟩:=eX (a.tmps[16]?.getD undef);rw[<-k]at I;have e2:=k.symm;clear k;go_simp;refine(Cn v1 J _ _ t H.rd I (by simp only[dB,cO];omega)).mono ?_;rintro e s ⟨v9,rfl,b,i⟩;exact D _ _ (b.mono (by have:=g.size;omega)) i
  ·have H:Own t w.heap.size 5 (a.tmps[10]?.getD undef) (bvs (Bf A++Bf B)):=F.1;obtain⟨v1,j⟩:=eX (a.tmps[10]?.getD undef);rw[<-j]at H;have e1:=j.symm;clear j;have I:Own t w.heap.size 5 (a.tmps[17]?.getD undef) (bvs (Bf C++[c])):=F.2.1;obtain⟨J,k⟩:=eX (a.tmps[17]?.getD undef);rw[<-k]at I;have e2:=k.symm;clear k;go_simp;refine(Cn v1 J _ _ t H.rd I.rd (by simp only[bA,dB,cO];omega)).mono ?_;rintro e s ⟨v9,rfl,b,i⟩;exact D _ _ (b.mono (by have:=g.size;omega)) i
  ·have o0:Own t w.heap.size 5 (a.tmps[18]?.getD undef) (bvs ((Bf A++Bf B)++(Bf C++[c]))):=F.1;obtain⟨v0,S⟩:=eX (a.tmps[18]?.getD undef);rw[<-S]at o0;have e0:=S.symm;clear S;go_simp;exact D _ _ o0 bR
 ·rintro f w3 q ⟨-,-,-,-,-,-,-,-,-,-,-,-,-,-,-,f8,-⟩;have h8:Own w3 w.heap.size 5 (f 3) (bvs ((Bf A++Bf B)++(Bf C++[c]))):=f8;have H8:=Hd h8;have x3:=(q.cell (p:=⟨w.heap.size,3,rI⟩) r).trans aN.out;have x4:=(q.cell (p:=⟨w.heap.size,4,rI⟩) r).trans aO.out;have HR:=Hd (aK.out.below q lR);have Y:=Hd (aL.out.trans (q.mono (show w.heap.size<=W1.heap.size by omega)));have aQ:w.heap.size<w3.heap.size:=(by have:=q.size;omega);clear h8 f8 q y0 y1 y2 y3 y4 r1 r2 r3 r4;simp only[Ao,Av,Ej,dG,dH,dJ,dK,Nat.reduceBEq,Nat.reduceAdd,dM,dO,cond_true,cond_false]
  by_cases k3:c=3
  ·have t3:((c:Int)==3)=true:=(by rw[beq_iff_eq];omega);have l:=HU.out;rw[iP k3]at l;have M:=Hd l;have HV:=Hd (Dz _ D4 w3 HR.out (by have:=HL.out;omega));clear k3 l;go_wp2_with fail;refine HV.out.mono ?_;rintro e w4 ⟨v4,rfl,b,E⟩;have HJ:=Hd (Cn (f 3) v4 _ _ w4 (H8.out.rd.below E lR) b.rd (by simp only[bA,dB,cO];omega));have aX:=E.size;have aH:=Hd (Y.out.trans (E.mono (by omega)));clear b E;go_wp2_with fail;refine HJ.out.mono ?_;rintro e w5 ⟨v5,rfl,b,aE⟩;have aJ:=Hd (b.mono (show w.heap.size<=w4.heap.size by omega));have aI:=Hd (aH.out.trans (aE.mono (by omega)));clear b aE;go_wp2_with fail;go_ret;exact⟨_,rfl,by rw[M.out];exact aJ.out,aI.out⟩
  ·have t3:((c:Int)==3)=false:=(by rw[qN];omega);have l:=HU.out;rw[iN k3,dE]at l;have M:=Hd l;clear k3 l;go_wp2_with fail;go_ret;exact⟨_,rfl,by rw[M.out];exact H8.out,Y.out⟩
