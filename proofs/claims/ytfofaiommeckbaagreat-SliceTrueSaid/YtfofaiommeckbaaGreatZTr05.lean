import Derived.Deep.RegionWith
import Derived.Test.YtfofaiommeckbaaGreatZTr03
import Derived.Test.YtfofaiommeckbaaGreatZTr04
open Go.Obj renaming cells -> rK
open Go.Ending renaming returned -> rM
open Go.Value renaming slice -> rD, int -> rE, pointer -> rF
open Go.IntKind renaming i64 -> rG, u8 -> rH
open Option renaming none -> rJ
open Go.Proofs.Tryz
open List renaming length_append -> aD, append_assoc -> cY, map_cons -> cZ, flatten_cons -> dA, length_cons -> dB, take_succ_eq_append_getElem -> bT, getElem?_eq_getElem -> aF, getElem?_toArray -> bY, getElem?_cons_zero -> bZ, getElem?_cons_succ -> cA, mem_cons -> aB, not_mem_nil -> dC, mem_of_mem_take -> cB, length_nil -> bU, getElem_mem -> aG, take_length -> dD, append_nil -> dE, getD_eq_getElem?_getD -> aE, filterMap_cons -> dG, filterMap_nil -> dH, contains_cons -> dJ, contains_nil -> dK, foldl_cons -> dL
open Bool renaming not_eq_true -> cF, true_and -> dM, or_false -> dO, or_true -> dP, and_eq_true -> cK, false_and -> dQ
open Nat renaming add_sub_cancel -> dR, lt_or_ge -> aJ, zero_add -> cX, zero_le -> aI, pow_succ -> aN, sub_zero -> dS, mul_comm -> aU
open Int renaming toNat_natCast -> cD
open Array renaming size_push -> dU
set_option linter.unusedVariables false
set_option maxRecDepth 100000
set_option maxHeartbeats 40000000
namespace Go.Proofs.YtfofaiommeckbaaGreat
open Go.RowKit WireM
def Ba (v:List Nat):List Nat:=lenB v.length++v
def Oo (l:List (List Nat)):List Nat:=(l.map Ba).flatten
def RdL (w:World)(v:Value)(rows:List (List Nat)):Prop:=
 ∃vs:List Value,Rd w v vs/\vs.length=rows.length/\∀(i:Nat) r,rows[i]? =some r->∃u,vs[i]? =some u/\Rd w u (bvs r)
theorem RdL.below {w w':World} {B:Nat} {v:Value} {rows:List (List Nat)}(h:RdL w v rows)(hb:Below B w w')(hB:w.heap.size<=B):RdL w' v rows:=by
 obtain⟨vs,h1,h2,h3⟩:=h;refine⟨vs,h1.below hb hB,h2,?_⟩;intro i r hr;obtain⟨u,h4,h5⟩:=h3 i r hr;exact⟨u,h4,h5.below hb hB⟩
theorem Bg (v:List Nat)(h:v.length<1073741824):(Ba v).length<=v.length+4:=by
 rw[Ba,aD,lenB_len h];unfold lenS
 split<;>(try split)<;>(try split)<;>omega
theorem Ft {v:List Nat}(h:v.length<1073741824)(hv:∀n∈v,n<256):∀n∈Ba v,n<256:=by
 intro n hn;rw[Ba,List.mem_append]at hn;rcases hn with hn|hn
 ·exact lenB_lt h n hn
 ·exact hv n hn
theorem Ea (v:Value)(L:List Nat)(w:World)(h:Rd w v (bvs L))(k:L.length<1073741824):
  Calls prog 147 #[v] w fun e w'=>∃v',e=rM v'/\Own w' w.heap.size 5 v' (bvs (Ba L))/\Below w.heap.size w w':=by
 have m:=Hd (Zg8 L.length w k);have e2:(lenB L.length).length<=4:=by
  rw[lenB_len k];unfold lenS;split<;>(try split)<;>(try split)<;>omega
 obtain⟨a,cap,rfl,_⟩:=id h;rw[bvs_len]at h|-;have o:=Hd h;clear h;go_in;go_wp2_with fail;refine m.out.mono ?_;rintro e r ⟨p,rfl,b,d⟩;have n:=Hd b;have l:=Hd d;have i:=Hd (o.out.below d lR);have j:=d.size;clear b d;go_wp2_with (at_builtin;refine An rfl (.tmp 5) (.tmp 6) 28 rfl w.heap.size 5 _ 1 Ca _ _ rfl n.out _ (bvs L) rfl i.out (By _) ?c2 ?c3 ?_);case c2=>rw[bvs_len,bvs_len];omega
 case c3=>exact j
 rintro q s b-c;have g:=Hd b;have f:=Hd (l.out.trans c);clear b c;go_wp2_with fail;go_ret;refine⟨_,rfl,?_,f.out⟩;rw[Ba,Cj];exact g.out
theorem Dd (b v:Value)(B L:List Nat)(w:World)(d:Rd w b (bvs B))(h:Rd w v (bvs L))(q:B.length<274877906944)(l:L.length<1073741824):
  Calls prog 170 #[b,v] w fun e w'=>∃v',e=rM v'/\Own w' w.heap.size 5 v' (bvs (B++Ba L))/\Below w.heap.size w w':=by
 have n:=Hd (Zcz b B L.length w d (by omega) l);have e2:(lenB L.length).length<=4:=by
  rw[lenB_len l];unfold lenS;split<;>(try split)<;>(try split)<;>omega
 obtain⟨a,cap,rfl,_⟩:=id h;rw[bvs_len]at h|-;have p:=Hd h;clear h d;go_in;go_wp2_with fail;refine n.out.mono ?_;rintro e t ⟨r,rfl,c,d⟩;have o:=Hd c;have m:=Hd d;have j:=Hd (p.out.below d lR);have k:=d.size;clear c d;go_wp2_with (at_builtin;refine An rfl (.tmp 8) (.tmp 9) 28 rfl w.heap.size 5 _ 1 Ca _ _ rfl o.out _ (bvs L) rfl j.out (By _) ?c2 ?c3 ?_);case c2=>rw[bvs_len,bvs_len,aD];omega
 case c3=>exact k
 rintro s u c-f;have i:=Hd c;have g:=Hd (m.out.trans f);clear c f;go_wp2_with fail;go_ret;refine⟨_,rfl,?_,g.out⟩;rw[Ba,<-cY,Cj];exact i.out
theorem Te (l:List (List Nat))(r:List Nat):Oo (l++[r])=Oo l++Ba r:=by simp[Oo]
theorem Yu:∀(l:List (List Nat)),(∀r∈l,r.length<=200)->(Oo l).length<=l.length*204:=by
 intro l
 induction l with
 |nil=>intro _;simp[Oo]
 |cons r l ih=>
  intro h;have a:=ih fun q b=>h q (by simp[b]);have h2:=Bg r (by have:=h r (by simp);omega);have h3:=h r (by simp);simp only[Oo,cZ,dA,aD,dB]at a|-;omega
theorem Zdc {l:List (List Nat)} {r:Nat}(h:r<l.length):l.take (r+1)=l.take r++[l[r]]:=bT h
theorem RdL.cases {w:World} {v:Value} {c:List (List Nat)}(h:RdL w v c):
  ∃a cap,v=.slice a c.length cap/\c.length<=cap/\cap<=maxLen/\∀i (g:i<c.length),∃b d u,a=some ⟨b,d,rJ⟩/\b<w.heap.size/\w.cell? ⟨b,d+i,rJ⟩=some u/\Rd w u (bvs c[i]):=by
 obtain⟨o,j,h2,h3⟩:=h;obtain⟨a,cap,rfl,f,k,e⟩:=j;rw[h2]at f;refine⟨a,cap,by rw[h2],f,k,?_⟩;intro i g;obtain⟨u,n,m⟩:=h3 i _ (aF g);rcases e with⟨e,_⟩|⟨b,d,rfl,l⟩
 ·rw[e]at h2;simp at h2;omega
 ·have:=l i u n;exact⟨b,d,u,rfl,World.block_lt_of_cell? w _ this,this,m⟩
structure LeafD where
 box:List Nat
 sign:List Nat
 ident:List Nat
 source:Nat
 par:List Nat
 sig:List Nat
structure ParD where
 box:List Nat
 hash:List Nat
 late:List Int
structure NodeD where
 kind:Nat
 leaf:LeafD
 par:ParD
def rlB (n1 n2 n3 s n4 n5:Nat):Bool:=decide (n1=32/\n2=32/\n5=64/\1<=n3/\n3<=64/\1<=s/\s<=3/\(n4=0\/(s=3/\n4=32)))
def nlB (n1 n2 n3 s n4 n5:Nat):Bool:=decide (s=0/\n1+n2+n3+n4+n5=0)
def npB (n1 n2 n3:Nat):Bool:=decide (n1+n2+n3=0)
theorem Jh (h i j k l:Option Addr)(d f b c g c1 c2 c3 c4 c5 s:Nat)(w:World):
  Calls prog 210 #[.agg #[rD h d c1,rD i f c2,rD j b c3,rE rH (s:Nat),rD k c c4,rD l g c5]] w fun e w'=>e=rM (.bool (rlB d f b s c g))/\Below w.heap.size w w':=by
 by_cases k0:d≠32
 ·have a:Hid (rlB d f b s c g=false):=Hd (by rw[rlB,dN];omega);have m:((d:Int) !=32)=true:=(by rw[bne_iff_ne];omega);clear k0;go_in;go_wp2_with fail;go_ret;exact⟨Ac a.out.symm,bR.alloc lR _⟩
 ·have m:((d:Int) !=32)=false:=by rw[bne_eq_false_iff_eq];omega
  by_cases k1:f≠32
  ·have a:Hid (rlB d f b s c g=false):=Hd (by rw[rlB,dN];omega);have n:((f:Int) !=32)=true:=(by rw[bne_iff_ne];omega);clear k1;go_in;go_wp2_with fail;go_ret;exact⟨Ac a.out.symm,bR.alloc lR _⟩
  ·have n:((f:Int) !=32)=false:=by rw[bne_eq_false_iff_eq];omega
   by_cases k2:g≠64
   ·have a:Hid (rlB d f b s c g=false):=Hd (by rw[rlB,dN];omega);have o:((g:Int) !=64)=true:=(by rw[bne_iff_ne];omega);clear k2;go_in;go_wp2_with fail;go_ret;exact⟨Ac a.out.symm,bR.alloc lR _⟩
   ·have o:((g:Int) !=64)=false:=by rw[bne_eq_false_iff_eq];omega
    by_cases k3:b<1
    ·have a:Hid (rlB d f b s c g=false):=Hd (by rw[rlB,dN];omega);have p:decide ((b:Int)<1)=true:=(by rw[dI];omega);clear k3;go_in;go_wp2_with fail;go_ret;exact⟨Ac a.out.symm,bR.alloc lR _⟩
    ·have p:decide ((b:Int)<1)=false:=by rw[dN];omega
     by_cases k4:64<b
     ·have a:Hid (rlB d f b s c g=false):=Hd (by rw[rlB,dN];omega);have q:decide (64<(b:Int))=true:=(by rw[dI];omega);clear k4;go_in;go_wp2_with fail;go_ret;exact⟨Ac a.out.symm,bR.alloc lR _⟩
     ·have q:decide (64<(b:Int))=false:=by rw[dN];omega
      by_cases k5:s<1
      ·have a:Hid (rlB d f b s c g=false):=Hd (by rw[rlB,dN];omega);have r:decide ((s:Int)<1)=true:=(by rw[dI];omega);clear k5;go_in;go_wp2_with fail;go_ret;exact⟨Ac a.out.symm,bR.alloc lR _⟩
      ·have r:decide ((s:Int)<1)=false:=by rw[dN];omega
       by_cases k6:3<s
       ·have a:Hid (rlB d f b s c g=false):=Hd (by rw[rlB,dN];omega);have t:decide (3<(s:Int))=true:=(by rw[dI];omega);clear k6;go_in;go_wp2_with fail;go_ret;exact⟨Ac a.out.symm,bR.alloc lR _⟩
       ·have t:decide (3<(s:Int))=false:=by rw[dN];omega
        by_cases k7:c=0
        ·have a:Hid (rlB d f b s c g=true):=Hd (by rw[rlB,dI];omega);have u:((c:Int)==0)=true:=(by rw[beq_iff_eq];omega);clear k0 k1 k2 k3 k4 k5 k6 k7;go_in;go_wp2_with fail;go_ret;exact⟨Ac a.out.symm,bR.alloc lR _⟩
        ·have u:((c:Int)==0)=false:=by rw[qN];omega
         by_cases k8:s=3
         ·have v:((s:Int)==3)=true:=by rw[beq_iff_eq];omega
          by_cases k9:c=32
          ·have a:Hid (rlB d f b s c g=true):=Hd (by rw[rlB,dI];omega);have x:((c:Int)==32)=true:=(by rw[beq_iff_eq];omega);clear k0 k1 k2 k3 k4 k5 k6 k7 k8 k9;go_in;go_wp2_with fail;go_ret;exact⟨Ac a.out.symm,bR.alloc lR _⟩
          ·have a:Hid (rlB d f b s c g=false):=Hd (by rw[rlB,dN];omega);have x:((c:Int)==32)=false:=(by rw[qN];omega);clear k0 k1 k2 k3 k4 k5 k6 k7 k8 k9;go_in;go_wp2_with fail;go_ret;exact⟨Ac a.out.symm,bR.alloc lR _⟩
         ·have a:Hid (rlB d f b s c g=false):=Hd (by rw[rlB,dN];omega);have v:((s:Int)==3)=false:=(by rw[qN];omega);clear k0 k1 k2 k3 k4 k5 k6 k7 k8;go_in;go_wp2_with fail;go_ret;exact⟨Ac a.out.symm,bR.alloc lR _⟩
theorem Zba (i j k l m:Option Addr)(a b c d f c1 c2 c3 c4 c5 s:Nat)(h:a<=maxLen)(p:a+b+c+d+f<4611686018427387904)(w:World):
  Calls prog 208 #[.agg #[rD i a c1,rD j b c2,rD k c c3,rE rH (s:Nat),rD l d c4,rD m f c5]] w fun e w'=>e=rM (.bool (nlB a b c s d f))/\Below w.heap.size w w':=by
 by_cases k0:s=0
 ·have n:((s:Int)==0)=true:=by rw[beq_iff_eq];omega
  by_cases k1:a+b+c+d+f=0
  ·have g:Hid (nlB a b c s d f=true):=Hd (by rw[nlB,dI];omega);have o:((a:Int)+(b:Int)+(c:Int)+(d:Int)+(f:Int)==0)=true:=(by rw[beq_iff_eq];omega);clear k0 k1 h;go_in;go_wp2_with fail;go_ret;exact⟨Ac g.out.symm,bR.alloc lR _⟩
  ·have g:Hid (nlB a b c s d f=false):=Hd (by rw[nlB,dN];omega);have o:((a:Int)+(b:Int)+(c:Int)+(d:Int)+(f:Int)==0)=false:=(by rw[qN];omega);clear k0 k1 h;go_in;go_wp2_with fail;go_ret;exact⟨Ac g.out.symm,bR.alloc lR _⟩
 ·have g:Hid (nlB a b c s d f=false):=Hd (by rw[nlB,dN];omega);have n:((s:Int)==0)=false:=(by rw[qN];omega);clear k0 h;go_in;go_wp2_with fail;go_ret;exact⟨Ac g.out.symm,bR.alloc lR _⟩
theorem Tf (f g h:Option Addr)(a b c c1 c2 c3:Nat)(j:a+b+c<4611686018427387904)(w:World):
  Calls prog 209 #[.agg #[rD f a c1,rD g b c2,rD h c c3]] w fun e w'=>e=rM (.bool (npB a b c))/\Below w.heap.size w w':=by
 by_cases k1:a+b+c=0
 ·have d:Hid (npB a b c=true):=Hd (by rw[npB,dI];omega);have i:((a:Int)+(b:Int)+(c:Int)==0)=true:=(by rw[beq_iff_eq];omega);clear k1;go_in;go_wp2_with fail;go_ret;exact⟨Ac d.out.symm,bR.alloc lR _⟩
 ·have d:Hid (npB a b c=false):=Hd (by rw[npB,dN];omega);have i:((a:Int)+(b:Int)+(c:Int)==0)=false:=(by rw[qN];omega);clear k1;go_in;go_wp2_with fail;go_ret;exact⟨Ac d.out.symm,bR.alloc lR _⟩
def Ha (L:List Int)(i:Nat):Int:=if i=0 then-1 else L.getD (i-1) 0
def Ng (L:List Int)(r:Nat):Prop:=∀i,i<r->Ha L i<L.getD i 0/\L.getD i 0<65536
def Ji (L:List Int):Bool:=(List.range L.length).all fun i=>decide (Ha L i<L.getD i 0/\L.getD i 0<65536)
theorem Fa (L:List Int):Ji L=true↔Ng L L.length:=by
 unfold Ji Ng;rw[List.all_eq_true];constructor
 ·intro h i hi;have:=h i (List.mem_range.2 hi);exact oD this
 ·intro h i hi;exact dT (h i (List.mem_range.1 hi))
theorem Nh {L:List Int} {r:Nat}(hr:r<L.length)(h:¬(Ha L r<L.getD r 0/\L.getD r 0<65536)):Ji L=false:=by
 rw[<-cF,Fa];intro hl;exact h (hl r hr)
def rpB (n1 n2:Nat)(late:List Int):Bool:=Ji late&&decide (n1=32/\(n2=0\/n2=32))
theorem Hs (I J u:Option Addr)(c a c1 c2 c3:Nat)(L:List Int)(w:World)(z:Rd w (.slice u L.length c3) (ivs .i64 L)):
  Calls prog 211 #[.agg #[rD I c c1,rD J a c2,.slice u L.length c3]] w fun e w'=>e=rM (.bool (rpB c a L))/\Below w.heap.size w w':=by
 have m:=z.icases;obtain⟨S,cap,g,l,A,-⟩:=id z;rw[Dh]at l;simp only[Value.slice.injEq]at g;obtain⟨rfl,-,rfl⟩:=g;obtain⟨k,hk⟩:=eX L.length;have f:∀r,r<k->∃b o,u=some ⟨b,o,rJ⟩/\b<w.heap.size/\w.cell? ⟨b,o+r,rJ⟩=some (rE rG (L.getD r 0)):=by
  intro r p;rcases m with⟨_,_,g,U⟩|⟨b,F,cap',_,_,_,g,M,V⟩
  ·rw[U]at hk;simp at hk;omega
  ·simp only[Value.slice.injEq]at g;exact⟨b,F,g.1,M,V r (by omega)⟩
 rw[<-hk]at l|-;have W:k<=9223372036854775807:=(by unfold maxLen at A;omega);have O:=Hd f;have H:=Hd hk;clear m f hk z;go_in;go_wp2_with fail
 go_loopg [3,9] k (fun q s i wr=>∃r:Nat,r+q=k/\i=rE rG (r:Int)/\s=rE rG (Ha L r)/\Ng L r/\wr=w.alloc (rK #[rD I c c1,rD J a c2,rD u k c3] 50))
 case atStart=>exact⟨0,by omega,rfl,rfl,fun i h=>absurd h (by omega),rfl⟩
 case round=>
  obtain⟨r,z,rfl,rfl,n,rfl⟩:=hrel;have j:=Hd n;clear n
  by_cases p:r<k
  ·obtain⟨b,o,rfl,M,T⟩:=O.out r p;have B:Ha L (r+1)=L.getD r 0:=(by rw[Ha,iN (by omega),dR]);have v:= @Nh L r (by have:=H.out;omega);obtain⟨x,hx⟩:=eX (L.getD r 0);rw[<-hx]at T B v;obtain⟨y,C⟩:=eX (Ha L r);rw[<-C]at v|-;have Q:=Hd hx;have R:=Hd C;have P:=Hd B;have G:=Hd v;clear hx C B v
   by_cases k1:x<=y
   ·have d:=Hd (G.out (by omega));go_wp2_with fail;go_ret;exact⟨by rw[rpB,d.out];rfl,bR.alloc lR _⟩
   ·have D:y<x:=by omega
    by_cases k2:65536<=x
    ·have d:=Hd (G.out (by omega));clear k1;go_wp2_with fail;go_ret;exact⟨by rw[rpB,d.out];rfl,bR.alloc lR _⟩
    ·have E:x<65536:=(by omega);clear k1 k2;go_wp2_with fail;go_roundg (gk-1);case measure=>omega
     case rel=>
      refine⟨r+1,by omega,by go_num,by rw[P.out],?_,rfl⟩;intro i hi;rcases aJ i r with h|h
      ·exact j.out i h
      ·obtain rfl:i=r:=(by omega);rw[<-Q.out,<-R.out];exact⟨D,E⟩
  ·obtain rfl:r=k:=(by omega);have N:Ji L=true:=(by rw[Fa,<-H.out];exact j.out);have K:rpB c a L=decide (c=32/\(a=0\/a=32)):=(by rw[rpB,N,dM]);have t:=Hd K;clear N K
   by_cases k1:c=32
   ·have X:((c:Int)==32)=true:=by rw[beq_iff_eq];omega
    by_cases k2:a=0
    ·have Y:((a:Int)==0)=true:=(by rw[beq_iff_eq];omega);have d:=Hd (dT (show c=32/\(a=0\/a=32)from⟨k1,.inl k2⟩));clear k1 k2;go_wp2_with fail;go_ret;exact⟨Ac (t.out.trans d.out).symm,bR.alloc lR _⟩
    ·have Y:((a:Int)==0)=false:=by rw[qN];omega
     by_cases k3:a=32
     ·have Z:((a:Int)==32)=true:=(by rw[beq_iff_eq];omega);have d:=Hd (dT (show c=32/\(a=0\/a=32)from⟨k1,.inr k3⟩));clear k1 k2 k3;go_wp2_with fail;go_ret;exact⟨Ac (t.out.trans d.out).symm,bR.alloc lR _⟩
     ·have Z:((a:Int)==32)=false:=(by rw[qN];omega);have d:=Hd (dF (show¬(c=32/\(a=0\/a=32)) by omega));clear k1 k2 k3;go_wp2_with fail;go_ret;exact⟨Ac (t.out.trans d.out).symm,bR.alloc lR _⟩
   ·have X:((c:Int)==32)=false:=(by rw[qN];omega);have d:=Hd (dF (show¬(c=32/\(a=0\/a=32)) by omega));clear k1;go_wp2_with fail;go_ret;exact⟨Ac (t.out.trans d.out).symm,bR.alloc lR _⟩
def Aq (d:NodeD):Bool:=
 let l:=d.leaf
 let p:=d.par
 if d.kind=0 then nlB l.box.length l.sign.length l.ident.length l.source l.par.length l.sig.length&&npB p.box.length p.hash.length p.late.length
 else if d.kind=1 then rlB l.box.length l.sign.length l.ident.length l.source l.par.length l.sig.length&&npB p.box.length p.hash.length p.late.length
 else if d.kind=2 then nlB l.box.length l.sign.length l.ident.length l.source l.par.length l.sig.length&&rpB p.box.length p.hash.length p.late
 else false
def NodeC (w:World)(d:NodeD)(c:Array Value):Prop:=
 ∃a1 c1 a2 c2 a3 c3 a4 c4 a5 c5 b1 e1 b2 e2 b3 e3,c=#[rE rH (d.kind:Nat),.slice a1 d.leaf.box.length c1,.slice a2 d.leaf.sign.length c2,.slice a3 d.leaf.ident.length c3,rE rH (d.leaf.source:Nat),.slice a4 d.leaf.par.length c4,.slice a5 d.leaf.sig.length c5,
  .slice b1 d.par.box.length e1,.slice b2 d.par.hash.length e2,.slice b3 d.par.late.length e3]/\
  Rd w (.slice a1 d.leaf.box.length c1) (bvs d.leaf.box)/\Rd w (.slice a2 d.leaf.sign.length c2) (bvs d.leaf.sign)/\Rd w (.slice a3 d.leaf.ident.length c3) (bvs d.leaf.ident)/\
  Rd w (.slice a4 d.leaf.par.length c4) (bvs d.leaf.par)/\Rd w (.slice a5 d.leaf.sig.length c5) (bvs d.leaf.sig)/\
  Rd w (.slice b1 d.par.box.length e1) (bvs d.par.box)/\Rd w (.slice b2 d.par.hash.length e2) (bvs d.par.hash)/\Rd w (.slice b3 d.par.late.length e3) (ivs .i64 d.par.late)
structure NodeOk (d:NodeD):Prop where
 kind:d.kind<256
 source:d.leaf.source<256
 box:∀n∈d.leaf.box,n<256
 sign:∀n∈d.leaf.sign,n<256
 ident:∀n∈d.leaf.ident,n<256
 par:∀n∈d.leaf.par,n<256
 sig:∀n∈d.leaf.sig,n<256
 pbox:∀n∈d.par.box,n<256
 hash:∀n∈d.par.hash,n<256
 late:∀n∈d.par.late,-9223372036854775808<=n/\n<=9223372036854775807
def Cb (d:NodeD):Bool:=decide (d.leaf.box.length<=200/\d.leaf.sign.length<=200/\d.leaf.ident.length<=200/\d.leaf.par.length<=200/\d.leaf.sig.length<=200/\d.par.box.length<=200/\d.par.hash.length<=200/\d.par.late.length<=1000)
def exB (d:NodeD):Bool:=decide (d.leaf.box.length<=200/\d.leaf.sign.length<=200/\d.leaf.ident.length<=200/\d.leaf.par.length<=200/\d.leaf.sig.length<=200/\d.par.box.length<=200/\d.par.hash.length<=200/\d.par.late.length<=60)
theorem Tg {d:NodeD}(h:exB d=true):Cb d=true:=by
 have:=oD h;exact dT ⟨this.1,this.2.1,this.2.2.1,this.2.2.2.1,this.2.2.2.2.1,this.2.2.2.2.2.1,this.2.2.2.2.2.2.1,Nat.le_trans this.2.2.2.2.2.2.2 (by decide)⟩
theorem NodeC.below {w w':World} {B:Nat} {d:NodeD} {c:Array Value}(h:NodeC w d c)(b:Below B w w')(a:w.heap.size<=B):NodeC w' d c:=by
 obtain⟨e,c1,f,c2,g,c3,i,c4,j,c5,k,n,l,e2,m,e3,rfl,o,h2,h3,p,q,r,s,t⟩:=h;exact⟨e,c1,f,c2,g,c3,i,c4,j,c5,k,n,l,e2,m,e3,rfl,o.below b a,h2.below b a,h3.below b a,p.below b a,q.below b a,r.below b a,s.below b a,t.below b a⟩
theorem Gg {w:World} {a:Option Addr} {n c:Nat} {xs:List Value}(h:Rd w (rD a n c) xs):n<=c/\c<=9223372036854775807:=by
 obtain⟨a',c',he,h1,h2,_⟩:=h;simp only[Value.slice.injEq]at he;obtain⟨_,rfl,rfl⟩:=he;unfold maxLen at h2;exact⟨h1,h2⟩
theorem Th (d:NodeD)(c:Array Value)(w:World)(h:NodeC w d c)(hs:Cb d=true):
  Calls prog 169 #[.agg c] w fun e w'=>e=rM (.bool (Aq d))/\Below w.heap.size w w':=by
 have J:=oD hs;obtain⟨Q,c1,R,c2,S,c3,T,c4,U,c5,V,Y,W,e2,X,e3,rfl,Z,h2,h3,h4,h5,h6,h7,M⟩:=h;obtain⟨kind,leaf,par⟩:=d;simp only at Z h2 h3 h4 h5 h6 h7 M J|-;have A:=fun w=>Jh Q R S T U leaf.box.length leaf.sign.length leaf.ident.length leaf.par.length leaf.sig.length c1 c2 c3 c4 c5 leaf.source w;have y:=fun w=>Zba Q R S T U leaf.box.length leaf.sign.length leaf.ident.length leaf.par.length leaf.sig.length c1 c2 c3 c4 c5 leaf.source (by unfold maxLen;omega) (by omega) w;have z:=fun w=>Tf V W X par.box.length par.hash.length par.late.length Y e2 e3 (by omega) w;have B:=fun w h=>Hs V W X par.box.length par.hash.length Y e2 e3 par.late w h;have hB:Aq ⟨kind,leaf,par⟩=(if kind=0 then nlB leaf.box.length leaf.sign.length leaf.ident.length leaf.source leaf.par.length leaf.sig.length&&npB par.box.length par.hash.length par.late.length
  else if kind=1 then rlB leaf.box.length leaf.sign.length leaf.ident.length leaf.source leaf.par.length leaf.sig.length&&npB par.box.length par.hash.length par.late.length
  else if kind=2 then nlB leaf.box.length leaf.sign.length leaf.ident.length leaf.source leaf.par.length leaf.sig.length&&rpB par.box.length par.hash.length par.late else false):=rfl
 rw[hB];obtain⟨m1,o⟩:=eX leaf.box.length;obtain⟨m2,p⟩:=eX leaf.sign.length;obtain⟨m3,q⟩:=eX leaf.ident.length;obtain⟨m4,r⟩:=eX leaf.par.length;obtain⟨m5,s⟩:=eX leaf.sig.length;obtain⟨m6,t⟩:=eX par.box.length;obtain⟨m7,u⟩:=eX par.hash.length;rw[<-o,<-p,<-q,<-r,<-s]at A y;rw[<-t,<-u]at z B;rw[<-o,<-p,<-q,<-r,<-s,<-t,<-u];obtain⟨m8,E⟩:=eX par.late.length;rw[<-E]at z B M|-;obtain⟨K,m⟩:=eX leaf.source;rw[<-m]at A y|-;obtain⟨rl,H⟩:=eX (rlB m1 m2 m3 K m4 m5);rw[<-H]at A|-;obtain⟨nl,F⟩:=eX (nlB m1 m2 m3 K m4 m5);rw[<-F]at y|-;obtain⟨np,G⟩:=eX (npB m6 m7 m8);rw[<-G]at z|-;obtain⟨rp,I⟩:=eX (rpB m6 m7 par.late);rw[<-I]at B|-;have O:=Hd A;have v:=Hd y;have x:=Hd z;have P:=Hd B;have N:=Hd M;clear A y z B Z h2 h3 h4 h5 h6 h7 M o p q r s t u E m H F G I hB hs J;have C:∀cs:Array Value,Below w.heap.size w (w.alloc (.cells cs 52)):=fun cs=>bR.alloc lR _;have l:=Hd C;clear C
 by_cases k0:kind=0
 ·subst k0;rw[iP rfl];go_in;go_wp2_with fail;refine(v.out _).mono ?_;rintro e L ⟨rfl,a⟩;have k:=a.size;simp only[World.alloc]at k;have D:w.heap.size<L.heap.size:=(by simp at k;omega);have b:=(Blk.new w 52 _).below a (by simp);have x7:=b.cell 7;have x8:=b.cell 8;have x9:=b.cell 9;simp only[bY,bZ,cA]at x7 x8 x9;have f:=(l.out _).trans (a.mono (by simp));have g:=Hd f;have n:=Hd (N.out.below f lR);clear a k b f;cases nl with
  |true=>
   go_wp2_with fail;refine(x.out _).mono ?_;rintro e w2 ⟨rfl,i⟩;have j:=Hd (g.out.trans (i.mono (by omega)));clear i;go_wp2_with fail;go_ret;exact⟨rfl,j.out⟩
  |false=>
   go_wp2_with fail;go_ret;exact⟨rfl,g.out⟩
 ·by_cases k1:kind=1
  ·subst k1;rw[iN (by omega),iP rfl];go_in;go_wp2_with fail;refine(O.out _).mono ?_;rintro e L ⟨rfl,a⟩;have k:=a.size;simp only[World.alloc]at k;have D:w.heap.size<L.heap.size:=(by simp at k;omega);have b:=(Blk.new w 52 _).below a (by simp);have x7:=b.cell 7;have x8:=b.cell 8;have x9:=b.cell 9;simp only[bY,bZ,cA]at x7 x8 x9;have f:=(l.out _).trans (a.mono (by simp));have g:=Hd f;have n:=Hd (N.out.below f lR);clear a k b f;cases rl with
   |true=>
    go_wp2_with fail;refine(x.out _).mono ?_;rintro e w2 ⟨rfl,i⟩;have j:=Hd (g.out.trans (i.mono (by omega)));clear i;go_wp2_with fail;go_ret;exact⟨rfl,j.out⟩
   |false=>
    go_wp2_with fail;go_ret;exact⟨rfl,g.out⟩
  ·by_cases k2:kind=2
   ·subst k2;rw[iN (by omega),iN (by omega),iP rfl];go_in;go_wp2_with fail;refine(v.out _).mono ?_;rintro e L ⟨rfl,a⟩;have k:=a.size;simp only[World.alloc]at k;have D:w.heap.size<L.heap.size:=(by simp at k;omega);have b:=(Blk.new w 52 _).below a (by simp);have x7:=b.cell 7;have x8:=b.cell 8;have x9:=b.cell 9;simp only[bY,bZ,cA]at x7 x8 x9;have f:=(l.out _).trans (a.mono (by simp));have g:=Hd f;have n:=Hd (N.out.below f lR);clear a k b f;cases nl with
    |true=>
     go_wp2_with fail;refine(P.out _ n.out).mono ?_;rintro e w2 ⟨rfl,i⟩;have j:=Hd (g.out.trans (i.mono (by omega)));clear i;go_wp2_with fail;go_ret;exact⟨rfl,j.out⟩
    |false=>
     go_wp2_with fail;go_ret;exact⟨rfl,g.out⟩
   ·rw[iN k0,iN k1,iN k2];have t0:((kind:Int)==0)=false:=(by rw[qN];omega);have t1:((kind:Int)==1)=false:=(by rw[qN];omega);have t2:((kind:Int)==2)=false:=(by rw[qN];omega);clear k0 k1 k2;go_in;go_wp2_with fail;go_ret;exact⟨rfl,l.out _⟩
def Jj (d:LeafD):List Nat:=Oo [d.box,d.sign,d.ident]++[d.source]++(if d.source=3 then Ba d.par else [])
def Ni (d:LeafD):Prop:=d.box.length<=200/\d.sign.length<=200/\d.ident.length<=200/\d.par.length<=200/\d.sig.length<=200
theorem Ti (b:Value) (B:List Nat) (d:LeafD) (k o p a4 a5:Option Addr) (c1 c2 c3 c4 c5:Nat) (w:World) (hb:Rd w b (bvs B)) (hB:B.length<1000000000) (hs:Ni d) (a7:d.source<256)
  (h1:Rd w (.slice k d.box.length c1) (bvs d.box)) (h2:Rd w (.slice o d.sign.length c2) (bvs d.sign)) (h3:Rd w (.slice p d.ident.length c3) (bvs d.ident)) (h4:Rd w (.slice a4 d.par.length c4) (bvs d.par)):
  Calls prog 171 #[b,.agg #[.slice k d.box.length c1,.slice o d.sign.length c2,.slice p d.ident.length c3,rE rH (d.source:Nat),.slice a4 d.par.length c4,.slice a5 d.sig.length c5]] w
   fun e w'=>∃v,e=rM v/\Own w' w.heap.size 5 v (bvs (B++Jj d))/\Below w.heap.size w w':=by
 obtain⟨s1,s2,s3,s4,s5⟩:=hs;have j:∀r∈[d.box,d.sign,d.ident],r.length<=200:=by
  intro r hr;simp only[aB,dC,or_false]at hr;rcases hr with rfl|rfl|rfl<;>assumption
 have s:∀r,(Oo ([d.box,d.sign,d.ident].take r)).length<=612:=by
  intro r;have h:=Yu ([d.box,d.sign,d.ident].take r) (fun x hx=>j x (cB hx));have:([d.box,d.sign,d.ident].take r).length<=3:=(by rw[List.length_take];simp only[dB,bU];omega);omega
 have V:Jj d=Oo [d.box,d.sign,d.ident]++[d.source]++(if d.source=3 then Ba d.par else []):=rfl;obtain⟨f,O⟩:=eX ([d.box,d.sign,d.ident]);rw[<-O]at s V j;have H:f.length=3:=(by rw[O];rfl);obtain⟨V1,bL⟩:=eX (Value.slice k d.box.length c1);have a8:∀W:World,∀N,N=W.heap.size->Below w.heap.size w W->RdL (W.alloc (rK #[.slice k d.box.length c1,.slice o d.sign.length c2,.slice p d.ident.length c3] 28)) (rD (some ⟨N,0,rJ⟩) 3 3) f:=by
  intro W N hN hW;refine⟨[.slice k d.box.length c1,.slice o d.sign.length c2,.slice p d.ident.length c3],?_,by rw[H];rfl,?_⟩
  ·exact(Own.full (w:=W) (B:=W.heap.size) (e:=28) (cs:=#[.slice k d.box.length c1,.slice o d.sign.length c2,.slice p d.ident.length c3]) hN (by omega) (by unfold maxLen;simp) (n:=3) rfl).rd
  ·intro i r y;rw[O]at y;have k1:=(h1.below hW lR).alloc (rK #[.slice k d.box.length c1,.slice o d.sign.length c2,.slice p d.ident.length c3] 28);have k2:=(h2.below hW lR).alloc (rK #[.slice k d.box.length c1,.slice o d.sign.length c2,.slice p d.ident.length c3] 28);have k3:=(h3.below hW lR).alloc (rK #[.slice k d.box.length c1,.slice o d.sign.length c2,.slice p d.ident.length c3] 28)
   match i,y with
   |0,y=>simp only[bZ,Option.some.injEq]at y;subst y;exact⟨_,rfl,k1⟩
   |1,y=>simp only[cA,bZ,Option.some.injEq]at y;subst y;exact⟨_,rfl,k2⟩
   |2,y=>simp only[cA,bZ,Option.some.injEq]at y;subst y;exact⟨_,rfl,k3⟩
   |n+3,y=>simp at y
 clear V1 bL;have z:=fun(r:Nat) (h:r<f.length)=>Zdc (l:=f) h;have C:Below w.heap.size w (w.alloc (rK #[.slice k d.box.length c1,.slice o d.sign.length c2,.slice p d.ident.length c3,rE rH (d.source:Nat),.slice a4 d.par.length c4,.slice a5 d.sig.length c5] 44)):=bR.alloc lR _;have hM:=a8 _ (w.heap.size+1) (by simp) C;have T:=h4;have t:=Blk.new w 44 #[.slice k d.box.length c1,.slice o d.sign.length c2,.slice p d.ident.length c3,rE rH (d.source:Nat),.slice a4 d.par.length c4,.slice a5 d.sig.length c5];obtain⟨n1,aV⟩:=eX d.box.length;obtain⟨n2,aW⟩:=eX d.sign.length;obtain⟨n3,aX⟩:=eX d.ident.length;obtain⟨n5,aY⟩:=eX d.sig.length;rw[<-aV,<-aW,<-aX]at hM C t|-;rw[<-aY]at hM C t|-;have E:=t.alloc (rK #[rD k n1 c1,rD o n2 c2,rD p n3 c3] 28);have D:=C.alloc (by simp) (rK #[rD k n1 c1,rD o n2 c2,rD p n3 c3] 28);have hz:((w.alloc (rK #[rD k n1 c1,rD o n2 c2,rD p n3 c3,rE rH (d.source:Nat),.slice a4 d.par.length c4,rD a5 n5 c5] 44)).alloc (rK #[rD k n1 c1,rD o n2 c2,rD p n3 c3] 28)).heap.size=w.heap.size+2:=(by simp);have aE:=hb.below D lR;have aH:=T.below D lR;obtain⟨W1,aC⟩:=eX (((w.alloc (rK #[rD k n1 c1,rD o n2 c2,rD p n3 c3,rE rH (d.source:Nat),.slice a4 d.par.length c4,rD a5 n5 c5] 44)).alloc (rK #[rD k n1 c1,rD o n2 c2,rD p n3 c3] 28)));rw[<-aC]at hM E D hz aE aH;have HM:=Hd hM;have aK:=Hd E;have bJ:=Hd D;have HZ:=Hd hz;have a9:=Hd aE;have bE:=Hd aH;have bK:=Hd aC;have HU:=Hd V;have bI:=Hd z;have aM:=Hd s;have HR:=Hd j;have A:=Hd H;clear hM t E C D hz aE aH aC V z s j H T a8 h1 h2 h3 h4 hb O aV aW aX aY;go_in;go_wp2_with fail;rw[<-bK.out]
 go_loopg [0,15] 3 (fun q bv i wr=>∃r:Nat,r+q=3/\i=rE rG (r:Int)/\Rd wr bv (bvs (B++Oo (f.take r)))/\(0<r->Own wr (w.heap.size+2) 5 bv (bvs (B++Oo (f.take r))))/\Below (w.heap.size+2) W1 wr)
 case atStart=>exact⟨0,by omega,rfl,by simpa [Oo]using a9.out,fun h=>absurd h (by omega),bR⟩
 case round=>
  obtain⟨r,hr,rfl,a0,S,M⟩:=hrel;have bH:=Hd a0;have HO:=Hd S;have X:=Hd M;have P:=M.size;rw[HZ.out]at P;have hm:=HM.out.below M (by rw[HZ.out];exact lR);obtain⟨am,bQ,he,bN,bO,U⟩:=hm.cases;rw[A.out]at he;simp only[Value.slice.injEq]at he;obtain⟨rfl,-,rfl⟩:=he;have aP:=Hd U;clear a0 S M U hm bN bO
  by_cases hrk:r<3
  ·have aI:r<f.length:=(by have:=A.out;omega);obtain⟨b2,o2,u,aU,bT,c0,V⟩:=aP.out r aI;simp only[Option.some.injEq,Addr.mk.injEq,and_true]at aU;obtain⟨rfl,rfl⟩:=aU;rw[cX]at c0;have G:=HR.out _ (aG aI);have z:=bI.out r aI;have s:=aM.out r;obtain⟨x,hx⟩:=eX (f[r]);rw[<-hx]at V G z;obtain⟨au,nu,cu,rfl⟩:∃a n c,u=.slice a n c:=(by obtain⟨a,cap,e,_⟩:=V;exact⟨a,_,cap,e⟩);have Y:=Hd (fun b' (bM:Rd wr b' (bvs (B++Oo (f.take r))))=>Dd b' (rD au nu cu) _ x wr bM V (by rw[aD];omega) (by omega));have aQ:=Hd z;have a6:decide ((r:Int)<3)=true:=(by rw[dI];omega);clear hx V z G s;go_wp2_with fail;refine(Y.out _ bH.out).mono ?_;rintro e w5 ⟨v5,rfl,I,aR⟩;have aN:=Hd (I.mono P);have bA:=Hd (X.out.trans (aR.mono P));clear I aR;go_wp2_with fail;go_roundg (gk-1);case measure=>omega
   case rel=>
    refine⟨r+1,by omega,by go_num,?_,fun _=> ?_,bA.out⟩
    ·rw[aQ.out,Te,<-cY];exact aN.out.rd
    ·rw[aQ.out,Te,<-cY];exact aN.out
  ·obtain rfl:r=3:=(by omega);have ho:=HO.out (by omega);have ht:f.take 3=f:=(by rw[<-A.out,dD]);rw[ht]at ho;have s:=aM.out 3;rw[ht]at s;have bC:=Hd ho;have L:=aK.out.below X.out (by omega);have x3:=L.cell 3;have x4:=L.cell 4;simp only[bY,bZ,cA]at x3 x4;have bV:w.heap.size<wr.heap.size:=(by omega);have bP:=Hd L;have a6:decide (((3:Nat):Int)<3)=false:=(by decide);obtain⟨g,aJ⟩:=eX d.source;rw[<-aJ]at x3 a7;have Z:=Hd aJ;clear ho ht L aJ;go_wp2_with (at_builtin;refine Bq rfl (.tmp 23) (.tmp 26) 28 rfl (w.heap.size+2) 5 _ 1 Ca _ _ rfl (bC.out.alloc _) ⟨wr.heap.size,0,rJ⟩ (rE rH (g:Nat)) rfl ?c1 rfl ?c2 ?c3 ?_);case c1=>exact Bi rfl
   case c2=>rw[bvs_len,aD];omega
   case c3=>simp;omega
   rintro v6 w6 J-aF;have m:=(X.out.alloc P (rK #[rE rH (g:Nat)] 5)).trans aF;have aO:=Hd J;have bS:=Hd m;have bW:w.heap.size+2<=w6.heap.size:=(by have:=aF.size;simp at this;omega);have F:=aK.out.below m (by omega);have y3:=F.cell 3;have y4:=F.cell 4;simp only[bY,bZ,cA]at y3 y4;rw[<-Z.out]at y3;have aZ:=bE.out.below m (by rw[HZ.out];exact lR);have bF:=Hd aZ;have R:=(bJ.out.trans (m.mono (by omega)));have Q:=Hd R;clear J aF m F aZ R x3 x4;have aT:bvs (B++Oo f)++[rE rH (g:Nat)]=bvs (B++Oo f++[g]):=(Yi _ _).symm;have aL:=Hd aT;clear aT
   by_cases k3:g=3
   ·have t3:((g:Int)==3)=true:=(by rw[beq_iff_eq];omega);have aA:Hid (Jj d=Oo f++[g]++Ba d.par):=Hd (by rw[HU.out,<-Z.out,iP k3]);have bG:Hid (Rd w6 v6 (bvs (B++Oo f++[g]))):=Hd (by rw[<-aL.out];exact aO.out.rd);have Y:=Hd (Dd v6 _ _ d.par w6 bG.out bF.out (by rw[aD,aD];simp;omega) (by omega));clear k3;go_wp2_with fail;refine Y.out.mono ?_;rintro e w7 ⟨v7,rfl,K,aS⟩;have bD:=Hd (K.mono (show w.heap.size<=w6.heap.size by omega));have bB:=Hd (Q.out.trans (aS.mono (by omega)));clear K aS;go_wp2_with fail;go_ret;refine⟨_,rfl,?_,bB.out⟩;rw[aA.out,<-cY,<-cY];exact bD.out
   ·have t3:((g:Int)==3)=false:=(by rw[qN];omega);have aA:Hid (Jj d=Oo f++[g]):=Hd (by rw[HU.out,<-Z.out,iN k3,dE]);clear k3;go_wp2_with fail;go_ret;refine⟨_,rfl,?_,Q.out⟩;rw[aA.out,<-cY,<-aL.out];exact aO.out.mono (by omega)
def Cf (L:List Int):List Nat:=(L.map fun x=>beN 4 x.toNat).flatten
theorem Pi (L:List Int)(x:Int):Cf (L++[x])=Cf L++beN 4 x.toNat:=by simp[Cf]
theorem Fb:∀L:List Int,(Cf L).length=4*L.length:=by
 intro L
 induction L with
 |nil=>rfl
 |cons x L ih=>simp only[Cf,cZ,dA,aD,dB,beN_len]at ih|-;omega
def Zg2 (d:ParD):List Nat:=Ba d.box++Ba d.hash++Ba (Cf d.late)
theorem Nj (b:Value) (B:List Nat) (d:ParD) (J M V:Option Addr) (c1 c2 c3:Nat) (w:World) (o:Rd w b (bvs B)) (hB:B.length<1000000000) (aS:d.box.length<=200) (aT:d.hash.length<=200) (aU:d.late.length<=1000) (hl:∀x∈d.late,0<=x/\x<65536)
  (h1:Rd w (.slice J d.box.length c1) (bvs d.box)) (h2:Rd w (.slice M d.hash.length c2) (bvs d.hash)) (h3:Rd w (.slice V d.late.length c3) (ivs .i64 d.late)):
  Calls prog 172 #[b,.agg #[.slice J d.box.length c1,.slice M d.hash.length c2,.slice V d.late.length c3]] w
   fun e w'=>∃v,e=rM v/\Own w' w.heap.size 5 v (bvs (B++Zg2 d))/\Below w.heap.size w w':=by
 have hp:Zg2 d=Ba d.box++Ba d.hash++Ba (Cf d.late):=rfl;have aH:=Gg h3;have A:=fun r (hr:r<d.late.length)=>h3.get (r:=r) (show(ivs .i64 d.late)[r]? =some (rE rG (d.late.getD r 0)) by simp[ivs,hr]);have n:=fun(r:Nat) (h:r<d.late.length)=>(show d.late.take (r+1)=d.late.take r++[d.late.getD r 0] by rw[bT h,aE,aF h];rfl);have D:=fun(r:Nat) (h:r<d.late.length)=>(show 0<=d.late.getD r 0/\d.late.getD r 0<65536 by rw[aE,aF h];exact hl _ (aG h));have t:=fun r=>Fb (d.late.take r);obtain⟨k,hk⟩:=eX d.late.length;rw[<-hk]at A n aU aH D|-;have HP:=Hd hp;have H1:=Hd h1;have H2:=Hd h2;have HB:=Hd o;have HG:=Hd A;have aO:=Hd n;have HV:=Hd D;have Y:=Hd t;have HK:=Hd hk;clear hp h1 h2 h3 o A n D t hk hl;obtain⟨n1,Q⟩:=eX d.box.length;obtain⟨n2,R⟩:=eX d.hash.length;rw[<-Q]at H1 aS|-;rw[<-R]at H2 aT|-;have G:=Hd Q;have H:=Hd R;clear Q R;have z:=Blk.new w 50 #[rD J n1 c1,rD M n2 c2,rD V k c3];have S:Below w.heap.size w (w.alloc (rK #[rD J n1 c1,rD M n2 c2,rD V k c3] 50)):=bR.alloc lR _;have T:(w.alloc (rK #[rD J n1 c1,rD M n2 c2,rD V k c3] 50)).heap.size=w.heap.size+1:=(by simp);obtain⟨W1,N⟩:=eX (w.alloc (rK #[rD J n1 c1,rD M n2 c2,rD V k c3] 50));rw[<-N]at z S T;have aM:=Hd z;have Z:=Hd S;have aQ:=Hd T;have aP:=Hd N;clear z S T N;go_in;go_wp2_with fail;rw[<-aP.out]
 go_loopg [5,11] k (fun q lv i wr=>∃r:Nat,r+q=k/\i=rE rG (r:Int)/\Rd wr lv (bvs (Cf (d.late.take r)))/\Below (w.heap.size+1) W1 wr)
 case atStart=>exact⟨0,by omega,rfl,⟨none,0,rfl,lR,aI _,.inl ⟨rfl,fun _=>rfl⟩⟩,bR⟩
 case round=>
  obtain⟨r,hr,rfl,aJ,P⟩:=hrel;have I:=Hd aJ;have E:=Hd P;have aK:=P.size;rw[aQ.out]at aK;clear aJ P
  by_cases hrk:r<k
  ·obtain⟨b1,o1,rfl,aA,c0⟩:=HG.out r hrk;have aR:=(E.out.cell (p:=⟨b1,o1+r,rJ⟩) (by simp only;omega)).trans ((Z.out.cell (p:=⟨b1,o1+r,rJ⟩) aA).trans c0);have n:=aO.out r hrk;obtain⟨v0,v1⟩:=HV.out r hrk;have t:=Y.out r;obtain⟨x,hx⟩:=eX (d.late.getD r 0);rw[<-hx]at aR n v0 v1;obtain⟨m,rfl⟩:∃m:Nat,x=(m:Int):=⟨x.toNat,by omega⟩;have aC:(d.late.take r).length<=r:=List.length_take_le _ _;have aN:=Hd (fun lv (h:Rd wr lv (bvs (Cf (d.late.take r))))=>Ey lv _ 4 m wr h (by omega) rfl (by omega));have HT:=Hd n;clear c0 hx n t aC aA;go_wp2_with fail;refine(aN.out _ I.out).mono ?_;rintro e l ⟨v2,rfl,c,g⟩;have HO:=Hd c.rd;have aL:=Hd (E.out.trans (g.mono aK));clear c g;go_wp2_with fail;go_roundg (gk-1);case measure=>omega
   case rel=>exact⟨r+1,by omega,by go_num,by rw[HT.out,Pi,cD];exact HO.out,aL.out⟩
  ·obtain rfl:r=k:=(by omega);have ht:d.late.take r=d.late:=(by rw[HK.out,dD]);rw[ht]at I;have t:=Y.out r;rw[ht,<-HK.out]at t;have aY:decide ((r:Int)<(r:Int))=false:=(by rw[dN];omega);go_wp2_with fail;have O:=aM.out.below E.out (by omega);have y0:=O.cell 0;have y1:=O.cell 1;simp only[bY,bZ,cA]at y0 y1;have aV:=Bg d.box (by rw[<-G.out];omega);have aW:=Bg d.hash (by rw[<-H.out];omega);rw[<-G.out]at aV;rw[<-H.out]at aW;have s:=Z.out.trans (E.out.mono (by omega));have r1:=H1.out.below s lR;have r2:=H2.out.below s lR;have rb:=HB.out.below s lR;have r3:=I.out;have aB:w.heap.size<wr.heap.size:=(by omega);have aX:w.heap.size<=wr.heap.size:=(by omega);have own:∀(v:Value) (y l:World) (L:List Nat),Own y w.heap.size 5 v (bvs L)->Below y.heap.size y l->Own l w.heap.size 5 v (bvs L):=fun v y l L h o=>h.below o lR;clear O;refine Cx [eF b,eF (rF (some ⟨w.heap.size,0,rJ⟩)),eF (rD J n1 c1),fun v w'=>Own w' w.heap.size 5 v (bvs (B++Ba d.box)),eF (rF (some ⟨w.heap.size,1,rJ⟩)),eF (rD M n2 c2),fun v w'=>Own w' w.heap.size 5 v (bvs (B++Ba d.box++Ba d.hash)),fun v w'=>Rd w' v (bvs (Cf d.late)),fun v w'=>Own w' w.heap.size 5 v (bvs (B++Ba d.box++Ba d.hash++Ba (Cf d.late))),fun v w'=>Own w' w.heap.size 5 v (bvs (B++Ba d.box++Ba d.hash++Ba (Cf d.late)))] (by kernel_rfl) (by kernel_rfl) (by kernel_rfl) (kE (kE (kE (bX (fun v y l h o=>own v y l _ h o) (kE (kE (bX (fun v y l h o=>own v y l _ h o) (bX (fun v y l h o=>h.below o lR) (bX (fun v y l h o=>own v y l _ h o) (bX (fun v y l h o=>own v y l _ h o) (Ae))))))))))) ?_ ?_
   ·refine gQ ?_ (gQ ?_ (gQ ?_ (gB ?_ (gQ ?_ (gQ ?_ (gB ?_ (gB ?_ (gB ?_ (gB ?_ .nil)))))))));all_goals
     intro a U j ho X;refine⟨rfl,?_⟩;intro K W;try have P0:a.tmps[0]?.getD undef=b:=ho 0 (by kernel_rfl)
     try have P3:a.tmps[3]?.getD undef=rF (some ⟨w.heap.size,0,rJ⟩):=ho 3 (by kernel_rfl)
     try have P5:a.tmps[5]?.getD undef=u5:=ho 5 (by kernel_rfl)
     try have E0:=eqn X.1
     try have E1:=eqn X.2.1
     try have D0:=(j.cell (p:=⟨w.heap.size,0,rJ⟩) aB).trans y0
     try have D1:=(j.cell (p:=⟨w.heap.size,1,rJ⟩) aB).trans y1
     try(refine Hd ?_;go_simp;exact W _ rfl)
    ·go_simp;refine(Dd b _ B d.box U (rb.below j lR) (r1.below j lR) (by omega) (by rw[<-G.out];omega)).mono ?_;rintro e l ⟨v2,rfl,c,g⟩;exact W _ _ (c.mono (by have:=j.size;omega)) g
    ·have F:Own U w.heap.size 5 (a.tmps[23]?.getD undef) (bvs (B++Ba d.box)):=X.1;obtain⟨v,C⟩:=eX (a.tmps[23]?.getD undef);rw[<-C]at F;have e0:=C.symm;clear C;go_simp;refine(Dd v _ _ d.hash U F.rd (r2.below j lR) (by rw[aD];omega) (by rw[<-H.out];omega)).mono ?_;rintro e l ⟨v2,rfl,c,g⟩;exact W _ _ (c.mono (by have:=j.size;omega)) g
    ·go_simp;exact W _ _ (r3.below j lR) bR
    ·have F:Own U w.heap.size 5 (a.tmps[26]?.getD undef) (bvs (B++Ba d.box++Ba d.hash)):=X.1;obtain⟨v,C⟩:=eX (a.tmps[26]?.getD undef);rw[<-C]at F;have e0:=C.symm;have o1:Rd U (a.tmps[27]?.getD undef) (bvs (Cf d.late)):=X.2.1;obtain⟨u,hu⟩:=eX (a.tmps[27]?.getD undef);rw[<-hu]at o1;have e1:=hu.symm;clear C hu;go_simp;refine(Dd v u _ (Cf d.late) U F.rd o1 (by rw[aD,aD];omega) (by omega)).mono ?_;rintro e l ⟨v2,rfl,c,g⟩;exact W _ _ (c.mono (by have:=j.size;omega)) g
    ·have F:Own U w.heap.size 5 (a.tmps[28]?.getD undef) (bvs (B++Ba d.box++Ba d.hash++Ba (Cf d.late))):=X.1;obtain⟨v,C⟩:=eX (a.tmps[28]?.getD undef);rw[<-C]at F;have e0:=C.symm;clear C;go_simp;exact W _ _ F bR
   ·rintro f l g ⟨-,-,-,-,-,-,-,-,-,f9,-⟩;have h9:Own l w.heap.size 5 (f 4) (bvs (B++Ba d.box++Ba d.hash++Ba (Cf d.late))):=f9;simp only[Ak,At,Ei,dG,dH,dJ,dK,Nat.reduceBEq,Nat.reduceAdd,dO,dP,cond_true,cond_false];go_wp2_with fail;go_ret;refine⟨_,rfl,?_,s.trans (g.mono aX)⟩;rw[HP.out,<-cY,<-cY];exact h9
theorem Zhm {L:List Int}(h:Ji L=true):∀i,i<L.length->0<=L.getD i 0/\L.getD i 0<65536:=by
 rw[Fa]at h;intro i
 induction i with
 |zero=>intro a;have:=h 0 a;unfold Ha at this;rw[iP rfl]at this;omega
 |succ i ih=>
  intro a;have b:=ih (by omega);have:=h (i+1) a;unfold Ha at this;rw[iN (by omega),dR]at this;omega
theorem Fu {L:List Int}(h:Ji L=true):∀x∈L,0<=x/\x<65536:=by
 intro x hx;obtain⟨i,hi,rfl⟩:=List.getElem_of_mem hx;have:=Zhm h i hi;rw[aE,aF hi]at this;exact this
def Bk (d:NodeD):List Nat:=if d.kind=1 then 1::(Jj d.leaf++Ba d.leaf.sig)else if d.kind=2 then 2::Zg2 d.par else [0]
def Ej (d:NodeD)(w:World)(e:Ending)(w':World):Prop:=
 Below w.heap.size w w'/\∃v,e=rM (.tuple #[v,rE rH (if Aq d=true then 0 else 3)])/\Own w' w.heap.size 5 v (bvs (if Aq d=true then Bk d else []))
theorem Mg {d:LeafD}(h:Ni d):(Jj d).length<=820:=by
 obtain⟨c,e,f,g,i⟩:=h;have b:=Yu [d.box,d.sign,d.ident] (by intro r a;simp only[aB,dC,or_false]at a;rcases a with rfl|rfl|rfl<;>assumption);have h2:=Bg d.par (by omega);simp only[dB,bU]at b;unfold Jj;rw[aD,aD]
 split
 ·simp only[dB,bU];omega
 ·simp only[dB,bU];omega
theorem Pj (d:NodeD)(c:Array Value)(w:World)(h:NodeC w d c)(t:Cb d=true)(q:Aq d=false):
  Calls prog 108 #[.agg c] w (Ej d w):=by
 have R:=fun w h=>Th d c w h t;rw[q]at R;have r:=Hd (R _ (h.below ((Below.refl w.heap.size w).alloc lR (.cells c 52)) lR));obtain⟨y,c1,z,c2,A,c3,B,c4,C,c5,D,G,E,e2,F,e3,rfl,-⟩:=h;have s:∀e w',Ej d w e w'↔Below w.heap.size w w'/\∃v,e=rM (.tuple #[v,rE rH 3])/\Own w' w.heap.size 5 v (bvs []):=by
  intro e w';unfold Ej;rw[q];exact Iff.rfl
 have u:=Hd s;obtain⟨I,g⟩:=eX d.leaf.box.length;obtain⟨J,i⟩:=eX d.leaf.sign.length;obtain⟨K,j⟩:=eX d.leaf.ident.length;obtain⟨L,k⟩:=eX d.leaf.par.length;obtain⟨M,l⟩:=eX d.leaf.sig.length;obtain⟨N,m⟩:=eX d.par.box.length;obtain⟨O,n⟩:=eX d.par.hash.length;obtain⟨P,o⟩:=eX d.par.late.length;obtain⟨H,f⟩:=eX d.kind;obtain⟨x,a⟩:=eX d.leaf.source;rw[<-g,<-i,<-j,<-k,<-l,<-m,<-n,<-o,<-f,<-a]at r|-;clear R t q s g i j k l m n o f a;go_in;go_wp2_with fail;refine r.out.mono ?_;rintro e Q ⟨rfl,b⟩;have p:=Hd (((Below.refl w.heap.size w).alloc lR _).trans (b.mono (by simp)));clear b;go_wp2_with fail;go_ret2;exact(u.out _ _).2 ⟨p.out,_,rfl,Own.nil _ _ _⟩
theorem Tj (d:NodeD)(c:Array Value)(w:World)(h:NodeC w d c)(hk:NodeOk d)(hs:Cb d=true)(Z:Aq d=true):
  Calls prog 108 #[.agg c] w (Ej d w):=by
 have R:=fun w h=>Th d c w h hs;rw[Z]at R;have G:=(Below.refl w.heap.size w).alloc lR (.cells c 52);have HR:=Hd (R _ (h.below G lR));have q:=oD hs;have aA:d.kind=0\/d.kind=1\/d.kind=2:=by
  by_cases h0:d.kind=0
  ·exact .inl h0
  ·by_cases h1:d.kind=1
   ·exact .inr (.inl h1)
   ·by_cases h2:d.kind=2
    ·exact .inr (.inr h2)
    ·rw[Aq,iN h0,iN h1,iN h2]at Z;cases Z
 have u:d.kind=2->∀x∈d.par.late,0<=x/\x<65536:=by
  intro h2;rw[Aq,iN (by omega),iN (by omega),iP h2,cK,rpB,cK]at Z;exact Fu Z.2.1
 have F:Ni d.leaf:=⟨q.1,q.2.1,q.2.2.1,q.2.2.2.1,q.2.2.2.2.1⟩;have eP:∀e w',Ej d w e w'↔Below w.heap.size w w'/\∃v,e=rM (.tuple #[v,rE rH 0])/\Own w' w.heap.size 5 v (bvs (Bk d)):=by
  intro e w';unfold Ej;rw[Z];exact Iff.rfl
 have HE:=Hd eP;obtain⟨a1,c1,a2,c2,a3,c3,a4,c4,a5,c5,b1,e1,b2,e2,b3,e3,rfl,h1,h2,h3,h4,h5,h6,h7,h8⟩:=h;have U:=fun(b:Value) (B:List Nat) W (s:Rd W b (bvs B)) (hB:B.length<1000000000) (H:Below w.heap.size w W)=>Ti b B d.leaf a1 a2 a3 a4 a5 c1 c2 c3 c4 c5 W s hB F hk.source (h1.below H lR) (h2.below H lR) (h3.below H lR) (h4.below H lR);have PB:=fun(h2:d.kind=2) (b:Value) (B:List Nat) W (s:Rd W b (bvs B)) (hB:B.length<1000000000) (H:Below w.heap.size w W)=>Nj b B d.par b1 b2 b3 e1 e2 e3 W s hB q.2.2.2.2.2.1 q.2.2.2.2.2.2.1 q.2.2.2.2.2.2.2 (u h2) (h6.below H lR) (h7.below H lR) (h8.below H lR);have aM:=Mg F;have X:d.kind=1->Bk d=[1]++Jj d.leaf++Ba d.leaf.sig:=fun h=>(by rw[Bk,iP h];rfl);have Y:d.kind=2->Bk d=[2]++Zg2 d.par:=fun h=>(by rw[Bk,iN (by omega),iP h];rfl);have V:d.kind=0->Bk d=[0]:=fun h=>(by rw[Bk,iN (by omega),iN (by omega)]);have aK:=F.2.2.2.2;obtain⟨m1,M⟩:=eX d.leaf.box.length;obtain⟨m2,N⟩:=eX d.leaf.sign.length;obtain⟨m3,O⟩:=eX d.leaf.ident.length;obtain⟨m4,P⟩:=eX d.leaf.par.length;obtain⟨m5,y⟩:=eX d.leaf.sig.length;obtain⟨m6,Q⟩:=eX d.par.box.length;obtain⟨m7,S⟩:=eX d.par.hash.length;obtain⟨m8,T⟩:=eX d.par.late.length;obtain⟨kd,E⟩:=eX d.kind;obtain⟨aL,z⟩:=eX d.leaf.source;rw[<-M,<-N,<-O,<-P,<-y,<-Q,<-S,<-T,<-E,<-z]at HR G|-;rw[<-M,<-N,<-O,<-P,<-y,<-z]at U;rw[<-Q,<-S,<-T,<-E]at PB;rw[<-E]at aA V X Y;rw[<-y]at h5 aK;have HU:=Hd U;have aH:=Hd PB;have aC:=Hd V;have aE:=Hd X;have aF:=Hd Y;have H5:=Hd h5;have aB:=Hd y;have aI:=Hd G;clear R eP hs Z M N O P y Q S T E z U PB V X Y h1 h2 h3 h4 h5 h6 h7 h8 u F q G hk;go_in;go_wp2_with fail;refine HR.out.mono ?_;rintro e l ⟨rfl,D⟩;have g:=(Blk.new w 52 _).below D (by simp);have hz:=D.size;simp only[World.alloc]at hz;have aJ:w.heap.size<l.heap.size:=(by simp at hz;omega);have x0:=g.cell 0;have x1:=g.cell 1;have x2:=g.cell 2;have x3:=g.cell 3;have x4:=g.cell 4;have x5:=g.cell 5;have x6:=g.cell 6;have x7:=g.cell 7;have x8:=g.cell 8;have x9:=g.cell 9;simp only[bY,bZ,cA]at x0 x1 x2 x3 x4 x5 x6 x7 x8 x9;have o:=Hd (aI.out.trans (D.mono (by simp)));clear g hz D;rcases aA with rfl|rfl|rfl
 ·go_wp2_with fail;go_ret2;refine(HE.out _ _).2 ⟨o.out.alloc o.out.size _,_,rfl,?_⟩;rw[aC.out trivial];have:=Own.full (w:=l) (B:=w.heap.size) (e:=5) (cs:=#[rE rH 0]) rfl o.out.size (by unfold maxLen;simp) (n:=1) rfl;exact this
 ·go_wp2_with fail;have j:=o.out.alloc o.out.size (rK #[rE rH 1] 5);have HO:=Hd (Own.full (w:=l) (B:=w.heap.size) (e:=5) (cs:=#[rE rH 1]) rfl o.out.size (by unfold maxLen;simp) (n:=1) rfl);obtain⟨W2,C⟩:=eX (l.alloc (rK #[rE rH 1] 5));rw[<-C]at j HO|-;have aN:W2.heap.size=l.heap.size+1:=(by rw[C];simp);have zz:∀i v,l.cell? ⟨w.heap.size,i,rJ⟩=some v->W2.cell? ⟨w.heap.size,i,rJ⟩=some v:=fun i v h=>(by rw[C];exact(World.cell?_alloc_lt l _ _ aJ).trans h);have z1:=zz _ _ x1;have z2:=zz _ _ x2;have z3:=zz _ _ x3;have z4:=zz _ _ x4;have z5:=zz _ _ x5;have z6:=zz _ _ x6;have r:w.heap.size<W2.heap.size:=(by omega);clear C zz x0 x1 x2 x3 x4 x5 x6 x7 x8 x9;have own:∀(v:Value) (l A:World) (L:List Nat),Own l w.heap.size 5 v (bvs L)->Below l.heap.size l A->Own A w.heap.size 5 v (bvs L):=fun v l A L h s=>h.below s lR;refine Cx [eF (rD (some ⟨l.heap.size,0,rJ⟩) 1 1),eF (rF (some ⟨w.heap.size,1,rJ⟩)),eF (.agg #[rD a1 m1 c1,rD a2 m2 c2,rD a3 m3 c3,rE rH (aL:Nat),rD a4 m4 c4,rD a5 m5 c5]),fun v w'=>Own w' w.heap.size 5 v (bvs ([1]++Jj d.leaf)),eF (rF (some ⟨w.heap.size,1,rJ⟩)),eF (rF (some ⟨w.heap.size,6,rJ⟩)),eF (rD a5 m5 c5),fun v w'=>Own w' w.heap.size 5 v (bvs ([1]++Jj d.leaf++Ba d.leaf.sig)),fun v w'=>Own w' w.heap.size 5 v (bvs ([1]++Jj d.leaf++Ba d.leaf.sig))] (by kernel_rfl) (by kernel_rfl) (by kernel_rfl) (kE (kE (kE (bX (fun v l A h s=>own v l A _ h s) (kE (kE (kE (bX (fun v l A h s=>own v l A _ h s) (bX (fun v l A h s=>own v l A _ h s) (Ae)))))))))) ?_ ?_
  ·refine gQ ?_ (gQ ?_ (gQ ?_ (gB ?_ (gQ ?_ (gQ ?_ (gQ ?_ (gB ?_ (gB ?_ .nil))))))));all_goals
    intro a wx k ho hf;refine⟨rfl,?_⟩;intro K hK;try have P1:a.tmps[1]?.getD undef=rF (some ⟨w.heap.size,0,rJ⟩):=ho 1 (by kernel_rfl)
    try have P4:a.tmps[4]?.getD undef=rD (some ⟨l.heap.size,0,rJ⟩) 1 1:=ho 4 (by kernel_rfl)
    try have E0:=eqn hf.1
    try have E1:=eqn hf.2.1
    try have D0:=(k.cell (p:=⟨w.heap.size,1,rJ⟩) r).trans z1
    try have D1:=(k.cell (p:=⟨w.heap.size,2,rJ⟩) r).trans z2
    try have D2:=(k.cell (p:=⟨w.heap.size,3,rJ⟩) r).trans z3
    try have D3:=(k.cell (p:=⟨w.heap.size,4,rJ⟩) r).trans z4
    try have D4:=(k.cell (p:=⟨w.heap.size,5,rJ⟩) r).trans z5
    try have D5:=(k.cell (p:=⟨w.heap.size,6,rJ⟩) r).trans z6
    try(refine Hd ?_;go_simp;exact hK _ rfl)
   ·go_simp;refine(HU.out _ [1] wx (HO.out.rd.below k lR) (by simp) (j.trans (k.mono (by omega)))).mono ?_;rintro e A ⟨v2,rfl,m,J⟩;exact hK _ _ (m.mono (by have:=k.size;omega)) J
   ·have o0:Own wx w.heap.size 5 (a.tmps[18]?.getD undef) (bvs ([1]++Jj d.leaf)):=hf.1;obtain⟨v,hv⟩:=eX (a.tmps[18]?.getD undef);rw[<-hv]at o0;have e0:=hv.symm;clear hv;go_simp;refine(Dd v _ _ d.leaf.sig wx o0.rd (H5.out.below (j.trans (k.mono (by omega))) lR) (by rw[aD];simp;omega) (by rw[<-aB.out];omega)).mono ?_;rintro e A ⟨v2,rfl,m,J⟩;exact hK _ _ (m.mono (by have:=k.size;omega)) J
   ·have o0:Own wx w.heap.size 5 (a.tmps[22]?.getD undef) (bvs ([1]++Jj d.leaf++Ba d.leaf.sig)):=hf.1;obtain⟨v,hv⟩:=eX (a.tmps[22]?.getD undef);rw[<-hv]at o0;have e0:=hv.symm;clear hv;go_simp;exact hK _ _ o0 bR
  ·rintro f w3 t ⟨-,-,-,-,-,-,-,-,f8,-⟩;have h8:Own w3 w.heap.size 5 (f 4) (bvs ([1]++Jj d.leaf++Ba d.leaf.sig)):=f8;have H8:=Hd h8;have I:=Hd (j.trans (t.mono (show w.heap.size<=W2.heap.size by omega)));clear h8 f8 t z1 z2 z3 z4 z5 z6 own j;simp only[Ak,At,Ei,dG,dH,dJ,dK,Nat.reduceBEq,Nat.reduceAdd,dO,dP,cond_true,cond_false];go_wp2_with fail;go_ret2;refine(HE.out _ _).2 ⟨I.out,_,rfl,?_⟩;rw[aE.out trivial];exact H8.out
 ·go_wp2_with fail;have j:=o.out.alloc o.out.size (rK #[rE rH 2] 5);have HO:=Hd (Own.full (w:=l) (B:=w.heap.size) (e:=5) (cs:=#[rE rH 2]) rfl o.out.size (by unfold maxLen;simp) (n:=1) rfl);refine(aH.out trivial _ [2] _ HO.out.rd (by simp) j).mono ?_;rintro e w3 ⟨v3,rfl,m,t⟩;have aG:=Hd (m.mono j.size);have I:=Hd (j.trans (t.mono j.size));clear m t j;go_wp2_with fail;go_ret2;refine(HE.out _ _).2 ⟨I.out,_,rfl,?_⟩;rw[aF.out trivial];exact aG.out
theorem Hb (v a:Value)(A B:List Nat)(w:World)(h:Rd w v (bvs A))(d:Rd w a (bvs B))(f:∀n∈A,n<256)(g:∀n∈B,n<256)(b:Bool)(i:decide (A=B)=b):
  Calls prog 19 #[v,a] w fun e w'=>e=rM (.bool b)/\∃n,w'=w.drewN n:=by
 refine(Yh v a A B w h d f g).mono ?_;rintro e w' ⟨c,j⟩;rw[i]at c;exact⟨c,j⟩
structure LeafOk (d:LeafD):Prop where
 source:d.source<256
 box:∀n∈d.box,n<256
 sign:∀n∈d.sign,n<256
 ident:∀n∈d.ident,n<256
 par:∀n∈d.par,n<256
 sig:∀n∈d.sig,n<256
theorem NodeOk.leaf {d:NodeD}(h:NodeOk d):LeafOk d.leaf:=⟨h.source,h.box,h.sign,h.ident,h.par,h.sig⟩
def Zbb (w:World)(d:LeafD)(c:Array Value):Prop:=
 ∃a1 c1 a2 c2 a3 c3 a4 c4 a5 c5,c=#[.slice a1 d.box.length c1,.slice a2 d.sign.length c2,.slice a3 d.ident.length c3,rE rH (d.source:Nat),.slice a4 d.par.length c4,.slice a5 d.sig.length c5]/\
  Rd w (.slice a1 d.box.length c1) (bvs d.box)/\Rd w (.slice a2 d.sign.length c2) (bvs d.sign)/\Rd w (.slice a3 d.ident.length c3) (bvs d.ident)/\
  Rd w (.slice a4 d.par.length c4) (bvs d.par)/\Rd w (.slice a5 d.sig.length c5) (bvs d.sig)
def Ht (a b:LeafD):Bool:=decide (a.box=b.box/\a.sign=b.sign/\a.ident=b.ident/\a.source=b.source/\a.par=b.par/\a.sig=b.sig)
theorem Ra (d e:LeafD)(c c':Array Value)(w:World)(hc:Zbb w d c)(aI:Zbb w e c')(hd:LeafOk d)(he:LeafOk e):
  Calls prog 28 #[.agg c,.agg c'] w fun f w'=>f=rM (.bool (Ht d e))/\Below w.heap.size w w':=by
 obtain⟨a1,c1,a2,c2,a3,c3,a4,c4,a5,c5,rfl,h1,h2,h3,h4,h5⟩:=hc;obtain⟨b1,e1,b2,e2,b3,e3,b4,e4,b5,e5,rfl,i,j,m,s,H⟩:=aI;have S1:=fun W (n:Below w.heap.size w W) b hb=>Hb _ _ d.box e.box W (h1.below n lR) (i.below n lR) hd.box he.box b hb;have S2:=fun W (n:Below w.heap.size w W) b hb=>Hb _ _ d.sign e.sign W (h2.below n lR) (j.below n lR) hd.sign he.sign b hb;have S3:=fun W (n:Below w.heap.size w W) b hb=>Hb _ _ d.ident e.ident W (h3.below n lR) (m.below n lR) hd.ident he.ident b hb;have S4:=fun W (n:Below w.heap.size w W) b hb=>Hb _ _ d.par e.par W (h4.below n lR) (s.below n lR) hd.par he.par b hb;have S5:=fun W (n:Below w.heap.size w W) b hb=>Hb _ _ d.sig e.sig W (h5.below n lR) (H.below n lR) hd.sig he.sig b hb;have hE:Ht d e=decide (d.box=e.box/\d.sign=e.sign/\d.ident=e.ident/\d.source=e.source/\d.par=e.par/\d.sig=e.sig):=rfl;rw[hE];clear hE;obtain⟨m1,T⟩:=eX d.box.length;obtain⟨q1,Z⟩:=eX e.box.length;rw[<-T,<-Z]at S1;obtain⟨m2,U⟩:=eX d.sign.length;obtain⟨q2,aA⟩:=eX e.sign.length;rw[<-U,<-aA]at S2;obtain⟨m3,V⟩:=eX d.ident.length;obtain⟨q3,aB⟩:=eX e.ident.length;rw[<-V,<-aB]at S3;obtain⟨m4,X⟩:=eX d.par.length;obtain⟨q4,aC⟩:=eX e.par.length;rw[<-X,<-aC]at S4;obtain⟨m5,Y⟩:=eX d.sig.length;obtain⟨q5,aD⟩:=eX e.sig.length;rw[<-Y,<-aD]at S5;rw[<-T,<-U,<-V,<-X,<-Y,<-Z,<-aA,<-aB,<-aC,<-aD];obtain⟨t,aF⟩:=eX d.source;obtain⟨u,aG⟩:=eX e.source;rw[<-aF,<-aG];obtain⟨v,J⟩:=eX d.box;obtain⟨B,O⟩:=eX e.box;rw[<-J,<-O]at S1;obtain⟨x,K⟩:=eX d.sign;obtain⟨C,P⟩:=eX e.sign;rw[<-K,<-P]at S2;obtain⟨y,L⟩:=eX d.ident;obtain⟨D,Q⟩:=eX e.ident;rw[<-L,<-Q]at S3;obtain⟨z,M⟩:=eX d.par;obtain⟨E,R⟩:=eX e.par;rw[<-M,<-R]at S4;obtain⟨A,N⟩:=eX d.sig;obtain⟨F,S⟩:=eX e.sig;rw[<-N,<-S]at S5;rw[<-J,<-K,<-L,<-M,<-N,<-O,<-P,<-Q,<-R,<-S];have l:=Hd S1;have p:=Hd S2;have r:=Hd S3;have I:=Hd S4;have aE:=Hd S5;have a:=Hd (((Below.refl w.heap.size w).alloc lR (rK #[rD a1 m1 c1,rD a2 m2 c2,rD a3 m3 c3,rE rH (t:Nat),rD a4 m4 c4,rD a5 m5 c5] 44)).alloc (by simp) (rK #[rD b1 q1 e1,rD b2 q2 e2,rD b3 q3 e3,rE rH (u:Nat),rD b4 q4 e4,rD b5 q5 e5] 44));clear h1 i S1 T Z J O h2 j S2 U aA K P h3 m S3 V aB L Q h4 s S4 X aC M R h5 H S5 Y aD N S aF aG hd he
 by_cases i:v=B
 ·skip
  by_cases j:x=C
  ·skip
   by_cases m:y=D
   ·skip
    by_cases ks:t=u
    ·have ts:((t:Int)==(u:Int))=true:=by rw[beq_iff_eq];omega
     by_cases s:z=E
     ·skip
      by_cases H:A=F
      ·skip
       have o:Hid (decide (v=B/\x=C/\y=D/\t=u/\z=E/\A=F)=true):=Hd (dT ⟨i,j,m,ks,s,H⟩);have HK:=Hd (show v=B/\x=C/\y=D/\z=E/\A=F from⟨i,j,m,s,H⟩);clear i j m ks s H;go_in;go_wp2_with fail;refine(l.out _ (by repeat(first|exact a.out|refine Ab ?_ _)) true (dT (HK.out.1))).mono ?_;rintro f w' ⟨rfl,n1,rfl⟩;go_wp2_with fail;refine(p.out _ (by repeat(first|exact a.out|refine Ab ?_ _)) true (dT (HK.out.2.1))).mono ?_;rintro f w' ⟨rfl,n2,rfl⟩;go_wp2_with fail;refine(r.out _ (by repeat(first|exact a.out|refine Ab ?_ _)) true (dT (HK.out.2.2.1))).mono ?_;rintro f w' ⟨rfl,n3,rfl⟩;go_wp2_with fail;refine(I.out _ (by repeat(first|exact a.out|refine Ab ?_ _)) true (dT (HK.out.2.2.2.1))).mono ?_;rintro f w' ⟨rfl,n4,rfl⟩;go_wp2_with fail;refine(aE.out _ (by repeat(first|exact a.out|refine Ab ?_ _)) true (dT (HK.out.2.2.2.2))).mono ?_;rintro f w' ⟨rfl,n5,rfl⟩;go_wp2_with fail;go_ret;exact⟨Ac o.out.symm,(by repeat(first|exact a.out|refine Ab ?_ _))⟩
      ·have o:Hid (decide (v=B/\x=C/\y=D/\t=u/\z=E/\A=F)=false):=Hd (dF (fun h=>H (h.2.2.2.2.2)));have g:=Hd i;have k:=Hd j;have q:=Hd m;have aH:=Hd s;have G:=Hd H;clear i j m ks s H;go_in;go_wp2_with fail;refine(l.out _ (by repeat(first|exact a.out|refine Ab ?_ _)) true (dT g.out)).mono ?_;rintro f w' ⟨rfl,n1,rfl⟩;go_wp2_with fail;refine(p.out _ (by repeat(first|exact a.out|refine Ab ?_ _)) true (dT k.out)).mono ?_;rintro f w' ⟨rfl,n2,rfl⟩;go_wp2_with fail;refine(r.out _ (by repeat(first|exact a.out|refine Ab ?_ _)) true (dT q.out)).mono ?_;rintro f w' ⟨rfl,n3,rfl⟩;go_wp2_with fail;refine(I.out _ (by repeat(first|exact a.out|refine Ab ?_ _)) true (dT aH.out)).mono ?_;rintro f w' ⟨rfl,n4,rfl⟩;go_wp2_with fail;refine(aE.out _ (by repeat(first|exact a.out|refine Ab ?_ _)) false (dF G.out)).mono ?_;rintro f w' ⟨rfl,n5,rfl⟩;go_wp2_with fail;go_ret;exact⟨Ac o.out.symm,(by repeat(first|exact a.out|refine Ab ?_ _))⟩
     ·have o:Hid (decide (v=B/\x=C/\y=D/\t=u/\z=E/\A=F)=false):=Hd (dF (fun h=>s (h.2.2.2.2.1)));have g:=Hd i;have k:=Hd j;have q:=Hd m;have G:=Hd s;clear i j m ks s;go_in;go_wp2_with fail;refine(l.out _ (by repeat(first|exact a.out|refine Ab ?_ _)) true (dT g.out)).mono ?_;rintro f w' ⟨rfl,n1,rfl⟩;go_wp2_with fail;refine(p.out _ (by repeat(first|exact a.out|refine Ab ?_ _)) true (dT k.out)).mono ?_;rintro f w' ⟨rfl,n2,rfl⟩;go_wp2_with fail;refine(r.out _ (by repeat(first|exact a.out|refine Ab ?_ _)) true (dT q.out)).mono ?_;rintro f w' ⟨rfl,n3,rfl⟩;go_wp2_with fail;refine(I.out _ (by repeat(first|exact a.out|refine Ab ?_ _)) false (dF G.out)).mono ?_;rintro f w' ⟨rfl,n4,rfl⟩;go_wp2_with fail;go_ret;exact⟨Ac o.out.symm,(by repeat(first|exact a.out|refine Ab ?_ _))⟩
    ·have o:Hid (decide (v=B/\x=C/\y=D/\t=u/\z=E/\A=F)=false):=Hd (dF (fun h=>ks (h.2.2.2.1)));have g:=Hd i;have k:=Hd j;have q:=Hd m;have ts:((t:Int)==(u:Int))=false:=(by rw[qN];omega);clear i j m ks;go_in;go_wp2_with fail;refine(l.out _ (by repeat(first|exact a.out|refine Ab ?_ _)) true (dT g.out)).mono ?_;rintro f w' ⟨rfl,n1,rfl⟩;go_wp2_with fail;refine(p.out _ (by repeat(first|exact a.out|refine Ab ?_ _)) true (dT k.out)).mono ?_;rintro f w' ⟨rfl,n2,rfl⟩;go_wp2_with fail;refine(r.out _ (by repeat(first|exact a.out|refine Ab ?_ _)) true (dT q.out)).mono ?_;rintro f w' ⟨rfl,n3,rfl⟩;go_wp2_with fail;go_ret;exact⟨Ac o.out.symm,(by repeat(first|exact a.out|refine Ab ?_ _))⟩
   ·have o:Hid (decide (v=B/\x=C/\y=D/\t=u/\z=E/\A=F)=false):=Hd (dF (fun h=>m (h.2.2.1)));have g:=Hd i;have k:=Hd j;have G:=Hd m;clear i j m;go_in;go_wp2_with fail;refine(l.out _ (by repeat(first|exact a.out|refine Ab ?_ _)) true (dT g.out)).mono ?_;rintro f w' ⟨rfl,n1,rfl⟩;go_wp2_with fail;refine(p.out _ (by repeat(first|exact a.out|refine Ab ?_ _)) true (dT k.out)).mono ?_;rintro f w' ⟨rfl,n2,rfl⟩;go_wp2_with fail;refine(r.out _ (by repeat(first|exact a.out|refine Ab ?_ _)) false (dF G.out)).mono ?_;rintro f w' ⟨rfl,n3,rfl⟩;go_wp2_with fail;go_ret;exact⟨Ac o.out.symm,(by repeat(first|exact a.out|refine Ab ?_ _))⟩
  ·have o:Hid (decide (v=B/\x=C/\y=D/\t=u/\z=E/\A=F)=false):=Hd (dF (fun h=>j (h.2.1)));have g:=Hd i;have G:=Hd j;clear i j;go_in;go_wp2_with fail;refine(l.out _ (by repeat(first|exact a.out|refine Ab ?_ _)) true (dT g.out)).mono ?_;rintro f w' ⟨rfl,n1,rfl⟩;go_wp2_with fail;refine(p.out _ (by repeat(first|exact a.out|refine Ab ?_ _)) false (dF G.out)).mono ?_;rintro f w' ⟨rfl,n2,rfl⟩;go_wp2_with fail;go_ret;exact⟨Ac o.out.symm,(by repeat(first|exact a.out|refine Ab ?_ _))⟩
 ·have o:Hid (decide (v=B/\x=C/\y=D/\t=u/\z=E/\A=F)=false):=Hd (dF (fun h=>i (h.1)));have G:=Hd i;clear i;go_in;go_wp2_with fail;refine(l.out _ (by repeat(first|exact a.out|refine Ab ?_ _)) false (dF G.out)).mono ?_;rintro f w' ⟨rfl,n1,rfl⟩;go_wp2_with fail;go_ret;exact⟨Ac o.out.symm,(by repeat(first|exact a.out|refine Ab ?_ _))⟩
def Co (a b:NodeD):Bool:=decide (a.kind=b.kind/\Ht a.leaf b.leaf=true/\a.par.box=b.par.box/\a.par.hash=b.par.hash/\a.par.late=b.par.late)
theorem Hc (d e:NodeD)(c c':Array Value)(w:World)(hc:NodeC w d c)(aV:NodeC w e c')(hd:NodeOk d)(he:NodeOk e):
  Calls prog 71 #[.agg c,.agg c'] w fun m w'=>m=rM (.bool (Co d e))/\Below w.heap.size w w':=by
 obtain⟨a1,c1,a2,c2,a3,c3,a4,c4,a5,c5,a6,c6,a7,c7,a8,c8,rfl,h1,h2,h3,h4,h5,h6,h7,h8⟩:=hc;obtain⟨b1,e1,b2,e2,b3,e3,b4,e4,b5,e5,b6,e6,b7,e7,b8,e8,rfl,k1,k2,k3,k4,k5,q,y,D⟩:=aV;have SL:=fun W (l:Below w.heap.size w W)=>Ra d.leaf e.leaf _ _ W ⟨a1,c1,a2,c2,a3,c3,a4,c4,a5,c5,rfl,h1.below l lR,h2.below l lR,h3.below l lR,h4.below l lR,h5.below l lR⟩
  ⟨b1,e1,b2,e2,b3,e3,b4,e4,b5,e5,rfl,k1.below l lR,k2.below l lR,k3.below l lR,k4.below l lR,k5.below l lR⟩ hd.leaf he.leaf
 have S6:=fun W (l:Below w.heap.size w W) b hb=>Hb _ _ d.par.box e.par.box W (h6.below l lR) (q.below l lR) hd.pbox he.pbox b hb;have S7:=fun W (l:Below w.heap.size w W) b hb=>Hb _ _ d.par.hash e.par.hash W (h7.below l lR) (y.below l lR) hd.hash he.hash b hb;have S8:=fun W (l:Below w.heap.size w W)=>Sv _ _ d.par.late e.par.late W (h8.below l lR) (D.below l lR);have hE:Co d e=decide (d.kind=e.kind/\Ht d.leaf e.leaf=true/\d.par.box=e.par.box/\d.par.hash=e.par.hash/\d.par.late=e.par.late):=rfl;rw[hE];clear hE;obtain⟨m1,S⟩:=eX d.leaf.box.length;obtain⟨q1,aB⟩:=eX e.leaf.box.length;obtain⟨m2,T⟩:=eX d.leaf.sign.length;obtain⟨q2,aC⟩:=eX e.leaf.sign.length;obtain⟨m3,U⟩:=eX d.leaf.ident.length;obtain⟨q3,aD⟩:=eX e.leaf.ident.length;obtain⟨m4,V⟩:=eX d.leaf.par.length;obtain⟨q4,aE⟩:=eX e.leaf.par.length;obtain⟨m5,X⟩:=eX d.leaf.sig.length;obtain⟨q5,aF⟩:=eX e.leaf.sig.length;obtain⟨m6,Y⟩:=eX d.par.box.length;obtain⟨q6,aG⟩:=eX e.par.box.length;obtain⟨m7,Z⟩:=eX d.par.hash.length;obtain⟨q7,aH⟩:=eX e.par.hash.length;obtain⟨m8,aA⟩:=eX d.par.late.length;obtain⟨q8,aI⟩:=eX e.par.late.length;obtain⟨s1,aJ⟩:=eX d.leaf.source;obtain⟨s2,aK⟩:=eX e.leaf.source;obtain⟨p,aS⟩:=eX d.kind;obtain⟨r,aT⟩:=eX e.kind;rw[<-S,<-T,<-U,<-V,<-X,<-aB,<-aC,<-aD,<-aE,<-aF,<-aJ,<-aK]at SL;rw[<-Y,<-aG]at S6;rw[<-Z,<-aH]at S7;rw[<-aA,<-aI]at S8;rw[<-S,<-T,<-U,<-V,<-X,<-Y,<-Z,<-aA,<-aB,<-aC,<-aD,<-aE,<-aF,<-aG,<-aH,<-aI,<-aJ,<-aK,<-aS,<-aT];obtain⟨sl,aU⟩:=eX (Ht d.leaf e.leaf);rw[<-aU]at SL|-;obtain⟨K,aM⟩:=eX d.par.box;obtain⟨N,aP⟩:=eX e.par.box;rw[<-aM,<-aP]at S6|-;obtain⟨L,aN⟩:=eX d.par.hash;obtain⟨O,aQ⟩:=eX e.par.hash;rw[<-aN,<-aQ]at S7|-;obtain⟨M,aO⟩:=eX d.par.late;obtain⟨P,aR⟩:=eX e.par.late;rw[<-aO,<-aR]at S8|-;have v:=Hd SL;have A:=Hd S6;have R:=Hd S7;have aL:=Hd S8;have g:=Hd (((Below.refl w.heap.size w).alloc lR (rK #[rE rH (p:Nat),rD a1 m1 c1,rD a2 m2 c2,rD a3 m3 c3,rE rH (s1:Nat),rD a4 m4 c4,rD a5 m5 c5,rD a6 m6 c6,rD a7 m7 c7,rD a8 m8 c8] 52)).alloc (by simp) (rK #[rE rH (r:Nat),rD b1 q1 e1,rD b2 q2 e2,rD b3 q3 e3,rE rH (s2:Nat),rD b4 q4 e4,rD b5 q5 e5,rD b6 q6 e6,rD b7 q7 e7,rD b8 q8 e8] 52));have t:=Hd ((Blk.new w 52 #[rE rH (p:Nat),rD a1 m1 c1,rD a2 m2 c2,rD a3 m3 c3,rE rH (s1:Nat),rD a4 m4 c4,rD a5 m5 c5,rD a6 m6 c6,rD a7 m7 c7,rD a8 m8 c8]).alloc (rK #[rE rH (r:Nat),rD b1 q1 e1,rD b2 q2 e2,rD b3 q3 e3,rE rH (s2:Nat),rD b4 q4 e4,rD b5 q5 e5,rD b6 q6 e6,rD b7 q7 e7,rD b8 q8 e8] 52));have f:=Blk.new (w.alloc (rK #[rE rH (p:Nat),rD a1 m1 c1,rD a2 m2 c2,rD a3 m3 c3,rE rH (s1:Nat),rD a4 m4 c4,rD a5 m5 c5,rD a6 m6 c6,rD a7 m7 c7,rD a8 m8 c8] 52)) 52 #[rE rH (r:Nat),rD b1 q1 e1,rD b2 q2 e2,rD b3 q3 e3,rE rH (s2:Nat),rD b4 q4 e4,rD b5 q5 e5,rD b6 q6 e6,rD b7 q7 e7,rD b8 q8 e8];have hz:(w.alloc (rK #[rE rH (p:Nat),rD a1 m1 c1,rD a2 m2 c2,rD a3 m3 c3,rE rH (s1:Nat),rD a4 m4 c4,rD a5 m5 c5,rD a6 m6 c6,rD a7 m7 c7,rD a8 m8 c8] 52)).heap.size=w.heap.size+1:=(by simp);rw[hz]at f;have u:=Hd f;clear hz f SL S6 S7 S8 hd he h1 k1 S aB h2 k2 T aC h3 k3 U aD h4 k4 V aE h5 k5 X aF h6 q Y aG h7 y Z aH h8 D aA aI aJ aK aS aT aU aM aN aO aP aQ aR
 by_cases k0:p=r
 ·have t0:((p:Int)==(r:Int))=true:=(by rw[beq_iff_eq];omega);cases sl with
  |true=>
   by_cases q:K=N
   ·by_cases y:L=O
    ·have o:=Hd q;have z:=Hd y
     by_cases D:M=P
     ·have s:Hid (decide (p=r/\(true:Bool)=true/\K=N/\L=O/\M=P)=true):=Hd (dT ⟨k0,rfl,q,y,D⟩);have Q:=Hd D;clear k0 q y D;go_in;go_wp2_with fail;refine(v.out _ g.out).mono ?_;rintro m n ⟨rfl,a⟩;have i:=t.out.below a (by simp;omega);have f:=u.out.below a (by simp);have E:=i.cell 7;have F:=i.cell 8;have G:=i.cell 9;have H:=f.cell 7;have I:=f.cell 8;have J:=f.cell 9;simp only[bY,bZ,cA]at E F G H I J;have j:=Hd (g.out.trans (a.mono (by simp;omega)));have k:=a.size;simp only[World.alloc,dU]at k;have B:w.heap.size<n.heap.size:=(by omega);have C:w.heap.size+1<n.heap.size:=(by omega);clear i f a k;go_wp2_with fail;refine(A.out _ (by repeat(first|exact j.out|exact g.out|refine Ab ?_ _)) true (dT o.out)).mono ?_;rintro m w' ⟨rfl,n6,rfl⟩;go_wp2_with fail;refine(R.out _ (by repeat(first|exact j.out|exact g.out|refine Ab ?_ _)) true (dT z.out)).mono ?_;rintro m w' ⟨rfl,n7,rfl⟩;go_wp2_with fail;refine(aL.out _ (by repeat(first|exact j.out|exact g.out|refine Ab ?_ _))).mono ?_;rintro m w' ⟨x,n8,rfl⟩;rw[dT Q.out]at x;subst x;go_wp2_with fail;go_ret;exact⟨Ac s.out.symm,(by repeat(first|exact j.out|exact g.out|refine Ab ?_ _))⟩
     ·have s:Hid (decide (p=r/\(true:Bool)=true/\K=N/\L=O/\M=P)=false):=Hd (dF (fun h=>D h.2.2.2.2));have Q:=Hd D;clear k0 q y D;go_in;go_wp2_with fail;refine(v.out _ g.out).mono ?_;rintro m n ⟨rfl,a⟩;have i:=t.out.below a (by simp;omega);have f:=u.out.below a (by simp);have E:=i.cell 7;have F:=i.cell 8;have G:=i.cell 9;have H:=f.cell 7;have I:=f.cell 8;have J:=f.cell 9;simp only[bY,bZ,cA]at E F G H I J;have j:=Hd (g.out.trans (a.mono (by simp;omega)));have k:=a.size;simp only[World.alloc,dU]at k;have B:w.heap.size<n.heap.size:=(by omega);have C:w.heap.size+1<n.heap.size:=(by omega);clear i f a k;go_wp2_with fail;refine(A.out _ (by repeat(first|exact j.out|exact g.out|refine Ab ?_ _)) true (dT o.out)).mono ?_;rintro m w' ⟨rfl,n6,rfl⟩;go_wp2_with fail;refine(R.out _ (by repeat(first|exact j.out|exact g.out|refine Ab ?_ _)) true (dT z.out)).mono ?_;rintro m w' ⟨rfl,n7,rfl⟩;go_wp2_with fail;refine(aL.out _ (by repeat(first|exact j.out|exact g.out|refine Ab ?_ _))).mono ?_;rintro m w' ⟨x,n8,rfl⟩;rw[dF Q.out]at x;subst x;go_wp2_with fail;go_ret;exact⟨Ac s.out.symm,(by repeat(first|exact j.out|exact g.out|refine Ab ?_ _))⟩
    ·have s:Hid (decide (p=r/\(true:Bool)=true/\K=N/\L=O/\M=P)=false):=Hd (dF (fun h=>y h.2.2.2.1));have o:=Hd q;have z:=Hd y;clear k0 q y;go_in;go_wp2_with fail;refine(v.out _ g.out).mono ?_;rintro m n ⟨rfl,a⟩;have i:=t.out.below a (by simp;omega);have f:=u.out.below a (by simp);have E:=i.cell 7;have F:=i.cell 8;have G:=i.cell 9;have H:=f.cell 7;have I:=f.cell 8;have J:=f.cell 9;simp only[bY,bZ,cA]at E F G H I J;have j:=Hd (g.out.trans (a.mono (by simp;omega)));have k:=a.size;simp only[World.alloc,dU]at k;have B:w.heap.size<n.heap.size:=(by omega);have C:w.heap.size+1<n.heap.size:=(by omega);clear i f a k;go_wp2_with fail;refine(A.out _ (by repeat(first|exact j.out|exact g.out|refine Ab ?_ _)) true (dT o.out)).mono ?_;rintro m w' ⟨rfl,n6,rfl⟩;go_wp2_with fail;refine(R.out _ (by repeat(first|exact j.out|exact g.out|refine Ab ?_ _)) false (dF z.out)).mono ?_;rintro m w' ⟨rfl,n7,rfl⟩;go_wp2_with fail;go_ret;exact⟨Ac s.out.symm,(by repeat(first|exact j.out|exact g.out|refine Ab ?_ _))⟩
   ·have s:Hid (decide (p=r/\(true:Bool)=true/\K=N/\L=O/\M=P)=false):=Hd (dF (fun h=>q h.2.2.1));have o:=Hd q;clear k0 q;go_in;go_wp2_with fail;refine(v.out _ g.out).mono ?_;rintro m n ⟨rfl,a⟩;have i:=t.out.below a (by simp;omega);have f:=u.out.below a (by simp);have E:=i.cell 7;have F:=i.cell 8;have G:=i.cell 9;have H:=f.cell 7;have I:=f.cell 8;have J:=f.cell 9;simp only[bY,bZ,cA]at E F G H I J;have j:=Hd (g.out.trans (a.mono (by simp;omega)));have k:=a.size;simp only[World.alloc,dU]at k;have B:w.heap.size<n.heap.size:=(by omega);have C:w.heap.size+1<n.heap.size:=(by omega);clear i f a k;go_wp2_with fail;refine(A.out _ (by repeat(first|exact j.out|exact g.out|refine Ab ?_ _)) false (dF o.out)).mono ?_;rintro m w' ⟨rfl,n6,rfl⟩;go_wp2_with fail;go_ret;exact⟨Ac s.out.symm,(by repeat(first|exact j.out|exact g.out|refine Ab ?_ _))⟩
  |false=>
   have s:Hid (decide (p=r/\(false:Bool)=true/\K=N/\L=O/\M=P)=false):=Hd (dF (fun h=>by simp at h));clear k0;go_in;go_wp2_with fail;refine(v.out _ g.out).mono ?_;rintro m n ⟨rfl,a⟩;have i:=t.out.below a (by simp;omega);have f:=u.out.below a (by simp);have E:=i.cell 7;have F:=i.cell 8;have G:=i.cell 9;have H:=f.cell 7;have I:=f.cell 8;have J:=f.cell 9;simp only[bY,bZ,cA]at E F G H I J;have j:=Hd (g.out.trans (a.mono (by simp;omega)));have k:=a.size;simp only[World.alloc,dU]at k;have B:w.heap.size<n.heap.size:=(by omega);have C:w.heap.size+1<n.heap.size:=(by omega);clear i f a k;go_wp2_with fail;go_ret;exact⟨Ac s.out.symm,(by repeat(first|exact j.out|exact g.out|refine Ab ?_ _))⟩
 ·have t0:((p:Int)==(r:Int))=false:=(by rw[qN];omega);have s:Hid (decide (p=r/\sl=true/\K=N/\L=O/\M=P)=false):=Hd (dF (fun h=>k0 h.1));clear k0;go_in;go_wp2_with fail;go_ret;exact⟨Ac s.out.symm,g.out⟩
end Go.Proofs.YtfofaiommeckbaaGreat
namespace Go.Proofs.YtfofaiommeckbaaGreat
open Go.RowKit WalkM
def Tk (y:Int):Int:=2^(Kq y).toNat-1
def Bu (x y:Int):Bool:=Bd x&&Bd y&&decide (y-Tk y<=x/\x<=y+Tk y)
theorem Cr (x y:Int)(w:World):
  Calls prog 192 #[rE rG x,rE rG y] w fun e w'=>e=rM (.bool (Bu x y))/\w=w':=by
 have N:=Mc x
 by_cases hx:Bd x=true
 ·rw[hx]at N;have f:=Hd N;have M:=Mc y;clear N
  by_cases hy:Bd y=true
  ·rw[hy]at M;have i:=Hd M;have e:Bu x y=decide (y-Tk y<=x/\x<=y+Tk y):=(by rw[Bu,hx,hy];rfl);rw[e];have B:=oD hx;have C:=oD hy;clear hx hy e M;obtain⟨m,rfl⟩:∃m:Nat,y=(m:Int):=⟨y.toNat,by omega⟩;have n:m<=131070:=(by omega);have L:=Nd (m:Int);have q:Tk (m:Int)=2^(lev m)-1:=(by rw[Tk,Gz n,cD]);rw[q];rw[Gz n]at L;have t:=lev_le n;obtain⟨l,g⟩:∃l,l=lev m:=⟨_,rfl⟩;rw[<-g]at L t|-;have o:=Hd L;have u:=Ar (show l<=16 by omega);have v:=two_pow_pos l;have j:(2:Int)^l=((2^l:Nat):Int):=(by simp);rw[j];have k:=Md (show l<=17 by omega);rw[j]at k;obtain⟨p,r⟩:=eX (2^l);rw[<-r]at u v k j|-;have A:=Hd k;have z:=Hd j;clear g L q r
   by_cases ha:(m:Int)-((p:Int)-1)<=x
   ·have e:decide ((m:Int)-((p:Int)-1)<=x/\x<=(m:Int)+((p:Int)-1))=decide (x<=(m:Int)+((p:Int)-1)):=by
     by_cases a:x<=(m:Int)+((p:Int)-1)
     ·rw[dT ⟨ha,a⟩,dT a]
     ·rw[dF (fun h=>a h.2),dF a]
    rw[e];clear e;obtain⟨b,a⟩:=eX (decide (x<=(m:Int)+((p:Int)-1)));rw[<-a];have s:=Hd a;clear a;go_in;go_wp2_with fail;refine(f.out _).mono ?_;rintro e w' ⟨rfl,rfl⟩;go_wp2_with fail;refine(i.out _).mono ?_;rintro e w' ⟨rfl,rfl⟩;go_wp2_with fail;refine(o.out _).mono ?_;rintro e w' ⟨rfl,rfl⟩;go_wp2_with fail;go_ret;exact⟨Ac s.out.symm,rfl⟩
   ·rw[dF (fun h=>ha h.1)];go_in;go_wp2_with fail;refine(f.out _).mono ?_;rintro e w' ⟨rfl,rfl⟩;go_wp2_with fail;refine(i.out _).mono ?_;rintro e w' ⟨rfl,rfl⟩;go_wp2_with fail;refine(o.out _).mono ?_;rintro e w' ⟨rfl,rfl⟩;go_wp2_with fail;go_ret;exact⟨rfl,rfl⟩
  ·have d:Bd y=false:=(by rw[<-cF];exact hy);rw[d]at M;have i:=Hd M;have e:Bu x y=false:=(by rw[Bu,d,Bool.and_false,dQ]);rw[e];clear hx hy d e M;go_in;go_wp2_with fail;refine(f.out _).mono ?_;rintro e w' ⟨rfl,rfl⟩;go_wp2_with fail;refine(i.out _).mono ?_;rintro e w' ⟨rfl,rfl⟩;go_wp2_with fail;go_ret;exact⟨rfl,rfl⟩
 ·have c:Bd x=false:=(by rw[<-cF];exact hx);rw[c]at N;have f:=Hd N;have e:Bu x y=false:=(by rw[Bu,c,dQ,dQ]);rw[e];clear hx c e N;go_in;go_wp2_with fail;refine(f.out _).mono ?_;rintro e w' ⟨rfl,rfl⟩;go_wp2_with fail;go_ret;exact⟨rfl,rfl⟩
theorem Rb {x d:Nat}(hd:d<=16):Kp (x:Int) ((2^d:Nat):Int)=decide (x+1<2^(d+1)):=by
 have hf:fits (2^d)=true:=(fits_iff _).2 ⟨d,hd,rfl⟩;have hp:=pow_pos' d;rw[Kp,cD,hf,dM,aN];generalize 2^d=p at*
 by_cases h:x+1<p*2
 ·rw[dT h,dT];omega
 ·rw[dF h,dF];omega
def nxt (x d j:Nat):Int:=if j<d then((anc x (j+1):Nat):Int)else-1
theorem Mh {x d:Nat}(c:d<=16)(hx:x+1<2^(d+1)):Kt (x:Int) ((2^d:Nat):Int)=nxt x d (lev x):=by
 have b:=Ar (show d+1<=17 by omega);have a:=lev_root hx (lev_is (by omega));have f:=pow_pos' d;unfold Kt nxt;rw[Rb c,dT hx,cD]
 by_cases h:lev x<d
 ·rw[iP h,iP];refine⟨rfl,fun e=> ?_⟩;have:x=2^d-1:=(by omega);have:=a.2.2 this;omega
 ·rw[iN h,iN];rintro⟨_,e⟩;apply e;have:=a.2.1 (by omega);omega
theorem Yv {x d j:Nat}(hd:d<=16)(hx:x+1<2^(d+1))(hj:j<=d):Kt ((anc x j:Nat):Int) ((2^d:Nat):Int)=nxt x d j:=by
 have h17:=Ar (show d+1<=17 by omega);have hle:=anc_le (show x<2^(d+1) by omega) hj;rw[Mh hd hle,lev_eq (by omega) (anc_lev x j)];unfold nxt;rw[anc_anc (by omega)]
def ups (x:Nat):Nat->Nat->List Nat
 |_,0=>[]
 |j,k+1=>anc x (j+1)::ups x (j+1) k
theorem Rc (x:Nat):∀k j,(ups x j k).length=k:=by
 intro k
 induction k with
 |zero=>intro j;rfl
 |succ k ih=>intro j;simp[ups,ih]
theorem Yw (x:Nat):∀k j,ups x j (k+1)=ups x j k++[anc x (j+k+1)]:=by
 intro k
 induction k with
 |zero=>intro j;rfl
 |succ k ih=>
  intro j;rw[ups,ih,ups];simp only[List.cons_append];rw[show j+1+k+1=j+(k+1)+1 by omega]
def nvs (L:List Nat):List Value:=ivs .i64 (L.map fun(n:Nat)=>(n:Int))
theorem Vw (L:List Nat):(nvs L).length=L.length:=by simp[nvs,ivs]
theorem Yx (L:List Nat)(x:Nat):nvs (L++[x])=nvs L++[rE rG (x:Int)]:=by simp[nvs,ivs]
theorem He:Elem prog 48 3 (rE rG 0) 8:=⟨underlying48,by kernel_rfl,rfl,by omega⟩
theorem Zhn (x d:Nat)(C:d<=16)(hx:x+1<2^(d+1))(w:World):
  Calls prog 269 #[rE rG x,rE rG ((2^d:Nat):Int)] w fun e w'=>∃v,e=rM v/\Own w' w.heap.size 3 v (nvs (ups x (lev x) (d-lev x)))/\Below w.heap.size w w':=by
 have z:=Ar (show d+1<=17 by omega);have m:=Ar C;have M:=(lev_root hx (lev_is (by omega))).1;have u:=fun w=>Ph x ((2^d:Nat):Int) w (by omega) (by omega);rw[Mh C hx]at u;have H:∀j,j<=d->∀w,Calls prog 288 #[rE rG (anc x j:Nat),rE rG ((2^d:Nat):Int)] w fun e w'=>e=rM (rE rG (nxt x d j))/\∃k,w'=w.drewN k:=by
  intro j L w;have:=Ph (anc x j:Nat) ((2^d:Nat):Int) w (by omega) (by omega);rw[Yv C hx L]at this;exact this
 have g:=Hd u;have h:=Hd H;obtain⟨l,p⟩:∃l,l=lev x:=⟨_,rfl⟩;rw[<-p]at g M|-;obtain⟨n,q⟩:=eX (2^d);have O:=Hd hx;have N:=Hd q;have I:n<=65536:=(by rw[q];exact m);rw[<-q]at g h|-;clear u H p hx q z m;go_in;go_wp2_with fail;refine(g.out _).mono ?_;rintro e w' ⟨rfl,k,rfl⟩;go_wp2_with fail
 go_loopg [0,5] (d-l) (fun k y r wr=>∃i:Nat,i+k=d-l/\y=rE rG (nxt x d (l+i))/\Own wr w.heap.size 3 r (nvs (ups x l i))/\Below w.heap.size w wr)
 case atStart=>exact⟨0,by omega,rfl,Own.nil _ _ _,Ab bR _⟩
 case round=>
  obtain⟨i,P,rfl,f,b⟩:=hrel;have G:=Hd f;have F:=Hd b;have E:=b.size;clear f b
  by_cases hlt:l+i<d
  ·rw[nxt,iP hlt];have A:=h.out (l+i+1) (by omega);obtain⟨a,B⟩:=eX (anc x (l+i+1));rw[<-B]at A|-;have J:=Hd B;have K:=Hd A;clear B A;go_wp2_with (at_builtin;refine Bq rfl (.tmp 14) (.tmp 16) 48 rfl w.heap.size 3 _ 8 He _ _ rfl (G.out.alloc _) ⟨wr.heap.size,0,rJ⟩ (rE rG (a:Int)) rfl ?c1 rfl ?c2 ?c3 ?_);case c1=>exact Bi rfl
   case c2=>rw[Vw,Rc];omega
   case c3=>simp;omega
   rintro R S c D o;clear D;have t:=Hd c;have s:=Hd o;clear c o;go_wp2_with fail;refine(K.out _).mono ?_;rintro e w' ⟨rfl,Q,rfl⟩;go_wp2_with fail;go_roundg (gk-1);case measure=>omega
   case rel=>
    refine⟨i+1,by omega,by rw[Nat.add_assoc],?_,?_⟩
    ·rw[Yw,Yx,<-J.out];exact t.out.drewN _
    ·exact Ab ((F.out.alloc E _).trans s.out) _
  ·rw[nxt,iN hlt];obtain rfl:i=d-l:=(by omega);go_wp2_with fail;go_ret;exact⟨_,rfl,G.out,F.out⟩
theorem Mi {x n:Int}(h:Kp x n=true):∃m d:Nat,x=(m:Int)/\n=((2^d:Nat):Int)/\d<=16/\m+1<2^(d+1):=by
 have hb:=Zdb h;unfold Kp at h;rw[cK]at h;obtain⟨d,hd,e⟩:=(fits_iff _).1 h.1;refine⟨x.toNat,d,by omega,by omega,hd,?_⟩;rw[aN];omega
def Re (x n:Int):List Nat:=if Kp x n=true then ups x.toNat (lev x.toNat) (Nat.log2 n.toNat-lev x.toNat)else []
theorem Mj {x d:Nat}(hd:d<=16)(hx:x+1<2^(d+1)):Re (x:Int) ((2^d:Nat):Int)=ups x (lev x) (d-lev x):=by
 rw[Re,iP (by rw[Rb hd,dT hx]),cD,cD,Nat.log2_two_pow]
theorem Zdd {x n:Int}(h:Kp x n=false):Re x n=[]:=by rw[Re,iN (by rw[h];simp)]
theorem Tl (n:Int)(w:World):
  Calls prog 69 #[rE rG n] w fun e w'=>e=rM (.bool (fits n.toNat))/\w=w':=by
 go_in;go_wp2_with fail
 go_loopg [3] 17 (fun k i wr=>∃d:Nat,d+k=17/\i=rE rG ((2^d:Nat):Int)/\(∀e,e<d->n≠((2^e:Nat):Int))/\wr=w)
 case atStart=>exact⟨0,rfl,rfl,fun e h=>absurd h (by omega),rfl⟩
 case round=>
  obtain⟨d,v,rfl,g,rfl⟩:=hrel;have b:=Hd g;clear g
  by_cases h17:d=17
  ·subst h17;have f:fits n.toNat=false:=by
    rw[<-cF];intro h;obtain⟨e,t,h⟩:=(fits_iff _).1 h;have j:=pow_pos' e;exact b.out e (by omega) (by omega)
   have l:=Hd f;clear f;have q:((2^17:Nat):Int)=131072:=(by decide);rw[q];go_wp2_with fail;go_ret;exact⟨Ac l.out.symm,rfl⟩
  ·have a:d<=16:=(by omega);have r:=Ar a;have c:2^(d+1)=2*2^d:=(by rw[aN];omega);obtain⟨p,j⟩:=eX (2^d);have s:=Hd c;have o:=Hd j;rw[<-j]at r|-;clear c j h17
   by_cases hn:n=(p:Int)
   ·subst hn;have f:fits (p:Int).toNat=true:=(by rw[cD,o.out];exact(fits_iff _).2 ⟨d,a,rfl⟩);have l:=Hd f;clear f;go_wp2_with fail;go_ret;exact⟨Ac l.out.symm,rfl⟩
   ·have u:((p:Int)==n)=false:=(by rw[qN];omega);have m:=Hd hn;clear hn;go_wp2_with fail;go_roundg (gk-1);case measure=>omega
    case rel=>
     refine⟨d+1,by omega,by rw[s.out,<-o.out];go_num,?_,rfl⟩;intro e t
     by_cases h:e=d
     ·subst h;rw[<-o.out];exact m.out
     ·exact b.out e (by omega)
end Go.Proofs.YtfofaiommeckbaaGreat
namespace Go.Proofs.YtfofaiommeckbaaGreat
open Go.RowKit WireM
theorem Mk (L:List Int):∀u∈ivs .i64 L,u.oneCell'=true:=by
 intro u hu;simp only[ivs,List.mem_map]at hu;obtain⟨n,_,rfl⟩:=hu
 rfl
theorem Zbc (v:Value)(L:List Int)(w:World)(h:Rd w v (ivs .i64 L))(o:L.length<1099511627776):
  Calls prog 130 #[v] w fun e w'=>∃g,e=rM g/\Own w' w.heap.size 3 g (ivs .i64 L)/\Below w.heap.size w w':=by
 have f:(ivs .i64 L).length=L.length:=Dh .i64 L;have d:=Mk L;rcases h.nilOr with rfl|⟨a,cap,rfl⟩
 ·have i:ivs .i64 L=[]:=by
   obtain⟨a,cap,e,_⟩:=h;simp only[Value.slice.injEq]at e;exact List.eq_nil_of_length_eq_zero e.2.1.symm
  rw[i];clear h i f d;have q:∀w,(binOp .eql 48 (rD rJ 0 0) (rD rJ 0 0)).run prog w=.ok (.bool true) w:=fun w=>Lib.run_eql_slice_nil w _ 3 none 0 0 0 0 underlying48;go_in;go_wp2_with fail;go_ret;exact⟨_,rfl,Own.nil _ _ _,bR⟩
 ·obtain⟨xs,c⟩:=eX (ivs .i64 L);rw[<-c]at h d f|-;have hx:xs.length<1099511627776:=(by omega);have n:=Hd h;have k:=Hd d;clear h d f c o;have q:∀w,(binOp .eql 48 (.slice (some a) xs.length cap) (rD rJ 0 0)).run prog w=.ok (.bool false) w:=fun w=>Lib.run_eql_slice_nil w _ 3 (some a) _ _ 0 0 underlying48;go_in;go_wp2_with (at_builtin;refine An rfl (.tmp 5) (.tmp 6) 48 rfl w.heap.size 3 _ 8 He _ [] rfl (Own.lit0 rfl lR) _ xs rfl (n.out.alloc _) k.out ?c2 ?c3 ?_);case c2=>simpa using hx
  case c3=>simp
  rintro g p b-j;have m:=Hd b;have l:=Hd j;clear b j;go_wp2_with fail;go_ret;exact⟨_,rfl,m.out,(bR.alloc lR _).trans l.out⟩
theorem Own.ne_blk {w:World} {B g:Nat} {e t:TypeId} {v:Value} {xs:List Value} {cs:Array Value}(h:Own w B e v xs)(a:Blk w g t cs)(b:e≠t):v.ownBlock≠some g:=by
 intro c;rcases h.2 with⟨rfl,_⟩|⟨j,i,d,rfl,k,f,_⟩
 ·simp[Value.ownBlock]at c
 ·simp[Value.ownBlock]at c;subst c;rw[Blk]at a;rw[f]at a;simp at a;exact b a.2
def LeafO (w:World)(B:Nat)(d:LeafD)(c:Array Value):Prop:=
 ∃c0 c1 c2 c3 c4,c=#[c0,c1,c2,rE rH (d.source:Nat),c3,c4]/\Own w B 5 c0 (bvs d.box)/\Own w B 5 c1 (bvs d.sign)/\Own w B 5 c2 (bvs d.ident)/\Own w B 5 c3 (bvs d.par)/\Own w B 5 c4 (bvs d.sig)
def LfJ (B g p r:Nat)(d:LeafD)(o0 o1 o2 o3 o4:Value)(Z:Array Value)(i:Nat)(w:World):Prop:=
 ∃c0 c1 c2 c3 c4:Value,Blk w g 44 #[c0,c1,c2,rE rH (d.source:Nat),c3,c4]/\Blk w p 217 #[rF (some ⟨g,0,rJ⟩),rF (some ⟨g,1,rJ⟩),rF (some ⟨g,2,rJ⟩),rF (some ⟨g,4,rJ⟩),rF (some ⟨g,5,rJ⟩)]/\Blk w r 44 Z/\
  (if 0<i then Own w B 5 c0 (bvs d.box)else c0=o0)/\(if 1<i then Own w B 5 c1 (bvs d.sign)else c1=o1)/\(if 2<i then Own w B 5 c2 (bvs d.ident)else c2=o2)/\(if 3<i then Own w B 5 c3 (bvs d.par)else c3=o3)/\(if 4<i then Own w B 5 c4 (bvs d.sig)else c4=o4)
theorem Da {w:World} {B:Nat} {e:TypeId} {v:Value} {xs:List Value}(h:Own w B e v xs):∃a n c,v=.slice a n c:=by
 obtain⟨a,c,e,_⟩:=h.rd;exact⟨_,_,_,e⟩
theorem Tm (d:LeafD)(c:Array Value)(w:World)(h:Zbb w d c)(aT:d.box.length<1000000/\d.sign.length<1000000/\d.ident.length<1000000/\d.par.length<1000000/\d.sig.length<1000000):
  Calls prog 129 #[.agg c] w fun e w'=>∃c',e=rM (.agg c')/\LeafO w' w.heap.size d c'/\Below w.heap.size w w':=by
 obtain⟨N,c1,O,c2,P,c3,Q,c4,R,c5,rfl,h1,h2,h3,h4,h5⟩:=h;have C1:=Hd (fun(W:World) (hw:Below w.heap.size w W)=>Ck _ d.box W (h1.below hw lR) (by omega));have C2:=Hd (fun(W:World) (hw:Below w.heap.size w W)=>Ck _ d.sign W (h2.below hw lR) (by omega));have C3:=Hd (fun(W:World) (hw:Below w.heap.size w W)=>Ck _ d.ident W (h3.below hw lR) (by omega));have C4:=Hd (fun(W:World) (hw:Below w.heap.size w W)=>Ck _ d.par W (h4.below hw lR) (by omega));have C5:=Hd (fun(W:World) (hw:Below w.heap.size w W)=>Ck _ d.sig W (h5.below hw lR) (by omega));obtain⟨S,aG⟩:=eX d.box.length;obtain⟨T,aH⟩:=eX d.sign.length;obtain⟨U,aI⟩:=eX d.ident.length;obtain⟨V,aJ⟩:=eX d.par.length;obtain⟨X,aK⟩:=eX d.sig.length;obtain⟨s,K⟩:=eX d.source;rw[<-aG,<-aH,<-aI,<-aJ,<-aK,<-K];rw[<-aG]at C1;rw[<-aH]at C2;rw[<-aI]at C3;rw[<-aJ]at C4;rw[<-aK]at C5;have HS:=Hd K;clear h1 h2 h3 h4 h5 aG aH aI aJ aK K aT;go_in;go_wp2_with fail;obtain⟨wz,C⟩:=eX (((w.alloc (rK #[rD N S c1,rD O T c2,rD P U c3,rE rH (s:Nat),rD Q V c4,rD R X c5] 44)).alloc (rK #[rD rJ 0 0,rD rJ 0 0,rD rJ 0 0,rE rH 0,rD rJ 0 0,rD rJ 0 0] 44)).alloc (rK #[rF (some ⟨w.heap.size,0,rJ⟩),rF (some ⟨w.heap.size,1,rJ⟩),rF (some ⟨w.heap.size,2,rJ⟩),rF (some ⟨w.heap.size,4,rJ⟩),rF (some ⟨w.heap.size,5,rJ⟩)] 217));have hA:=(Below.refl w.heap.size w).alloc lR (rK #[rD N S c1,rD O T c2,rD P U c3,rE rH (s:Nat),rD Q V c4,rD R X c5] 44);have B0:=Hd (show Blk wz w.heap.size 44 #[rD N S c1,rD O T c2,rD P U c3,rE rH (s:Nat),rD Q V c4,rD R X c5] by rw[C];exact((Blk.new w _ _).alloc _).alloc _);have B1:=Hd (show Blk wz (w.heap.size+1) 44 #[rD rJ 0 0,rD rJ 0 0,rD rJ 0 0,rE rH 0,rD rJ 0 0,rD rJ 0 0] by
  have h1:=Blk.new (w.alloc (rK #[rD N S c1,rD O T c2,rD P U c3,rE rH (s:Nat),rD Q V c4,rD R X c5] 44)) 44 #[rD rJ 0 0,rD rJ 0 0,rD rJ 0 0,rE rH 0,rD rJ 0 0,rD rJ 0 0];have h2:Blk ((w.alloc (rK #[rD N S c1,rD O T c2,rD P U c3,rE rH (s:Nat),rD Q V c4,rD R X c5] 44)).alloc (rK #[rD rJ 0 0,rD rJ 0 0,rD rJ 0 0,rE rH 0,rD rJ 0 0,rD rJ 0 0] 44)) (w.heap.size+1) 44 #[rD rJ 0 0,rD rJ 0 0,rD rJ 0 0,rE rH 0,rD rJ 0 0,rD rJ 0 0]:=(by simpa using h1);rw[C];exact h2.alloc _)
 have B2:=Hd (show Blk wz (w.heap.size+1+1) 217 #[rF (some ⟨w.heap.size,0,rJ⟩),rF (some ⟨w.heap.size,1,rJ⟩),rF (some ⟨w.heap.size,2,rJ⟩),rF (some ⟨w.heap.size,4,rJ⟩),rF (some ⟨w.heap.size,5,rJ⟩)] by rw[C];have:=Blk.new ((w.alloc (rK #[rD N S c1,rD O T c2,rD P U c3,rE rH (s:Nat),rD Q V c4,rD R X c5] 44)).alloc (rK #[rD rJ 0 0,rD rJ 0 0,rD rJ 0 0,rE rH 0,rD rJ 0 0,rD rJ 0 0] 44)) 217 #[rF (some ⟨w.heap.size,0,rJ⟩),rF (some ⟨w.heap.size,1,rJ⟩),rF (some ⟨w.heap.size,2,rJ⟩),rF (some ⟨w.heap.size,4,rJ⟩),rF (some ⟨w.heap.size,5,rJ⟩)];simpa using this);have aN:=Hd (show Below w.heap.size w wz by rw[C];exact(hA.alloc hA.size _).alloc (hA.alloc hA.size _).size _);have aO:=Hd (show LfJ w.heap.size w.heap.size (w.heap.size+1+1) (w.heap.size+1) d (rD N S c1) (rD O T c2) (rD P U c3) (rD Q V c4) (rD R X c5) #[rD rJ 0 0,rD rJ 0 0,rD rJ 0 0,rE rH 0,rD rJ 0 0,rD rJ 0 0] 0 wz from⟨_,_,_,_,_,by rw[<-HS.out];exact B0.out,B2.out,B1.out,by simp,by simp,by simp,by simp,by simp⟩);rw[<-C];clear C hA B0 B1 B2
 go_loopg [12] 5 (fun q iv wr=>∃i:Nat,i+q=5/\iv=rE rG (i:Nat)/\LfJ w.heap.size w.heap.size (w.heap.size+1+1) (w.heap.size+1) d (rD N S c1) (rD O T c2) (rD P U c3) (rD Q V c4) (rD R X c5) #[rD rJ 0 0,rD rJ 0 0,rD rJ 0 0,rE rH 0,rD rJ 0 0,rD rJ 0 0] i wr/\Below w.heap.size w wr)
 case atStart=>exact⟨0,rfl,rfl,aO.out,aN.out⟩
 case round=>
  obtain⟨i,hi,rfl,hJ,hb⟩:=hrel;have k:=Hd hb;obtain⟨x0,x1,x2,x3,x4,bg,bp,br,n,t,u,y,A⟩:=hJ;have D:=Hd bg;have M:=Hd bp;have HR:=Hd br;have H:w.heap.size<wr.heap.size:=bg.lt;have I:w.heap.size+1+1<wr.heap.size:=bp.lt;have J:w.heap.size+1<wr.heap.size:=br.lt;rcases(show i=0\/i=1\/i=2\/i=3\/i=4\/i=5 by omega)with rfl|rfl|rfl|rfl|rfl|rfl
  ·have m:gk=5:=(by omega);have r:((0:Nat):Int)=0:=rfl;rw[r];clear r;rw[iN (by omega)]at n;subst n;rw[iN (by omega)]at t;subst t;rw[iN (by omega)]at u;subst u;rw[iN (by omega)]at y;subst y;rw[iN (by omega)]at A;subst A;have kp:wr.cell? ⟨w.heap.size+1+1,0,rJ⟩=some (rF (some ⟨w.heap.size,0,rJ⟩)):=M.out.cell 0;have kc:wr.cell? ⟨w.heap.size,0,rJ⟩=some (rD N S c1):=D.out.cell 0;clear hi hb bg bp br;go_wp2_with fail;refine(C1.out wr k.out).mono ?_;rintro e B ⟨v2,rfl,f,b⟩;have g:=Hd (D.out.below b H);have Y:=Hd (M.out.below b I);have Z:=Hd (HR.out.below b J);have z:=Hd (f.mono k.out.size);have l:=Hd (k.out.trans (b.mono k.out.size));have aA:B.cell? ⟨w.heap.size,0,rJ⟩=some (rD N S c1):=g.out.cell 0;have aB:B.frozen? ⟨w.heap.size,0,rJ⟩=false:=g.out.frozen 0;obtain⟨y1,y2,y3,rfl⟩:=Da f;clear f b;go_wp2_with fail;subst m;go_roundg 4;case measure=>omega
   case rel=>
    refine⟨1,rfl,rfl,⟨_,_,_,_,_,g.out.set 0 _,Y.out.far (show w.heap.size+1+1≠w.heap.size by omega) _,Z.out.far (show w.heap.size+1≠w.heap.size by omega) _,?_,?_,?_,?_,?_⟩,l.out.setCell (p:=⟨w.heap.size,0,rJ⟩) lR _⟩
    ·rw[iP (by omega)];exact z.out.setOther (a:=⟨w.heap.size,0,rJ⟩) (z.out.ne_blk g.out (by decide)) _
    ·rw[iN (by omega)]
    ·rw[iN (by omega)]
    ·rw[iN (by omega)]
    ·rw[iN (by omega)]
  ·have m:gk=4:=(by omega);have r:((1:Nat):Int)=1:=rfl;rw[r];clear r;rw[iP (by omega)]at n;have x:=Hd n;rw[iN (by omega)]at t;subst t;rw[iN (by omega)]at u;subst u;rw[iN (by omega)]at y;subst y;rw[iN (by omega)]at A;subst A;have kp:wr.cell? ⟨w.heap.size+1+1,1,rJ⟩=some (rF (some ⟨w.heap.size,1,rJ⟩)):=M.out.cell 1;have kc:wr.cell? ⟨w.heap.size,1,rJ⟩=some (rD O T c2):=D.out.cell 1;clear hi hb bg bp br n;go_wp2_with fail;refine(C2.out wr k.out).mono ?_;rintro e B ⟨v2,rfl,f,b⟩;have g:=Hd (D.out.below b H);have Y:=Hd (M.out.below b I);have Z:=Hd (HR.out.below b J);have z:=Hd (f.mono k.out.size);have l:=Hd (k.out.trans (b.mono k.out.size));have j:=Hd (x.out.below b lR);have aA:B.cell? ⟨w.heap.size,1,rJ⟩=some (rD O T c2):=g.out.cell 1;have aB:B.frozen? ⟨w.heap.size,1,rJ⟩=false:=g.out.frozen 1;obtain⟨y1,y2,y3,rfl⟩:=Da f;clear f b;go_wp2_with fail;subst m;go_roundg 3;case measure=>omega
   case rel=>
    refine⟨2,rfl,rfl,⟨x0,_,_,_,_,g.out.set 1 _,Y.out.far (show w.heap.size+1+1≠w.heap.size by omega) _,Z.out.far (show w.heap.size+1≠w.heap.size by omega) _,?_,?_,?_,?_,?_⟩,l.out.setCell (p:=⟨w.heap.size,1,rJ⟩) lR _⟩
    ·rw[iP (by omega)];exact j.out.setOther (a:=⟨w.heap.size,1,rJ⟩) (j.out.ne_blk g.out (by decide)) _
    ·rw[iP (by omega)];exact z.out.setOther (a:=⟨w.heap.size,1,rJ⟩) (z.out.ne_blk g.out (by decide)) _
    ·rw[iN (by omega)]
    ·rw[iN (by omega)]
    ·rw[iN (by omega)]
  ·have m:gk=3:=(by omega);have r:((2:Nat):Int)=2:=rfl;rw[r];clear r;rw[iP (by omega)]at n;have x:=Hd n;rw[iP (by omega)]at t;have F:=Hd t;rw[iN (by omega)]at u;subst u;rw[iN (by omega)]at y;subst y;rw[iN (by omega)]at A;subst A;have kp:wr.cell? ⟨w.heap.size+1+1,2,rJ⟩=some (rF (some ⟨w.heap.size,2,rJ⟩)):=M.out.cell 2;have kc:wr.cell? ⟨w.heap.size,2,rJ⟩=some (rD P U c3):=D.out.cell 2;clear hi hb bg bp br n t;go_wp2_with fail;refine(C3.out wr k.out).mono ?_;rintro e B ⟨v2,rfl,f,b⟩;have g:=Hd (D.out.below b H);have Y:=Hd (M.out.below b I);have Z:=Hd (HR.out.below b J);have z:=Hd (f.mono k.out.size);have l:=Hd (k.out.trans (b.mono k.out.size));have j:=Hd (x.out.below b lR);have o:=Hd (F.out.below b lR);have aA:B.cell? ⟨w.heap.size,2,rJ⟩=some (rD P U c3):=g.out.cell 2;have aB:B.frozen? ⟨w.heap.size,2,rJ⟩=false:=g.out.frozen 2;obtain⟨y1,y2,y3,rfl⟩:=Da f;clear f b;go_wp2_with fail;subst m;go_roundg 2;case measure=>omega
   case rel=>
    refine⟨3,rfl,rfl,⟨x0,x1,_,_,_,g.out.set 2 _,Y.out.far (show w.heap.size+1+1≠w.heap.size by omega) _,Z.out.far (show w.heap.size+1≠w.heap.size by omega) _,?_,?_,?_,?_,?_⟩,l.out.setCell (p:=⟨w.heap.size,2,rJ⟩) lR _⟩
    ·rw[iP (by omega)];exact j.out.setOther (a:=⟨w.heap.size,2,rJ⟩) (j.out.ne_blk g.out (by decide)) _
    ·rw[iP (by omega)];exact o.out.setOther (a:=⟨w.heap.size,2,rJ⟩) (o.out.ne_blk g.out (by decide)) _
    ·rw[iP (by omega)];exact z.out.setOther (a:=⟨w.heap.size,2,rJ⟩) (z.out.ne_blk g.out (by decide)) _
    ·rw[iN (by omega)]
    ·rw[iN (by omega)]
  ·have m:gk=2:=(by omega);have r:((3:Nat):Int)=3:=rfl;rw[r];clear r;rw[iP (by omega)]at n;have x:=Hd n;rw[iP (by omega)]at t;have F:=Hd t;rw[iP (by omega)]at u;have aF:=Hd u;rw[iN (by omega)]at y;subst y;rw[iN (by omega)]at A;subst A;have kp:wr.cell? ⟨w.heap.size+1+1,3,rJ⟩=some (rF (some ⟨w.heap.size,4,rJ⟩)):=M.out.cell 3;have kc:wr.cell? ⟨w.heap.size,4,rJ⟩=some (rD Q V c4):=D.out.cell 4;clear hi hb bg bp br n t u;go_wp2_with fail;refine(C4.out wr k.out).mono ?_;rintro e B ⟨v2,rfl,f,b⟩;have g:=Hd (D.out.below b H);have Y:=Hd (M.out.below b I);have Z:=Hd (HR.out.below b J);have z:=Hd (f.mono k.out.size);have l:=Hd (k.out.trans (b.mono k.out.size));have j:=Hd (x.out.below b lR);have o:=Hd (F.out.below b lR);have E:=Hd (aF.out.below b lR);have aA:B.cell? ⟨w.heap.size,4,rJ⟩=some (rD Q V c4):=g.out.cell 4;have aB:B.frozen? ⟨w.heap.size,4,rJ⟩=false:=g.out.frozen 4;obtain⟨y1,y2,y3,rfl⟩:=Da f;clear f b;go_wp2_with fail;subst m;go_roundg 1;case measure=>omega
   case rel=>
    refine⟨4,rfl,rfl,⟨x0,x1,x2,_,_,g.out.set 4 _,Y.out.far (show w.heap.size+1+1≠w.heap.size by omega) _,Z.out.far (show w.heap.size+1≠w.heap.size by omega) _,?_,?_,?_,?_,?_⟩,l.out.setCell (p:=⟨w.heap.size,4,rJ⟩) lR _⟩
    ·rw[iP (by omega)];exact j.out.setOther (a:=⟨w.heap.size,4,rJ⟩) (j.out.ne_blk g.out (by decide)) _
    ·rw[iP (by omega)];exact o.out.setOther (a:=⟨w.heap.size,4,rJ⟩) (o.out.ne_blk g.out (by decide)) _
    ·rw[iP (by omega)];exact E.out.setOther (a:=⟨w.heap.size,4,rJ⟩) (E.out.ne_blk g.out (by decide)) _
    ·rw[iP (by omega)];exact z.out.setOther (a:=⟨w.heap.size,4,rJ⟩) (z.out.ne_blk g.out (by decide)) _
    ·rw[iN (by omega)]
  ·have m:gk=1:=(by omega);have r:((4:Nat):Int)=4:=rfl;rw[r];clear r;rw[iP (by omega)]at n;have x:=Hd n;rw[iP (by omega)]at t;have F:=Hd t;rw[iP (by omega)]at u;have aF:=Hd u;rw[iP (by omega)]at y;have aP:=Hd y;rw[iN (by omega)]at A;subst A;have kp:wr.cell? ⟨w.heap.size+1+1,4,rJ⟩=some (rF (some ⟨w.heap.size,5,rJ⟩)):=M.out.cell 4;have kc:wr.cell? ⟨w.heap.size,5,rJ⟩=some (rD R X c5):=D.out.cell 5;clear hi hb bg bp br n t u y;go_wp2_with fail;refine(C5.out wr k.out).mono ?_;rintro e B ⟨v2,rfl,f,b⟩;have g:=Hd (D.out.below b H);have Y:=Hd (M.out.below b I);have Z:=Hd (HR.out.below b J);have z:=Hd (f.mono k.out.size);have l:=Hd (k.out.trans (b.mono k.out.size));have j:=Hd (x.out.below b lR);have o:=Hd (F.out.below b lR);have E:=Hd (aF.out.below b lR);have aL:=Hd (aP.out.below b lR);have aA:B.cell? ⟨w.heap.size,5,rJ⟩=some (rD R X c5):=g.out.cell 5;have aB:B.frozen? ⟨w.heap.size,5,rJ⟩=false:=g.out.frozen 5;obtain⟨y1,y2,y3,rfl⟩:=Da f;clear f b;go_wp2_with fail;subst m;go_roundg 0;case measure=>omega
   case rel=>
    refine⟨5,rfl,rfl,⟨x0,x1,x2,x3,_,g.out.set 5 _,Y.out.far (show w.heap.size+1+1≠w.heap.size by omega) _,Z.out.far (show w.heap.size+1≠w.heap.size by omega) _,?_,?_,?_,?_,?_⟩,l.out.setCell (p:=⟨w.heap.size,5,rJ⟩) lR _⟩
    ·rw[iP (by omega)];exact j.out.setOther (a:=⟨w.heap.size,5,rJ⟩) (j.out.ne_blk g.out (by decide)) _
    ·rw[iP (by omega)];exact o.out.setOther (a:=⟨w.heap.size,5,rJ⟩) (o.out.ne_blk g.out (by decide)) _
    ·rw[iP (by omega)];exact E.out.setOther (a:=⟨w.heap.size,5,rJ⟩) (E.out.ne_blk g.out (by decide)) _
    ·rw[iP (by omega)];exact aL.out.setOther (a:=⟨w.heap.size,5,rJ⟩) (aL.out.ne_blk g.out (by decide)) _
    ·rw[iP (by omega)];exact z.out.setOther (a:=⟨w.heap.size,5,rJ⟩) (z.out.ne_blk g.out (by decide)) _
  ·rw[iP (by omega)]at n t u y A;have r:((5:Nat):Int)=5:=rfl;rw[r];have HQ:=Hd (And.intro n (And.intro t (And.intro u (And.intro y A))));have aD:(#[x0,x1,x2,rE rH (d.source:Nat),x3,x4]:Array Value).toList.all (·.oneCell')=true:=by
    simp only[List.all_cons,List.all_nil,Bool.and_true,n.oneCell,t.oneCell,u.oneCell,y.oneCell,A.oneCell,dM];rfl
   have aC:=Hd aD;obtain⟨XS,G⟩:=eX ((#[x0,x1,x2,rE rH (d.source:Nat),x3,x4]:Array Value));rw[<-G]at aC D;have aE:=Hd (show(prog.info? 44).map (·.size)=some XS.size by rw[G];kernel_rfl);have aR:=Hd (show(#[rD rJ 0 0,rD rJ 0 0,rD rJ 0 0,rE rH 0,rD rJ 0 0,rD rJ 0 0]:Array Value).size=XS.size by rw[G];rfl);have aQ:=Hd G;clear hi hb bg bp br n t u y A r aD G;go_wp2_with (first|(refine wpList_load_row rfl 44 (.tmp 1) rfl w.heap.size rfl 44 XS (0,0) _ D.out underlying44 rfl aE.out ?_)|(refine Aa rfl 44 (.tmp 2) (.tmp 23) rfl (w.heap.size+1) XS rfl rfl 44 #[rD rJ 0 0,rD rJ 0 0,rD rJ 0 0,rE rH 0,rD rJ 0 0,rD rJ 0 0] HR.out aE.out aR.out aC.out ?_));intro w3 m0 mb mo aU;have M0:=Hd m0;have aM:=Hd (k.out.trans ((mb (w.heap.size+1) lR).mono (by omega)));have M3:=Hd (show∀v L,Own wr w.heap.size 5 v L->Own w3 w.heap.size 5 v L from fun v L hv=>by
    refine⟨hv.1,?_⟩;rcases hv.2 with h|⟨g',cp,aS,e,hg,hh,rest⟩
    ·exact .inl h
    ·refine .inr ⟨g',cp,aS,e,hg,?_,rest⟩;rw[mo g' (fun e2=>hv.ne_blk HR.out (by decide) (by rw[e,<-e2];rfl))];exact hh)
   clear m0 mb mo aU;go_wp2_with fail;exact bodyPost_ret (v:=.agg XS) (Hp rfl _ _ (w.heap.size+1) 44 XS _ rfl M0.out underlying44 rfl aE.out) rfl ⟨XS,rfl,⟨x0,x1,x2,x3,x4,aQ.out,M3.out _ _ HQ.out.1,M3.out _ _ HQ.out.2.1,M3.out _ _ HQ.out.2.2.1,M3.out _ _ HQ.out.2.2.2.1,M3.out _ _ HQ.out.2.2.2.2⟩,aM.out⟩
end Go.Proofs.YtfofaiommeckbaaGreat
namespace Go.Proofs.YtfofaiommeckbaaGreat
open Go.RowKit WalkM
def Zbd (x j:Nat):List Value:=[rE rG (anc x j:Nat),rE rG (plo x j:Nat),rE rG (phi x j:Nat)]
def Is (x d:Nat):Nat->List Value
 |0=>[]
 |k+1=>Is x d k++Zbd x (d-k)
theorem Ku (x d:Nat):∀k,(Is x d k).length=k*3:=by
 intro k
 induction k with
 |zero=>rfl
 |succ k ih=>rw[Is,aD,ih];simp[Zbd];omega
theorem Ie (x d:Nat):∀k i c,i<k->c<3->(Is x d k)[i*3+c]? =(Zbd x (d-i))[c]? :=by
 intro k
 induction k with
 |zero=>intro i c h;omega
 |succ k ih=>
  intro i c b a;rw[Is]
  by_cases h:i<k
  ·rw[List.getElem?_append_left (by rw[Ku];omega)];exact ih i c h a
  ·obtain rfl:i=k:=(by omega);rw[List.getElem?_append_right (by rw[Ku];omega),Ku]
   congr 1
   omega
theorem Zj9:ElemK prog 131 134 (.agg #[rE rG 0,rE rG 0,rE rG 0]) 3 24:=⟨underlying131,by kernel_rfl,rfl,by omega,by omega⟩
theorem Rf (x d:Nat)(hd:d<=16)(hx:x+1<2^(d+1))(w:World):
  Calls prog 97 #[rE rG x,rE rG ((2^d:Nat):Int)] w fun e w'=>∃v,e=rM v/\OwnK w' w.heap.size 134 3 v (d-lev x+1) (Is x d (d-lev x+1))/\Below w.heap.size w w':=by
 have H:=Ar (show d+1<=17 by omega);have T:=Ar hd;have f:=lev_is (x:=x) (by omega);have hl:=(lev_root hx f).1;have F:=fun w=>Tl ((2^d:Nat):Int) w;rw[cD,(fits_iff _).2 ⟨d,hd,rfl⟩]at F;have HF:=Hd F;have c:=anc_self f;have D:∀j,j≠lev x->anc x j≠x:=fun j W=>anc_ne fun h=>W (lev_unique h f);have he:2^(d+1)=2*2^d:=(by rw[aN];omega);have r1:=plo_root (show x<2^(d+1) by omega);have O:=phi_root (show x<2^(d+1) by omega);have r:∀j,j<=d->phi x j+2<=2^(d+1):=fun j W=>phi_le (by omega) W;obtain⟨l,J⟩:∃l,l=lev x:=⟨_,rfl⟩;rw[<-J]at hl c D|-;obtain⟨n,hn⟩:=eX (2^d);rw[he]at hx O r H;rw[<-hn]at HF T hx O r H|-;have B:=Hd c;have Q:=Hd D;have R1:=Hd r1;have R2:=Hd O;have R:=Hd r;have aE:phi x d<=131070:=(by omega);clear F c D r1 O r he f J hn;go_in;go_wp2_with fail;refine(HF.out _).mono ?_;rintro e w' ⟨rfl,rfl⟩;go_wp2_with fail
 go_loopg [5,6,7] (d-l) (fun k M hi v wr=>∃i:Nat,i+k=d-l/\M=rE rG (plo x (d-i):Nat)/\hi=rE rG (phi x (d-i):Nat)/\OwnK wr w.heap.size 134 3 v i (Is x d i)/\Below w.heap.size w wr)
 case atStart=>
  refine⟨0,by omega,?_,?_,OwnK.nil _ _ _ _,bR⟩
  ·rw[dS,R1.out];rfl
  ·rw[dS,R2.out];exact Fs (by omega)
 case round=>
  obtain⟨i,hi,rfl,rfl,s,p⟩:=hrel;have HO:=Hd s;have HB:=Hd p;have K:=p.size;clear s p;have Z:=R.out (d-i) (by omega);have Y:=mid_eq x (d-i);have X:plo x (d-i)<=phi x (d-i):=(by unfold phi;omega);obtain⟨M,q⟩:=eX (plo x (d-i));obtain⟨C,g⟩:∃a,a=phi x (d-i):=⟨_,rfl⟩;obtain⟨a,U⟩:=eX (anc x (d-i));rw[<-q,<-g]at X;rw[<-g]at Z;rw[<-q,<-g,<-U]at Y;rw[<-q,<-g];have aD:((M:Int)+(C:Int))/2=(a:Int):=(by rw[<-Y];omega);have aC:a<=131070:=(by omega);have z:=Hd q;have y:=Hd g;have E:=Hd U;clear Y q g U
  by_cases hxa:x=a
  ·subst hxa;have I:d-i=l:=by
    rcases Nat.decEq (d-i) l with h|h
    ·exact absurd E.out.symm (Q.out _ h)
    ·exact h
   have P:=Hd I;clear I;go_wp2_with (at_builtin;refine Lk rfl (.tmp 30) (.tmp 35) 131 rfl w.heap.size 134 _ 3 24 Zj9 _ i _ rfl (HO.out.alloc _) wr.heap.size [rE rG (x:Nat),rE rG (M:Nat),rE rG (C:Nat)] rfl rfl ?c1 ?c2 ?c3 ?c4 ?_);case c1=>exact St rfl
   case c2=>intro u L;simp at L;rcases L with rfl|rfl|rfl<;>rfl
   case c3=>omega
   case c4=>simp;omega
   rintro v' w1 b m;have o:=(HB.out.alloc K _).trans m;have A:=Hd b;have t:=Hd o;clear b m o;go_wp2_with fail;go_ret;refine⟨_,rfl,?_,t.out⟩;have N:i=d-l:=(by have:=P.out;omega);have h:=A.out;rw[N]at h;rw[Is];have e2:d-(d-l)=d-i:=(by rw[N]);rw[e2,Zbd,<-E.out,<-z.out,<-y.out];exact h
  ·have aB:i<d-l:=by
    rcases aJ i (d-l)with h|h
    ·exact h
    ·exfalso;have N:d-i=l:=(by omega);apply hxa;rw[E.out,N];exact B.out.symm
   have G:=Hd hxa;have hc:((a:Int)==(x:Int))=false:=(by rw[qN];omega);have V:=halves x (d-(i+1));rw[show d-(i+1)+1=d-i by omega,<-E.out,<-y.out,<-z.out]at V;have HH:=Hd V;clear hxa V
   by_cases hxl:x<a
   all_goals
    go_wp2_with (at_builtin;refine Lk rfl (.tmp 30) (.tmp 35) 131 rfl w.heap.size 134 _ 3 24 Zj9 _ i _ rfl (HO.out.alloc _) wr.heap.size [rE rG (a:Nat),rE rG (M:Nat),rE rG (C:Nat)] rfl rfl ?c1 ?c2 ?c3 ?c4 ?_);case c1=>exact St rfl
    case c2=>intro u L;simp at L;rcases L with rfl|rfl|rfl<;>rfl
    case c3=>omega
    case c4=>simp;omega
    rintro v' w1 b m;have o:=(HB.out.alloc K _).trans m;have A:=Hd b;have t:=Hd o;clear b m o;go_wp2_with fail;go_roundg (gk-1);case measure=>omega
    case rel=>
     refine⟨i+1,by omega,?_,?_,?_,t.out⟩
     ·refine Fs ?_;have aA:=G.out;rcases HH.out with⟨S,h2,h3⟩|⟨S,h2,h3⟩<;>omega
     ·refine Fs ?_;have aA:=G.out;rcases HH.out with⟨S,h2,h3⟩|⟨S,h2,h3⟩<;>omega
     ·rw[Is,Zbd,<-E.out,<-z.out,<-y.out];exact A.out
theorem Ml (x n:Int)(w:World)(f: -9223372036854775808<=n)(h2:n<=9223372036854775807)(b:Kp x n=false):
  Calls prog 97 #[rE rG x,rE rG n] w fun e w'=>e=rM (rD rJ 0 0)/\w=w':=by
 have F:=fun w=>Tl n w
 by_cases hf:fits n.toNat=true
 ·have k:=Ga hf;rw[hf]at F;have c:=Hd F;rw[Kp,hf,dM]at b;have d:=of_decide_eq_false b;have i:1<=n:=(by omega);have j:n<=65536:=(by omega);have g:x<0\/(0<=x/\2*n-2<x):=(by omega);clear F hf k f h2 b d;rcases g with h|⟨h,l⟩
  all_goals
   go_in;go_wp2_with fail;refine(c.out _).mono ?_;rintro e w' ⟨rfl,rfl⟩;go_wp2_with fail;go_ret;exact⟨rfl,rfl⟩
 ·have a:fits n.toNat=false:=(by rw[<-cF];exact hf);rw[a]at F;have c:=Hd F;clear F hf a f h2 b;go_in;go_wp2_with fail;refine(c.out _).mono ?_;rintro e w' ⟨rfl,rfl⟩;go_wp2_with fail;go_ret;exact⟨rfl,rfl⟩
theorem Vx {w w':World} {cs:Array Value} {e:TypeId}(hb:Below (w.alloc (.cells cs e)).heap.size (w.alloc (.cells cs e)) w'):w'.heap[w.heap.size]? =some (.cells cs e (0,0)):=
 (hb.block _ (by simp)).trans (heap_alloc_new w _)
theorem Zkv (x d:Nat)(J:d<=16)(hx:x+1<2^(d+1))(w:World):
  Calls prog 142 #[rE rG x,rE rG ((2^d:Nat):Int)] w fun e w'=>e=rM (.tuple #[.agg #[rE rG x,rE rG (plo x (lev x):Nat),rE rG (phi x (lev x):Nat)],.bool true])/\Below w.heap.size w w':=by
 have D:=fun w=>Rf x d J hx w;have r:=Ar (show d+1<=17 by omega);have b:=lev_is (x:=x) (by omega);have c:=anc_self b;have L:=(lev_root hx b).1;have h:=Ie x d (d-lev x+1) (d-lev x) 0 (by omega) (by omega);have i:=Ie x d (d-lev x+1) (d-lev x) 1 (by omega) (by omega);have g2:=Ie x d (d-lev x+1) (d-lev x) 2 (by omega) (by omega);have s:d-(d-lev x)=lev x:=(by omega);rw[s,Zbd,c]at h i g2;obtain⟨m,y⟩:=eX (d-lev x);have z:m<=16:=(by omega);rw[<-y]at D h i g2;obtain⟨A,n⟩:=eX (plo x (lev x));obtain⟨u,k⟩:=eX (phi x (lev x));rw[<-n,<-k]at h i g2|-;have B:=Hd h;have C:=Hd i;have E:=Hd g2;have G:=Hd D;clear D h i g2 y n k s L c b r hx;go_in;go_wp2_with fail;refine(G.out _).mono ?_;rintro e w' ⟨v,rfl,f,a⟩;obtain⟨g,cap,rfl,N,K,O,M,o,-⟩:=f.out (by omega);have I:=o _ _ B.out;have c1:=o _ _ C.out;have c2:=o _ _ E.out;rw[Nat.add_zero]at I;have t:=Vx a;have H:Hid (Blk w' w.heap.size 134 _):=Hd t;have F:=Hd a;clear o f a t;go_wp2_with (refine Aa rfl 134 (.tmp 4) (.tmp 19) rfl w.heap.size #[rE rG x,rE rG A,rE rG u] rfl rfl _ _ H.out (by kernel_rfl) rfl rfl ?_);rintro P l j- -;have q:=Hd l;have p:=Hd (j _ lR);clear l j;go_wp2_with fail;refine bodyPost_ret (v:=.tuple #[.agg #[rE rG x,rE rG A,rE rG u],.bool true]) (Ad results142 _ _ w.heap.size _ _ _ rfl q.out underlying134 rfl (by kernel_rfl)) rfl ⟨rfl,?_⟩;exact((bR.alloc lR _).trans (F.out.mono (by simp))).trans p.out
theorem Zho (x n:Int)(w:World)(a: -9223372036854775808<=n)(h2:n<=9223372036854775807)(b:Kp x n=false):
  Calls prog 142 #[rE rG x,rE rG n] w fun e w'=>e=rM (.tuple #[.agg #[rE rG 0,rE rG 0,rE rG 0],.bool false])/\Below w.heap.size w w':=by
 have D:=fun w=>Ml x n w a h2 b;have c:=Hd D;clear D a h2 b;go_in;go_wp2_with fail;refine(c.out _).mono ?_;rintro e w' ⟨rfl,rfl⟩;go_wp2_with fail;refine bodyPost_ret (v:=.tuple #[.agg #[rE rG 0,rE rG 0,rE rG 0],.bool false]) (Ad results142 _ _ w.heap.size _ _ _ rfl (Blk.new _ _ _) underlying134 rfl (by kernel_rfl)) rfl ⟨rfl,?_⟩;exact bR.alloc lR _
theorem Zde (x:Int):Kp x 65536=Bd x:=by
 have h:fits (65536:Int).toNat=true:=(by decide);unfold Kp Bd;rw[h,dM]
 rfl
theorem Jk (x:Nat)(hx:x<=131070)(w:World):
  Calls prog 142 #[rE rG x,rE rG 65536] w fun e w'=>e=rM (.tuple #[.agg #[rE rG x,rE rG (plo x (lev x):Nat),rE rG (phi x (lev x):Nat)],.bool true])/\Below w.heap.size w w':=by
 have h:=Zkv x 16 (by omega) (by omega) w;have e:((2^16:Nat):Int)=65536:=(by decide);rw[e]at h;exact h
theorem Jl (x:Int)(hx:Bd x=false)(w:World):
  Calls prog 142 #[rE rG x,rE rG 65536] w fun e w'=>e=rM (.tuple #[.agg #[rE rG 0,rE rG 0,rE rG 0],.bool false])/\Below w.heap.size w w':=
 Zho x 65536 w (by omega) (by omega) (by rw[Zde];exact hx)
end Go.Proofs.YtfofaiommeckbaaGreat
namespace Go.Proofs.YtfofaiommeckbaaGreat
open Go.RowKit WireM
def Db (L:List Nat)(er:Nat):Option Nat×List Nat×Nat:=
 if er≠0 then(none,L,er)else match L with
  |[]=>(none,[],4)
  |b::M=>Yp b M
theorem Zbe (B:Nat)(L:List Nat)(er:Nat)(w:World)(h:RS w B L er)(j:∀n∈L,n<256):
  Calls prog 282 #[rF (some ⟨B,0,rJ⟩)] w (Znn B w (Db L er)):=by
 by_cases he:er=0
 ·subst he;cases L with
  |cons b M=>
   rw[Db,iN (by simp)];exact Vl B b M w h j
  |nil=>
   rw[Db,iN (by simp)];have a:=Hd (Me B [] 1 w h (by simp));clear h;go_in;go_wp2_with fail;go_step3;go_wp2_with fail;refine a.out.mono ?_;rintro e k ⟨rfl,d,h2,-⟩;have f:=Hd d;have g:=Hd h2;clear d h2;go_wp2_with fail;simp only[Exit.noGoto];go_ret2;exact⟨rfl,f.out,g.out⟩
 ·have c:Db L er=(none,L,er):=(by unfold Db;rw[iP he]);rw[c];clear c;have a:=Hd (Qt B L er 1 w h he);have i:=Hd h;clear h he;go_in;go_wp2_with fail;go_step3;go_wp2_with fail;refine a.out.mono ?_;rintro e k ⟨rfl,rfl⟩;go_wp2_with fail;simp only[Exit.noGoto];go_ret2;exact⟨rfl,i.out,Only.refl _ _⟩
def Cs (L:List Nat)(er:Nat)(n:Int):List Nat×List Nat×Nat:=
 if er≠0 then([],L,er)else if n<0 then([],L,1)else if(L.length:Int)<n then([],L,4)else(L.take n.toNat,L.drop n.toNat,0)
def Lz (B:Nat)(w:World)(r:List Nat×List Nat×Nat)(e:Ending)(w':World):Prop:=
 ∃v,e=rM v/\Own w' w.heap.size 5 v (bvs r.1)/\RS w' B r.2.1 r.2.2/\Only B w w'
def Znf (B:Nat)(w:World)(r:List Nat×List Nat×Nat)(e:Ending)(w':World):Prop:=
 ∃v b,e=rM (.tuple #[v,.bool b])/\RdK w' B v (bvs r.1)/\RS w' B r.2.1 r.2.2/\Only B w w'
theorem Vy (w:World)(B:Nat):RdK w B (rD rJ 0 0) (bvs []):=⟨none,0,rfl,lR,aI _,.inl ⟨rfl,fun _=>rfl⟩⟩
theorem Rg (B:Nat)(L:List Nat)(er:Nat)(n:Int)(w:World)(h:RS w B L er):
  Calls prog 200 #[rF (some ⟨B,0,rJ⟩),rE rG n] w (Znf B w (Cs L er n)):=by
 unfold Cs
 by_cases he:er=0
 ·subst he;rw[iN (by simp)]
  by_cases hn:n<0
  ·rw[iP hn];refine(Zhd B L n w h hn).mono ?_;rintro e w' ⟨rfl,a,h2,-⟩;exact⟨_,_,rfl,Vy _ _,a,h2⟩
  ·rw[iN hn]
   by_cases hl:(L.length:Int)<n
   ·rw[iP hl];refine(Me B L n w h hl).mono ?_;rintro e w' ⟨rfl,a,h2,-⟩;exact⟨_,_,rfl,Vy _ _,a,h2⟩
   ·rw[iN hl];obtain⟨k,rfl⟩:∃k:Nat,n=(k:Int):=⟨n.toNat,by omega⟩;refine(Qu B L k w h (by omega)).mono ?_;rintro e w' ⟨⟨v,rfl,b⟩,a,h2,-⟩;exact⟨_,_,rfl,b,a,h2⟩
 ·rw[iP he];refine(Qt B L er n w h he).mono ?_;rintro e w' ⟨rfl,rfl⟩;exact⟨_,_,rfl,Vy _ _,h,Only.refl _ _⟩
theorem Zdf (L:List Nat)(er:Nat)(n:Int):(Cs L er n).1.length<=L.length:=by
 unfold Cs
 split
 ·simp
 ·split
  ·simp
  ·split
   ·simp
   ·simp;omega
theorem Tn (B:Nat)(L:List Nat)(er:Nat)(n:Int)(w:World)(h:RS w B L er)(q:L.length<1099511627776):
  Calls prog 178 #[rF (some ⟨B,0,rJ⟩),rE rG n] w (Lz B w (Cs L er n)):=by
 have g:=Hd (Rg B L er n w h);have c:=Zdf L er n;obtain⟨r,k⟩:=eX (Cs L er n);rw[<-k]at g c|-;clear h k;go_in;go_wp2_with fail;refine g.out.mono ?_;rintro e p ⟨v,b,rfl,i,h2,h3⟩;have m:=Hd (Ck v r.1 p i.rd (by omega));have l:=Hd h2;have d:=Hd h3;clear i h2 h3;go_wp2_with fail;refine m.out.mono ?_;rintro e t ⟨s,rfl,a,j⟩;have o:=Hd a;have f:=Hd j;clear a j;go_wp2_with fail;go_ret;exact⟨_,rfl,o.out.mono d.out.size,l.out.below f.out,d.out.trans (Only.of f.out)⟩
def En (L:List Nat)(er:Nat):List Nat×List Nat×Nat:=
 match Db L er with
 |(none,M,e)=>([],M,e)
 |(some n,M,e)=>Cs M e (n:Int)
theorem Zhp (b:Nat)(M:List Nat):(Yp b M).2.1.length<=M.length:=by
 unfold Yp
 split
 ·exact lR
 ·split
  ·exact lR
  ·split<;>simp
theorem Vz (L:List Nat)(er:Nat):(Db L er).2.1.length<=L.length:=by
 unfold Db
 split
 ·exact lR
 ·split
  ·exact lR
  ·rename_i b M
   have:=Zhp b M
   simp;omega
theorem Zdg (B:Nat)(L:List Nat)(er:Nat)(w:World)(h:RS w B L er)(t:L.length<1099511627776)(k:∀n∈L,n<256):
  Calls prog 254 #[rF (some ⟨B,0,rJ⟩)] w (Lz B w (En L er)):=by
 have g:=Hd (Zbe B L er w h k);have b:=Vz L er;unfold En;obtain⟨r,l⟩:=eX (Db L er);rw[<-l]at g b|-;clear h l k;obtain⟨o,M,e⟩:=r;cases o with
 |none=>
  go_in;go_wp2_with fail;refine g.out.mono ?_;rintro j m ⟨rfl,a,h2⟩;have f:=Hd a;have d:=Hd h2;clear a h2;go_wp2_with fail;go_ret;exact⟨_,rfl,Own.nil _ _ _,f.out,d.out⟩
 |some n=>
  have T:=fun w h=>Tn B M e (n:Int) w h (by simp only at b;omega);have s:=Hd T;clear T;go_in;go_wp2_with fail;refine g.out.mono ?_;rintro j m ⟨rfl,a,h2⟩;have d:=Hd h2;have i:=Hd (s.out m a);clear a h2;go_wp2_with fail;refine i.out.mono ?_;rintro j v ⟨u,rfl,c,a,h3⟩;have f:=Hd a;have p:=Hd h3;have q:=Hd c;clear a h3 c;go_wp2_with fail;go_ret;exact⟨_,rfl,q.out.mono d.out.size,f.out,d.out.trans p.out⟩
theorem RS.low {w w':World} {B C:Nat} {L:List Nat} {er:Nat}(h:RS w B L er)(hb:Below C w w')(hC:B<C):RS w' B L er:=by
 obtain⟨v,h1,h2⟩:=h;exact⟨v,h1.below hb hC,h2.keep fun p hp=>hb.cell (Nat.lt_trans hp hC)⟩
theorem RS.only {w w':World} {B C:Nat} {L:List Nat} {er:Nat}(h:RS w B L er)(hb:Only C w w')(hC:B<C)(hs:C<=w.heap.size):RS w' B L er:=
 h.low (hb.below lR hs) hC
theorem Own.only {w w':World} {B C:Nat} {e:TypeId} {v:Value} {xs:List Value}(h:Own w B e v xs)(a:Only C w w')(b:C<B):Own w' B e v xs:=by
 refine World.ownsRow.kept h a ?_;rcases h.form with rfl|⟨g,cap,rfl⟩
 ·exact .inl rfl
 ·right
  have:=(World.ownsRow.lt h) g rfl;simp only[Value.ownBlock,ne_eq,Option.some.injEq];omega
theorem Zdh (c:Nat)(L:List Nat):Ge (c::L)=c*256^L.length+Ge L:=by
 have b:∀(L:List Nat) (a:Nat),L.foldl (fun a c=>a*256+c) a=a*256^L.length+L.foldl (fun a c=>a*256+c) 0:=by
  intro L
  induction L with
  |nil=>intro a;simp
  |cons x L ih=>
   intro a;simp only[dL,dB];have e:(a*256+x)*256^L.length=a*(256^L.length*256)+x*256^L.length:=(by rw[Nat.add_mul,Nat.mul_assoc,aU 256]);rw[ih (a*256+x),ih (0*256+x),aN,e,Nat.zero_mul,cX];omega
 show(c::L).foldl _ 0=_;rw[dL,b];simp[Ge]
theorem Yy:∀s n,Ge (beN s n)=n%256^s:=by
 intro s
 induction s with
 |zero=>intro n;simp[beN,Ge,Nat.mod_one]
 |succ s ih=>
  intro n;rw[beN,Zdh,beN_len,ih,Nat.mod_pow_succ,aU];omega
theorem Wa {n:Nat}(b:n<1073741824)(R:List Nat):Db (lenB n++R) 0=(some n,R,0):=by
 by_cases h1:n<64
 ·have e:lenB n++R=n::R:=(by rw[lenB,iP h1];rfl);rw[e,Db,iN (by simp)];have a:n/64=0:=(by omega);rw[Yp,a,iN (by omega)];have e2:Ge (n%64::R.take (2^0-1))=n:=(by simp[Ge];omega);rw[e2,iN (by simp),iP (by rw[lenS1 h1])];simp
 ·by_cases h2:n<16384
  ·have e:lenB n++R=(64+n/256)::(n%256)::R:=(by rw[lenB,iN h1,iP h2];rfl);rw[e,Db,iN (by simp)];have a:(64+n/256)/64=1:=(by omega);rw[Yp,a,iN (by omega)];have e2:Ge ((64+n/256)%64::(n%256::R).take (2^1-1))=n:=(by simp[Ge];omega);rw[e2,iN (by simp),iP (by rw[lenS2 (by omega) h2])];simp
  ·have e:lenB n++R=(128+n/16777216)::(n/65536%256)::(n/256%256)::(n%256)::R:=(by rw[lenB,iN h1,iN h2];rfl);rw[e,Db,iN (by simp)];have a:(128+n/16777216)/64=2:=(by omega);rw[Yp,a,iN (by omega)];have e2:Ge ((128+n/16777216)%64::(n/65536%256::n/256%256::n%256::R).take (2^2-1))=n:=(by simp[Ge];omega);rw[e2,iN (by simp),iP (by rw[lenS4 (by omega) b])];simp
theorem To (v R:List Nat):Cs (v++R) 0 (v.length:Int)=(v,R,0):=by
 rw[Cs,iN (by simp),iN (by omega),iN (by rw[aD];omega),cD];simp
theorem Zhq {v:List Nat}(hv:v.length<1073741824)(R:List Nat):En (Ba v++R) 0=(v,R,0):=by
 rw[En,Ba,cY,Wa hv];simp only;exact To v R
theorem Yz (L:List Nat)(er:Nat)(n:Int):(Cs L er n).1.length<=n.toNat:=by
 unfold Cs
 split
 ·simp
 ·split
  ·simp
  ·split
   ·simp
   ·simp;omega
theorem Tp (L:List Nat)(er:Nat)(n:Int):∀x∈(Cs L er n).1,x∈L:=by
 intro x hx;unfold Cs at hx
 split at hx
 ·simp at hx
 ·split at hx
  ·simp at hx
  ·split at hx
   ·simp at hx
   ·exact cB hx
def Gt (L:List Nat)(er:Nat)(s:Int):List Nat×List Nat×Nat:=Cs L er (if Zcx s=true then s else-1)
def Znu (B:Nat)(w:World)(r:List Nat×List Nat×Nat)(e:Ending)(w':World):Prop:=e=rM (rE .u64 (Ge r.1:Nat))/\RS w' B r.2.1 r.2.2/\Only B w w'
theorem Nk (B:Nat)(L:List Nat)(er:Nat)(s:Int)(w:World)(h:RS w B L er)(k:∀n∈L,n<256):
  Calls prog 154 #[rF (some ⟨B,0,rJ⟩),rE rG s] w (Znu B w (Gt L er s)):=by
 have o:=Hd (fun w=>Zcy s w);have d:Zcx s=true->1<=s/\s<=8:=fun h=>(by have:=oD h;omega);unfold Gt;obtain⟨b,q⟩:=eX (Zcx s);rw[<-q]at o d|-;cases b with
 |true=>
  rw[iP rfl];have g:=Hd (Rg B L er s w h);have c:=Yz L er s;have a:=Tp L er s;obtain⟨r,j⟩:=eX (Cs L er s);rw[<-j]at g c a|-;have x:=d rfl;have f:=Hd (show r.1.length<=8/\∀n∈r.1,n<256 from⟨by omega,fun n t=>k n (a n t)⟩);clear c a j h k d q x;go_in;go_wp2_with fail;refine(o.out _).mono ?_;rintro e w' ⟨rfl,rfl⟩;go_wp2_with fail;refine g.out.mono ?_;rintro e u ⟨v,b,rfl,i,h2,h3⟩;have p:=Hd (Kr v r.1 u i.rd f.out.1 f.out.2);have l:=Hd h2;have m:=Hd h3;clear i h2 h3;go_wp2_with fail;refine p.out.mono ?_;rintro e w' ⟨rfl,rfl⟩;go_wp2_with fail;go_ret;exact⟨rfl,l.out,m.out⟩
 |false=>
  rw[iN (by simp)];have g:=Hd (Rg B L er (-1) w h);have c:=Yz L er (-1);have a:=Tp L er (-1);obtain⟨r,j⟩:=eX (Cs L er (-1));rw[<-j]at g c a|-;have f:=Hd (show r.1.length<=8/\∀n∈r.1,n<256 from⟨by omega,fun n t=>k n (a n t)⟩);clear c a j h k d q;go_in;go_wp2_with fail;refine(o.out _).mono ?_;rintro e w' ⟨rfl,rfl⟩;go_wp2_with fail;refine g.out.mono ?_;rintro e u ⟨v,b,rfl,i,h2,h3⟩;have p:=Hd (Kr v r.1 u i.rd f.out.1 f.out.2);have l:=Hd h2;have m:=Hd h3;clear i h2 h3;go_wp2_with fail;refine p.out.mono ?_;rintro e w' ⟨rfl,rfl⟩;go_wp2_with fail;go_ret;exact⟨rfl,l.out,m.out⟩
theorem Zhr {s n:Nat}(hs:Zcx (s:Int)=true)(R:List Nat):Gt (beN s n++R) 0 (s:Int)=(beN s n,R,0):=by
 rw[Gt,iP hs];have:=To (beN s n) R;rw[beN_len]at this;exact this
theorem Zhs (B:Nat)(L:List Nat)(er:Nat)(w:World)(h:RS w B L er):
  Calls prog 255 #[rF (some ⟨B,0,rJ⟩)] w fun e w'=>e=rM (rE rG (L.length:Nat))/\w=w':=by
 obtain⟨v,b,c⟩:=h;obtain⟨a,cap,rfl,_⟩:=c;rw[bvs_len]at b;have d:=b.cell 0;simp only[bY,bZ]at d;clear b;go_in;go_wp2_with fail;go_ret;exact⟨rfl,rfl⟩
def Ot (L:List Nat)(er:Nat):Bool×List Nat×Nat:=
 if er≠0 then(false,L,er)else match L with
  |[]=>(false,[],4)
  |b::M=>if 1<b then(false,M,3)else(b==1,M,0)
def Zht (B:Nat)(w:World)(r:Bool×List Nat×Nat)(e:Ending)(w':World):Prop:=e=rM (.bool r.1)/\RS w' B r.2.1 r.2.2/\Only B w w'
theorem Rh (B:Nat)(L:List Nat)(er:Nat)(w:World)(h:RS w B L er)(p:∀n∈L,n<256):
  Calls prog 177 #[rF (some ⟨B,0,rJ⟩)] w (Zht B w (Ot L er)):=by
 by_cases he:er=0
 ·subst he;cases L with
  |nil=>
   have g:=Hd (Me B [] 1 w h (by simp));clear h p;go_in;go_wp2_with fail;refine g.out.mono ?_;rintro e i ⟨rfl,d,h2,-⟩;have j:=Hd d;have k:=Hd h2;clear d h2;go_wp2_with fail;go_ret;exact⟨rfl,j.out,k.out⟩
  |cons b M=>
   have y:=p b (by simp);have T:=Qu B (b::M) 1 w h (by simp);simp only[List.take_succ_cons,List.take_zero,List.drop_succ_cons,List.drop_zero]at T;have g:=Hd T;have l:Ot (b::M) 0=if 1<b then(false,M,3)else(b==1,M,0):=(by rw[Ot,iN (by simp)]);rw[l];clear T h p l
   by_cases h1b:1<b
   ·rw[iP h1b];go_in;go_wp2_with fail;refine g.out.mono ?_;rintro e i ⟨⟨v,rfl,o⟩,d,h2,-⟩;obtain⟨c,f,cap,rfl,x⟩:∃c f cap,v=rD (some ⟨c,f,rJ⟩) 1 cap/\i.cell? ⟨c,f,rJ⟩=some (rE rH (b:Nat)):=by
     obtain⟨a,cap,rfl,_,_,h|⟨c,f,rfl,_,r⟩⟩:=o
     ·exact absurd h.1 (by simp[bvs])
     ·exact⟨c,f,cap,rfl,r 0 _ rfl⟩
    have t:=Hd (Gd B M 3 i d (by omega));have k:=Hd h2;clear d h2 o;go_wp2_with fail;refine t.out.mono ?_;rintro e z ⟨rfl,d,h2,-⟩;have j:=Hd d;have s:=Hd (k.out.trans h2);clear d h2;go_wp2_with fail;go_ret;exact⟨rfl,j.out,s.out⟩
   ·rw[iN h1b];go_in;go_wp2_with fail;refine g.out.mono ?_;rintro e i ⟨⟨v,rfl,o⟩,d,h2,-⟩;obtain⟨c,f,cap,rfl,x⟩:∃c f cap,v=rD (some ⟨c,f,rJ⟩) 1 cap/\i.cell? ⟨c,f,rJ⟩=some (rE rH (b:Nat)):=by
     obtain⟨a,cap,rfl,_,_,h|⟨c,f,rfl,_,r⟩⟩:=o
     ·exact absurd h.1 (by simp[bvs])
     ·exact⟨c,f,cap,rfl,r 0 _ rfl⟩
    have j:=Hd d;have k:=Hd h2;have m:(b==1)=((b:Int)==1):=by
     rw[Bool.eq_iff_iff,beq_iff_eq,beq_iff_eq];omega
    have q:=Hd m;clear d h2 o m;go_wp2_with fail;go_ret;exact⟨Ac q.out.symm,j.out,k.out⟩
 ·have l:Ot L er=(false,L,er):=(by unfold Ot;rw[iP he]);rw[l];have g:=Hd (Qt B L er 1 w h he);have u:=Hd h;clear h he p l;go_in;go_wp2_with fail;refine g.out.mono ?_;rintro e i ⟨rfl,rfl⟩;go_wp2_with fail;go_ret;exact⟨rfl,u.out,Only.refl _ _⟩
theorem Cl (x y:Value)(A B:List Nat)(w:World)(hx:Rd w x (bvs A))(j:Rd w y (bvs B))(n:A.length+B.length<1000000000):
  Calls prog 175 #[x,y] w fun e w'=>∃v',e=rM v'/\Own w' w.heap.size 5 v' (bvs (A++B))/\Below w.heap.size w w':=by
 have l:=Hd hx;have m:=Hd j;clear hx j;go_in;go_wp2_with (at_builtin;refine An rfl (.tmp 5) (.tmp 6) 28 rfl w.heap.size 5 _ 1 Ca _ [] rfl (Own.lit0 rfl lR) _ (bvs A) rfl (l.out.alloc _) (By _) ?c2 ?c3 ?_);case c2=>rw[bvs_len];simp;omega
 case c3=>simp
 rintro o q a-c;have b:=((Below.refl w.heap.size w).alloc lR (rK #[] 5)).trans c;have k:=Hd a;have i:=Hd b;have h:=Hd (m.out.below b lR);clear a c b;go_wp2_with (at_builtin;refine An rfl (.tmp 7) (.tmp 8) 28 rfl w.heap.size 5 _ 1 Ca _ _ rfl k.out _ (bvs B) rfl h.out (By _) ?c4 ?c5 ?_);case c4=>simp only[bvs_len];omega
 case c5=>exact i.out.size
 rintro p r a-d;have g:=Hd a;have f:=Hd (i.out.trans d);clear a d;go_wp2_with fail;go_ret;refine⟨_,rfl,?_,f.out⟩;rw[Cj];exact g.out
theorem Zkw (d:LeafD):Jj d=(Ba d.box++Ba d.sign)++(Ba d.ident++[d.source])++(if d.source=3 then Ba d.par else []):=by
 unfold Jj Oo;simp[cY]
theorem Zdi (d:LeafD) (N O P V a5:Option Addr) (c1 c2 c3 c4 c5:Nat) (w:World) (hs:Ni d) (aH:d.source<256)
  (h1:Rd w (.slice N d.box.length c1) (bvs d.box)) (h2:Rd w (.slice O d.sign.length c2) (bvs d.sign)) (h3:Rd w (.slice P d.ident.length c3) (bvs d.ident)) (h4:Rd w (.slice V d.par.length c4) (bvs d.par)):
  Calls prog 216 #[.agg #[.slice N d.box.length c1,.slice O d.sign.length c2,.slice P d.ident.length c3,rE rH (d.source:Nat),.slice V d.par.length c4,.slice a5 d.sig.length c5]] w
   fun e w'=>∃v,e=rM v/\Own w' w.heap.size 5 v (bvs (Jj d))/\Below w.heap.size w w':=by
 obtain⟨s1,s2,s3,s4,s5⟩:=hs;have G:=Zkw d;have l1:=Bg d.box (by omega);have l2:=Bg d.sign (by omega);have l3:=Bg d.ident (by omega);have l4:=Bg d.par (by omega);obtain⟨W,u⟩:=eX d.box.length;obtain⟨X,x⟩:=eX d.sign.length;obtain⟨Y,y⟩:=eX d.ident.length;obtain⟨n4,z⟩:=eX d.par.length;obtain⟨n5,aG⟩:=eX d.sig.length;obtain⟨c,R⟩:=eX d.source;obtain⟨A,aA⟩:=eX d.box;obtain⟨B,aB⟩:=eX d.sign;obtain⟨C,aC⟩:=eX d.ident;obtain⟨D4,aE⟩:=eX d.par;rw[<-u,<-x,<-y,<-z,<-aG,<-R];rw[<-u]at h1 s1 l1;rw[<-x]at h2 s2 l2;rw[<-y]at h3 s3 l3;rw[<-z]at h4 s4 l4;rw[<-R]at aH G;rw[<-aA]at h1 u G l1;rw[<-aB]at h2 x G l2;rw[<-aC]at h3 y G l3;rw[<-aE]at h4 z G l4;obtain⟨U,hU⟩:=eX (Jj d);rw[<-hU]at G|-;have n:=Blk.new w 44 #[rD N W c1,rD O X c2,rD P Y c3,rE rH (c:Nat),rD V n4 c4,rD a5 n5 c5];have o:=(Below.refl w.heap.size w).alloc lR (rK #[rD N W c1,rD O X c2,rD P Y c3,rE rH (c:Nat),rD V n4 c4,rD a5 n5 c5] 44);have hz:(w.alloc (rK #[rD N W c1,rD O X c2,rD P Y c3,rE rH (c:Nat),rD V n4 c4,rD a5 n5 c5] 44)).heap.size=w.heap.size+1:=(by simp);obtain⟨W1,Q⟩:=eX (w.alloc (rK #[rD N W c1,rD O X c2,rD P Y c3,rE rH (c:Nat),rD V n4 c4,rD a5 n5 c5] 44));rw[<-Q]at n o hz;have r1:=h1.below o lR;have r2:=h2.below o lR;have r3:=h3.below o lR;have r4:=h4.below o lR;have y0:=n.cell 0;have y1:=n.cell 1;have y2:=n.cell 2;have y3:=n.cell 3;have y4:=n.cell 4;simp only[bY,bZ,cA]at y0 y1 y2 y3 y4;have r:w.heap.size<W1.heap.size:=(by omega);have HU:=Hd G;have aN:=Hd Q;have aM:=Hd o;have aO:=Hd y3;have aP:=Hd y4;have aL:=Hd r4;have HL:=Hd (show W=A.length/\X=B.length/\Y=C.length/\n4=D4.length from⟨u,x,y,z⟩);clear n o Q G hU u x y z aG R aA aB aC aE h1 h2 h3 h4;go_in;go_wp2_with fail;rw[<-aN.out]
 refine Cx [eF (rF (some ⟨w.heap.size,0,rJ⟩)),eF (rD N W c1),fun v w'=>Own w' w.heap.size 5 v (bvs (Ba A)),eF (rF (some ⟨w.heap.size,1,rJ⟩)),eF (rD O X c2),fun v w'=>Own w' w.heap.size 5 v (bvs (Ba B)),fun v w'=>Own w' w.heap.size 5 v (bvs ((Ba A)++(Ba B))),eF (rF (some ⟨w.heap.size,2,rJ⟩)),eF (rD P Y c3),fun v w'=>Own w' w.heap.size 5 v (bvs (Ba C)),eF (rF (some ⟨w.heap.size,3,rJ⟩)),eF (rE rH (c:Nat)),fun v w'=>Rd w' v (bvs [c]),fun v w'=>Own w' w.heap.size 5 v (bvs (Ba C++[c])),fun v w'=>Own w' w.heap.size 5 v (bvs ((Ba A++Ba B)++(Ba C++[c]))),fun v w'=>Own w' w.heap.size 5 v (bvs ((Ba A++Ba B)++(Ba C++[c])))] (by kernel_rfl) (by kernel_rfl) (by kernel_rfl) (kE (kE (bX (fun v T s h m=>Own.below h m lR) (kE (kE (bX (fun v T s h m=>Own.below h m lR) (bX (fun v T s h m=>Own.below h m lR) (kE (kE (bX (fun v T s h m=>Own.below h m lR) (kE (kE (bX (fun v T s h m=>Rd.below h m lR) (bX (fun v T s h m=>Own.below h m lR) (bX (fun v T s h m=>Own.below h m lR) (bX (fun v T s h m=>Own.below h m lR) (Ae))))))))))))))))) ?_ ?_
 ·refine gQ ?_ (gQ ?_ (gB ?_ (gQ ?_ (gQ ?_ (gB ?_ (gB ?_ (gQ ?_ (gQ ?_ (gB ?_ (gQ ?_ (gQ ?_ (gB ?_ (gB ?_ (gB ?_ (gB ?_ .nil)))))))))))))));all_goals
   intro a t g ho F;refine⟨rfl,?_⟩;intro K D;try have aW:a.tmps[1]?.getD undef=rF (some ⟨w.heap.size,0,rJ⟩):=ho 1 (by kernel_rfl)
   try have aV:=eqn F.1
   try have aR:=(g.cell (p:=⟨w.heap.size,0,rJ⟩) r).trans y0
   try have aS:=(g.cell (p:=⟨w.heap.size,1,rJ⟩) r).trans y1
   try have aT:=(g.cell (p:=⟨w.heap.size,2,rJ⟩) r).trans y2
   try have aU:=(g.cell (p:=⟨w.heap.size,3,rJ⟩) r).trans y3
   try(refine Hd ?_;go_simp;exact D _ rfl)
  ·go_simp;refine(Ea _ A t (r1.below g lR) (by have:=HL.out;omega)).mono ?_;rintro e s ⟨J,rfl,b,i⟩;exact D _ _ (b.mono (by have:=g.size;omega)) i
  ·go_simp;refine(Ea _ B t (r2.below g lR) (by have:=HL.out;omega)).mono ?_;rintro e s ⟨J,rfl,b,i⟩;exact D _ _ (b.mono (by have:=g.size;omega)) i
  ·have H:Own t w.heap.size 5 (a.tmps[6]?.getD undef) (bvs (Ba A)):=F.1;obtain⟨v1,j⟩:=eX (a.tmps[6]?.getD undef);rw[<-j]at H;have e1:=j.symm;clear j;have I:Own t w.heap.size 5 (a.tmps[9]?.getD undef) (bvs (Ba B)):=F.2.1;obtain⟨J,k⟩:=eX (a.tmps[9]?.getD undef);rw[<-k]at I;have e2:=k.symm;clear k;go_simp;refine(Cl v1 J _ _ t H.rd I.rd (by omega)).mono ?_;rintro e s ⟨v9,rfl,b,i⟩;exact D _ _ (b.mono (by have:=g.size;omega)) i
  ·go_simp;refine(Ea _ C t (r3.below g lR) (by have:=HL.out;omega)).mono ?_;rintro e s ⟨J,rfl,b,i⟩;exact D _ _ (b.mono (by have:=g.size;omega)) i
  ·go_simp;exact D _ _ (Yk (cs:=#[rE rH (c:Nat)]) (L:=[c]) rfl rfl (by simp)) (bR.alloc lR _)
  ·have H:Own t w.heap.size 5 (a.tmps[13]?.getD undef) (bvs (Ba C)):=F.1;obtain⟨v1,j⟩:=eX (a.tmps[13]?.getD undef);rw[<-j]at H;have e1:=j.symm;clear j;have I:Rd t (a.tmps[16]?.getD undef) (bvs [c]):=F.2.1;obtain⟨J,k⟩:=eX (a.tmps[16]?.getD undef);rw[<-k]at I;have e2:=k.symm;clear k;go_simp;refine(Cl v1 J _ _ t H.rd I (by simp only[dB,bU];omega)).mono ?_;rintro e s ⟨v9,rfl,b,i⟩;exact D _ _ (b.mono (by have:=g.size;omega)) i
  ·have H:Own t w.heap.size 5 (a.tmps[10]?.getD undef) (bvs (Ba A++Ba B)):=F.1;obtain⟨v1,j⟩:=eX (a.tmps[10]?.getD undef);rw[<-j]at H;have e1:=j.symm;clear j;have I:Own t w.heap.size 5 (a.tmps[17]?.getD undef) (bvs (Ba C++[c])):=F.2.1;obtain⟨J,k⟩:=eX (a.tmps[17]?.getD undef);rw[<-k]at I;have e2:=k.symm;clear k;go_simp;refine(Cl v1 J _ _ t H.rd I.rd (by simp only[aD,dB,bU];omega)).mono ?_;rintro e s ⟨v9,rfl,b,i⟩;exact D _ _ (b.mono (by have:=g.size;omega)) i
  ·have o0:Own t w.heap.size 5 (a.tmps[18]?.getD undef) (bvs ((Ba A++Ba B)++(Ba C++[c]))):=F.1;obtain⟨v0,S⟩:=eX (a.tmps[18]?.getD undef);rw[<-S]at o0;have e0:=S.symm;clear S;go_simp;exact D _ _ o0 bR
 ·rintro f w3 q ⟨-,-,-,-,-,-,-,-,-,-,-,-,-,-,-,f8,-⟩;have h8:Own w3 w.heap.size 5 (f 3) (bvs ((Ba A++Ba B)++(Ba C++[c]))):=f8;have H8:=Hd h8;have x3:=(q.cell (p:=⟨w.heap.size,3,rJ⟩) r).trans aO.out;have x4:=(q.cell (p:=⟨w.heap.size,4,rJ⟩) r).trans aP.out;have HR:=Hd (aL.out.below q lR);have Z:=Hd (aM.out.trans (q.mono (show w.heap.size<=W1.heap.size by omega)));have aQ:w.heap.size<w3.heap.size:=(by have:=q.size;omega);clear h8 f8 q y0 y1 y2 y3 y4 r1 r2 r3 r4;simp only[Ak,At,Ei,dG,dH,dJ,dK,Nat.reduceBEq,Nat.reduceAdd,dO,dP,cond_true,cond_false]
  by_cases k3:c=3
  ·have t3:((c:Int)==3)=true:=(by rw[beq_iff_eq];omega);have l:=HU.out;rw[iP k3]at l;have M:=Hd l;have HV:=Hd (Ea _ D4 w3 HR.out (by have:=HL.out;omega));clear k3 l;go_wp2_with fail;refine HV.out.mono ?_;rintro e w4 ⟨v4,rfl,b,E⟩;have HJ:=Hd (Cl (f 3) v4 _ _ w4 (H8.out.rd.below E lR) b.rd (by simp only[aD,dB,bU];omega));have aX:=E.size;have aI:=Hd (Z.out.trans (E.mono (by omega)));clear b E;go_wp2_with fail;refine HJ.out.mono ?_;rintro e w5 ⟨v5,rfl,b,aF⟩;have aK:=Hd (b.mono (show w.heap.size<=w4.heap.size by omega));have aJ:=Hd (aI.out.trans (aF.mono (by omega)));clear b aF;go_wp2_with fail;go_ret;exact⟨_,rfl,by rw[M.out];exact aK.out,aJ.out⟩
  ·have t3:((c:Int)==3)=false:=(by rw[qN];omega);have l:=HU.out;rw[iN k3,dE]at l;have M:=Hd l;clear k3 l;go_wp2_with fail;go_ret;exact⟨_,rfl,by rw[M.out];exact H8.out,Z.out⟩
