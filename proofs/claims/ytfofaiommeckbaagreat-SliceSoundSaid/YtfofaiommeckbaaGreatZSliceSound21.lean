/- Slices as they come in. -/
import Derived.Test.YtfofaiommeckbaaGreatZSliceSoundB
import Derived.Deep.Slices
import Derived.Deep.Fields
import Derived.ChangeSame
import Derived.Deep.Strs
import Derived.Test.YtfofaiommeckbaaGreatZSliceSound16
import Derived.Test.YtfofaiommeckbaaGreatZSliceSound17
import Derived.Test.YtfofaiommeckbaaGreatZSliceSound20
open Nat renaming zero_le → aA, lt_or_ge → aB, lt_of_lt_of_le → dX
open List renaming mem_of_mem_take → bT, getElem?_eq_none → aM, getElem_mem → aL, drop_zero → eT, drop_succ_cons → eU, take_succ_cons → eV, take_zero → eW, getElem?_eq_getElem → aK, getD_eq_getElem?_getD → aJ, getElem_of_mem → dM
set_option linter.unusedVariables false
set_option maxRecDepth 100000
set_option maxHeartbeats 40000000
namespace Go.Proofs.YtfofaiommeckbaaGreat
open Go.RowKit WireM Go.ChangeShapes Go.WideShapes Go.Deep
section
section
variable {H:Type} {enc:TypeId×Value→H} {P:Program} {w:World} {base:Nat} {spare:Nat→Bool} {held:Bool}
theorem Eg {T E:TypeId} (J:P.underlying T=some (.slice E)) (I:P.underlying E=some (.int .u8)) (G:P.cellsOf E=1) {v:Value} {i:Nat} {x:DataW H×List MemPlace}
  (h:DataW.trod enc P w base spare held i T [v]=some x):∃L:List Nat,(∀n∈L,n<256)∧Rd w v (bvs L):=by
 rcases open_ints J I G h with⟨e,_⟩|⟨a,l,c,p,e,_,M,C,K,_,f,m⟩
 ·simp only[List.cons.injEq,and_true]at e;subst e;exact⟨[],by simp,none,0,rfl,lR,aA _,.inl ⟨rfl,fun _=>rfl⟩⟩
 ·simp only[List.cons.injEq,and_true]at e;subst e;have D:l≤p.length:=(by rw[K];split<;>omega);have d:(bvs ((p.take l).map Int.toNat)).length=l:=(by simp[bvs];omega);refine⟨(p.take l).map Int.toNat,?_,some a,c,by rw[d],by rw[d];exact M,C,?_⟩
  ·intro n y;obtain⟨z,q,rfl⟩:=List.mem_map.1 y;obtain⟨n,y,rfl⟩:=Ou (m z (bT q));omega
  ·by_cases h0:l=0
   ·left;subst h0;simp[bvs]
   ·right
    obtain⟨b,s,k⟩:=a;have t:=f 0 (by omega);have g:k=none:=(by simpa [Addr.add]using World.cell?_spot t);subst g;refine⟨b,s,rfl,?_⟩;intro j u A;have F:j<l:=by
     rcases aB j l with h|h
     ·exact h
     ·rw[aM (by rw[d];exact h)]at A;cases A
    have B:=f j (by omega);rw[Addr.add_lit]at B;have o:j<p.length:=(by omega);obtain⟨n,y,r⟩:=Ou (m p[j] (aL o));rw[B,←A];simp[bvs,F,o,r]
end
theorem Zkd {α:Type}(Q:Nat→α→Prop):∀n,(∀i,i<n→∃x,Q i x)→∃L:List α,L.length=n∧∀i (a:i<L.length),Q i L[i]:=by
 intro n
 induction n with
 |zero=>intro _;exact⟨[],rfl,by intro i a;simp at a⟩
 |succ n ih=>
  intro h;obtain⟨L,b,h2⟩:=ih fun i a=>h i (by omega);obtain⟨x,hx⟩:=h n (by omega);refine⟨L++[x],by simp[b],?_⟩;intro i a
  by_cases e:i<n
  ·rw[List.getElem_append_left (by omega)];exact h2 i (by omega)
  ·have:i=n:=(by simp at a;omega);subst this;rw[List.getElem_append_right (by omega)];simpa [b]using hx
end
open Go.ChangeAt
theorem Zde {H:Type} {r:TypeId×Value→H} {P:Program} {w:World} {o:Nat} {f:Nat→Bool} {p:Bool} {T E:TypeId} {k:IntKind} (G:P.underlying T=some (.slice E)) (F:P.underlying E=some (.int k)) (D:P.cellsOf E=1) {v:Value} {m:Nat} {x:DataW H×List MemPlace}
  (h:DataW.trod r P w o f p m T [v]=some x):∃i:List Int,(∀n∈i,(Lit.int k n).wf=true)∧Rd w v (ivs k i):=by
 rcases open_ints G F D h with⟨d,_⟩|⟨x,l,c,i,d,_,K,A,J,_,e,y⟩
 ·simp only[List.cons.injEq,and_true]at d;subst d;exact⟨[],by simp,none,0,rfl,lR,aA _,.inl ⟨rfl,fun _=>rfl⟩⟩
 ·simp only[List.cons.injEq,and_true]at d;subst d;have B:l≤i.length:=(by rw[J];split<;>omega);have a:(ivs k (i.take l)).length=l:=(by simp[ivs];omega);refine⟨i.take l,fun n I=>y n (bT I),some x,c,by rw[a],by rw[a];exact K,A,?_⟩
  by_cases h0:l=0
  ·left;subst h0;simp[ivs]
  ·right
   obtain⟨b,s,q⟩:=x;have t:=e 0 (by omega);have g:q=none:=(by simpa [Addr.add]using World.cell?_spot t);subst g;refine⟨b,s,rfl,?_⟩;intro j u z;have C:j<l:=by
    rcases aB j l with h|h
    ·exact h
    ·rw[aM (by rw[a];exact h)]at z;cases z
   have:=e j (by omega);rw[Addr.add_lit]at this;rw[this,←z];simp[ivs,C,show j<i.length from by omega]
theorem c5:Tryz.prog.cellsOf 5=1:=by kernel_rfl
theorem c22:Tryz.prog.cellsOf 28=1:=by kernel_rfl
theorem c30:Tryz.prog.cellsOf 48=1:=by kernel_rfl
theorem c53:Tryz.prog.cellsOf 44=6:=by kernel_rfl
theorem c55:Tryz.prog.cellsOf 50=3:=by kernel_rfl
theorem c57:Tryz.prog.cellsOf 52=10:=by kernel_rfl
theorem Zdf {H:Type} {h:TypeId×Value→H} {W:World} {g:Nat} {a:Nat→Bool} {c:Bool} {f:Nat} {cs:List Value} {y:DataW H×List MemPlace} (q:cs.length=10)
  (hf:DataW.trod h Tryz.prog W g a c f 52 cs=some y):∃D:NodeD,NodeC W D cs.toArray∧NodeOk D:=by
 match cs,q with
 |[x0,x1,x2,x3,x4,x5,x6,x7,x8,x9],_=>
  obtain⟨y0,y1,y2,n,_,_,A,x,w⟩:=trod_struct3 Tryz.underlying52 hf;simp only[c5,c53,c55,eT,eU,eV,eW]at A x w;obtain⟨k,F,_,w0⟩:=DataW.trod_int Tryz.underlying5 A;obtain⟨xs,n1,_,_,_,d,b⟩:=DataW.trod_struct Tryz.underlying44 x
  match xs,d with
  |[z0,z1,z2,z3,z4,z5],_=>
   have u0:=b 0 _ rfl;have u1:=b 1 _ rfl;have u2:=b 2 _ rfl;have u3:=b 3 _ rfl;have u4:=b 4 _ rfl;have u5:=b 5 _ rfl;simp only[List.getElem_toArray,List.getElem_cons_zero,List.getElem_cons_succ,c5,c22,eT,eU,eV,eW,List.getElem?_cons_zero,List.getElem?_cons_succ]at u0 u1 u2 u3 u4 u5;obtain⟨p0,p1,p2,n2,_,_,E,C,B⟩:=trod_struct3 Tryz.underlying50 w;simp only[c22,c30,eT,eU,eV,eW]at E C B;obtain⟨Y,G,l⟩:=Eg Tryz.underlying28 Tryz.underlying5 (by kernel_rfl) u0;obtain⟨X,S,o⟩:=Eg Tryz.underlying28 Tryz.underlying5 (by kernel_rfl) u1;obtain⟨K,h2,m⟩:=Eg Tryz.underlying28 Tryz.underlying5 (by kernel_rfl) u2;obtain⟨sr,e3,_,w3⟩:=DataW.trod_int Tryz.underlying5 u3;obtain⟨L4,V,t⟩:=Eg Tryz.underlying28 Tryz.underlying5 (by kernel_rfl) u4;obtain⟨J,h5,j⟩:=Eg Tryz.underlying28 Tryz.underlying5 (by kernel_rfl) u5;obtain⟨Z,g0,s⟩:=Eg Tryz.underlying28 Tryz.underlying5 (by kernel_rfl) E;obtain⟨Q,P,i⟩:=Eg Tryz.underlying28 Tryz.underlying5 (by kernel_rfl) C;obtain⟨p,g2,r⟩:=Zde Tryz.underlying48 Tryz.underlying3 (by kernel_rfl) B;simp only[List.cons.injEq,and_true]at F e3;subst F e3;obtain⟨N,u,rfl⟩:=Ou w0;obtain⟨v,e,rfl⟩:=Ou w3;obtain⟨a0,T,rfl,-⟩:=id l;obtain⟨L,c1,rfl,-⟩:=id o;obtain⟨a2,c2,rfl,-⟩:=id m;obtain⟨R,c4,rfl,-⟩:=id t;obtain⟨a5,c5,rfl,-⟩:=id j;obtain⟨b0,I,rfl,-⟩:=id s;obtain⟨U,d1,rfl,-⟩:=id i;obtain⟨M,d2,rfl,-⟩:=id r;have e9:(ivs .i64 p).length=p.length:=(by simp[ivs]);simp only[bvs_len,e9]at l o m t j s i r⊢;exact⟨⟨N,⟨Y,X,K,v,L4,J⟩,⟨Z,Q,p⟩⟩,⟨a0,T,L,c1,a2,c2,R,c4,a5,c5,b0,I,U,d1,M,d2,rfl,l,o,m,t,j,s,i,r⟩,
    ⟨u,e,G,S,h2,V,h5,g0,P,fun z O=>Zjd (g2 z O)⟩⟩
theorem Za4 {H:Type} {F:TypeId×Value→H} {W:World} {v:Value} {d:DataW H} {p:List MemPlace} {s:Nat}
  (ok:Value.okWide Tryz.prog W .any s 55 v) (h:DataW.Trod F Tryz.prog W 0 (fun _=>true) true 55 v d p):∃t:List NodeD,TreeR W v t∧TreeOk t:=by
 obtain⟨a0,f,z,rfl⟩:=okWide_slice Tryz.underlying55 ok;obtain⟨P,Z⟩:=h;rcases open_slice Tryz.underlying55 Z with⟨e,_⟩|⟨a,len,cap,m,n,D,Pl,e,hb,hl,T,E,hx,g⟩
 ·simp[Value.cells]at e;obtain⟨rfl,rfl,rfl⟩:=e;exact⟨[],TreeR.nil _,fun d Y=>by cases Y⟩
 ·simp[Value.cells]at e;obtain⟨rfl,rfl,rfl⟩:=e;have X:f≤m:=(by rw[E];split<;>omega);have O:∀i,i<f→∃D:NodeD,NodeOk D∧∃b l c,some a=some ⟨b,l,none⟩∧b<W.heap.size∧NodeC W D c∧W.rangeAt b (l+i*10) c.toList:=by
   intro i S;obtain⟨k,q,I⟩:=g i (by omega);rw[c57]at q;obtain⟨_,L,y⟩:=World.cells?_some q;obtain⟨D,U,N⟩:=Zdf L I;obtain⟨b,l,r⟩:=a;have M:=y 0 (by omega);have R:k[0]? =some (k[0]'(by omega)):=aK (by omega);rw[R]at M;have o:r=none:=by
    obtain⟨J,w,_⟩:=g 0 (by omega);rw[c57]at w;obtain⟨_,Q,B⟩:=World.cells?_some w;have A:=B 0 (by omega);rw[aK (show 0<J.length by omega)]at A;simpa [Addr.add]using World.cell?_spot A
   subst o;refine⟨D,N,b,l,k.toArray,rfl,?_,U,?_⟩
   ·rw[Addr.add_lit,Addr.add_lit]at M;exact World.block_lt_of_cell? W _ M
   ·intro j u K;have V:j<10:=by
     rcases aB j k.length with h|h
     ·omega
     ·rw[aM h]at K;cases K
    have:=y j V;rw[Addr.add_lit,Addr.add_lit]at this;rw[this];exact K
  obtain⟨C,h1,h2⟩:=Zkd _ f O;have G:∀i (g:i<C.length),nd C i=C[i]:=fun i g=>(by rw[nd,aJ,aK g];rfl);refine⟨C,⟨some a,z,by rw[h1],by omega,T,?_⟩,?_⟩
  ·intro i g;rw[G i g];exact(h2 i g).2
  ·intro x hx;obtain⟨i,g,rfl⟩:=dM hx;exact(h2 i g).1
open WalkM
section
structure SparseD where
 leaves:Int
 own:Int
 op:List (Int×NodeD)
 sh:List (Int×List Nat)
def spt (l:List (Int×NodeD))(i:Nat):Int×NodeD:=l.getD i (0,An)
def stb (l:List (Int×List Nat))(i:Nat):Int×List Nat:=l.getD i (0,[])
def SpotsR (w:World)(v:Value)(l:List (Int×NodeD)):Prop:=
 ∃a cap,v=.slice a l.length cap∧l.length≤cap∧cap≤maxLen∧∀i,i<l.length→∃b off c,a=some ⟨b,off,none⟩∧b<w.heap.size∧NodeC w (spt l i).2 c∧w.rangeAt b (off+i*11) (.int .i64 (spt l i).1::c.toList)
def StubsR (w:World)(v:Value)(l:List (Int×List Nat)):Prop:=
 ∃a cap,v=.slice a l.length cap∧l.length≤cap∧cap≤maxLen∧∀i,i<l.length→∃b off u,a=some ⟨b,off,none⟩∧b<w.heap.size∧Rd w u (bvs (stb l i).2)∧w.rangeAt b (off+i*2) [.int .i64 (stb l i).1,u]
def SparseR (w:World)(v:Value)(s:SparseD):Prop:=∃o h,v=.agg #[.int .i64 s.leaves,.int .i64 s.own,o,h]∧SpotsR w o s.op∧StubsR w h s.sh
structure SparseOk (s:SparseD):Prop where
 leaves:inI s.leaves
 own:inI s.own
 op:∀p∈s.op,inI p.1∧NodeOk p.2
 sh:∀p∈s.sh,inI p.1∧∀x∈p.2,x<256
theorem SpotsR.below {w w':World} {B:Nat} {v:Value} {l:List (Int×NodeD)}(h:SpotsR w v l)(d:Below B w w')(j:w.heap.size≤B):SpotsR w' v l:=by
 obtain⟨a,cap,e,m,h2,h3⟩:=h;refine⟨a,cap,e,m,h2,fun i n=> ?_⟩;obtain⟨b,f,c,e,o,k,g⟩:=h3 i n;exact⟨b,f,c,e,dX o d.size,k.below d j,Am g d (by omega)⟩
theorem StubsR.below {w w':World} {B:Nat} {v:Value} {l:List (Int×List Nat)}(h:StubsR w v l)(d:Below B w w')(j:w.heap.size≤B):StubsR w' v l:=by
 obtain⟨a,cap,e,m,h2,h3⟩:=h;refine⟨a,cap,e,m,h2,fun i n=> ?_⟩;obtain⟨b,f,c,e,o,k,g⟩:=h3 i n;exact⟨b,f,c,e,dX o d.size,k.below d j,Am g d (by omega)⟩
theorem SparseR.below {w w':World} {B:Nat} {v:Value} {s:SparseD}(h:SparseR w v s)(hb:Below B w w')(hB:w.heap.size≤B):SparseR w' v s:=by
 obtain⟨o,g,e,h1,h2⟩:=h;exact⟨o,g,e,h1.below hb hB,h2.below hb hB⟩
theorem SpotsR.nil (w:World):SpotsR w (.slice none 0 0) []:=⟨none,0,rfl,lR,aA _,fun i hi=>absurd hi (by simp)⟩
theorem StubsR.nil (w:World):StubsR w (.slice none 0 0) []:=⟨none,0,rfl,lR,aA _,fun i hi=>absurd hi (by simp)⟩
theorem SpotsR.sl {w:World} {v:Value} {l:List (Int×NodeD)}(h:SpotsR w v l):∃a c,v=.slice a l.length c∧l.length≤c∧c≤9223372036854775807:=by
 obtain⟨a,cap,e,h1,h2,_⟩:=h;unfold maxLen at h2;exact⟨a,cap,e,h1,h2⟩
theorem StubsR.sl {w:World} {v:Value} {l:List (Int×List Nat)}(h:StubsR w v l):∃a c,v=.slice a l.length c∧l.length≤c∧c≤9223372036854775807:=by
 obtain⟨a,cap,e,h1,h2,_⟩:=h;unfold maxLen at h2;exact⟨a,cap,e,h1,h2⟩
theorem SpotsR.at {w:World} {a:Option Addr} {n c:Nat} {l:List (Int×NodeD)}(h:SpotsR w (.slice a n c) l) {i:Nat}(d:i<n):∃b off cs,a=some ⟨b,off,none⟩∧b<w.heap.size∧NodeC w (spt l i).2 cs∧w.rangeAt b (off+i*11) (.int .i64 (spt l i).1::cs.toList):=by
 obtain⟨g,cap,e,f,h2,h3⟩:=h;simp only[Value.slice.injEq]at e;obtain⟨rfl,rfl,rfl⟩:=e;exact h3 i d
theorem StubsR.at {w:World} {a:Option Addr} {n c:Nat} {l:List (Int×List Nat)}(h:StubsR w (.slice a n c) l) {i:Nat}(d:i<n):∃b off u,a=some ⟨b,off,none⟩∧b<w.heap.size∧Rd w u (bvs (stb l i).2)∧w.rangeAt b (off+i*2) [.int .i64 (stb l i).1,u]:=by
 obtain⟨g,cap,e,f,h2,h3⟩:=h;simp only[Value.slice.injEq]at e;obtain⟨rfl,rfl,rfl⟩:=e;exact h3 i d
theorem Qy {l:List (Int×NodeD)} {i:Nat}(h:i<l.length):spt l i∈l:=by
 rw[spt,aJ,aK h];exact aL h
theorem Vv {l:List (Int×List Nat)} {i:Nat}(h:i<l.length):stb l i∈l:=by
 rw[stb,aJ,aK h];exact aL h
section
variable {H:Type} {enc:TypeId×Value→H} {W:World} {base:Nat} {spare:Nat→Bool} {held:Bool}
end
end
end Go.Proofs.YtfofaiommeckbaaGreat
namespace Go.Proofs.YtfofaiommeckbaaGreat
open Go.RowKit WalkM WireM
theorem Zlt (v:Value)(L:List Int)(x:Int)(w:World)(h:Rd w v (ivs .i64 L)):
  Calls Tryz.prog 138 #[v,.int .i64 x] w fun e w'=>e=.returned (.bool (decide (x∈L)))∧w'=w:=by
 have K:∃a c,v=.slice a L.length c∧c≤maxLen∧L.length≤c:=(by obtain⟨a,c,e,Q,h2,_⟩:=h;exact⟨a,c,by rw[e];simp[ivs],h2,by simpa [ivs]using Q⟩);obtain⟨a,c,rfl,m,B⟩:=K;have G:=fun(i:Nat) (f:i<L.length)=>h.at3 (u:=.int .i64 (L.getD i 0)) (r:=i) (by simp[ivs,aJ,f]);have o:=fun(i:Nat) (f:i<L.length) (e:L.getD i 0=x)=>(show decide (x∈L)=true from decide_eq_true (by
  rw[aJ,aK f]at e;have:L[i]=x:=e;rw[←this];exact aL f))
 have p:=fun(d:∀i,i<L.length→L.getD i 0≠x)=>(show decide (x∈L)=false from decide_eq_false (fun J=>by
  obtain⟨i,f,e⟩:=dM J;exact d i f (by rw[aJ,aK f];exact e)))
 obtain⟨n,F⟩:=eX L.length;obtain⟨R,H⟩:=eX (decide (x∈L));rw[←F]at G o p B⊢;rw[←H]at o p⊢;have I:n≤9223372036854775807:=(by unfold maxLen at m;omega);have P:=Hd G;have C:=Hd o;have A:=Hd p;clear G o p h F H m;go_enter Tryz.func138,Tryz.ntmps138;go_wp2_with fail
 go_loopg [5] n (fun q iv wr=>∃r:Nat,r+q=n∧iv=.int .i64 (r:Nat)∧(∀i,i<r→L.getD i 0≠x)∧wr=w)
 case atStart=>exact⟨0,by omega,rfl,fun k hk=>by omega,rfl⟩
 case round=>
  obtain⟨r,D,rfl,d,rfl⟩:=hrel;have s:=Hd D;have l:=Hd d;clear D d
  by_cases hlt:r<n
  ·have j:decide (r<n)=true:=decide_eq_true hlt;obtain⟨b,M,rfl,N,g⟩:=P.out r hlt;obtain⟨y,z⟩:=eX (L.getD r 0);rw[←z]at g;have E:=Hd z;clear z
   by_cases he:y=x
   ·have O:(y==x)=true:=(by rw[beq_iff_eq];exact he);have t:=Hd he;clear he;go_wp2_with fail;go_ret;exact⟨Dh (C.out r hlt (by rw[←E.out];exact t.out)),rfl⟩
   ·have O:(y==x)=false:=(by rw[beq_eq_false_iff_ne];exact he);have t:=Hd he;clear he;go_wp2_with fail;go_roundg (gk-1);case measure=>have:=s.out;omega
    case rel=>
     refine⟨r+1,by have:=s.out;omega,by go_num,fun i f=> ?_,rfl⟩
     by_cases e:i=r
     ·rw[e,←E.out];exact t.out
     ·exact l.out i (by omega)
  ·obtain rfl:r=n:=(by have:=s.out;omega);have j:decide (r<r)=false:=decide_eq_false hlt;go_wp2_with fail;go_ret;exact⟨Dh (A.out l.out),rfl⟩
def Ai:List (Int×NodeD)→Int→Option NodeD
 |[],_=>none
 |p::l,x=>if p.1=x then some p.2 else Ai l x
theorem Qz {l:List (Int×NodeD)} {x:Int}:∀ {r:Nat},r<l.length→(∀i,i<r→(spt l i).1≠x)→(spt l r).1=x→Ai l x=some (spt l r).2:=by
 induction l with
 |nil=>intro r b;simp at b
 |cons p l ih=>
  intro r b a c;cases r with
  |zero=>have e:p.1=x:=c;rw[Ai,if_pos e];rfl
  |succ r=>
   have d:p.1≠x:=a 0 (by omega);rw[Ai,if_neg d];exact ih (r:=r) (by simpa using b) (fun i f=>a (i+1) (by omega)) c
theorem Pi {l:List (Int×NodeD)} {x:Int}:(∀i,i<l.length→(spt l i).1≠x)→Ai l x=none:=by
 induction l with
 |nil=>intro _;rfl
 |cons p l ih=>
  intro h;rw[Ai,if_neg (show¬p.1=x from h 0 (by simp))];exact ih fun i hi=>h (i+1) (by simp;omega)
theorem Dw {l:List (Int×NodeD)} {x:Int} {d:NodeD}(h:Ai l x=some d):(x,d)∈l:=by
 induction l with
 |nil=>cases h
 |cons p l ih=>
  rw[Ai]at h
  split at h
  ·rename_i e
   cases h;rw[←e];exact List.mem_cons_self
  ·exact List.mem_cons_of_mem _ (ih h)
theorem Fd {w:World} {b o:Nat} {u:Value} {cs:List Value}(h:w.rangeAt b o (u::cs)):w.rangeAt b (o+1) cs:=by
 intro j v hv;have:=h (j+1) v (by simpa using hv);rw[show o+1+j=o+(j+1) by omega];exact this
theorem Dn {w:World} {b o:Nat} {u:Value} {cs:List Value}(h:w.rangeAt b o (u::cs)):w.cell? ⟨b,o,none⟩=some u:=by
 have:=h 0 u rfl;simpa using this
theorem NodeC.ten {w:World} {d:NodeD} {c:Array Value}(h:NodeC w d c):∃x0 x1 x2 x3 x4 x5 x6 x7 x8 x9,c=#[x0,x1,x2,x3,x4,x5,x6,x7,x8,x9]:=by
 obtain⟨a1,c1,a2,c2,a3,c3,a4,c4,a5,c5,b1,e1,b2,e2,b3,e3,rfl,_⟩:=h;exact⟨_,_,_,_,_,_,_,_,_,_,rfl⟩
theorem NodeC.oneL {w:World} {d:NodeD} {c:Array Value}(h:NodeC w d c):c.toList.all (·.oneCell')=true:=by rw[Array.all_toList];exact h.one
theorem Pj (v:Value)(l:List (Int×NodeD))(x:Int)(w:World)(h:SpotsR w v l):
  Calls Tryz.prog 29 #[v,.int .i64 x] w fun e w'=>∃c,e=.returned (.tuple #[.agg c,.bool (Ai l x).isSome])∧NodeC w' ((Ai l x).getD An) c∧Below w.heap.size w w':=by
 obtain⟨a,cp,rfl,hc,aB⟩:=h.sl;have G:=fun(i:Nat) (hi:i<l.length)=>h.at hi;have E:=fun(r:Nat) (L:r<l.length) (m:∀i,i<r→(spt l i).1≠x) (t:(spt l r).1=x)=>Qz L m t;have F:=Pi (l:=l) (x:=x);obtain⟨n,Z⟩:=eX l.length;obtain⟨R,hR⟩:=eX (Ai l x);obtain⟨S,Y⟩:∃S:Nat→Int×NodeD,S=spt l:=⟨_,rfl⟩;rw[←Z]at G E F hc⊢;rw[←hR]at E F⊢;rw[←Y]at G E F;have HG:=Hd G;have Q:=Hd E;have M:=Hd F;clear G E F h Z hR Y;go_enter Tryz.func29,Tryz.ntmps29;go_wp2_with fail;have B:=Hd (Blk.new w 52 #[.int .u8 0,.slice none 0 0,.slice none 0 0,.slice none 0 0,.int .u8 0,.slice none 0 0,.slice none 0 0,.slice none 0 0,.slice none 0 0,.slice none 0 0]);have C:=Hd ((Below.refl w.heap.size w).alloc lR (.cells #[.int .u8 0,.slice none 0 0,.slice none 0 0,.slice none 0 0,.int .u8 0,.slice none 0 0,.slice none 0 0,.slice none 0 0,.slice none 0 0,.slice none 0 0] 52));generalize hw1:w.alloc (.cells #[.int .u8 0,.slice none 0 0,.slice none 0 0,.slice none 0 0,.int .u8 0,.slice none 0 0,.slice none 0 0,.slice none 0 0,.slice none 0 0,.slice none 0 0] 52)=w1 at B C⊢;clear hw1
 go_loopg [6] n (fun q iv wr=>∃r:Nat,r+q=n∧iv=.int .i64 (r:Nat)∧(∀i,i<r→(S i).1≠x)∧wr=w1)
 case atStart=>exact⟨0,by omega,rfl,fun k hk=>by omega,rfl⟩
 case round=>
  obtain⟨r,L,rfl,m,rfl⟩:=hrel;have P:=Hd L;have u:=Hd m;clear L m
  by_cases hlt:r<n
  ·have H:decide (r<n)=true:=decide_eq_true hlt;have aA:(r:Int)<(n:Int):=(by omega);obtain⟨b,I,c,rfl,J,o,z⟩:=HG.out r hlt;have A:=(C.out.cell (p:=⟨b,I+r*11,none⟩) J).trans (Dn z);have D:=Am (Fd z) C.out J;obtain⟨y,U⟩:=eX ((S r).1);rw[←U]at A;have X:=Hd U;have O:=Hd o;have K:=Hd o.oneL;obtain⟨x0,x1,x2,x3,x4,x5,x6,x7,x8,x9,rfl⟩:=o.ten;have N:=Hd D;clear U z o D
   by_cases t:y=x
   ·have hq:(y==x)=true:=(by rw[beq_iff_eq];exact t);have T:=Hd t;clear t;go_wp2_with (first|(refine wpList_load_mid rfl 52 (.tmp 23) rfl b (I+r*11+1) rfl [x0,x1,x2,x3,x4,x5,x6,x7,x8,x9] _ N.out Tryz.underlying52 rfl Ak ?_)|(refine Aa rfl 52 (.tmp 4) (.tmp 24) rfl w.heap.size #[x0,x1,x2,x3,x4,x5,x6,x7,x8,x9] rfl rfl 52 #[.int .u8 0,.slice none 0 0,.slice none 0 0,.slice none 0 0,.int .u8 0,.slice none 0 0,.slice none 0 0,.slice none 0 0,.slice none 0 0,.slice none 0 0] B.out (by kernel_rfl) rfl K.out ?_));rintro w3 d f j g;have W:=Hd d;have s:=Hd (C.out.trans (f w.heap.size lR));have V:=Hd (O.out.below s.out lR);clear d f j g;go_wp2_with fail;refine bodyPost_ret (v:=.tuple #[.agg #[x0,x1,x2,x3,x4,x5,x6,x7,x8,x9],.bool true]) (Ad Tryz.results29 _ _ w.heap.size _ _ _ rfl W.out Tryz.underlying52 rfl (by kernel_rfl)) rfl ?_;have e1:=Q.out r hlt u.out (by rw[←X.out];exact T.out);rw[e1];exact⟨_,rfl,V.out,s.out⟩
   ·have hq:(y==x)=false:=(by rw[beq_eq_false_iff_ne];exact t);have T:=Hd t;clear t;go_wp2_with fail;go_roundg (gk-1);case measure=>have:=P.out;omega
    case rel=>
     refine⟨r+1,by have:=P.out;omega,by go_num,fun i hi=> ?_,rfl⟩
     by_cases e:i=r
     ·rw[e,←X.out];exact T.out
     ·exact u.out i (by omega)
  ·obtain rfl:r=n:=(by have:=P.out;omega);have H:decide (r<r)=false:=decide_eq_false hlt;go_wp2_with (refine Aa rfl 52 (.tmp 4) (.tmp 25) rfl w.heap.size #[.int .u8 0,.slice none 0 0,.slice none 0 0,.slice none 0 0,.int .u8 0,.slice none 0 0,.slice none 0 0,.slice none 0 0,.slice none 0 0,.slice none 0 0] rfl rfl 52 #[.int .u8 0,.slice none 0 0,.slice none 0 0,.slice none 0 0,.int .u8 0,.slice none 0 0,.slice none 0 0,.slice none 0 0,.slice none 0 0,.slice none 0 0] B.out (by kernel_rfl) rfl rfl ?_);rintro w3 d f j g;have W:=Hd d;have s:=Hd (C.out.trans (f w.heap.size lR));clear d f j g;go_wp2_with fail;refine bodyPost_ret (v:=.tuple #[.agg #[.int .u8 0,.slice none 0 0,.slice none 0 0,.slice none 0 0,.int .u8 0,.slice none 0 0,.slice none 0 0,.slice none 0 0,.slice none 0 0,.slice none 0 0],.bool false]) (Ad Tryz.results29 _ _ w.heap.size _ _ _ rfl W.out Tryz.underlying52 rfl (by kernel_rfl)) rfl ?_;rw[M.out u.out];exact⟨_,rfl,Jq _,s.out⟩
theorem Yp {L:List Int} {j:Nat}(hj:j<L.length):(ivs .i64 L)[j]? =some (.int .i64 (L.getD j 0)):=by
 simp[ivs,aJ,hj]
theorem Lh {l:List (Int×NodeD)} {i:Nat}(h:i<l.length):spt l i=l[i]:=by rw[spt,aJ,aK h];rfl
theorem Nh {l:List (Int×List Nat)} {i:Nat}(h:i<l.length):stb l i=l[i]:=by rw[stb,aJ,aK h];rfl
end Go.Proofs.YtfofaiommeckbaaGreat
