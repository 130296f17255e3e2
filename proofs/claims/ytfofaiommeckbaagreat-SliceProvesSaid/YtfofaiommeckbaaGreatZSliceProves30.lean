import Derived.Deep.Slices
import Derived.Deep.Fields
import Derived.ChangeSame
import Derived.Deep.Strs
import Derived.Test.YtfofaiommeckbaaGreatZSliceProves17
import Derived.Test.YtfofaiommeckbaaGreatZSliceProves29
import Derived.Test.YtfofaiommeckbaaGreatZSliceProves19
open Go.Value renaming slice → q9
open Option renaming none → rF
open Go.Proofs.Tryz
open Nat renaming zero_le → aA, lt_or_ge → aB, lt_of_lt_of_le → dS
open List renaming mem_of_mem_take → cC, getElem?_eq_none → aK, getElem_mem → aJ, drop_zero → fH, drop_succ_cons → fI, take_succ_cons → fJ, take_zero → fK, getElem?_eq_getElem → aI, getD_eq_getElem?_getD → aH, getElem_of_mem → dK, length_take → cD, take_append_drop → fL, pairwise_append → fM, append_assoc → bW, singleton_append → fN, map_drop → fP, map_take → fQ
set_option linter.unusedVariables false
set_option maxRecDepth 100000
set_option maxHeartbeats 40000000
namespace Go.Proofs.YtfofaiommeckbaaGreat
open Go.RowKit WireM Go.ChangeShapes Go.WideShapes Go.Deep
section
section
variable {H:Type} {enc:TypeId×Value→H} {P:Program} {w:World} {base:Nat} {spare:Nat→Bool} {held:Bool}
theorem Ek {T E:TypeId} (M:P.underlying T=some (.slice E)) (C:P.underlying E=some (.int .u8)) (J:P.cellsOf E=1) {v:Value} {m:Nat} {x:DataW H×List MemPlace}
  (h:DataW.trod enc P w base spare held m T [v]=some x):∃L:List Nat,(∀n∈L,n<256)∧Rd w v (bvs L):=by
 rcases open_ints M C J h with⟨e,_⟩|⟨a,l,c,i,e,_,K,D,G,_,d,k⟩
 ·simp only[List.cons.injEq,and_true]at e;subst e;exact⟨[],by simp,none,0,rfl,lR,aA _,.inl ⟨rfl,fun _=>rfl⟩⟩
 ·simp only[List.cons.injEq,and_true]at e;subst e;have I:l≤i.length:=(by rw[G];split<;>omega);have f:(bvs ((i.take l).map Int.toNat)).length=l:=(by simp[bvs];omega);refine⟨(i.take l).map Int.toNat,?_,some a,c,by rw[f],by rw[f];exact K,D,?_⟩
  ·intro n A;obtain⟨z,q,rfl⟩:=List.mem_map.1 A;obtain⟨n,A,rfl⟩:=Yn (k z (cC q));omega
  ·by_cases h0:l=0
   ·left;subst h0;simp[bvs]
   ·right
    obtain⟨b,t,p⟩:=a;have s:=d 0 (by omega);have g:p=none:=(by simpa [Addr.add]using World.cell?_spot s);subst g;refine⟨b,t,rfl,?_⟩;intro j u y;have F:j<l:=by
     rcases aB j l with h|h
     ·exact h
     ·rw[aK (by rw[f];exact h)]at y;cases y
    have B:=d j (by omega);rw[Addr.add_lit]at B;have o:j<i.length:=(by omega);obtain⟨n,A,r⟩:=Yn (k i[j] (aJ o));rw[B,←y];simp[bvs,F,o,r]
end
theorem Zk6 {α:Type}(Q:Nat→α→Prop):∀n,(∀i,i<n→∃x,Q i x)→∃L:List α,L.length=n∧∀i (a:i<L.length),Q i L[i]:=by
 intro n
 induction n with
 |zero=>intro _;exact⟨[],rfl,by intro i a;simp at a⟩
 |succ n ih=>
  intro h;obtain⟨L,h1,h2⟩:=ih fun i a=>h i (by omega);obtain⟨x,hx⟩:=h n (by omega);refine⟨L++[x],by simp[h1],?_⟩;intro i a
  by_cases e:i<n
  ·rw[List.getElem_append_left (by omega)];exact h2 i (by omega)
  ·have:i=n:=(by simp at a;omega);subst this;rw[List.getElem_append_right (by omega)];simpa [h1]using hx
end
open Go.ChangeAt
theorem Zeq {H:Type} {enc:TypeId×Value→H} {P:Program} {w:World} {o:Nat} {i:Nat→Bool} {p:Bool} {T E:TypeId} {k:IntKind} (I:P.underlying T=some (.slice E)) (z:P.underlying E=some (.int k)) (F:P.cellsOf E=1) {v:Value} {m:Nat} {x:DataW H×List MemPlace}
  (h:DataW.trod enc P w o i p m T [v]=some x):∃f:List Int,(∀n∈f,(Lit.int k n).wf=true)∧Rd w v (ivs k f):=by
 rcases open_ints I z F h with⟨d,_⟩|⟨x,l,c,f,d,_,G,A,C,_,a,s⟩
 ·simp only[List.cons.injEq,and_true]at d;subst d;exact⟨[],by simp,none,0,rfl,lR,aA _,.inl ⟨rfl,fun _=>rfl⟩⟩
 ·simp only[List.cons.injEq,and_true]at d;subst d;have D:l≤f.length:=(by rw[C];split<;>omega);have e:(ivs k (f.take l)).length=l:=(by simp[ivs];omega);refine⟨f.take l,fun n J=>s n (cC J),some x,c,by rw[e],by rw[e];exact G,A,?_⟩
  by_cases h0:l=0
  ·left;subst h0;simp[ivs]
  ·right
   obtain⟨b,t,q⟩:=x;have r:=a 0 (by omega);have g:q=none:=(by simpa [Addr.add]using World.cell?_spot r);subst g;refine⟨b,t,rfl,?_⟩;intro j u y;have B:j<l:=by
    rcases aB j l with h|h
    ·exact h
    ·rw[aK (by rw[e];exact h)]at y;cases y
   have:=a j (by omega);rw[Addr.add_lit]at this;rw[this,←y];simp[ivs,B,show j<f.length from by omega]
theorem c5:prog.cellsOf 5=1:=by kernel_rfl
theorem c22:prog.cellsOf 28=1:=by kernel_rfl
theorem c30:prog.cellsOf 48=1:=by kernel_rfl
theorem c53:prog.cellsOf 44=6:=by kernel_rfl
theorem c55:prog.cellsOf 50=3:=by kernel_rfl
theorem c57:prog.cellsOf 52=10:=by kernel_rfl
theorem Zer {H:Type} {enc:TypeId×Value→H} {W:World} {c:Nat} {a:Nat→Bool} {d:Bool} {e:Nat} {cs:List Value} {y:DataW H×List MemPlace} (l:cs.length=10)
  (I:DataW.trod enc prog W c a d e 52 cs=some y):∃D:NodeD,NodeC W D cs.toArray∧NodeOk D:=by
 match cs,l with
 |[x0,x1,x2,x3,x4,x5,x6,x7,x8,x9],_=>
  obtain⟨y0,y1,y2,n,_,_,x,A,C⟩:=trod_struct3 underlying52 I;simp only[c5,c53,c55,fH,fI,fJ,fK]at x A C;obtain⟨k,w,_,w0⟩:=DataW.trod_int underlying5 x;obtain⟨xs,n1,_,_,_,f,b⟩:=DataW.trod_struct underlying44 A
  match xs,f with
  |[z0,z1,z2,z3,z4,z5],_=>
   have u0:=b 0 _ rfl;have u1:=b 1 _ rfl;have u2:=b 2 _ rfl;have u3:=b 3 _ rfl;have u4:=b 4 _ rfl;have u5:=b 5 _ rfl;simp only[List.getElem_toArray,List.getElem_cons_zero,List.getElem_cons_succ,c5,c22,fH,fI,fJ,fK,List.getElem?_cons_zero,List.getElem?_cons_succ]at u0 u1 u2 u3 u4 u5;obtain⟨p0,p1,p2,n2,_,_,v,E,B⟩:=trod_struct3 underlying50 C;simp only[c22,c30,fH,fI,fJ,fK]at v E B;obtain⟨T,h0,s⟩:=Ek underlying28 underlying5 (by kernel_rfl) u0;obtain⟨L1,h1,r⟩:=Ek underlying28 underlying5 (by kernel_rfl) u1;obtain⟨L2,h2,j⟩:=Ek underlying28 underlying5 (by kernel_rfl) u2;obtain⟨sr,e3,_,G⟩:=DataW.trod_int underlying5 u3;obtain⟨L,K,q⟩:=Ek underlying28 underlying5 (by kernel_rfl) u4;obtain⟨M,J,m⟩:=Ek underlying28 underlying5 (by kernel_rfl) u5;obtain⟨M0,g0,u⟩:=Ek underlying28 underlying5 (by kernel_rfl) v;obtain⟨O,R,p⟩:=Ek underlying28 underlying5 (by kernel_rfl) E;obtain⟨h,g2,t⟩:=Zeq underlying48 underlying3 (by kernel_rfl) B;simp only[List.cons.injEq,and_true]at w e3;subst w e3;obtain⟨V,o,rfl⟩:=Yn w0;obtain⟨i,g,rfl⟩:=Yn G;obtain⟨U,Q,rfl,-⟩:=id s;obtain⟨Y,c1,rfl,-⟩:=id r;obtain⟨F,c2,rfl,-⟩:=id j;obtain⟨X,c4,rfl,-⟩:=id q;obtain⟨Z,c5,rfl,-⟩:=id m;obtain⟨b0,d0,rfl,-⟩:=id u;obtain⟨b1,d1,rfl,-⟩:=id p;obtain⟨S,d2,rfl,-⟩:=id t;have P:(ivs .i64 h).length=h.length:=(by simp[ivs]);simp only[bvs_len,P]at s r j q m u p t⊢;exact⟨⟨V,⟨T,L1,L2,i,L,M⟩,⟨M0,O,h⟩⟩,⟨U,Q,Y,c1,F,c2,X,c4,Z,c5,b0,d0,b1,d1,S,d2,rfl,s,r,j,q,m,u,p,t⟩,
    ⟨o,g,h0,h1,h2,K,J,g0,R,fun z N=>Zj1 (g2 z N)⟩⟩
theorem Zby {H:Type} {enc:TypeId×Value→H} {W:World} {v:Value} {d:DataW H} {p:List MemPlace} {A:Nat}
  (ok:Value.okWide prog W .any A 55 v) (h:DataW.Trod enc prog W 0 (fun _=>true) true 55 v d p):∃t:List NodeD,TreeR W v t∧TreeOk t:=by
 obtain⟨Y,e,r,rfl⟩:=okWide_slice underlying55 ok;obtain⟨P,V⟩:=h;rcases open_slice underlying55 V with⟨f,_⟩|⟨a,len,cap,m,n,D,Pl,f,hb,Z,U,F,hx,g⟩
 ·simp[Value.cells]at f;obtain⟨rfl,rfl,rfl⟩:=f;exact⟨[],TreeR.nil _,fun d T=>by cases T⟩
 ·simp[Value.cells]at f;obtain⟨rfl,rfl,rfl⟩:=f;have R:e≤m:=(by rw[F];split<;>omega);have L:∀i,i<e→∃D:NodeD,NodeOk D∧∃b l c,some a=some ⟨b,l,rF⟩∧b<W.heap.size∧NodeC W D c∧W.rangeAt b (l+i*10) c.toList:=by
   intro i S;obtain⟨k,w,G⟩:=g i (by omega);rw[c57]at w;obtain⟨_,J,y⟩:=World.cells?_some w;obtain⟨D,Q,K⟩:=Zer J G;obtain⟨b,l,B⟩:=a;have M:=y 0 (by omega);have h0:k[0]? =some (k[0]'(by omega)):=aI (by omega);rw[h0]at M;have o:B=none:=by
    obtain⟨I,s,_⟩:=g 0 (by omega);rw[c57]at s;obtain⟨_,O,z⟩:=World.cells?_some s;have q:=z 0 (by omega);rw[aI (show 0<I.length by omega)]at q;simpa [Addr.add]using World.cell?_spot q
   subst o;refine⟨D,K,b,l,k.toArray,rfl,?_,Q,?_⟩
   ·rw[Addr.add_lit,Addr.add_lit]at M;exact World.block_lt_of_cell? W _ M
   ·intro j u N;have X:j<10:=by
     rcases aB j k.length with h|h
     ·omega
     ·rw[aK h]at N;cases N
    have:=y j X;rw[Addr.add_lit,Addr.add_lit]at this;rw[this];exact N
  obtain⟨C,h1,h2⟩:=Zk6 _ e L;have E:∀i (g:i<C.length),nd C i=C[i]:=fun i g=>(by rw[nd,aH,aI g];rfl);refine⟨C,⟨some a,r,by rw[h1],by omega,U,?_⟩,?_⟩
  ·intro i g;rw[E i g];exact(h2 i g).2
  ·intro x hx;obtain⟨i,g,rfl⟩:=dK hx;exact(h2 i g).1
open WalkM
section
structure SparseD where
 leaves:Int
 own:Int
 op:List (Int×NodeD)
 sh:List (Int×List Nat)
def spt (l:List (Int×NodeD))(i:Nat):Int×NodeD:=l.getD i (0,Aq)
def stb (l:List (Int×List Nat))(i:Nat):Int×List Nat:=l.getD i (0,[])
def SpotsR (w:World)(v:Value)(l:List (Int×NodeD)):Prop:=
 ∃a cap,v=.slice a l.length cap∧l.length≤cap∧cap≤maxLen∧∀i,i<l.length→∃b off c,a=some ⟨b,off,rF⟩∧b<w.heap.size∧NodeC w (spt l i).2 c∧w.rangeAt b (off+i*11) (.int .i64 (spt l i).1::c.toList)
def StubsR (w:World)(v:Value)(l:List (Int×List Nat)):Prop:=
 ∃a cap,v=.slice a l.length cap∧l.length≤cap∧cap≤maxLen∧∀i,i<l.length→∃b off u,a=some ⟨b,off,rF⟩∧b<w.heap.size∧Rd w u (bvs (stb l i).2)∧w.rangeAt b (off+i*2) [.int .i64 (stb l i).1,u]
def SparseR (w:World)(v:Value)(s:SparseD):Prop:=∃o h,v=.agg #[.int .i64 s.leaves,.int .i64 s.own,o,h]∧SpotsR w o s.op∧StubsR w h s.sh
structure SparseOk (s:SparseD):Prop where
 leaves:inI s.leaves
 own:inI s.own
 op:∀p∈s.op,inI p.1∧NodeOk p.2
 sh:∀p∈s.sh,inI p.1∧∀x∈p.2,x<256
theorem SpotsR.below {w w':World} {B:Nat} {v:Value} {l:List (Int×NodeD)}(h:SpotsR w v l)(f:Below B w w')(g:w.heap.size≤B):SpotsR w' v l:=by
 obtain⟨a,cap,e,h1,h2,h3⟩:=h;refine⟨a,cap,e,h1,h2,fun i j=> ?_⟩;obtain⟨b,d,c,e,k,n,m⟩:=h3 i j;exact⟨b,d,c,e,dS k f.size,n.below f g,Ao m f (by omega)⟩
theorem StubsR.below {w w':World} {B:Nat} {v:Value} {l:List (Int×List Nat)}(h:StubsR w v l)(f:Below B w w')(g:w.heap.size≤B):StubsR w' v l:=by
 obtain⟨a,cap,e,h1,h2,h3⟩:=h;refine⟨a,cap,e,h1,h2,fun i j=> ?_⟩;obtain⟨b,d,c,e,k,n,m⟩:=h3 i j;exact⟨b,d,c,e,dS k f.size,n.below f g,Ao m f (by omega)⟩
theorem SparseR.below {w w':World} {B:Nat} {v:Value} {s:SparseD}(h:SparseR w v s)(hb:Below B w w')(hB:w.heap.size≤B):SparseR w' v s:=by
 obtain⟨o,g,e,h1,h2⟩:=h;exact⟨o,g,e,h1.below hb hB,h2.below hb hB⟩
theorem SpotsR.nil (w:World):SpotsR w (q9 rF 0 0) []:=⟨none,0,rfl,lR,aA _,fun i hi=>absurd hi (by simp)⟩
theorem StubsR.nil (w:World):StubsR w (q9 rF 0 0) []:=⟨none,0,rfl,lR,aA _,fun i hi=>absurd hi (by simp)⟩
theorem SpotsR.sl {w:World} {v:Value} {l:List (Int×NodeD)}(h:SpotsR w v l):∃a c,v=.slice a l.length c∧l.length≤c∧c≤9223372036854775807:=by
 obtain⟨a,cap,e,h1,h2,_⟩:=h;unfold maxLen at h2;exact⟨a,cap,e,h1,h2⟩
theorem StubsR.sl {w:World} {v:Value} {l:List (Int×List Nat)}(h:StubsR w v l):∃a c,v=.slice a l.length c∧l.length≤c∧c≤9223372036854775807:=by
 obtain⟨a,cap,e,h1,h2,_⟩:=h;unfold maxLen at h2;exact⟨a,cap,e,h1,h2⟩
theorem SpotsR.at {w:World} {a:Option Addr} {n c:Nat} {l:List (Int×NodeD)}(h:SpotsR w (q9 a n c) l) {i:Nat}(d:i<n):∃b off cs,a=some ⟨b,off,rF⟩∧b<w.heap.size∧NodeC w (spt l i).2 cs∧w.rangeAt b (off+i*11) (.int .i64 (spt l i).1::cs.toList):=by
 obtain⟨f,cap,e,h1,h2,h3⟩:=h;simp only[Value.slice.injEq]at e;obtain⟨rfl,rfl,rfl⟩:=e;exact h3 i d
theorem StubsR.at {w:World} {a:Option Addr} {n c:Nat} {l:List (Int×List Nat)}(h:StubsR w (q9 a n c) l) {i:Nat}(d:i<n):∃b off u,a=some ⟨b,off,rF⟩∧b<w.heap.size∧Rd w u (bvs (stb l i).2)∧w.rangeAt b (off+i*2) [.int .i64 (stb l i).1,u]:=by
 obtain⟨f,cap,e,h1,h2,h3⟩:=h;simp only[Value.slice.injEq]at e;obtain⟨rfl,rfl,rfl⟩:=e;exact h3 i d
theorem Zk7 {l:List (Int×NodeD)} {i:Nat}(h:i<l.length):spt l i∈l:=by
 rw[spt,aH,aI h];exact aJ h
theorem Zk8 {l:List (Int×List Nat)} {i:Nat}(h:i<l.length):stb l i∈l:=by
 rw[stb,aH,aI h];exact aJ h
section
variable {H:Type} {enc:TypeId×Value→H} {W:World} {base:Nat} {spare:Nat→Bool} {held:Bool}
end
end
end Go.Proofs.YtfofaiommeckbaaGreat
namespace Go.Proofs.YtfofaiommeckbaaGreat
open Go.RowKit WalkM WireM
theorem Cb (v:Value)(L:List Int)(x:Int)(w:World)(h:Rd w v (ivs .i64 L)):
  Calls prog 138 #[v,.int .i64 x] w fun e w'=>e=.returned (.bool (decide (x∈L)))∧w'=w:=by
 have O:∃a c,v=.slice a L.length c∧c≤maxLen∧L.length≤c:=(by obtain⟨a,c,e,h1,h2,_⟩:=h;exact⟨a,c,by rw[e];simp[ivs],h2,by simpa [ivs]using h1⟩);obtain⟨a,c,rfl,l,B⟩:=O;have G:=fun(i:Nat) (f:i<L.length)=>h.at3 (u:=.int .i64 (L.getD i 0)) (r:=i) (by simp[ivs,aH,f]);have p:=fun(i:Nat) (f:i<L.length) (e:L.getD i 0=x)=>(show decide (x∈L)=true from decide_eq_true (by
  rw[aH,aI f]at e;have:L[i]=x:=e;rw[←this];exact aJ f))
 have o:=fun(d:∀i,i<L.length→L.getD i 0≠x)=>(show decide (x∈L)=false from decide_eq_false (fun K=>by
  obtain⟨i,f,e⟩:=dK K;exact d i f (by rw[aH,aI f];exact e)))
 obtain⟨n,H⟩:=eX L.length;obtain⟨R,E⟩:=eX (decide (x∈L));rw[←H]at G p o B⊢;rw[←E]at p o⊢;have J:n≤9223372036854775807:=(by unfold maxLen at l;omega);have N:=Hd G;have A:=Hd p;have t:=Hd o;clear G p o h H E l;go_enter func138,ntmps138;go_wp2_with fail
 go_loopg [5] n (fun q iv wr=>∃r:Nat,r+q=n∧iv=.int .i64 (r:Nat)∧(∀i,i<r→L.getD i 0≠x)∧wr=w)
 case atStart=>exact⟨0,by omega,rfl,fun k hk=>by omega,rfl⟩
 case round=>
  obtain⟨r,F,rfl,d,rfl⟩:=hrel;have C:=Hd F;have m:=Hd d;clear F d
  by_cases hlt:r<n
  ·have j:decide (r<n)=true:=decide_eq_true hlt;obtain⟨b,M,rfl,I,g⟩:=N.out r hlt;obtain⟨y,s⟩:=eX (L.getD r 0);rw[←s]at g;have D:=Hd s;clear s
   by_cases he:y=x
   ·have P:(y==x)=true:=(by rw[beq_iff_eq];exact he);have z:=Hd he;clear he;go_wp2_with fail;go_ret;exact⟨Et (A.out r hlt (by rw[←D.out];exact z.out)),rfl⟩
   ·have P:(y==x)=false:=(by rw[beq_eq_false_iff_ne];exact he);have z:=Hd he;clear he;go_wp2_with fail;go_roundg (gk-1);case measure=>have:=C.out;omega
    case rel=>
     refine⟨r+1,by have:=C.out;omega,by go_num,fun i f=> ?_,rfl⟩
     by_cases e:i=r
     ·rw[e,←D.out];exact z.out
     ·exact m.out i (by omega)
  ·obtain rfl:r=n:=(by have:=C.out;omega);have j:decide (r<r)=false:=decide_eq_false hlt;go_wp2_with fail;go_ret;exact⟨Et (t.out m.out),rfl⟩
def Ag:List (Int×NodeD)→Int→Option NodeD
 |[],_=>none
 |p::l,x=>if p.1=x then some p.2 else Ag l x
theorem Sn {l:List (Int×NodeD)} {x:Int}:∀ {r:Nat},r<l.length→(∀i,i<r→(spt l i).1≠x)→(spt l r).1=x→Ag l x=some (spt l r).2:=by
 induction l with
 |nil=>intro r b;simp at b
 |cons p l ih=>
  intro r b a c;cases r with
  |zero=>have e:p.1=x:=c;rw[Ag,if_pos e];rfl
  |succ r=>
   have h0:p.1≠x:=a 0 (by omega);rw[Ag,if_neg h0];exact ih (r:=r) (by simpa using b) (fun i d=>a (i+1) (by omega)) c
theorem Qi {l:List (Int×NodeD)} {x:Int}:(∀i,i<l.length→(spt l i).1≠x)→Ag l x=none:=by
 induction l with
 |nil=>intro _;rfl
 |cons p l ih=>
  intro h;rw[Ag,if_neg (show¬p.1=x from h 0 (by simp))];exact ih fun i hi=>h (i+1) (by simp;omega)
theorem Br {l:List (Int×NodeD)} {x:Int} {d:NodeD}(h:Ag l x=some d):(x,d)∈l:=by
 induction l with
 |nil=>cases h
 |cons p l ih=>
  rw[Ag]at h
  split at h
  ·rename_i e
   cases h;rw[←e];exact List.mem_cons_self
  ·exact List.mem_cons_of_mem _ (ih h)
theorem Qj {w:World} {b o:Nat} {u:Value} {cs:List Value}(h:w.rangeAt b o (u::cs)):w.rangeAt b (o+1) cs:=by
 intro j v hv;have:=h (j+1) v (by simpa using hv);rw[show o+1+j=o+(j+1) by omega];exact this
theorem Qk {w:World} {b o:Nat} {u:Value} {cs:List Value}(h:w.rangeAt b o (u::cs)):w.cell? ⟨b,o,rF⟩=some u:=by
 have:=h 0 u rfl;simpa using this
theorem NodeC.ten {w:World} {d:NodeD} {c:Array Value}(h:NodeC w d c):∃x0 x1 x2 x3 x4 x5 x6 x7 x8 x9,c=#[x0,x1,x2,x3,x4,x5,x6,x7,x8,x9]:=by
 obtain⟨a1,c1,a2,c2,a3,c3,a4,c4,a5,c5,b1,e1,b2,e2,b3,e3,rfl,_⟩:=h;exact⟨_,_,_,_,_,_,_,_,_,_,rfl⟩
theorem NodeC.oneL {w:World} {d:NodeD} {c:Array Value}(h:NodeC w d c):c.toList.all (·.oneCell')=true:=by rw[Array.all_toList];exact h.one
theorem Fg (v:Value)(l:List (Int×NodeD))(x:Int)(w:World)(h:SpotsR w v l):
  Calls prog 29 #[v,.int .i64 x] w fun e w'=>∃c,e=.returned (.tuple #[.agg c,.bool (Ag l x).isSome])∧NodeC w' ((Ag l x).getD Aq) c∧Below w.heap.size w w':=by
 obtain⟨a,cp,rfl,hc,aB⟩:=h.sl;have G:=fun(i:Nat) (hi:i<l.length)=>h.at hi;have H:=fun(r:Nat) (L:r<l.length) (m:∀i,i<r→(spt l i).1≠x) (t:(spt l r).1=x)=>Sn L m t;have K:=Qi (l:=l) (x:=x);obtain⟨n,hn⟩:=eX l.length;obtain⟨R,Y⟩:=eX (Ag l x);obtain⟨S,Z⟩:∃S:Nat→Int×NodeD,S=spt l:=⟨_,rfl⟩;rw[←hn]at G H K hc⊢;rw[←Y]at H K⊢;rw[←Z]at G H K;have HG:=Hd G;have U:=Hd H;have T:=Hd K;clear G H K h hn Y Z;go_enter func29,ntmps29;go_wp2_with fail;have z:=Hd (Blk.new w 52 #[.int .u8 0,q9 rF 0 0,q9 rF 0 0,q9 rF 0 0,.int .u8 0,q9 rF 0 0,q9 rF 0 0,q9 rF 0 0,q9 rF 0 0,q9 rF 0 0]);have J:=Hd ((Below.refl w.heap.size w).alloc lR (.cells #[.int .u8 0,q9 rF 0 0,q9 rF 0 0,q9 rF 0 0,.int .u8 0,q9 rF 0 0,q9 rF 0 0,q9 rF 0 0,q9 rF 0 0,q9 rF 0 0] 52));generalize hw1:w.alloc (.cells #[.int .u8 0,q9 rF 0 0,q9 rF 0 0,q9 rF 0 0,.int .u8 0,q9 rF 0 0,q9 rF 0 0,q9 rF 0 0,q9 rF 0 0,q9 rF 0 0] 52)=w1 at z J⊢;clear hw1
 go_loopg [6] n (fun q iv wr=>∃r:Nat,r+q=n∧iv=.int .i64 (r:Nat)∧(∀i,i<r→(S i).1≠x)∧wr=w1)
 case atStart=>exact⟨0,by omega,rfl,fun k hk=>by omega,rfl⟩
 case round=>
  obtain⟨r,L,rfl,m,rfl⟩:=hrel;have W:=Hd L;have A:=Hd m;clear L m
  by_cases hlt:r<n
  ·have F:decide (r<n)=true:=decide_eq_true hlt;have aA:(r:Int)<(n:Int):=(by omega);obtain⟨b,I,c,rfl,D,o,B⟩:=HG.out r hlt;have u:=(J.out.cell (p:=⟨b,I+r*11,rF⟩) D).trans (Qk B);have E:=Ao (Qj B) J.out D;obtain⟨y,N⟩:=eX ((S r).1);rw[←N]at u;have X:=Hd N;have V:=Hd o;have C:=Hd o.oneL;obtain⟨x0,x1,x2,x3,x4,x5,x6,x7,x8,x9,rfl⟩:=o.ten;have M:=Hd E;clear N B o E
   by_cases t:y=x
   ·have hq:(y==x)=true:=(by rw[beq_iff_eq];exact t);have Q:=Hd t;clear t;go_wp2_with (first|(refine wpList_load_mid rfl 52 (.tmp 23) rfl b (I+r*11+1) rfl [x0,x1,x2,x3,x4,x5,x6,x7,x8,x9] _ M.out underlying52 rfl Ak ?_)|(refine Aa rfl 52 (.tmp 4) (.tmp 24) rfl w.heap.size #[x0,x1,x2,x3,x4,x5,x6,x7,x8,x9] rfl rfl 52 #[.int .u8 0,q9 rF 0 0,q9 rF 0 0,q9 rF 0 0,.int .u8 0,q9 rF 0 0,q9 rF 0 0,q9 rF 0 0,q9 rF 0 0,q9 rF 0 0] z.out (by kernel_rfl) rfl C.out ?_));rintro w3 d f j g;have P:=Hd d;have s:=Hd (J.out.trans (f w.heap.size lR));have O:=Hd (V.out.below s.out lR);clear d f j g;go_wp2_with fail;refine bodyPost_ret (v:=.tuple #[.agg #[x0,x1,x2,x3,x4,x5,x6,x7,x8,x9],.bool true]) (Ad results29 _ _ w.heap.size _ _ _ rfl P.out underlying52 rfl (by kernel_rfl)) rfl ?_;have e1:=U.out r hlt A.out (by rw[←X.out];exact Q.out);rw[e1];exact⟨_,rfl,O.out,s.out⟩
   ·have hq:(y==x)=false:=(by rw[beq_eq_false_iff_ne];exact t);have Q:=Hd t;clear t;go_wp2_with fail;go_roundg (gk-1);case measure=>have:=W.out;omega
    case rel=>
     refine⟨r+1,by have:=W.out;omega,by go_num,fun i hi=> ?_,rfl⟩
     by_cases e:i=r
     ·rw[e,←X.out];exact Q.out
     ·exact A.out i (by omega)
  ·obtain rfl:r=n:=(by have:=W.out;omega);have F:decide (r<r)=false:=decide_eq_false hlt;go_wp2_with (refine Aa rfl 52 (.tmp 4) (.tmp 25) rfl w.heap.size #[.int .u8 0,q9 rF 0 0,q9 rF 0 0,q9 rF 0 0,.int .u8 0,q9 rF 0 0,q9 rF 0 0,q9 rF 0 0,q9 rF 0 0,q9 rF 0 0] rfl rfl 52 #[.int .u8 0,q9 rF 0 0,q9 rF 0 0,q9 rF 0 0,.int .u8 0,q9 rF 0 0,q9 rF 0 0,q9 rF 0 0,q9 rF 0 0,q9 rF 0 0] z.out (by kernel_rfl) rfl rfl ?_);rintro w3 d f j g;have P:=Hd d;have s:=Hd (J.out.trans (f w.heap.size lR));clear d f j g;go_wp2_with fail;refine bodyPost_ret (v:=.tuple #[.agg #[.int .u8 0,q9 rF 0 0,q9 rF 0 0,q9 rF 0 0,.int .u8 0,q9 rF 0 0,q9 rF 0 0,q9 rF 0 0,q9 rF 0 0,q9 rF 0 0],.bool false]) (Ad results29 _ _ w.heap.size _ _ _ rfl P.out underlying52 rfl (by kernel_rfl)) rfl ?_;rw[T.out A.out];exact⟨_,rfl,Kn _,s.out⟩
structure InsP (O L:List Int):Prop where
 perm:O.Perm L
 rise:O.Pairwise (· ≤ ·)
theorem Zk9 {O L:List Int} {x:Int} {k:Nat}(h:InsP O L)(hk:k≤O.length)(h1:∀j,j<k→O.getD j 0<x)(h2:k=O.length∨¬O.getD k 0<x):InsP (O.take k++[x]++O.drop k) (L++[x]):=by
 have l:∀y∈O.take k,y<x:=by
  intro y f;obtain⟨j,g,rfl⟩:=dK f;rw[cD]at g;have:=h1 j (by omega);rw[List.getElem_take]
  rwa [aH,aI (by omega)]at this
 have m:∀y∈O.drop k,x≤y:=by
  intro y f;obtain⟨j,g,rfl⟩:=dK f;rw[List.length_drop]at g;rw[List.getElem_drop];rcases h2 with h2|h2
  ·omega
  ·rw[aH,aI (show k<O.length by omega)]at h2;have h3:¬O[k]<x:=h2
   by_cases e:j=0
   ·subst e;simp only[Nat.add_zero];omega
   ·have:=List.pairwise_iff_getElem.1 h.rise k (k+j) (by omega) (by omega) (by omega);omega
 have c:=h.rise;rw[←fL k O,fM]at c;constructor
 ·rw[bW,fN];refine List.perm_middle.trans ?_;rw[fL];exact(h.perm.cons x).trans (List.perm_append_comm (l₁:=[x]) (l₂:=L))
 ·rw[bW,fN,fM];refine⟨c.1,List.pairwise_cons.2 ⟨m,c.2.1⟩,fun a i b d=> ?_⟩;rw[List.mem_cons]at d;rcases d with rfl|d
  ·have:=l a i;omega
  ·exact c.2.2 a i b d
theorem Zes {O L:List Int}(h:InsP O L):Fd L=O:=by
 have f:(Fd L).Perm O:=(List.mergeSort_perm L _).trans h.perm.symm;have d:(Fd L).Pairwise fun a b=>decide (a≤b)=true:=List.pairwise_mergeSort (fun a b c h1 h2=>by simp at*;omega) (fun a b=>by simp;omega) L;have g:O.Pairwise fun a b=>decide (a≤b)=true:=h.rise.imp fun h=>(by simpa using h);refine List.Perm.eq_of_pairwise (le:=fun a b=>decide (a≤b)=true) ?_ d g f;intro a b _ _ h3 e;simp at h3 e;omega
theorem Ql {w:World} {v:Value} {xs:List Value}(h:Rd w v xs) {T:TypeId}(ht:prog.underlying T=some (.slice (prog.elem T)))(p:∀w,(sizeOf (prog.elem T)).run prog w=.ok 1 w) {k:Nat}(hk:k≤xs.length):
  ∃a n c,(∀w',(Instr.sliceAt T v (some (.int .i64 (k:Nat))) none none).run prog w'=.ok (q9 a n c) w')∧∀w',Rd w' v xs→Rd w' (q9 a n c) (xs.drop k):=by
 obtain⟨a,cap,rfl,h1,h2,_⟩:=h;refine⟨if cap=k then a else a.map (·.add (k*1)),xs.length-k,cap-k,fun w'=> ?_,fun w' q=> ?_⟩
 ·rw[run_sliceAt_slice (h:=ht),run_slice_l (ht:=ht) (h0:=by omega) (h1:=by omega),p]
  rfl
 ·obtain⟨t,cap',e,h3,s,l⟩:=q;simp only[Value.slice.injEq]at e;obtain⟨rfl,-,rfl⟩:=e;have i:(xs.drop k).length=xs.length-k:=(by simp);refine⟨_,cap-k,by rw[i],by rw[i];omega,by omega,?_⟩
  by_cases e0:xs.length=k
  ·left
   refine⟨List.drop_eq_nil_of_le (by omega),?_⟩
   split
   ·rename_i m;intro _;omega
   ·rcases l with⟨g,r⟩|⟨b,d,rfl,_⟩
    ·intro f;cases a with
     |none=>have:=r rfl;omega
     |some x=>simp at f
    ·intro f;simp at f
  ·right
   rcases l with⟨g,_⟩|⟨b,d,rfl,m⟩
   ·rw[g]at hk e0;simp at hk e0;omega
   ·refine⟨b,d+k,?_,fun j u o=> ?_⟩
    ·rw[if_neg (by omega)];simp[Addr.add_lit]
    ·rw[List.getElem?_drop]at o;rw[Nat.add_assoc];exact m _ u o
theorem Cp {L:List Int} {j:Nat}(hj:j<L.length):(ivs .i64 L)[j]? =some (.int .i64 (L.getD j 0)):=by
 simp[ivs,aH,hj]
theorem Va (L:List Int)(k:Nat):ivs .i64 (L.drop k)=(ivs .i64 L).drop k:=by simp[ivs,fP]
theorem Eo (L:List Int):∀u∈ivs .i64 L,u.oneCell'=true:=by
 intro u hu;unfold ivs at hu;rw[List.mem_map]at hu;obtain⟨n,_,rfl⟩:=hu;rfl
theorem Fh {L:List Int} {k:Nat}(hk:k<L.length):L.take k++[L.getD k 0]=L.take (k+1):=by
 rw[List.take_succ_eq_append_getElem hk,aH,aI hk];rfl
theorem Qm {w:World} {B i:Nat} {e:TypeId} {v:Value} {O:List Int}(h:Own w B e v (ivs .i64 O))(hl:O.length=i):∃a c,v=.slice a i c:=by
 obtain⟨a,c,e,_⟩:=h.rd;rw[show(ivs .i64 O).length=i by simp[ivs,hl]]at e;exact⟨a,c,e⟩
theorem Dt (v:Value)(L:List Int)(w:World)(h:Rd w v (ivs .i64 L))(hl:L.length≤100000000000):
  Calls prog 139 #[v] w fun e w'=>∃v',e=.returned v'∧Own w' w.heap.size 3 v' (ivs .i64 (Fd L))∧Below w.heap.size w w':=by
 have hv:∃a c,v=.slice a L.length c:=(by obtain⟨a,c,e,_⟩:=h;exact⟨a,c,by rw[e];simp[ivs]⟩);obtain⟨a,c,rfl⟩:=hv;have G:=fun(W:World) (hw:Below w.heap.size w W) (i:Nat) (M:i<L.length)=>(h.below hw lR).at3 (Cp M);have C:=fun(O:List Int) (V:InsP O (L.take L.length))=>(show Fd L=O from by rw[List.take_length]at V;exact Zes V);have o:=fun(i:Nat) (M:i<L.length) (O:List Int) (V:InsP O (L.take i)) (k:Nat) (hk:k≤O.length) (h1:∀j,j<k→O.getD j 0<L.getD i 0) (h2:k=O.length∨¬O.getD k 0<L.getD i 0)=>(show InsP (O.take k++[L.getD i 0]++O.drop k) (L.take (i+1))from by
  have:=Zk9 V hk h1 h2
  rwa [Fh M]at this)
 have H:=fun(i:Nat) (M:i≤L.length) (O:List Int) (V:InsP O (L.take i))=>(show O.length=i from by rw[V.perm.length_eq,cD];omega);have I0:InsP [] (L.take 0):=⟨by simp,by simp⟩;obtain⟨n,hn⟩:=eX L.length;obtain⟨A,hA⟩:∃A:Nat→Int,A=fun i=>L.getD i 0:=⟨_,rfl⟩;have aB:∀i,L.getD i 0=A i:=fun i=>(by rw[hA]);obtain⟨T,hT⟩:∃T:Nat→List Int,T=fun i=>L.take i:=⟨_,rfl⟩;have aG:∀i,L.take i=T i:=fun i=>(by rw[hT]);obtain⟨SL,aA⟩:=eX (Fd L);rw[←hn]at G C o H hl⊢;simp only[aB]at G o;simp only[aG]at C o H I0;rw[←aA]at C⊢;have HG:=Hd G;have Y:=Hd C;have E:=Hd o;have aD:=Hd H;have aH:=Hd I0;clear G C o H I0 h hn hA aB hT aG aA;go_enter func139,ntmps139;go_wp2_with fail
 go_loopg [3,4] n (fun q ov iv wr=>∃(i:Nat) (O:List Int),i+q=n∧iv=.int .i64 (i:Nat)∧InsP O (T i)∧Own wr w.heap.size 3 ov (ivs .i64 O)∧Below w.heap.size w wr)
 case atStart=>exact⟨0,[],by omega,rfl,aH.out,Own.nil _ _ _,bR⟩
 case round=>
  obtain⟨i,O,M,rfl,r,t,hb⟩:=hrel;have HI:=Hd M;have HO:=Hd t;have z:=Hd hb;have Q:=Hd r;have d:=Hd (show O.length=i from aD.out i (by omega) O r);obtain⟨p1,p2,rfl⟩:=Qm t d.out;clear M t hb r
  by_cases hlt:i<n
  ·have Z:decide (i<n)=true:=decide_eq_true hlt;have aL:(i:Int)<(n:Int):=(by omega);obtain⟨g1,rfl⟩:=eX gk;obtain⟨F,rfl⟩:∃F:World,F=wr:=⟨_,rfl⟩;obtain⟨x,hx⟩:=eX (A i);have X:=Hd hx;clear hx;go_wp2_with fail
   go_loopg [5,6] i (fun q nv kv w2=>∃k:Nat,k+q=i∧kv=.int .i64 (k:Nat)∧Own w2 F.heap.size 3 nv (ivs .i64 (O.take k))∧(∀j,j<k→O.getD j 0<x)∧Below F.heap.size F w2)
   case atStart=>exact⟨0,by omega,rfl,Own.nil _ _ _,fun j hj=>by omega,bR⟩
   case round=>
    obtain⟨k,hk,rfl,D,aF,I⟩:=hrel;have HK:=Hd hk;have K:=Hd D;have U:=Hd aF;have g:=Hd I;have aI:=Hd (z.out.trans (I.mono z.out.size));have R:=Hd (HO.out.below I lR);obtain⟨bl,ol,rfl,aO,cx⟩:=HG.out _ aI.out i hlt;rw[←X.out]at cx;clear hk D aF I
    by_cases hki:k<i
    ·have aE:decide (k<i)=true:=decide_eq_true hki;have aM:(k:Int)<(i:Int):=(by omega);obtain⟨bo,oo,rfl,aN,co⟩:=R.out.rd.at3 (Cp (show k<O.length by rw[d.out];exact hki));obtain⟨y,hy⟩:=eX (O.getD k 0);rw[←hy]at co;have HY:=Hd hy;clear hy
     by_cases hyx:y<x
     ·have aC:decide (y<x)=true:=decide_eq_true hyx;have aJ:=Hd hyx;go_wp2_with fail
      go_quiet (fail)
      go_wp2_with (at_builtin;refine An rfl (.tmp 28) (.tmp 33) 48 rfl F.heap.size 3 _ 8 Cn _ _ rfl ((K.out.drewN _).alloc _) _ (.int .i64 y) rfl ?c1 rfl ?c2 ?c3 ?_);case c1=>exact Ar rfl
      case c2=>have:=d.out;simp[ivs];omega
      case c3=>have:=g.out.size;simp;omega
      rintro v' w1 b-m;have p:=Hd b;have l:=Hd (((Ab g.out _).alloc g.out.size (.cells #[.int .i64 y] 3)).trans m);clear b m;go_wp2_with fail;go_roundg (gk-1);case measure=>have:=HK.out;omega
      case rel=>
       refine⟨k+1,by have:=HK.out;omega,by go_num,?_,fun j hj=> ?_,l.out⟩
       ·rw[←Fh (by rw[d.out];exact hki),←HY.out];have:=p.out;simpa [ivs]using this
       ·by_cases e:j=k
        ·rw[e,←HY.out];exact aJ.out
        ·exact U.out j (by omega)
     ·have aC:decide (y<x)=false:=decide_eq_false hyx;have HS:=Hd (E.out i hlt O Q.out k (by rw[d.out];omega) (by rw[←X.out];exact U.out) (.inr (by rw[←X.out,←HY.out];omega)));clear hyx;obtain⟨sa,sn,sc,aK,s⟩:=Ql (T:=48) R.out.rd (by kernel_rfl) (fun w=>by kernel_rfl) (k:=k) (by simp[ivs];have:=d.out;have:=HK.out;omega);have P:=Hd s;clear s;go_wp2_with fail
      go_quiet (fail)
      go_wp2_with (at_builtin;refine An rfl (.tmp 37) (.tmp 42) 48 rfl F.heap.size 3 _ 8 Cn _ _ rfl ((K.out.drewN _).alloc _) _ (.int .i64 x) rfl ?c1 rfl ?c2 ?c3 ?_);case c1=>exact Ar rfl
      case c2=>have:=d.out;simp[ivs];omega
      case c3=>have:=g.out.size;simp;omega
      rintro v' w1 b-m;have p:=Hd b;have l:=Hd (((Ab g.out _).alloc g.out.size (.cells #[.int .i64 x] 3)).trans m);have u:=Hd (z.out.trans (l.out.mono z.out.size));have S:=Hd (P.out w1 (HO.out.rd.below l.out lR));clear b m;obtain⟨u1,u2,u3,rfl⟩:=Dg p.out;go_wp2_with (at_builtin;refine Aj rfl (.tmp 44) (.tmp 47) 48 rfl F.heap.size 3 _ 8 Cn _ _ rfl p.out _ _ rfl S.out ?d1 ?d2 ?d3 ?_);case d1=>rw[←Va];exact Eo _
      case d2=>have:=d.out;simp[ivs];omega
      case d3=>exact l.out.size
      rintro v3 w3 f-B;have N:=Hd f;have J:=Hd (u.out.trans (B.mono z.out.size));clear f B;go_wp2_with fail;go_roundg (g1-1);case measure=>have:=HI.out;omega
      case rel=>
       refine⟨i+1,_,by have:=HI.out;omega,by go_num,HS.out,?_,J.out⟩;rw[←X.out];have:=N.out.mono z.out.size;simpa [ivs,fQ,fP]using this
    ·obtain rfl:k=i:=(by have:=HK.out;omega);have aE:decide (k<k)=false:=decide_eq_false hki;have HS:=Hd (E.out k hlt O Q.out k (by rw[d.out];omega) (by rw[←X.out];exact U.out) (.inl d.out.symm));clear hki;obtain⟨sa,sn,sc,aK,s⟩:=Ql (T:=48) R.out.rd (by kernel_rfl) (fun w=>by kernel_rfl) (k:=k) (by simp[ivs];have:=d.out;have:=HK.out;omega);have P:=Hd s;clear s;go_wp2_with fail
     go_quiet (fail)
     go_wp2_with (at_builtin;refine An rfl (.tmp 37) (.tmp 42) 48 rfl F.heap.size 3 _ 8 Cn _ _ rfl ((K.out.drewN _).alloc _) _ (.int .i64 x) rfl ?c1 rfl ?c2 ?c3 ?_);case c1=>exact Ar rfl
     case c2=>have:=d.out;simp[ivs];omega
     case c3=>have:=g.out.size;simp;omega
     rintro v' w1 b-m;have p:=Hd b;have l:=Hd (((Ab g.out _).alloc g.out.size (.cells #[.int .i64 x] 3)).trans m);have u:=Hd (z.out.trans (l.out.mono z.out.size));have S:=Hd (P.out w1 (HO.out.rd.below l.out lR));clear b m;obtain⟨u1,u2,u3,rfl⟩:=Dg p.out;go_wp2_with (at_builtin;refine Aj rfl (.tmp 44) (.tmp 47) 48 rfl F.heap.size 3 _ 8 Cn _ _ rfl p.out _ _ rfl S.out ?d1 ?d2 ?d3 ?_);case d1=>rw[←Va];exact Eo _
     case d2=>have:=d.out;simp[ivs];omega
     case d3=>exact l.out.size
     rintro v3 w3 f-B;have N:=Hd f;have J:=Hd (u.out.trans (B.mono z.out.size));clear f B;go_wp2_with fail;go_roundg (g1-1);case measure=>have:=HI.out;omega
     case rel=>
      refine⟨k+1,_,by have:=HI.out;omega,by go_num,HS.out,?_,J.out⟩;rw[←X.out];have:=N.out.mono z.out.size;simpa [ivs,fQ,fP]using this
  ·obtain rfl:i=n:=(by have:=HI.out;omega);have Z:decide (i<i)=false:=decide_eq_false hlt;have HF:=Hd (Y.out O Q.out);clear hlt;go_wp2_with fail;go_ret;refine⟨_,rfl,?_,z.out⟩;rw[HF.out];exact HO.out
theorem Mi {l:List (Int×NodeD)} {i:Nat}(h:i<l.length):spt l i=l[i]:=by rw[spt,aH,aI h];rfl
theorem Mj {l:List (Int×List Nat)} {i:Nat}(h:i<l.length):stb l i=l[i]:=by rw[stb,aH,aI h];rfl
end Go.Proofs.YtfofaiommeckbaaGreat
