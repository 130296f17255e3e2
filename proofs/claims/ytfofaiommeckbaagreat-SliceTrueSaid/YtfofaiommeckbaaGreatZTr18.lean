import Derived.Deep.Slices
import Derived.Deep.Fields
import Derived.ChangeSame
import Derived.Deep.Strs
import Derived.Test.YtfofaiommeckbaaGreatZTr17
open Go.Obj renaming cells -> rK
open Go.Ending renaming returned -> rM
open Go.Value renaming slice -> rD
open Option renaming none -> rJ
open Go.Proofs.Tryz
open Nat renaming zero_le -> aI, lt_or_ge -> aJ, lt_of_lt_of_le -> bO, two_pow_pos -> fK, log2 -> aY, add_sub_cancel -> dR, lt_succ_self -> dV, le_succ -> gJ, succ_mul -> gK, eq_zero_or_pos -> eQ
open Int renaming toNat -> gL, tmod -> eL
open List renaming mem_of_mem_take -> cB, getElem?_eq_none -> aH, getElem_mem -> aG, drop_zero -> gM, drop_succ_cons -> gN, take_succ_cons -> gR, take_zero -> gS, getElem?_cons_zero -> bZ, getElem?_cons_succ -> cA, getElem?_eq_getElem -> aF, getD_eq_getElem?_getD -> aE, getElem_of_mem -> eA, mem_cons_self -> gV, mem_cons_of_mem -> gW, range -> aC, all_eq_true -> eB, getElem?_toArray -> bY, range_succ -> eH, flatMap_append -> gX, length_append -> aD, eq_nil_of_length_eq_zero -> aA, length_cons -> dB, flatMap_def -> gY
set_option linter.unusedVariables false
set_option maxRecDepth 100000
set_option maxHeartbeats 40000000
namespace Go.Proofs.YtfofaiommeckbaaGreat
open Go.RowKit WireM Go.ChangeShapes Go.WideShapes Go.Deep
section
section
variable {H:Type} {enc:TypeId×Value->H} {P:Program} {w:World} {base:Nat} {spare:Nat->Bool} {held:Bool}
theorem Dx {T E:TypeId} (D:P.underlying T=some (.slice E)) (C:P.underlying E=some (.int .u8)) (F:P.cellsOf E=1) {v:Value} {i:Nat} {x:DataW H×List MemPlace}
  (h:DataW.trod enc P w base spare held i T [v]=some x):∃L:List Nat,(∀n∈L,n<256)/\Rd w v (bvs L):=by
 rcases open_ints D C F h with⟨e,_⟩|⟨a,l,c,p,e,_,I,J,K,_,d,m⟩
 ·simp only[List.cons.injEq,and_true]at e;subst e;exact⟨[],by simp,none,0,rfl,lR,aI _,.inl ⟨rfl,fun _=>rfl⟩⟩
 ·simp only[List.cons.injEq,and_true]at e;subst e;have M:l<=p.length:=(by rw[K];split<;>omega);have f:(bvs ((p.take l).map gL)).length=l:=(by simp[bvs];omega);refine⟨(p.take l).map gL,?_,some a,c,by rw[f],by rw[f];exact I,J,?_⟩
  ·intro n r;obtain⟨z,y,rfl⟩:=List.mem_map.1 r;obtain⟨n,r,rfl⟩:=Yg (m z (cB y));omega
  ·by_cases h0:l=0
   ·left;subst h0;simp[bvs]
   ·right
    obtain⟨b,A,o⟩:=a;have q:=d 0 (by omega);have g:o=none:=(by simpa [Addr.add]using World.cell?_spot q);subst g;refine⟨b,A,rfl,?_⟩;intro j u t;have G:j<l:=by
     rcases aJ j l with h|h
     ·exact h
     ·rw[aH (by rw[f];exact h)]at t;cases t
    have B:=d j (by omega);rw[Addr.add_lit]at B;have k:j<p.length:=(by omega);obtain⟨n,r,s⟩:=Yg (m p[j] (aG k));rw[B,<-t];simp[bvs,G,k,s]
end
theorem Zlk {α:Type}(Q:Nat->α->Prop):∀n,(∀i,i<n->∃x,Q i x)->∃L:List α,L.length=n/\∀i (a:i<L.length),Q i L[i]:=by
 intro n
 induction n with
 |zero=>intro _;exact⟨[],rfl,by intro i a;simp at a⟩
 |succ n ih=>
  intro h;obtain⟨L,b,h2⟩:=ih fun i a=>h i (by omega);obtain⟨x,hx⟩:=h n (by omega);refine⟨L++[x],by simp[b],?_⟩;intro i a
  by_cases e:i<n
  ·rw[List.getElem_append_left (by omega)];exact h2 i (by omega)
  ·have:i=n:=(by simp at a;omega);subst this;rw[List.getElem_append_right (by omega)];simpa [b]using hx
end
open Go.ChangeAt
theorem Ze6 {H:Type} {enc:TypeId×Value->H} {P:Program} {w:World} {m:Nat} {g:Nat->Bool} {p:Bool} {T E:TypeId} {k:IntKind} (A:P.underlying T=some (.slice E)) (z:P.underlying E=some (.int k)) (B:P.cellsOf E=1) {v:Value} {o:Nat} {x:DataW H×List MemPlace}
  (h:DataW.trod enc P w m g p o T [v]=some x):∃i:List Int,(∀n∈i,(Lit.int k n).wf=true)/\Rd w v (ivs k i):=by
 rcases open_ints A z B h with⟨d,_⟩|⟨x,l,c,i,d,_,D,F,I,_,a,t⟩
 ·simp only[List.cons.injEq,and_true]at d;subst d;exact⟨[],by simp,none,0,rfl,lR,aI _,.inl ⟨rfl,fun _=>rfl⟩⟩
 ·simp only[List.cons.injEq,and_true]at d;subst d;have J:l<=i.length:=(by rw[I];split<;>omega);have e:(ivs k (i.take l)).length=l:=(by simp[ivs];omega);refine⟨i.take l,fun n G=>t n (cB G),some x,c,by rw[e],by rw[e];exact D,F,?_⟩
  by_cases h0:l=0
  ·left;subst h0;simp[ivs]
  ·right
   obtain⟨b,y,q⟩:=x;have r:=a 0 (by omega);have f:q=none:=(by simpa [Addr.add]using World.cell?_spot r);subst f;refine⟨b,y,rfl,?_⟩;intro j u s;have C:j<l:=by
    rcases aJ j l with h|h
    ·exact h
    ·rw[aH (by rw[e];exact h)]at s;cases s
   have:=a j (by omega);rw[Addr.add_lit]at this;rw[this,<-s];simp[ivs,C,show j<i.length from by omega]
theorem c5:prog.cellsOf 5=1:=by kernel_rfl
theorem c22:prog.cellsOf 28=1:=by kernel_rfl
theorem c30:prog.cellsOf 48=1:=by kernel_rfl
theorem c53:prog.cellsOf 44=6:=by kernel_rfl
theorem c55:prog.cellsOf 50=3:=by kernel_rfl
theorem c57:prog.cellsOf 52=10:=by kernel_rfl
theorem Ze7 {H:Type} {enc:TypeId×Value->H} {W:World} {c:Nat} {a:Nat->Bool} {e:Bool} {d:Nat} {cs:List Value} {y:DataW H×List MemPlace} (j:cs.length=10)
  (hf:DataW.trod enc prog W c a e d 52 cs=some y):∃D:NodeD,NodeC W D cs.toArray/\NodeOk D:=by
 match cs,j with
 |[x0,x1,x2,x3,x4,x5,x6,x7,x8,x9],_=>
  obtain⟨y0,y1,y2,n,_,_,B,C,E⟩:=trod_struct3 underlying52 hf;simp only[c5,c53,c55,gM,gN,gR,gS]at B C E;obtain⟨k,v,_,w0⟩:=DataW.trod_int underlying5 B;obtain⟨xs,n1,_,_,_,f,b⟩:=DataW.trod_struct underlying44 C
  match xs,f with
  |[z0,z1,z2,z3,z4,z5],_=>
   have u0:=b 0 _ rfl;have u1:=b 1 _ rfl;have u2:=b 2 _ rfl;have u3:=b 3 _ rfl;have u4:=b 4 _ rfl;have u5:=b 5 _ rfl;simp only[List.getElem_toArray,List.getElem_cons_zero,List.getElem_cons_succ,c5,c22,gM,gN,gR,gS,bZ,cA]at u0 u1 u2 u3 u4 u5;obtain⟨p0,p1,p2,n2,_,_,w,x,A⟩:=trod_struct3 underlying50 E;simp only[c22,c30,gM,gN,gR,gS]at w x A;obtain⟨F,h0,p⟩:=Dx underlying28 underlying5 (by kernel_rfl) u0;obtain⟨G,h1,q⟩:=Dx underlying28 underlying5 (by kernel_rfl) u1;obtain⟨I,h2,r⟩:=Dx underlying28 underlying5 (by kernel_rfl) u2;obtain⟨sr,e3,_,w3⟩:=DataW.trod_int underlying5 u3;obtain⟨J,h4,s⟩:=Dx underlying28 underlying5 (by kernel_rfl) u4;obtain⟨K,h5,t⟩:=Dx underlying28 underlying5 (by kernel_rfl) u5;obtain⟨L,Z,l⟩:=Dx underlying28 underlying5 (by kernel_rfl) w;obtain⟨M,g1,m⟩:=Dx underlying28 underlying5 (by kernel_rfl) x;obtain⟨h,g2,o⟩:=Ze6 underlying48 underlying3 (by kernel_rfl) A;simp only[List.cons.injEq,and_true]at v e3;subst v e3;obtain⟨kd,i,rfl⟩:=Yg w0;obtain⟨u,g,rfl⟩:=Yg w3;obtain⟨N,V,rfl,-⟩:=id p;obtain⟨O,c1,rfl,-⟩:=id q;obtain⟨P,c2,rfl,-⟩:=id r;obtain⟨Q,c4,rfl,-⟩:=id s;obtain⟨R,c5,rfl,-⟩:=id t;obtain⟨S,X,rfl,-⟩:=id l;obtain⟨T,d1,rfl,-⟩:=id m;obtain⟨U,d2,rfl,-⟩:=id o;have Y:(ivs .i64 h).length=h.length:=(by simp[ivs]);simp only[bvs_len,Y]at p q r s t l m o|-;exact⟨⟨kd,⟨F,G,I,u,J,K⟩,⟨L,M,h⟩⟩,⟨N,V,O,c1,P,c2,Q,c4,R,c5,S,X,T,d1,U,d2,rfl,p,q,r,s,t,l,m,o⟩,
    ⟨i,g,h0,h1,h2,h4,h5,Z,g1,fun z hz=>Zj7 (g2 z hz)⟩⟩
theorem Zb1 {H:Type} {enc:TypeId×Value->H} {W:World} {v:Value} {d:DataW H} {p:List MemPlace} {q:Nat}
  (ok:Value.okWide prog W .any q 55 v) (h:DataW.Trod enc prog W 0 (fun _=>true) true 55 v d p):∃t:List NodeD,TreeR W v t/\TreeOk t:=by
 obtain⟨a0,f,r,rfl⟩:=okWide_slice underlying55 ok;obtain⟨O,U⟩:=h;rcases open_slice underlying55 U with⟨e,_⟩|⟨a,len,cap,m,n,D,Pl,e,hb,hl,Z,G,hx,g⟩
 ·simp[Value.cells]at e;obtain⟨rfl,rfl,rfl⟩:=e;exact⟨[],TreeR.nil _,fun d T=>by cases T⟩
 ·simp[Value.cells]at e;obtain⟨rfl,rfl,rfl⟩:=e;have Y:f<=m:=(by rw[G];split<;>omega);have N:∀i,i<f->∃D:NodeD,NodeOk D/\∃b l c,some a=some ⟨b,l,rJ⟩/\b<W.heap.size/\NodeC W D c/\W.rangeAt b (l+i*10) c.toList:=by
   intro i V;obtain⟨k,y,K⟩:=g i (by omega);rw[c57]at y;obtain⟨_,F,s⟩:=World.cells?_some y;obtain⟨D,S,J⟩:=Ze7 F K;obtain⟨b,l,B⟩:=a;have M:=s 0 (by omega);have Q:k[0]? =some (k[0]'(by omega)):=aF (by omega);rw[Q]at M;have o:B=none:=by
    obtain⟨E,z,_⟩:=g 0 (by omega);rw[c57]at z;obtain⟨_,P,w⟩:=World.cells?_some z;have A:=w 0 (by omega);rw[aF (show 0<E.length by omega)]at A;simpa [Addr.add]using World.cell?_spot A
   subst o;refine⟨D,J,b,l,k.toArray,rfl,?_,S,?_⟩
   ·rw[Addr.add_lit,Addr.add_lit]at M;exact World.block_lt_of_cell? W _ M
   ·intro j u L;have X:j<10:=by
     rcases aJ j k.length with h|h
     ·omega
     ·rw[aH h]at L;cases L
    have:=s j X;rw[Addr.add_lit,Addr.add_lit]at this;rw[this];exact L
  obtain⟨C,R,h2⟩:=Zlk _ f N;have I:∀i (g:i<C.length),nd C i=C[i]:=fun i g=>(by rw[nd,aE,aF g];rfl);refine⟨C,⟨some a,r,by rw[R],by omega,Z,?_⟩,?_⟩
  ·intro i g;rw[I i g];exact(h2 i g).2
  ·intro x hx;obtain⟨i,g,rfl⟩:=eA hx;exact(h2 i g).1
open WalkM
section
structure SparseD where
 leaves:Int
 own:Int
 op:List (Int×NodeD)
 sh:List (Int×List Nat)
def spt (l:List (Int×NodeD))(i:Nat):Int×NodeD:=l.getD i (0,Ap)
def stb (l:List (Int×List Nat))(i:Nat):Int×List Nat:=l.getD i (0,[])
def SpotsR (w:World)(v:Value)(l:List (Int×NodeD)):Prop:=
 ∃a cap,v=.slice a l.length cap/\l.length<=cap/\cap<=maxLen/\∀i,i<l.length->∃b off c,a=some ⟨b,off,rJ⟩/\b<w.heap.size/\NodeC w (spt l i).2 c/\w.rangeAt b (off+i*11) (.int .i64 (spt l i).1::c.toList)
def StubsR (w:World)(v:Value)(l:List (Int×List Nat)):Prop:=
 ∃a cap,v=.slice a l.length cap/\l.length<=cap/\cap<=maxLen/\∀i,i<l.length->∃b off u,a=some ⟨b,off,rJ⟩/\b<w.heap.size/\Rd w u (bvs (stb l i).2)/\w.rangeAt b (off+i*2) [.int .i64 (stb l i).1,u]
def SparseR (w:World)(v:Value)(s:SparseD):Prop:=∃o h,v=.agg #[.int .i64 s.leaves,.int .i64 s.own,o,h]/\SpotsR w o s.op/\StubsR w h s.sh
structure SparseOk (s:SparseD):Prop where
 leaves:inI s.leaves
 own:inI s.own
 op:∀p∈s.op,inI p.1/\NodeOk p.2
 sh:∀p∈s.sh,inI p.1/\∀x∈p.2,x<256
theorem SpotsR.below {w w':World} {B:Nat} {v:Value} {l:List (Int×NodeD)}(h:SpotsR w v l)(d:Below B w w')(j:w.heap.size<=B):SpotsR w' v l:=by
 obtain⟨a,cap,e,g,h2,h3⟩:=h;refine⟨a,cap,e,g,h2,fun i k=> ?_⟩;obtain⟨b,f,c,e,m,n,o⟩:=h3 i k;exact⟨b,f,c,e,bO m d.size,n.below d j,Am o d (by omega)⟩
theorem StubsR.below {w w':World} {B:Nat} {v:Value} {l:List (Int×List Nat)}(h:StubsR w v l)(d:Below B w w')(j:w.heap.size<=B):StubsR w' v l:=by
 obtain⟨a,cap,e,g,h2,h3⟩:=h;refine⟨a,cap,e,g,h2,fun i k=> ?_⟩;obtain⟨b,f,c,e,m,n,o⟩:=h3 i k;exact⟨b,f,c,e,bO m d.size,n.below d j,Am o d (by omega)⟩
theorem SparseR.below {w w':World} {B:Nat} {v:Value} {s:SparseD}(h:SparseR w v s)(hb:Below B w w')(hB:w.heap.size<=B):SparseR w' v s:=by
 obtain⟨o,g,e,h1,h2⟩:=h;exact⟨o,g,e,h1.below hb hB,h2.below hb hB⟩
theorem SpotsR.nil (w:World):SpotsR w (rD rJ 0 0) []:=⟨none,0,rfl,lR,aI _,fun i hi=>absurd hi (by simp)⟩
theorem StubsR.nil (w:World):StubsR w (rD rJ 0 0) []:=⟨none,0,rfl,lR,aI _,fun i hi=>absurd hi (by simp)⟩
theorem SpotsR.sl {w:World} {v:Value} {l:List (Int×NodeD)}(h:SpotsR w v l):∃a c,v=.slice a l.length c/\l.length<=c/\c<=9223372036854775807:=by
 obtain⟨a,cap,e,h1,h2,_⟩:=h;unfold maxLen at h2;exact⟨a,cap,e,h1,h2⟩
theorem StubsR.sl {w:World} {v:Value} {l:List (Int×List Nat)}(h:StubsR w v l):∃a c,v=.slice a l.length c/\l.length<=c/\c<=9223372036854775807:=by
 obtain⟨a,cap,e,h1,h2,_⟩:=h;unfold maxLen at h2;exact⟨a,cap,e,h1,h2⟩
theorem SpotsR.at {w:World} {a:Option Addr} {n c:Nat} {l:List (Int×NodeD)}(h:SpotsR w (rD a n c) l) {i:Nat}(d:i<n):∃b off cs,a=some ⟨b,off,rJ⟩/\b<w.heap.size/\NodeC w (spt l i).2 cs/\w.rangeAt b (off+i*11) (.int .i64 (spt l i).1::cs.toList):=by
 obtain⟨f,cap,e,g,h2,h3⟩:=h;simp only[Value.slice.injEq]at e;obtain⟨rfl,rfl,rfl⟩:=e;exact h3 i d
theorem StubsR.at {w:World} {a:Option Addr} {n c:Nat} {l:List (Int×List Nat)}(h:StubsR w (rD a n c) l) {i:Nat}(d:i<n):∃b off u,a=some ⟨b,off,rJ⟩/\b<w.heap.size/\Rd w u (bvs (stb l i).2)/\w.rangeAt b (off+i*2) [.int .i64 (stb l i).1,u]:=by
 obtain⟨f,cap,e,g,h2,h3⟩:=h;simp only[Value.slice.injEq]at e;obtain⟨rfl,rfl,rfl⟩:=e;exact h3 i d
theorem Oc {l:List (Int×NodeD)} {i:Nat}(h:i<l.length):spt l i∈l:=by
 rw[spt,aE,aF h];exact aG h
theorem Xb {l:List (Int×List Nat)} {i:Nat}(h:i<l.length):stb l i∈l:=by
 rw[stb,aE,aF h];exact aG h
section
variable {H:Type} {enc:TypeId×Value->H} {W:World} {base:Nat} {spare:Nat->Bool} {held:Bool}
end
end
end Go.Proofs.YtfofaiommeckbaaGreat
namespace Go.Proofs.YtfofaiommeckbaaGreat
open Go.RowKit WalkM WireM
def Aj:List (Int×NodeD)->Int->Option NodeD
 |[],_=>none
 |p::l,x=>if p.1=x then some p.2 else Aj l x
theorem Zq {l:List (Int×NodeD)} {x:Int}:∀ {r:Nat},r<l.length->(∀i,i<r->(spt l i).1≠x)->(spt l r).1=x->Aj l x=some (spt l r).2:=by
 induction l with
 |nil=>intro r b;simp at b
 |cons p l ih=>
  intro r b a c;cases r with
  |zero=>have e:p.1=x:=c;rw[Aj,iP e];rfl
  |succ r=>
   have d:p.1≠x:=a 0 (by omega);rw[Aj,iN d];exact ih (r:=r) (by simpa using b) (fun i f=>a (i+1) (by omega)) c
theorem Zb2 {l:List (Int×NodeD)} {x:Int}:(∀i,i<l.length->(spt l i).1≠x)->Aj l x=none:=by
 induction l with
 |nil=>intro _;rfl
 |cons p l ih=>
  intro h;rw[Aj,iN (show¬p.1=x from h 0 (by simp))];exact ih fun i hi=>h (i+1) (by simp;omega)
theorem Cv {l:List (Int×NodeD)} {x:Int} {d:NodeD}(h:Aj l x=some d):(x,d)∈l:=by
 induction l with
 |nil=>cases h
 |cons p l ih=>
  rw[Aj]at h
  split at h
  ·rename_i e
   cases h;rw[<-e];exact gV
  ·exact gW _ (ih h)
theorem NodeC.ten {w:World} {d:NodeD} {c:Array Value}(h:NodeC w d c):∃x0 x1 x2 x3 x4 x5 x6 x7 x8 x9,c=#[x0,x1,x2,x3,x4,x5,x6,x7,x8,x9]:=by
 obtain⟨a1,c1,a2,c2,a3,c3,a4,c4,a5,c5,b1,e1,b2,e2,b3,e3,rfl,_⟩:=h;exact⟨_,_,_,_,_,_,_,_,_,_,rfl⟩
theorem NodeC.oneL {w:World} {d:NodeD} {c:Array Value}(h:NodeC w d c):c.toList.all (·.oneCell')=true:=by rw[Array.all_toList];exact h.one
theorem Zr {L:List Int} {j:Nat}(hj:j<L.length):(ivs .i64 L)[j]? =some (.int .i64 (L.getD j 0)):=by
 simp[ivs,aE,hj]
section
section
variable {FI:Int->Option NodeD} {d:Nat} {x:Int} {late:List Int}
end
theorem NodeC.frame {w:World} {d:NodeD} {c:Array Value}(h:NodeC w d c):∃x1 x2 x3 x4 x5 x6 x7 x8 b e,c=#[.int .u8 (d.kind:Nat),x1,x2,x3,x4,x5,x6,x7,x8,.slice b d.par.late.length e]/\Rd w (.slice b d.par.late.length e) (ivs .i64 d.par.late):=by
 obtain⟨f,c1,g,c2,i,c3,j,c4,k,c5,l,o,m,e2,n,e3,rfl,p,h2,h3,q,r,s,t,a⟩:=h;exact⟨_,_,_,_,_,_,_,_,_,_,rfl,a⟩
end
section
theorem Xc {P:Program} {w:World} {ops:Array Oper} {rest:List Oper} {o:Oper} {a:Act} {Q:Exit->Act->World->Prop} (i:o.guard=none) (s x:Operand) (t:TypeId)
  (y:o.op=.call {callee:=.builtin .append,args:=#[s,x],argTypes:=#[t,t]})
  (B:Nat) (e:TypeId) (z:Value) (b:Nat) (F:Elem P t e z b)
  (v:Value) (xs:List Value) (C:a.eval s=v) (c:Own w B e v xs)
  (r:Value) (f:List Value) (hx:a.eval x=r) (A:Rd w r f) (n:∀u∈f,u.oneCell'=true)
  (q:xs.length+f.length<1099511627776) (p:B<=w.heap.size)
  (h:∀d w',Own w' B e d (xs++f)->w.grownBy w' v.ownBlock->Below B w w'->Ri w v d->wpList P ops Q rest (a.put o.dst d) w'):wpList P ops Q (o::rest) a w:=by
 refine wpList_plain i fun D g=> ?_;exact Rj s x t y B e z b F v xs C c r f hx A n q p fun d w' j k l m=>g _ _ (h d w' j k l m)
theorem Zmv {d z j:Nat}(a:d<=16)(b:z+1<2^(d+1))(f:j<d):Zku ((anc z j:Nat):Int) ((2^d:Nat):Int)=((Jy z j:Nat):Int):=by
 obtain⟨c,e2⟩:=Fx a;have e:=Zix a b (j:=j+1) (by omega);have l:=fK (j+1);obtain⟨-,-,k,-,-,g,i⟩:=Er (anc_lev z (j+1)) e c;rw[Zku,Yv a b (by omega),nxt,iP f,iN (by omega),g,i];unfold Jy
 by_cases h:anc z j<anc z (j+1)
 ·rw[iP (by omega),iP h]
 ·rw[iN (by omega),iN h]
section
variable {FI:Int->Option NodeD} {d i:Nat}
end
end
theorem Lr {l:List (Int×NodeD)} {i:Nat}(h:i<l.length):spt l i=l[i]:=by rw[spt,aE,aF h];rfl
theorem Ls {l:List (Int×List Nat)} {i:Nat}(h:i<l.length):stb l i=l[i]:=by rw[stb,aE,aF h];rfl
def Qc (n:Int)(p:Int×NodeD):Bool:=
 decide (0<=p.1/\p.1<=2*n-2)&&Aq p.2&& !(decide (p.1%2=0)&&decide (p.2.kind=2))&& !(decide (p.1%2=1)&&decide (p.2.kind=1))&&p.2.par.late.all fun u=>Bu (2*u) p.1
def Ze8 (s:SparseD):Nat:=((Aj s.op (2*s.own)).getD Ap).kind
def Ah (s:SparseD)(only:Bool):Bool:=
 fits s.leaves.toNat&&decide (0<=s.own/\s.own<s.leaves)&&s.op.all (Qc s.leaves)&&s.sh.all (fun p=>decide (p.2.length=32))&&(decide (Ze8 s=1)&&Le (Aj s.op) (aY s.leaves.toNat) s.own.toNat only (aY s.leaves.toNat)
  &&decide (s.op.map (·.1)=(Zo (Aj s.op) (aY s.leaves.toNat) s.own.toNat only).1)&&decide (s.sh.map (·.1)=(Zo (Aj s.op) (aY s.leaves.toNat) s.own.toNat only).2.1))
def Bx (s:SparseD):Bool:=decide (s.op.length<=5000)&&decide (s.sh.length<=5000)&&s.op.all (fun p=>Cb p.2)&&s.sh.all fun p=>decide (p.2.length<=100)
theorem Ur {s:SparseD} {only:Bool}(h:fits s.leaves.toNat=false):Ah s only=false:=by rw[Ah,h];rfl
theorem Xd {s:SparseD} {only:Bool}(h:¬(0<=s.own/\s.own<s.leaves)):Ah s only=false:=by rw[Ah,dF h];simp
theorem Ziy {n:Int} {p:Int×NodeD}(d:0<=p.1/\p.1<=2*n-2)(h2:Aq p.2=true)(h3:¬(p.1%2=0/\p.2.kind=2))(e:¬(p.1%2=1/\p.2.kind=1))(f:∀i,i<p.2.par.late.length->Bu (2*p.2.par.late.getD i 0) p.1=true):Qc n p=true:=by
 have c:p.2.par.late.all (fun u=>Bu (2*u) p.1)=true:=List.all_eq_true.2 fun u g=>by
  obtain⟨i,a,rfl⟩:=eA g;have:=f i a
  rwa [aE,aF a]at this
 have e3:(decide (p.1%2=0)&&decide (p.2.kind=2))=false:=(by rw[<-Bool.not_eq_true];simpa using h3);have b:(decide (p.1%2=1)&&decide (p.2.kind=1))=false:=(by rw[<-Bool.not_eq_true];simpa using e);rw[Qc,dT d,h2,e3,b,c];rfl
theorem Lt {n:Int} {p:Int×NodeD}(h:Qc n p=true):(0<=p.1/\p.1<=2*n-2)/\Aq p.2=true/\¬(p.1%2=0/\p.2.kind=2)/\¬(p.1%2=1/\p.2.kind=1)/\∀u∈p.2.par.late,Bu (2*u) p.1=true:=by
 unfold Qc at h;simp only[Bool.and_eq_true,Bool.not_eq_true',decide_eq_true_eq]at h;obtain⟨⟨⟨⟨c,h2⟩,h3⟩,b⟩,d⟩:=h;refine⟨c,h2,fun a=> ?_,fun a=> ?_,fun u e=>List.all_eq_true.1 d u e⟩
 ·rw[dT a.1,dT a.2]at h3;cases h3
 ·rw[dT a.1,dT a.2]at b;cases b
def Fy (f:Nat->Int)(i:Nat):Int:=if i=0 then-1 else f (i-1)
def Hm (f:Nat->Int)(n:Nat):Bool:=(aC n).all fun i=>decide (Fy f i<f i)
theorem Us {f:Nat->Int} {n i:Nat}(hi:i<n)(h:f i<=Fy f i):Hm f n=false:=by
 rw[Hm,List.all_eq_false];exact⟨i,List.mem_range.2 hi,by simpa using h⟩
theorem Lf {f:Nat->Int} {n:Nat}(h:∀i,i<n->Fy f i<f i):Hm f n=true:=by
 rw[Hm,eB];exact fun i hi=>dT (h i (List.mem_range.1 hi))
theorem Lg {f:Nat->Int} {n:Nat}(h:Hm f n=true):∀i,i<n->Fy f i<f i:=by
 rw[Hm,eB]at h;exact fun i hi=>oD (h i (List.mem_range.2 hi))
theorem Sc {f:Nat->Int} {n:Nat}(h:∀i,i<n->Fy f i<f i):∀j,j<n->0<=f j/\∀i,i<j->f i<f j:=by
 intro j
 induction j with
 |zero=>intro b;have:=h 0 b;unfold Fy at this;rw[iP rfl]at this;exact⟨by omega,fun i c=>by omega⟩
 |succ j ih=>
  intro b;have a:=h (j+1) b;unfold Fy at a;rw[iN (by omega),dR]at a;obtain⟨h2,h3⟩:=ih (by omega);refine⟨by omega,fun i c=> ?_⟩
  by_cases e:i=j
  ·rw[e];exact a
  ·have:=h3 i (by omega);omega
def Fj (f:Nat->Int):Nat->Int->Option Nat
 |0,_=>none
 |r+1,y=>if y=f r then some r else Fj f r y
theorem Il {f:Nat->Int}:∀ {n:Nat} {y:Int} {i:Nat},Fj f n y=some i->i<n/\f i=y:=by
 intro n
 induction n with
 |zero=>intro y i h;cases h
 |succ n ih=>
  intro y i h;rw[Fj]at h
  split at h
  ·rename_i e;cases h;exact⟨by omega,e.symm⟩
  ·obtain⟨h1,h2⟩:=ih h;exact⟨by omega,h2⟩
theorem Qd {f:Nat->Int}:∀ {n:Nat} {y:Int},Fj f n y=none->∀i,i<n->f i≠y:=by
 intro n
 induction n with
 |zero=>intro y _ i hi;omega
 |succ n ih=>
  intro y h i hi;rw[Fj]at h
  split at h
  ·cases h
  ·rename_i e
   by_cases e2:i=n
   ·rw[e2];exact fun h=>e h.symm
   ·exact ih h i (by omega)
def Ay:List (Int×List Nat)->Int->Option (List Nat)
 |[],_=>none
 |p::l,x=>if p.1=x then some p.2 else Ay l x
theorem Zs {l:List (Int×List Nat)} {x:Int}:∀ {r:Nat},r<l.length->(∀i,i<r->(stb l i).1≠x)->(stb l r).1=x->Ay l x=some (stb l r).2:=by
 induction l with
 |nil=>intro r b;simp at b
 |cons p l ih=>
  intro r b a c;cases r with
  |zero=>have e:p.1=x:=c;rw[Ay,iP e];rfl
  |succ r=>
   have d:p.1≠x:=a 0 (by omega);rw[Ay,iN d];exact ih (r:=r) (by simpa using b) (fun i f=>a (i+1) (by omega)) c
theorem Zb3 {l:List (Int×List Nat)} {x:Int}:(∀i,i<l.length->(stb l i).1≠x)->Ay l x=none:=by
 induction l with
 |nil=>intro _;rfl
 |cons p l ih=>
  intro h;rw[Ay,iN (show¬p.1=x from h 0 (by simp))];exact ih fun i hi=>h (i+1) (by simp;omega)
theorem Ka {l:List (Int×List Nat)} {x:Int} {d:List Nat}(h:Ay l x=some d):(x,d)∈l:=by
 induction l with
 |nil=>cases h
 |cons p l ih=>
  rw[Ay]at h
  split at h
  ·rename_i e
   cases h;rw[<-e];exact gV
  ·exact gW _ (ih h)
def spK (l:List (Int×NodeD))(i:Nat):Int:=(spt l i).1
def stK (l:List (Int×List Nat))(i:Nat):Int:=(stb l i).1
theorem Ze9 {l:List (Int×NodeD)}(h:Hm (spK l) l.length=true)(y:Int):Aj l y=(Fj (spK l) l.length y).map fun i=>(spt l i).2:=by
 have d:=Sc (Lg h);cases hl:Fj (spK l) l.length y with
 |none=>exact Zb2 fun i b=>Qd hl i b
 |some i=>
  obtain⟨a,h2⟩:=Il hl;exact Zq a (fun j c e=>by have h3:spK l j<spK l i:=(d i a).2 j c;have f:spK l j=y:=e;omega) h2
theorem Zb4 {l:List (Int×List Nat)}(h:Hm (stK l) l.length=true)(y:Int):Ay l y=(Fj (stK l) l.length y).map fun i=>(stb l i).2:=by
 have d:=Sc (Lg h);cases hl:Fj (stK l) l.length y with
 |none=>exact Zb3 fun i b=>Qd hl i b
 |some i=>
  obtain⟨a,h2⟩:=Il hl;exact Zs a (fun j c e=>by have h3:stK l j<stK l i:=(d i a).2 j c;have f:stK l j=y:=e;omega) h2
theorem Blk.range {w:World} {g:Nat} {t:TypeId} {cs:List Value}(h:Blk w g t cs.toArray)(o:Nat):w.rangeAt g (0+o) (cs.drop o):=by
 intro j u hu;rw[h.cell];rw[List.getElem?_drop]at hu;simpa [Nat.add_comm]using hu
def Bt (s:SparseD):Bool:=Hm (spK s.op) s.op.length&&Hm (stK s.sh) s.sh.length
def NodesG (w:World)(G:Int->Option Value)(F:Int->Option NodeD):Prop:=∀x,match F x with
 |none=>G x=none
 |some d=>∃c,G x=some (.agg c)/\NodeC w d c
def RunsH (w:World)(G:Int->Option Value)(H:Int->Option (List Nat)):Prop:=∀x,match H x with
 |none=>G x=none
 |some L=>∃v,G x=some v/\Rd w v (bvs L)
theorem NodesG.below {w w':World} {G:Int->Option Value} {B:Nat} {F:Int->Option NodeD}(h:NodesG w G F)(hb:Below B w w')(hB:w.heap.size<=B):NodesG w' G F:=by
 intro x;have:=h x;revert this;cases F x with
 |none=>exact id
 |some d=>rintro⟨c,hc,hn⟩;exact⟨c,hc,hn.below hb hB⟩
theorem RunsH.below {w w':World} {G:Int->Option Value} {B:Nat} {F:Int->Option (List Nat)}(h:RunsH w G F)(hb:Below B w w')(hB:w.heap.size<=B):RunsH w' G F:=by
 intro x;have:=h x;revert this;cases F x with
 |none=>exact id
 |some d=>rintro⟨c,hc,hn⟩;exact⟨c,hc,hn.below hb hB⟩
def PieceN (w:World)(b n:Nat)(F:Int->Option NodeD):Prop:=∃G:Int->Option Value,MapF w b n G/\∀x,match F x with
 |none=>G x=none
 |some d=>∃c,G x=some (.agg c)/\NodeC w d c
def PieceH (w:World)(b n:Nat)(H:Int->Option (List Nat)):Prop:=∃G:Int->Option Value,MapF w b n G/\∀x,match H x with
 |none=>G x=none
 |some L=>∃v,G x=some v/\Rd w v (bvs L)
theorem PieceN.below {w w':World} {b n B:Nat} {F:Int->Option NodeD}(h:PieceN w b n F)(e:Below B w w')(a:w.heap.size<=B):PieceN w' b n F:=by
 obtain⟨G,f,h2⟩:=h;refine⟨G,f.below e a,fun x=> ?_⟩;have:=h2 x;revert this;cases F x with
 |none=>exact id
 |some d=>rintro⟨c,g,i⟩;exact⟨c,g,i.below e a⟩
theorem PieceH.below {w w':World} {b n B:Nat} {F:Int->Option (List Nat)}(h:PieceH w b n F)(e:Below B w w')(a:w.heap.size<=B):PieceH w' b n F:=by
 obtain⟨G,f,h2⟩:=h;refine⟨G,f.below e a,fun x=> ?_⟩;have:=h2 x;revert this;cases F x with
 |none=>exact id
 |some d=>rintro⟨c,g,i⟩;exact⟨c,g,i.below e a⟩
theorem Kb:(prog.info? 87).map (·.size)=some 11:=by kernel_rfl
theorem Kc:(prog.info? 89).map (·.size)=some 2:=by kernel_rfl
theorem Im {α:Type} [Inhabited α] {n:Nat} {P:Nat->α->Prop}(h:∀i,i<n->∃c,P i c):∃C:Nat->α,∀i,i<n->P i (C i):=by
 refine⟨fun i=>if hi:i<n then Classical.choose (h i hi)else default,fun i hi=> ?_⟩;simp only[hi,dif_pos];exact Classical.choose_spec (h i hi)
theorem Blk.grownR {w w':World} {g:Nat} {t:TypeId} {cs:Array Value} {row:Nat}(h:Blk w g t cs)(hg:w.grownBy w' (some row))(hne:g≠row):Blk w' g t cs:=(hg.block g h.lt fun e=>hne (by cases e;rfl)).trans h
def Kd (s:SparseD)(w0 w:World)(e:Ending)(w':World):Prop:=Below w.heap.size w w'/\
 if Bt s=true then∃ob sb,e=rM (.tuple #[.agg #[.int .i64 s.leaves,.int .i64 s.own,.map (some ob),.map (some sb)],.bool true])/\w.heap.size<=ob/\w.heap.size<=sb/\ob≠sb/\∃G G',MapF w' ob s.op.length G/\NodesG w0 G (Aj s.op)/\MapF w' sb s.sh.length G'/\RunsH w0 G' (Ay s.sh)
 else e=rM (.tuple #[.agg #[.int .i64 0,.int .i64 0,.map none,.map none],.bool false])
theorem Zfa {s:SparseD} {w0 w w':World}(h:Bt s=false)(hb:Below w.heap.size w w'):Kd s w0 w (rM (.tuple #[.agg #[.int .i64 0,.int .i64 0,.map none,.map none],.bool false])) w':=⟨hb,by rw[iN (by rw[h];simp)]⟩
theorem Xe (w:World)(lv ow:Int)(c a:Option Addr)(n d m b h:Nat)(e:h=w.heap.size)(cs:Array Value)(l:cs=#[.int .i64 lv,.int .i64 ow,.map (some (h+1+1)),.map (some (h+1+1+1))]):
  Blk (((((w.alloc (rK #[.int .i64 lv,.int .i64 ow,rD c n d,rD a m b] 25)).alloc (rK #[.int .i64 0,.int .i64 0,.map none,.map none] 101)).alloc (.map #[] 0)).alloc (.map #[] 0)).alloc (.cells cs 101)) h 25 #[.int .i64 lv,.int .i64 ow,rD c n d,rD a m b]/\Blk (((((w.alloc (rK #[.int .i64 lv,.int .i64 ow,rD c n d,rD a m b] 25)).alloc (rK #[.int .i64 0,.int .i64 0,.map none,.map none] 101)).alloc (.map #[] 0)).alloc (.map #[] 0)).alloc (.cells cs 101)) (h+1) 101 #[.int .i64 0,.int .i64 0,.map none,.map none]/\MapF (((((w.alloc (rK #[.int .i64 lv,.int .i64 ow,rD c n d,rD a m b] 25)).alloc (rK #[.int .i64 0,.int .i64 0,.map none,.map none] 101)).alloc (.map #[] 0)).alloc (.map #[] 0)).alloc (.cells cs 101)) (h+1+1) 0 (fun _=>none)/\MapF (((((w.alloc (rK #[.int .i64 lv,.int .i64 ow,rD c n d,rD a m b] 25)).alloc (rK #[.int .i64 0,.int .i64 0,.map none,.map none] 101)).alloc (.map #[] 0)).alloc (.map #[] 0)).alloc (.cells cs 101)) (h+1+1+1) 0 (fun _=>none)/\Blk (((((w.alloc (rK #[.int .i64 lv,.int .i64 ow,rD c n d,rD a m b] 25)).alloc (rK #[.int .i64 0,.int .i64 0,.map none,.map none] 101)).alloc (.map #[] 0)).alloc (.map #[] 0)).alloc (.cells cs 101)) (h+1+1+1+1) 101 cs/\Below h w (((((w.alloc (rK #[.int .i64 lv,.int .i64 ow,rD c n d,rD a m b] 25)).alloc (rK #[.int .i64 0,.int .i64 0,.map none,.map none] 101)).alloc (.map #[] 0)).alloc (.map #[] 0)).alloc (.cells cs 101))/\(((((w.alloc (rK #[.int .i64 lv,.int .i64 ow,rD c n d,rD a m b] 25)).alloc (rK #[.int .i64 0,.int .i64 0,.map none,.map none] 101)).alloc (.map #[] 0)).alloc (.map #[] 0)).alloc (.cells cs 101)).heap.size=h+5:=by
 have o:(w.alloc (rK #[.int .i64 lv,.int .i64 ow,rD c n d,rD a m b] 25)).heap.size=h+1:=(by simp[e]);have p:((w.alloc (rK #[.int .i64 lv,.int .i64 ow,rD c n d,rD a m b] 25)).alloc (rK #[.int .i64 0,.int .i64 0,.map none,.map none] 101)).heap.size=h+1+1:=(by simp[e]);have q:(((w.alloc (rK #[.int .i64 lv,.int .i64 ow,rD c n d,rD a m b] 25)).alloc (rK #[.int .i64 0,.int .i64 0,.map none,.map none] 101)).alloc (.map #[] 0)).heap.size=h+1+1+1:=(by simp[e]);have r:((((w.alloc (rK #[.int .i64 lv,.int .i64 ow,rD c n d,rD a m b] 25)).alloc (rK #[.int .i64 0,.int .i64 0,.map none,.map none] 101)).alloc (.map #[] 0)).alloc (.map #[] 0)).heap.size=h+1+1+1+1:=(by simp[e]);have f:=Blk.new w 25 #[.int .i64 lv,.int .i64 ow,rD c n d,rD a m b];have g:=Blk.new (w.alloc (rK #[.int .i64 lv,.int .i64 ow,rD c n d,rD a m b] 25)) 101 #[.int .i64 0,.int .i64 0,.map none,.map none];have i:=MapF.made ((w.alloc (rK #[.int .i64 lv,.int .i64 ow,rD c n d,rD a m b] 25)).alloc (rK #[.int .i64 0,.int .i64 0,.map none,.map none] 101));have j:=MapF.made (((w.alloc (rK #[.int .i64 lv,.int .i64 ow,rD c n d,rD a m b] 25)).alloc (rK #[.int .i64 0,.int .i64 0,.map none,.map none] 101)).alloc (.map #[] 0));have k:=Blk.new ((((w.alloc (rK #[.int .i64 lv,.int .i64 ow,rD c n d,rD a m b] 25)).alloc (rK #[.int .i64 0,.int .i64 0,.map none,.map none] 101)).alloc (.map #[] 0)).alloc (.map #[] 0)) 101 cs;rw[<-e]at f;rw[o]at g;rw[p]at i;rw[q]at j;rw[r]at k;have B:=(((((Below.refl h w).alloc (by omega) (rK #[.int .i64 lv,.int .i64 ow,rD c n d,rD a m b] 25)).alloc (by omega) (rK #[.int .i64 0,.int .i64 0,.map none,.map none] 101)).alloc (by omega) (.map #[] 0)).alloc (by omega) (.map #[] 0)).alloc (by omega) (.cells cs 101);exact⟨(((f.alloc _).alloc _).alloc _).alloc _,((g.alloc _).alloc _).alloc _,(i.alloc _).alloc _,j.alloc _,k,B,by simp[e]⟩
theorem Xf (v:Value)(s:SparseD)(w0 w:World)(h:SparseR w0 v s)(bX:Below w0.heap.size w0 w)(a5:SparseOk s)(h1:s.op.length<=10000)(h2:s.sh.length<=10000):
  Calls prog 148 #[v] w (Kd s w0 w):=by
 obtain⟨o,g,rfl,ho,hg⟩:=h;obtain⟨oa,oc,rfl,bW,b7⟩:=ho.sl;obtain⟨ga,gc,rfl,bV,b6⟩:=hg.sl;obtain⟨C,hC⟩:=Im (n:=s.op.length) (P:=fun i c=>∃b z,oa=some ⟨b,z,rJ⟩/\b<w0.heap.size/\NodeC w0 (spt s.op i).2 c/\w0.rangeAt b (z+i*11) (.int .i64 (spK s.op i)::c.toList)) fun i V=>by
  obtain⟨b,z,c,e,h1,h2,h3⟩:=ho.at V;exact⟨c,b,z,e,h1,h2,h3⟩
 obtain⟨U,hU⟩:=Im (n:=s.sh.length) (P:=fun i u=>∃b z,ga=some ⟨b,z,rJ⟩/\b<w0.heap.size/\Rd w0 u (bvs (stb s.sh i).2)/\w0.rangeAt b (z+i*2) [.int .i64 (stK s.sh i),u]) fun i V=>by
  obtain⟨b,z,c,e,h1,h2,h3⟩:=hg.at V;exact⟨c,b,z,e,h1,h2,h3⟩
 have aR:=Hd bX;have HC:=Hd hC;have HU:=Hd hU;have aP:=Hd fun(i:Nat) (V:i<s.op.length)=>(show inI (spK s.op i)from(a5.op _ (Oc V)).1);have aO:=Hd fun(i:Nat) (V:i<s.sh.length)=>(show inI (stK s.sh i)from(a5.sh _ (Xb V)).1);have bE:=fun(i:Nat) (V:i<s.op.length) (h:spK s.op i<=Fy (spK s.op) i)=>(show Bt s=false from by rw[Bt,Us V h];rfl);have bF:=fun(i:Nat) (V:i<s.sh.length) (h:stK s.sh i<=Fy (stK s.sh) i)=>(show Bt s=false from by rw[Bt,Us V h];simp);have a8:=fun(w':World) (ob sb:Nat) (S:Below w.heap.size w w') (r1:∀i,i<s.op.length->Fy (spK s.op) i<spK s.op i) (r2:∀i,i<s.sh.length->Fy (stK s.sh) i<stK s.sh i) (k1:w.heap.size<=ob) (k2:w.heap.size<=sb) (k3:ob≠sb)
   (m1:MapF w' ob s.op.length fun y=>(Fj (spK s.op) s.op.length y).map fun i=> .agg (C i)) (m2:MapF w' sb s.sh.length fun y=>(Fj (stK s.sh) s.sh.length y).map fun i=>U i)=>
  (show Kd s w0 w (rM (.tuple #[.agg #[.int .i64 s.leaves,.int .i64 s.own,.map (some ob),.map (some sb)],.bool true])) w' from by
   have f1:=Lf r1;have f2:=Lf r2;refine⟨S,?_⟩;rw[iP (by rw[Bt,f1,f2];rfl)];refine⟨ob,sb,rfl,k1,k2,k3,_,_,m1,fun x=> ?_,m2,fun x=> ?_⟩
   ·rw[Ze9 f1];try dsimp only
    cases hl:Fj (spK s.op) s.op.length x with
    |none=>rfl
    |some i=>
     obtain⟨b,z,-,-,hn,-⟩:=hC i (Il hl).1;exact⟨C i,rfl,hn⟩
   ·rw[Zb4 f2];try dsimp only
    cases hl:Fj (stK s.sh) s.sh.length x with
    |none=>rfl
    |some i=>
     obtain⟨b,z,-,-,hn,-⟩:=hU i (Il hl).1;exact⟨U i,rfl,hn⟩)
 have Y:=Hd bE;have Z:=Hd bF;have H:=Hd a8;have aQ:=Hd fun(w':World)=>Zfa (s:=s) (w0:=w0) (w:=w) (w':=w');clear bE bF a8 hC hU a5;obtain⟨PB,bG⟩:=eX (Bt s);rw[<-bG]at Y Z aQ;obtain⟨QP,bH⟩:=eX (Kd s w0 w);rw[<-bH]at H aQ|-;obtain⟨lv,bJ⟩:=eX s.leaves;obtain⟨ow,how⟩:=eX s.own;obtain⟨f,hf⟩:=eX (spK s.op);obtain⟨k,hk⟩:=eX (stK s.sh);obtain⟨n,hn⟩:=eX s.op.length;obtain⟨m,hm⟩:=eX s.sh.length;rw[<-bJ,<-how]at H|-;rw[<-hf]at HC aP Y H;rw[<-hk]at HU aO Z H;rw[<-hn]at HC aP Y H bW h1|-;rw[<-hm]at HU aO Z H bV h2|-;clear bG bH bJ how hf hk hn hm ho hg;obtain⟨N,hN⟩:=eX w.heap.size;have b8:=Hd hN;have bT:∀w,(Instr.makeMap 98 none).run prog w=.ok (.map (some w.heap.size)) (w.alloc (.map #[] 0)):=fun w=>rfl;have bU:∀w,(Instr.makeMap 99 none).run prog w=.ok (.map (some w.heap.size)) (w.alloc (.map #[] 0)):=fun w=>rfl;go_in;go_wp2_with fail;obtain⟨h,hh⟩:=eX w.heap.size;have HH:=Hd hh;have ST:=Xe w lv ow oa ga n oc m gc h hh #[.int .i64 lv,.int .i64 ow,.map (some (h+1+1)),.map (some (h+1+1+1))] rfl;rw[<-hh];generalize hw5:(((((w.alloc (rK #[.int .i64 lv,.int .i64 ow,rD oa n oc,rD ga m gc] 25)).alloc (rK #[.int .i64 0,.int .i64 0,.map none,.map none] 101)).alloc (.map #[] 0)).alloc (.map #[] 0)).alloc (rK #[.int .i64 lv,.int .i64 ow,.map (some (h+1+1)),.map (some (h+1+1+1))] 101))=w5 at ST|-;obtain⟨b0,b1,b2,b3,b4,B5,bL⟩:=ST;have bB:=Hd b0;have aS:=Hd b1;have bN:=Hd b2;have bQ:=Hd b3;have bC:=Hd b4;have a9:=Hd B5;have bS:=Hd bL;clear hw5 hh b0 b1 b2 b3 b4 B5 bL bT bU
 go_loopg [5,20] n (fun q X iv wr=>∃r:Nat,r+q=n/\iv=.int .i64 (r:Nat)/\X=.int .i64 (Fy f r)/\(∀i,i<r->Fy f i<f i)/\MapF wr (h+1+1) r (fun y=>(Fj f r y).map fun i=> .agg (C i))/\MapF wr (h+1+1+1) 0 (fun _=>none)/\Blk wr (h+1+1+1+1) 101 #[.int .i64 lv,.int .i64 ow,.map (some (h+1+1)),.map (some (h+1+1+1))]/\Below (h+1+1) w5 wr/\h+5<=wr.heap.size)
 case atStart=>exact⟨0,by omega,rfl,rfl,fun i V=>by omega,bN.out,bQ.out,bC.out,bR,by rw[bS.out];exact lR⟩
 case round=>
  obtain⟨r,hr,rfl,rfl,aL,aH,aI,aK,S,aM⟩:=hrel;have HR:=Hd hr;have aZ:=Hd aL;have M:=Hd aH;have O:=Hd aI;have t:=Hd aK;have HB:=Hd S;have E:=Hd aM;have J:=Hd (a9.out.trans (S.mono (show h<=h+1+1 by omega)));have K:=Hd (aS.out.below S (dV _));clear hr aL aH aI aK S aM
  by_cases hlt:r<n
  ·have aG:decide (r<n)=true:=dT hlt;have bI:(r:Int)<(n:Int):=(by omega);obtain⟨b,z,rfl,F,aA,W⟩:=HC.out r hlt;obtain⟨x0,x1,x2,x3,x4,x5,x6,x7,x8,x9,T⟩:=aA.ten;have L:=Hd aA.oneL;rw[T]at W L;have L:=Hd (show(#[Value.int .i64 (f r),x0,x1,x2,x3,x4,x5,x6,x7,x8,x9]:Array Value).toList.all (·.oneCell')=true from by
    change(true&&(#[x0,x1,x2,x3,x4,x5,x6,x7,x8,x9]:Array Value).toList.all (·.oneCell'))=true;rw[Bool.true_and];exact L.out)
   have aW:=Hd T;have R:=Hd (Am W (aR.out.trans (J.out.mono (by rw[HH.out];exact aR.out.size))) F);obtain⟨a6,a7⟩:=aP.out r hlt;have aC:=Hd (show inI (f r)from aP.out r hlt);have b5:=Hd (show∀i,i<r+1->i≠r->Fy f i<f i from fun i V bK=>aZ.out i (by omega));obtain⟨x,hx⟩:=eX (f r);rw[<-hx]at R L a6 a7 aC;have HX:=Hd hx;obtain⟨p,hp⟩:=eX (Fy f r);rw[<-hp];have HP:=Hd hp;clear aA W T hx hp
   by_cases hxp:x<=p
   ·have aN:decide (x<=p)=true:=dT hxp;have HE:=Hd (fun(w':World) (S:Below w.heap.size w w')=>aQ.out w' (Y.out r hlt (by rw[<-HX.out,<-HP.out];exact hxp)) S);clear hxp;obtain⟨q,hq⟩:=eX wr.heap.size;have HQ:=Hd hq;have aY:=Hd (show Blk (wr.alloc (rK #[.int .i64 0,.int .u8 0,rD rJ 0 0,rD rJ 0 0,rD rJ 0 0,.int .u8 0,rD rJ 0 0,rD rJ 0 0,rD rJ 0 0,rD rJ 0 0,rD rJ 0 0] 87)) q 87 #[.int .i64 0,.int .u8 0,rD rJ 0 0,rD rJ 0 0,rD rJ 0 0,.int .u8 0,rD rJ 0 0,rD rJ 0 0,rD rJ 0 0,rD rJ 0 0,rD rJ 0 0] by rw[hq];exact Blk.new _ _ _);clear hq;go_wp2_with (first|(refine wpList_load_mid rfl 87 (.tmp 22) rfl b (z+r*11) rfl [.int .i64 x,x0,x1,x2,x3,x4,x5,x6,x7,x8,x9] _ R.out underlying87 rfl Kb ?_)|(refine Aa rfl 87 (.tmp 7) (.tmp 23) rfl wr.heap.size #[.int .i64 x,x0,x1,x2,x3,x4,x5,x6,x7,x8,x9] rfl rfl 87 #[.int .i64 0,.int .u8 0,rD rJ 0 0,rD rJ 0 0,rD rJ 0 0,.int .u8 0,rD rJ 0 0,rD rJ 0 0,rD rJ 0 0,rD rJ 0 0,rD rJ 0 0] (HQ.out▸aY.out) (by kernel_rfl) rfl L.out ?_));rintro w7 d Q A l;rw[<-HQ.out]at d|-;have B:=Hd (((Below.refl wr.heap.size wr).alloc lR (rK #[.int .i64 0,.int .u8 0,rD rJ 0 0,rD rJ 0 0,rD rJ 0 0,.int .u8 0,rD rJ 0 0,rD rJ 0 0,rD rJ 0 0,rD rJ 0 0,rD rJ 0 0] 87)).trans (Q wr.heap.size lR));have J:=Hd (J.out.trans (B.out.mono (by have:=E.out;omega)));have K:=Hd (K.out.below B.out K.out.lt);have aF:=Hd (show w7.heap.size=q+1 from by rw[l];simp[HQ.out]);have bM:=Hd d;have M:=Hd (M.out.below B.out lR);have O:=Hd (O.out.below B.out lR);have t:=Hd (t.out.below B.out t.out.lt);have bA:=Hd (HB.out.trans (B.out.mono (by have:=E.out;omega)));have k0:=d.cell 0;simp only[bY,bZ]at k0;have bD:=Hd (show w7.rangeAt q (0+1) [x0,x1,x2,x3,x4,x5,x6,x7,x8,x9]from d.range 1);clear d Q A l;go_wp2_with (refine Aa rfl 101 (.tmp 2) (.tmp 28) rfl (h+1) #[.int .i64 0,.int .i64 0,.map none,.map none] rfl rfl 101 #[.int .i64 0,.int .i64 0,.map none,.map none] K.out (by kernel_rfl) rfl rfl ?_);rintro w9 d F A l;have HK:=Hd d;have aB:=Hd (J.out.trans (F h (gJ h)));clear d F A l;go_wp2_with fail;refine bodyPost_ret (v:=.tuple #[.agg #[.int .i64 0,.int .i64 0,.map none,.map none],.bool false]) (Ad results148 _ _ (h+1) _ _ _ rfl HK.out underlying101 rfl (by kernel_rfl)) rfl ?_;exact HE.out _ (by rw[<-HH.out];exact aB.out)
   ·have aN:decide (x<=p)=false:=dF hxp;have a1:=Hd (show p<x by omega);clear hxp;obtain⟨q,hq⟩:=eX wr.heap.size;have HQ:=Hd hq;have aY:=Hd (show Blk (wr.alloc (rK #[.int .i64 0,.int .u8 0,rD rJ 0 0,rD rJ 0 0,rD rJ 0 0,.int .u8 0,rD rJ 0 0,rD rJ 0 0,rD rJ 0 0,rD rJ 0 0,rD rJ 0 0] 87)) q 87 #[.int .i64 0,.int .u8 0,rD rJ 0 0,rD rJ 0 0,rD rJ 0 0,.int .u8 0,rD rJ 0 0,rD rJ 0 0,rD rJ 0 0,rD rJ 0 0,rD rJ 0 0] by rw[hq];exact Blk.new _ _ _);clear hq;go_wp2_with (first|(refine wpList_load_mid rfl 87 (.tmp 22) rfl b (z+r*11) rfl [.int .i64 x,x0,x1,x2,x3,x4,x5,x6,x7,x8,x9] _ R.out underlying87 rfl Kb ?_)|(refine Aa rfl 87 (.tmp 7) (.tmp 23) rfl wr.heap.size #[.int .i64 x,x0,x1,x2,x3,x4,x5,x6,x7,x8,x9] rfl rfl 87 #[.int .i64 0,.int .u8 0,rD rJ 0 0,rD rJ 0 0,rD rJ 0 0,.int .u8 0,rD rJ 0 0,rD rJ 0 0,rD rJ 0 0,rD rJ 0 0,rD rJ 0 0] (HQ.out▸aY.out) (by kernel_rfl) rfl L.out ?_));rintro w7 d Q A l;rw[<-HQ.out]at d|-;have B:=Hd (((Below.refl wr.heap.size wr).alloc lR (rK #[.int .i64 0,.int .u8 0,rD rJ 0 0,rD rJ 0 0,rD rJ 0 0,.int .u8 0,rD rJ 0 0,rD rJ 0 0,rD rJ 0 0,rD rJ 0 0,rD rJ 0 0] 87)).trans (Q wr.heap.size lR));have J:=Hd (J.out.trans (B.out.mono (by have:=E.out;omega)));have K:=Hd (K.out.below B.out K.out.lt);have aF:=Hd (show w7.heap.size=q+1 from by rw[l];simp[HQ.out]);have bM:=Hd d;have M:=Hd (M.out.below B.out lR);have O:=Hd (O.out.below B.out lR);have t:=Hd (t.out.below B.out t.out.lt);have bA:=Hd (HB.out.trans (B.out.mono (by have:=E.out;omega)));have k0:=d.cell 0;simp only[bY,bZ]at k0;have bD:=Hd (show w7.rangeAt q (0+1) [x0,x1,x2,x3,x4,x5,x6,x7,x8,x9]from d.range 1);clear d Q A l;have a4:r<maxLen:=(by unfold maxLen;omega);have p2:=t.out.cell 2;simp only[bY,bZ,cA]at p2;go_wp2_with (first|(refine wpList_load_mid rfl 52 (.tmp 35) rfl q 1 rfl [x0,x1,x2,x3,x4,x5,x6,x7,x8,x9] _ bD.out underlying52 rfl Ai ?_)|(refine Ep rfl (.tmp 32) (.tmp 34) (.tmp 36) rfl underlying98 rfl M.out rfl aC.out a4 _ rfl ?_));rintro w8 aJ I;have aX:=Hd (aJ.congr (G:=fun y=>(Fj f (r+1) y).map fun i=>Value.agg (C i)) (fun y=>by
     show(Fj f (r+1) y).map _=_;rw[Fj,<-HX.out]
     by_cases e:y=x
     ·rw[iP e,iP e,<-aW.out];rfl
     ·rw[iN e,iN e]))
    have aD:=Hd (O.out.grown I (by intro e;cases e));have aE:=Hd (t.out.grownR I (by omega));have aV:=Hd (bA.out.trans ((Below.refl (h+1+1) w7).grown I (by have:=aF.out;have:=HQ.out;have:=E.out;omega) (by intro k e;cases e;exact lR)));have a0:=Hd (show h+5<=w8.heap.size from by have:=I.size;have:=aF.out;have:=HQ.out;have:=E.out;omega);clear aJ I;go_wp2_with fail;go_roundg (gk-1);case measure=>have:=HR.out;omega
    case rel=>
     refine⟨r+1,by have:=HR.out;omega,by go_num,?_,fun i V=> ?_,aX.out,aD.out,aE.out,aV.out,a0.out⟩
     ·unfold Fy;rw[iN (by omega),dR,<-HX.out]
     ·by_cases e:i=r
      ·rw[e,<-HX.out,<-HP.out];exact a1.out
      ·exact aZ.out i (by omega)
  ·obtain rfl:r=n:=(by have:=HR.out;omega);have aG:decide (r<r)=false:=dF hlt;have c3:=(bB.out.below HB.out (by omega)).cell 3;have c2:=(bB.out.below HB.out (by omega)).cell 2;simp only[bY,bZ,cA]at c2 c3;obtain⟨wo,rfl⟩:∃wo:World,wo=wr:=⟨_,rfl⟩;clear hlt;go_wp2_with fail;clear c2 c3
   go_loopg [5,41] m (fun q X iv wr=>∃i:Nat,i+q=m/\iv=.int .i64 (i:Nat)/\X=.int .i64 (Fy k i)/\(∀j,j<i->Fy k j<k j)/\MapF wr (h+1+1) r (fun y=>(Fj f r y).map fun i=> .agg (C i))/\MapF wr (h+1+1+1) i (fun y=>(Fj k i y).map fun i=>U i)/\Blk wr (h+1+1+1+1) 101 #[.int .i64 lv,.int .i64 ow,.map (some (h+1+1)),.map (some (h+1+1+1))]/\Below (h+1+1) w5 wr/\h+5<=wr.heap.size)
   case atStart=>exact⟨0,by omega,rfl,rfl,fun i V=>by omega,M.out,O.out,t.out,HB.out,E.out⟩
   case round=>
    obtain⟨i,hr,rfl,rfl,aL,aH,aI,aK,S,aM⟩:=hrel;have HR:=Hd hr;have aU:=Hd aL;have M:=Hd aH;have O:=Hd aI;have t:=Hd aK;have HB:=Hd S;have E:=Hd aM;have J:=Hd (a9.out.trans (S.mono (show h<=h+1+1 by omega)));have K:=Hd (aS.out.below S (dV _));clear hr aL aH aI aK S aM
    by_cases hlt:i<m
    ·have aG:decide (i<m)=true:=dT hlt;have bI:(i:Int)<(m:Int):=(by omega);obtain⟨b,z,rfl,F,aA,W⟩:=HU.out i hlt;obtain⟨ua,un,uc,T⟩:∃a n c,U i=.slice a n c:=(by obtain⟨a,c,e,_⟩:=aA;exact⟨_,_,_,e⟩);rw[T]at W;have aW:=Hd T;have R:=Hd (Am W (aR.out.trans (J.out.mono (by rw[HH.out];exact aR.out.size))) F);obtain⟨a6,a7⟩:=aO.out i hlt;have aC:=Hd (show inI (k i)from aO.out i hlt);have aT:=Hd (K.out.alloc (rK #[.int .i64 (k i),rD ua un uc] 89));obtain⟨x,hx⟩:=eX (k i);rw[<-hx]at R a6 a7 aC aT;have HX:=Hd hx;obtain⟨p,hp⟩:=eX (Fy k i);rw[<-hp];have HP:=Hd hp;clear aA W T hx hp
     by_cases hxp:x<=p
     ·have aN:decide (x<=p)=true:=dT hxp;have HE:=Hd (fun(w':World) (S:Below w.heap.size w w')=>aQ.out w' (Z.out i hlt (by rw[<-HX.out,<-HP.out];exact hxp)) S);clear hxp;go_wp2_with (first|(refine wpList_load_mid rfl 89 (.tmp 43) rfl b (z+i*2) rfl [.int .i64 x,rD ua un uc] _ R.out underlying89 rfl Kc ?_)|(refine Aa rfl 101 (.tmp 2) (.tmp 49) rfl (h+1) #[.int .i64 0,.int .i64 0,.map none,.map none] rfl rfl 101 #[.int .i64 0,.int .i64 0,.map none,.map none] aT.out (by kernel_rfl) rfl rfl ?_));rintro w9 d F A l;have HK:=Hd d;have aB:=Hd ((J.out.alloc (by have:=E.out;omega) (rK #[.int .i64 x,rD ua un uc] 89)).trans (F h (gJ h)));clear d F A l;go_wp2_with fail;refine bodyPost_ret (v:=.tuple #[.agg #[.int .i64 0,.int .i64 0,.map none,.map none],.bool false]) (Ad results148 _ _ (h+1) _ _ _ rfl HK.out underlying101 rfl (by kernel_rfl)) rfl ?_;exact HE.out _ (by rw[<-HH.out];exact aB.out)
     ·have aN:decide (x<=p)=false:=dF hxp;have a1:=Hd (show p<x by omega);have a4:i<maxLen:=(by unfold maxLen;omega);have p3:=t.out.cell 3;simp only[bY,bZ,cA]at p3;have b9:=t.out.lt;clear hxp;go_wp2_with (first|(refine wpList_load_mid rfl 89 (.tmp 43) rfl b (z+i*2) rfl [.int .i64 x,rD ua un uc] _ R.out underlying89 rfl Kc ?_)|(refine Ep rfl (.tmp 53) (.tmp 55) (.tmp 57) rfl underlying99 rfl (O.out.alloc _) rfl aC.out a4 _ rfl ?_));rintro w8 aJ I;have aX:=Hd (aJ.congr (G:=fun y=>(Fj k (i+1) y).map fun i=>U i) (fun y=>by
       show(Fj k (i+1) y).map _=_;rw[Fj,<-HX.out]
       by_cases e:y=x
       ·rw[iP e,iP e,<-aW.out];rfl
       ·rw[iN e,iN e]))
      have aD:=Hd ((M.out.alloc (rK #[.int .i64 x,rD ua un uc] 89)).grown I (by intro e;simp at e));have aE:=Hd ((t.out.alloc (rK #[.int .i64 x,rD ua un uc] 89)).grownR I (by omega));have aV:=Hd ((HB.out.alloc (by have:=E.out;omega) (rK #[.int .i64 x,rD ua un uc] 89)).trans ((Below.refl (h+1+1) _).grown I (by have:=E.out;simp;omega) (by intro k e;cases e;omega)));have a0:=Hd (show h+5<=w8.heap.size from by have:=I.size;simp at this;have:=E.out;omega);clear aJ I;go_wp2_with fail;go_roundg (gk-1);case measure=>have:=HR.out;omega
      case rel=>
       refine⟨i+1,by have:=HR.out;omega,by go_num,?_,fun j hj=> ?_,aD.out,aX.out,aE.out,aV.out,a0.out⟩
       ·unfold Fy;rw[iN (by omega),dR,<-HX.out]
       ·by_cases e:j=i
        ·rw[e,<-HX.out,<-HP.out];exact a1.out
        ·exact aU.out j (by omega)
    ·obtain rfl:i=m:=(by have:=HR.out;omega);have aG:decide (i<i)=false:=dF hlt;have p0:=t.out.cell 0;have p1:=t.out.cell 1;have p2:=t.out.cell 2;have p3:=t.out.cell 3;simp only[bY,bZ,cA]at p0 p1 p2 p3;clear hlt;go_wp2_with (refine Aa rfl 101 (.tmp 2) (.tmp 59) rfl (h+1) #[.int .i64 lv,.int .i64 ow,.map (some (h+1+1)),.map (some (h+1+1+1))] rfl rfl 101 #[.int .i64 0,.int .i64 0,.map none,.map none] K.out (by kernel_rfl) rfl rfl ?_);rintro w9 d F A l;have HK:=Hd d;have aB:=Hd (J.out.trans (F h (gJ h)));have a3:∀ {b:Nat} {n:Nat} {G:Int->Option Value},MapF wr b n G->b≠h+1->MapF w9 b n G:=fun {b n G} hm bK=>by
      obtain⟨D,⟨es,a2,h0,h1⟩,h2⟩:=hm;exact⟨D,⟨es,a2,(A b bK).trans h0,h1⟩,h2⟩
     have bO:=Hd (a3 M.out (by omega));have bP:=Hd (a3 O.out (by omega));clear d F A l a3;go_wp2_with fail;refine bodyPost_ret (v:=.tuple #[.agg #[.int .i64 lv,.int .i64 ow,.map (some (h+1+1)),.map (some (h+1+1+1))],.bool true]) (Ad results148 _ _ (h+1) _ _ _ rfl HK.out underlying101 rfl (by kernel_rfl)) rfl ?_;exact H.out _ _ _ (by rw[<-HH.out];exact aB.out) aZ.out aU.out (by rw[<-HH.out];omega) (by rw[<-HH.out];omega) (by omega) bO.out bP.out
def Ziz (x:Int):Nat:=if eL x 2=1 then 1 else 2
def Bz (x:Int)(d:NodeD):Bool:=Aq d&&(decide (d.kind≠Ziz x)&& !(d.par.late.any fun u=> !Bu (2*u) x))
theorem Zll {d:NodeD}(h:Aq d=true):∀u∈d.par.late,0<=u/\u<1000000:=fun u hu=>by have:=Fu (De h) u hu;omega
theorem Xg (x:Int)(d:NodeD)(c:Array Value)(w:World)(h:NodeC w d c)(hk:NodeOk d)(Y:Cb d=true)(hx:inI x):
  Calls prog 180 #[.int .i64 x,.agg c] w fun e w'=>e=rM (.bool (Bz x d))/\Below w.heap.size w w':=by
 have q:=Hd fun(W:World) (Z:Below w.heap.size w W) (r:Bool) (hr:Aq d=r)=>Nm d c W (h.below Z lR) hk Y r hr;have C:=hk.kind;have A:=Hd (Zll (d:=d));have I:=Hd (show d.par.late.length<=1000000 by have:=oD Y;omega);obtain⟨x1,x2,x3,x4,x5,x6,x7,x8,N,e3,rfl,y⟩:=h.frame;unfold Bz;obtain⟨o,P⟩:=eX d.kind;obtain⟨L,hL⟩:=eX d.par.late;rw[<-P]at q C|-;rw[<-hL]at q A I y|-;obtain⟨Q,D⟩:=eX L.length;rw[<-D]at q y|-;have aA:=Hd D;have M:=Hd y;obtain⟨rb,G⟩:=eX (Aq d);have m:=Hd fun(W:World) (Z:Below w.heap.size w W)=>q.out W Z rb G.symm;rw[<-G]at A|-;unfold inI at hx;obtain⟨nk,E⟩:=eX (Ziz x);rw[<-E];have K:=Hd E;have n:=Hd (show Below w.heap.size w ((w.alloc (rK #[.int .i64 x] 3)).alloc (rK #[.int .u8 (o:Nat),x1,x2,x3,x4,x5,x6,x7,x8,rD N Q e3] 52))from(bR.alloc lR _).alloc (by simp) _);have j:=Hd (show Blk ((w.alloc (rK #[.int .i64 x] 3)).alloc (rK #[.int .u8 (o:Nat),x1,x2,x3,x4,x5,x6,x7,x8,rD N Q e3] 52)) w.heap.size 3 #[.int .i64 x]from(Blk.new w _ _).alloc _);have k:=Hd (show Blk ((w.alloc (rK #[.int .i64 x] 3)).alloc (rK #[.int .u8 (o:Nat),x1,x2,x3,x4,x5,x6,x7,x8,rD N Q e3] 52)) (w.heap.size+1) 52 #[.int .u8 (o:Nat),x1,x2,x3,x4,x5,x6,x7,x8,rD N Q e3]from by
  have h1:=Blk.new (w.alloc (rK #[.int .i64 x] 3)) 52 #[.int .u8 (o:Nat),x1,x2,x3,x4,x5,x6,x7,x8,rD N Q e3];simpa using h1)
 clear q hk Y h y P hL D G E;cases rb with
 |false=>
  have HE:=Hd (show(false&&(decide (o≠nk)&& !(L.any fun u=> !Bu (2*u) x)))=false from rfl)
  by_cases ht:eL x 2=1
  ·have H:(eL x 2==1)=true:=(by rw[beq_iff_eq];exact ht);clear ht;go_in;go_wp2_with fail;refine(m.out _ n.out).mono ?_;rintro e V ⟨a,U,rfl,f⟩;have i:=Hd (n.out.trans (a.mono n.out.size));have l:=Hd (j.out.below a j.out.lt);have b:=Hd (k.out.below a k.out.lt);have p:=l.out.cell 0;have s:=b.out.cell 0;have t:=b.out.cell 9;simp only[bY,bZ,cA]at p s t;obtain⟨R,S,T,rfl⟩:=Dr f;clear a f;go_wp2_with fail;go_ret;exact⟨Eb (by simp),i.out⟩
  ·have H:(eL x 2==1)=false:=(by rw[qN];exact ht);clear ht;go_in;go_wp2_with fail;refine(m.out _ n.out).mono ?_;rintro e V ⟨a,U,rfl,f⟩;have i:=Hd (n.out.trans (a.mono n.out.size));have l:=Hd (j.out.below a j.out.lt);have b:=Hd (k.out.below a k.out.lt);have p:=l.out.cell 0;have s:=b.out.cell 0;have t:=b.out.cell 9;simp only[bY,bZ,cA]at p s t;obtain⟨R,S,T,rfl⟩:=Dr f;clear a f;go_wp2_with fail;go_ret;exact⟨Eb (by simp),i.out⟩
 |true=>
  have J:=Hd (A.out rfl);obtain⟨AN,O⟩:=eX (L.any fun u=> !Bu (2*u) x);have z:=Hd fun(v:Value) (W:World) (g:Nat) (h:Rd W v (ivs .i64 L)) (hx:W.cell? ⟨g,0,rJ⟩=some (.int .i64 x))=>Zdt v L x g W h hx J.out I.out;rw[<-O]at z|-;clear O
  by_cases ht:eL x 2=1
  ·have H:(eL x 2==1)=true:=(by rw[beq_iff_eq];exact ht);have X:nk=1:=(by rw[K.out,Ziz,iP ht]);subst X;clear ht
   by_cases hq:o=1
   ·have F:((o:Int) !=1)=false:=(by simp;omega);have B:=Hd (show decide (o≠1)=false from by simpa using hq);clear hq;go_in;go_wp2_with fail;refine(m.out _ n.out).mono ?_;rintro e V ⟨a,U,rfl,f⟩;have i:=Hd (n.out.trans (a.mono n.out.size));have l:=Hd (j.out.below a j.out.lt);have b:=Hd (k.out.below a k.out.lt);have p:=l.out.cell 0;have s:=b.out.cell 0;have t:=b.out.cell 9;simp only[bY,bZ,cA]at p s t;obtain⟨R,S,T,rfl⟩:=Dr f;clear a f;go_wp2_with fail;go_ret;exact⟨Eb (by rw[B.out];rfl),i.out⟩
   ·have F:((o:Int) !=1)=true:=(by simp;omega);have B:=Hd (show decide (o≠1)=true from by simpa using hq);clear hq;go_in;go_wp2_with fail;refine(m.out _ n.out).mono ?_;rintro e V ⟨a,U,rfl,f⟩;have i:=Hd (n.out.trans (a.mono n.out.size));have l:=Hd (j.out.below a j.out.lt);have b:=Hd (k.out.below a k.out.lt);have p:=l.out.cell 0;have s:=b.out.cell 0;have t:=b.out.cell 9;simp only[bY,bZ,cA]at p s t;obtain⟨R,S,T,rfl⟩:=Dr f;clear a f;go_wp2_with fail;refine(z.out _ _ _ (M.out.below i.out lR) p).mono ?_;rintro e w4 ⟨rfl,rfl⟩;go_wp2_with fail;go_ret;exact⟨Eb (by rw[B.out];rfl),i.out⟩
  ·have H:(eL x 2==1)=false:=(by rw[qN];exact ht);have X:nk=2:=(by rw[K.out,Ziz,iN ht]);subst X;clear ht
   by_cases hq:o=2
   ·have F:((o:Int) !=2)=false:=(by simp;omega);have B:=Hd (show decide (o≠2)=false from by simpa using hq);clear hq;go_in;go_wp2_with fail;refine(m.out _ n.out).mono ?_;rintro e V ⟨a,U,rfl,f⟩;have i:=Hd (n.out.trans (a.mono n.out.size));have l:=Hd (j.out.below a j.out.lt);have b:=Hd (k.out.below a k.out.lt);have p:=l.out.cell 0;have s:=b.out.cell 0;have t:=b.out.cell 9;simp only[bY,bZ,cA]at p s t;obtain⟨R,S,T,rfl⟩:=Dr f;clear a f;go_wp2_with fail;go_ret;exact⟨Eb (by rw[B.out];rfl),i.out⟩
   ·have F:((o:Int) !=2)=true:=(by simp;omega);have B:=Hd (show decide (o≠2)=true from by simpa using hq);clear hq;go_in;go_wp2_with fail;refine(m.out _ n.out).mono ?_;rintro e V ⟨a,U,rfl,f⟩;have i:=Hd (n.out.trans (a.mono n.out.size));have l:=Hd (j.out.below a j.out.lt);have b:=Hd (k.out.below a k.out.lt);have p:=l.out.cell 0;have s:=b.out.cell 0;have t:=b.out.cell 9;simp only[bY,bZ,cA]at p s t;obtain⟨R,S,T,rfl⟩:=Dr f;clear a f;go_wp2_with fail;refine(z.out _ _ _ (M.out.below i.out lR) p).mono ?_;rintro e w4 ⟨rfl,rfl⟩;go_wp2_with fail;go_ret;exact⟨Eb (by rw[B.out];rfl),i.out⟩
theorem Zi0 {α:Type} {f:Nat->List α} {k:Nat}(hf:∀i,(f i).length=k):∀r,((aC r).flatMap f).length=r*k:=by
 intro r
 induction r with
 |zero=>simp
 |succ r ih=>rw[eH,gX,aD,ih];simp[hf,gK]
theorem Od {α:Type}(f:Nat->List α)(r:Nat):(aC (r+1)).flatMap f=(aC r).flatMap f++f r:=by
 rw[eH,gX];simp
theorem Zt {α:Type} {f:Nat->List α} {k:Nat}(b:∀i,(f i).length=k) {i j:Nat}(c:j<k):∀ {r:Nat},i<r->((aC r).flatMap f)[i*k+j]? =(f i)[j]? :=by
 intro r
 induction r with
 |zero=>intro h;omega
 |succ r ih=>
  intro h;rw[Od];have a:=Zi0 b r
  by_cases e:i=r
  ·rw[List.getElem?_append_right (by rw[a,e];omega),a,e,Nat.add_sub_cancel_left]
  ·have:i*k+j<r*k:=by
    have:=Nat.mul_le_mul_right k (show i+1<=r by omega);rw[gK]at this;omega
   rw[List.getElem?_append_left (by rw[a];exact this)];exact ih (by omega)
def Gm (l:List (Int×NodeD))(C:Nat->Array Value)(i:Nat):List Value:=.int .i64 (spt l i).1::(C i).toList
def Ke (l:List (Int×List Nat))(U:Nat->Value)(i:Nat):List Value:=[.int .i64 (stb l i).1,U i]
theorem Zi1 {w:World} {B:Nat} {v:Value} {l:List (Int×NodeD)} {C:Nat->Array Value}(c:∀i,(C i).size=10)(p:∀i,i<l.length->NodeC w (spt l i).2 (C i))(h:OwnK w B 87 11 v l.length ((aC l.length).flatMap (Gm l C))):SpotsR w v l:=by
 rcases eQ l.length with o|s
 ·have e:l=[]:=aA o;subst e;rcases h.2 with⟨rfl,_⟩|⟨g,cap,n,rfl,x,y,k,f,z,A⟩
  ·exact SpotsR.nil w
  ·exact⟨_,cap,rfl,k,f,fun i b=>absurd b (by simp)⟩
 ·obtain⟨g,cap,rfl,t,d,k,f,q,_⟩:=h.out s;refine⟨_,cap,rfl,k,f,fun i b=>⟨g,0,C i,rfl,d,p i b,?_⟩⟩;intro j u m;have a:∀i,(Gm l C i).length=11:=fun i=>(by rw[Gm,dB,Array.length_toList,c]);have r:j<11:=by
   rcases aJ j 11 with h|h
   ·exact h
   ·rw[aH (by have:=a i;rw[Gm]at this;omega)]at m;cases m
  have:=q (i*11+j) u (by rw[Zt a r b];exact m);rw[show 0+i*11+j=i*11+j by omega];exact this
theorem Zi2 {w:World} {B:Nat} {v:Value} {l:List (Int×List Nat)} {U:Nat->Value}(o:∀i,i<l.length->Rd w (U i) (bvs (stb l i).2))(h:OwnK w B 89 2 v l.length ((aC l.length).flatMap (Ke l U))):StubsR w v l:=by
 rcases eQ l.length with n|r
 ·have e:l=[]:=aA n;subst e;rcases h.2 with⟨rfl,_⟩|⟨g,cap,m,rfl,t,x,f,d,y,z⟩
  ·exact StubsR.nil w
  ·exact⟨_,cap,rfl,f,d,fun i b=>absurd b (by simp)⟩
 ·obtain⟨g,cap,rfl,s,c,f,d,p,_⟩:=h.out r;refine⟨_,cap,rfl,f,d,fun i b=>⟨g,0,U i,rfl,c,o i b,?_⟩⟩;intro j u k;have a:∀i,(Ke l U i).length=2:=fun i=>rfl;have q:j<2:=by
   rcases aJ j 2 with h|h
   ·exact h
   ·rw[aH (by simp;omega)]at k;cases k
  have:=p (i*2+j) u (by rw[Zt a q b];exact k);rw[show 0+i*2+j=i*2+j by omega];exact this
theorem Zmw:ElemK prog 22 87 (.agg #[.int .i64 0,.int .u8 0,rD rJ 0 0,rD rJ 0 0,rD rJ 0 0,.int .u8 0,rD rJ 0 0,rD rJ 0 0,rD rJ 0 0,rD rJ 0 0,rD rJ 0 0]) 11 216:=⟨underlying22,by kernel_rfl,rfl,by omega,by omega⟩
theorem Zmx:ElemK prog 23 89 (.agg #[.int .i64 0,rD rJ 0 0]) 2 32:=⟨underlying23,by kernel_rfl,rfl,by omega,by omega⟩
def Zu (t:List NodeD):List (Int×NodeD):=(aC t.length).map fun i=>(((i:Nat):Int),nd t i)
structure ButO (w:World) (V:Value) (B:Nat) (X:World):Prop where
 low:Below B w X
 blk:∀i,i<w.heap.size->V.ownBlock≠some i->X.heap[i]? =w.heap[i]?
def StepO (V:Value)(B:Nat)(X Y:World):Prop:=Below B X Y/\∀i,i<X.heap.size->V.ownBlock≠some i->Y.heap[i]? =X.heap[i]?
theorem ButO.start (w:World)(V:Value)(B:Nat):ButO w V B w.drew:=⟨⟨rfl,rfl,rfl,lR,fun _ _=>rfl⟩,fun _ _ _=>rfl⟩
theorem StepO.of {V:Value} {B:Nat} {X Y:World}(h:Below X.heap.size X Y)(hB:B<=X.heap.size):StepO V B X Y:=⟨h.mono hB,fun i hi _=>h.block i hi⟩
theorem ButO.step {w:World} {V:Value} {B:Nat} {X Y:World}(h:ButO w V B X)(k:StepO V B X Y):ButO w V B Y:=⟨h.low.trans k.1,fun i hi hne=>(k.2 i (bO hi h.low.size) hne).trans (h.blk i hi hne)⟩
theorem OwnK.lt {w:World} {B:Nat} {e:TypeId} {k n:Nat} {v:Value} {xs:List Value}(h:OwnK w B e k v n xs) {g:Nat}(a:v.ownBlock=some g):g<w.heap.size/\B<=g:=by
 rcases h.2 with⟨rfl,_⟩|⟨d,i,c,rfl,f,b,_⟩
 ·simp[Value.ownBlock]at a
 ·simp[Value.ownBlock]at a;subst a;refine⟨?_,f⟩;rcases aJ d w.heap.size with h|h
  ·exact h
  ·rw[Array.getElem?_eq_none h]at b;cases b
theorem OwnK.onlyQ {w w':World} {B C:Nat} {e:TypeId} {k n:Nat} {v:Value} {xs:List Value}(h:OwnK w B e k v n xs)(hb:Only C w w')(hC:C<B):OwnK w' B e k v n xs:=
 World.ownsRow.kept h hb (.inr fun e=>by have:=(h.lt e).2;omega)
theorem OwnK.sl {w:World} {B:Nat} {e:TypeId} {k n:Nat} {v:Value} {xs:List Value}(h:OwnK w B e k v n xs):∃a c,v=.slice a n c:=by
 rcases h.2 with⟨rfl,h0⟩|⟨g',cp,cur,rfl,hb,hh,_⟩
 ·exact⟨none,0,by rw[h0]⟩
 ·exact⟨_,_,rfl⟩
theorem Ut {P:Program} {w:World} {o:Oper} {a:Act} {K:Act->World->Prop} {Q:Exit->Act->World->Prop} (s x:Operand) (t:TypeId)
  (D:o.op=.call {callee:=.builtin .append,args:=#[s,x],argTypes:=#[t,t]})
  (B:Nat) (e:TypeId) (z:Value) (k b:Nat) (F:ElemK P t e z k b) (v:Value) (n:Nat) (xs:List Value) (E:a.eval s=v) (c:OwnK w B e k v n xs)
  (g:Nat) (d:List Value) (hx:a.eval x=rD (some ⟨g,0,rJ⟩) 1 1) (C:d.length=k) (G:∀(j:Nat) u,d[j]? =some u->w.cell? ⟨g,j,rJ⟩=some u) (A:∀u∈d,u.oneCell'=true) (I:n<137438953472) (y:B<=w.heap.size)
  (h:∀f w',OwnK w' B e k f (n+1) (xs++d)->StepO v B w w'->K (a.put o.dst f) w'):o.wp P a w K Q:=by
 obtain⟨i,m,H,r,l⟩:=Iw F.inf;have low:=F.low;refine wp_append_own w s x t D B e i z k b F.ty m H r l F.one F.pos v n xs E c ⟨g,0,rJ⟩ 1 1 d hx (by rw[C,Nat.one_mul]) (fun j u p=>by rw[Addr.add_lit,Nat.zero_add];exact G j u p) A ?_ ?_ y ?_
 ·unfold maxLen;omega
 ·have:(n+1)*b<=(n+1)*512:=Nat.mul_le_mul_left _ low;omega
 ·intro f w' h2 h3 _;refine h f w' h2 ⟨(Below.refl B w).grown h3 y fun j p=>(c.lt p).2,fun i m q=>h3.block i m (fun e=>q e.symm)⟩
theorem StepO.grown {V:Value} {B:Nat} {X Y:World}(h:StepO V B X Y):X.grownBy Y V.ownBlock:=⟨h.1.os,h.1.tape,h.1.output,h.1.size,fun i hi hne=>h.2 i hi fun e=>hne e.symm⟩
theorem StepO.own {V:Value} {B B':Nat} {X Y:World} {T:TypeId} {v:Value} {xs:List Value}(h:StepO V B X Y)(k:Own X B' T v xs)(hV:∀g,V.ownBlock=some g->g<B'):Own Y B' T v xs:=by
 refine Own.grown k h.grown fun g hg e=> ?_;have:=(k.blockLt hg).2;have:=hV g e;omega
structure CutS (w:World) (V:Value) (q:Nat) (X:World):Prop where
 low:Below q w X
 blk:∀i,i<w.heap.size->i≠q->V.ownBlock≠some i->X.heap[i]? =w.heap[i]?
theorem ButO.put {w:World} {V:Value} {q:Nat} {X:World}(h:ButO w V (q+1) X)(e:q<=X.heap.size)(j:Nat)(u:Value):CutS w V q (X.setCell ⟨q,j,rJ⟩ u):=by
 refine⟨(h.low.mono (gJ q)).trans ((Only.set (a:=X) (B:=q) j u).below lR e),fun i d b c=> ?_⟩;rw[Below.heap_setCell X ⟨q,j,rJ⟩ u i b];exact h.blk i d c
theorem OwnK.apartK {w:World} {B B':Nat} {e f:TypeId} {k r n n':Nat} {v i:Value} {xs s:List Value}(h:OwnK w B e k v n xs)(m:OwnK w B' f r i n' s)(p:e≠f):∀g,v.ownBlock=some g->i.ownBlock≠some g:=by
 intro g b a;rcases h.2 with⟨rfl,_⟩|⟨u,t,l,rfl,x,q,_⟩
 ·simp[Value.ownBlock]at b
 rcases m.2 with⟨rfl,_⟩|⟨g2,j,d,rfl,o,c,_⟩
 ·simp[Value.ownBlock]at a
 simp[Value.ownBlock]at b a;subst b a;have:=q.symm.trans c;simp only[Option.some.injEq,Obj.cells.injEq]at this;exact p this.2.1
theorem CutS.ownK {w X:World} {V:Value} {q B:Nat} {e:TypeId} {k n:Nat} {v:Value} {xs:List Value}(h:CutS w V q X)(o:OwnK w B e k v n xs)(l:q<B)(b:∀g,v.ownBlock=some g->V.ownBlock≠some g):OwnK X B e k v n xs:=by
 have j:= @OwnK.lt _ _ _ _ _ _ _ o;obtain⟨c,h2|⟨g,d,a,rfl,f,i,rest⟩⟩:=o
 ·exact⟨c,.inl h2⟩
 ·refine⟨c,.inr ⟨g,d,a,rfl,f,?_,rest⟩⟩;rw[h.blk g (j rfl).1 (by omega) (b g rfl)];exact i
theorem Only.storeQ {g:Nat} {w w2:World}(h:∀B,B<=g->Below B w w2)(hot:∀i,i≠g->w2.heap[i]? =w.heap[i]?):Only g w w2:=
 ⟨(h 0 (aI _)).os,(h 0 (aI _)).tape,(h 0 (aI _)).output,(h 0 (aI _)).size,fun i hi hne=>hot i fun e=>hne (by rw[e])⟩
theorem Zi3 {U:Nat->Value} {g:Nat->Value->List Value}(r:Nat)(u:Value):((aC (r+1)).flatMap fun k=>g k (if k<r then U k else u))=((aC r).flatMap fun k=>g k (U k))++g r u:=by
 rw[Od,iN (Nat.lt_irrefl r)]
 congr 1
 rw[gY,gY]
 congr 1
 exact List.map_congr_left fun k hk=>by rw[iP (List.mem_range.1 hk)]
section
def Es (H:Int->Option (List Nat))(x:Nat):List Nat:=(H (x:Int)).getD []
def putS (F:Int->Option NodeD)(H:Int->Option (List Nat)):Nat->Nat->List Nat
 |0,x=>match F (x:Int)with
  |none=>0::Es H x
  |some d=>1::Bk d
 |k+1,x=>match F (x:Int)with
  |none=>0::Es H x
  |some d=>(1::Bk d)++(putS F H k (x-2^k)++putS F H k (x+2^k))
section
variable {F:Int->Option NodeD} {H:Int->Option (List Nat)} {k x:Nat} {d:NodeD}
theorem Gn (h:F (x:Int)=none):putS F H k x=0::Es H x:=by cases k<;>simp only[putS,h]
theorem Kf (h:F (x:Int)=some d):putS F H 0 x=1::Bk d:=by simp only[putS,h]
theorem Kg (h:F (x:Int)=some d):putS F H (k+1) x=(1::Bk d)++(putS F H k (x-2^k)++putS F H k (x+2^k)):=by simp only[putS,h]
structure PieceOk (F:Int->Option NodeD) (H:Int->Option (List Nat)):Prop where
 ok:∀x d,F x=some d->NodeOk d/\Cb d=true/\Aq d=true
 hash:∀x L,H x=some L->L.length<=32/\∀y∈L,y<256
theorem Hv (h:PieceOk F H)(x:Nat):(Es H x).length<=32:=by
 unfold Es;cases e:H (x:Int)with
 |none=>simp
 |some L=>exact(h.hash _ _ e).1
theorem Zv (h:PieceOk F H):∀k x,(putS F H k x).length+6001<=12002*2^k:=by
 intro k
 induction k with
 |zero=>
  intro x;cases e:F (x:Int)with
  |none=>rw[Gn e];have:=Hv h x;simp only[dB];omega
  |some d=>rw[Kf e];have:=Cz (h.ok _ _ e).2.1;simp only[dB];omega
 |succ k ih=>
  intro x;have e2:2^(k+1)=2*2^k:=(by rw[Nat.pow_succ];omega);have b:=fK k;cases e:F (x:Int)with
  |none=>rw[Gn e];have:=Hv h x;simp only[dB];omega
  |some d=>
   rw[Kg e];have:=Cz (h.ok _ _ e).2.1;have a:=ih (x-2^k);have h2:=ih (x+2^k);simp only[aD,dB];omega
end
structure Grow (W:World) (V:Value) (B:Nat) (w:World) (v:Value) (ys:List Value):Prop where
 own:Own w B 5 v ys
 step:StepO V B W w
 near:Ri W V v
theorem Grow.start {w:World} {B:Nat} {v:Value} {ys:List Value}(h:Own w B 5 v ys)(hB:B<=w.heap.size):Grow w v B w v ys:=⟨h,StepO.of bR hB,.inl rfl⟩
theorem Grow.size {W:World} {V:Value} {B:Nat} {w:World} {v:Value} {ys:List Value}(h:Grow W V B w v ys):W.heap.size<=w.heap.size:=h.step.1.size
theorem StepO.next {V:Value} {B:Nat} {a b c:World}(h:StepO V B a b)(k:Below b.heap.size b c)(hB:B<=b.heap.size):StepO V B a c:=
 ⟨h.1.trans (k.mono hB),fun i hi hne=>(k.block i (bO hi h.1.size)).trans (h.2 i hi hne)⟩
theorem Grow.next {W:World} {V:Value} {B:Nat} {w w':World} {v:Value} {ys:List Value}(h:Grow W V B w v ys)(k:Below w.heap.size w w')(hB:B<=W.heap.size):Grow W V B w' v ys:=
 ⟨h.own.below k lR,h.step.next k (Nat.le_trans hB h.size),h.near⟩
theorem Grow.trans {W:World} {V:Value} {B:Nat} {w w':World} {v c:Value} {j d:List Value}(h:Grow W V B w v j)(k:Grow w v B w' c d):Grow W V B w' c d:=by
 have l:=h.size;refine⟨k.own,⟨h.step.1.trans k.step.1,fun i f a=>(k.step.2 i (by omega) ?_).trans (h.step.2 i f a)⟩,?_⟩
 ·rcases h.near with e|⟨g,e,b⟩
  ·rw[e];exact a
  ·rw[e];intro e2;cases e2;omega
 ·rcases k.near with e|⟨g,e,b⟩
  ·rcases h.near with e2|⟨g,e2,b⟩
   ·exact .inl (e.trans e2)
   ·exact .inr ⟨g,e.trans e2,b⟩
  ·exact .inr ⟨g,e,by omega⟩
theorem Grow.app {B:Nat} {w w':World} {v v':Value} {ys:List Value}(ho:Own w' B 5 v' ys)(hg:w.grownBy w' v.ownBlock)(hb:Below B w w')(hn:Ri w v v'):Grow w v B w' v' ys:=
 ⟨ho,⟨hb,fun i hi hne=>hg.block i hi fun e=>hne e.symm⟩,hn⟩
end
