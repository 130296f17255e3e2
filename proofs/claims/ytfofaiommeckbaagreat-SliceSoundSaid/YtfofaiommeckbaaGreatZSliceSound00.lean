/- A small vocabulary for slices whose elements are one cell each: a slice that reads as a list; a slice that the call itself owns; append. -/
import Derived.Test.YtfofaiommeckbaaGreatZSliceSoundB
import Derived.WalkKit
import Derived.Laws.CopyOwn
import Derived.Laws.AppendOwnNone
import Derived.Lib.Hide
import Derived.Deep.Draws
open Nat renaming zero_le → aA, lt_or_ge → aB, mul_le_mul_left → aC
open Array renaming getElem?_eq_none → aD
open List renaming getElem?_append_left → aE, getElem?_append_right → aF
set_option linter.unusedVariables false
set_option maxRecDepth 100000
set_option maxHeartbeats 40000000
namespace Go.Proofs.YtfofaiommeckbaaGreat
open Go.RowKit
section
structure Elem (P:Program) (t e:TypeId) (z:Value) (bytes:Nat):Prop where
 ty:P.underlying t=some (.slice e)
 inf:(P.info? e).map (fun i=>(i.zero,i.size,i.bytes))=some (some z,1,bytes)
 one:z.cells.size=1
 low:bytes≤64
def Rd (w:World)(v:Value)(xs:List Value):Prop:=
 ∃a cap,v=.slice a xs.length cap∧xs.length≤cap∧cap≤maxLen∧
  ((xs=[]∧(a=none→cap=0))∨∃b off,a=some ⟨b,off,none⟩∧∀(j:Nat) u,xs[j]? =some u→w.cell? ⟨b,off+j,none⟩=some u)
def Own (w:World)(B:Nat)(e:TypeId)(v:Value)(xs:List Value):Prop:=w.ownsRow B e 1 v xs.length xs
theorem Own.rd {w:World} {B:Nat} {e:TypeId} {v:Value} {xs:List Value}(h:Own w B e v xs):Rd w v xs:=by
 have c:=fun g=>World.ownsRow.cells (g:=g) h;obtain⟨_,h⟩:=h;rcases h with⟨rfl,a⟩|⟨g,cap,d,rfl,l,hh,f,b,m,k⟩
 ·have:xs=[]:=List.eq_nil_of_length_eq_zero a;subst this;exact⟨none,0,rfl,lR,aA _,.inl ⟨rfl,fun _=>rfl⟩⟩
 ·refine⟨_,cap,rfl,f,b,.inr ⟨g,0,rfl,?_⟩⟩;intro j u i;have:=c g rfl j u i;simpa [Addr.add_lit]using this
theorem Rd.lt {w:World} {v:Value} {xs:List Value}(h:Rd w v xs):xs=[]∨∃b c cap,v=.slice (some ⟨b,c,none⟩) xs.length cap∧b<w.heap.size:=by
 obtain⟨a,cap,rfl,_,_,h|⟨b,c,rfl,d⟩⟩:=h
 ·exact .inl h.1
 ·cases xs with
  |nil=>exact .inl rfl
  |cons x xs=>exact .inr ⟨b,c,cap,rfl,World.block_lt_of_cell? w _ (d 0 x rfl)⟩
theorem Rd.below {w w':World} {B:Nat} {v:Value} {xs:List Value}(h:Rd w v xs)(e:Below B w w')(k:w.heap.size≤B):Rd w' v xs:=by
 obtain⟨a,cap,rfl,d,h2,h|⟨b,c,rfl,f⟩⟩:=h
 ·exact⟨a,cap,rfl,d,h2,.inl h⟩
 ·refine⟨_,cap,rfl,d,h2,.inr ⟨b,c,rfl,?_⟩⟩;intro j u g;have:=f j u g;have i:=World.block_lt_of_cell? w _ this;rw[e.cell (by simp only at i⊢;omega)];exact this
theorem Rd.alloc {w:World} {v:Value} {xs:List Value}(h:Rd w v xs)(o:Obj):Rd (w.alloc o) v xs:=
 h.below ((Below.refl w.heap.size _).alloc lR o) lR
theorem Own.nil (w:World)(B:Nat)(e:TypeId):Own w B e (.slice none 0 0) []:=World.ownsRow_nil w B e 1
theorem Own.alloc {w:World} {B:Nat} {e:TypeId} {v:Value} {xs:List Value}(h:Own w B e v xs)(o:Obj):Own (w.alloc o) B e v xs:=World.ownsRow.alloc h o
theorem Own.mono {w:World} {B B':Nat} {e:TypeId} {v:Value} {xs:List Value}(h:Own w B e v xs)(hB:B'≤B):Own w B' e v xs:=by
 obtain⟨h0,h|⟨g,cap,cur,hv,hg,r⟩⟩:=h
 ·exact⟨h0,.inl h⟩
 ·exact⟨h0,.inr ⟨g,cap,cur,hv,by omega,r⟩⟩
theorem Own.below {w w':World} {B B':Nat} {e:TypeId} {v:Value} {xs:List Value}(h:Own w B e v xs)(d:Below B' w w')(j:w.heap.size≤B'):Own w' B e v xs:=by
 obtain⟨c,h|⟨g,cap,a,i,f,hh,r⟩⟩:=h
 ·exact⟨c,.inl h⟩
 ·refine⟨c,.inr ⟨g,cap,a,i,f,?_,r⟩⟩;have k:g<w.heap.size:=by
   rcases aB g w.heap.size with b|b
   ·exact b
   ·simp[aD b]at hh
  rw[d.block g (by omega)];exact hh
section
variable {P:Program} {w:World}
theorem Dj {ops:Array Oper} {rest:List Oper} {o:Oper} {a:Act} {Q:Exit→Act→World→Prop} (l:o.guard=none) (s x:Operand) (t:TypeId)
  (p:o.op=.call {callee:=.builtin .append,args:=#[s,x],argTypes:=#[t,t]})
  (B:Nat) (e:TypeId) (z:Value) (b:Nat) (F:Elem P t e z b)
  (v:Value) (xs:List Value) (r:a.eval s=v) (c:Own w B e v xs)
  (d:Addr) (u:Value) (hx:a.eval x=.slice (some d) 1 1) (q:w.cell? d=some u) (C:u.oneCell'=true)
  (G:xs.length<1099511627776) (n:B≤w.heap.size)
  (h:∀v' w',Own w' B e v' (xs++[u])→w.grownBy w' v.ownBlock→Below B w w'→wpList P ops Q rest (a.put o.dst v') w'):wpList P ops Q (o::rest) a w:=by
 obtain⟨i,A,D,m,f⟩:=info_parts F.inf;have low:=F.low;refine wpList_append_own w l s x t p B e i z 1 b F.ty A D m f F.one (by omega) v xs.length xs r c d 1 1 [u] hx rfl ?_ (by simpa using C) ?_ ?_ n ?_
 ·intro j y g;cases j with
  |zero=>
   have:d.add 0=d:=(by unfold Addr.add;split<;>simp_all);rw[this];simp at g;rw[←g];exact q
  |succ j=>simp at g
 ·unfold maxLen;omega
 ·have:(xs.length+1)*b≤(xs.length+1)*64:=aC _ low;omega
 ·intro v' w' h2 h3 _;have E:(xs++[u]).length=xs.length+1:=(by simp);refine h v' w' (by unfold Own;rw[E];exact h2) h3 ?_;refine(Below.refl B w).grown h3 n ?_;intro k hk;exact(World.ownsRow.lt c k hk).1
theorem Jj {ops:Array Oper} {rest:List Oper} {o:Oper} {a:Act} {Q:Exit→Act→World→Prop} (l:o.guard=none) (s x:Operand) (t:TypeId)
  (p:o.op=.call {callee:=.builtin .append,args:=#[s,x],argTypes:=#[t,t]})
  (B:Nat) (e:TypeId) (z:Value) (b:Nat) (F:Elem P t e z b)
  (v:Value) (xs:List Value) (q:a.eval s=v) (d:Own w B e v xs)
  (g:Addr) (cap:Nat) (c:List Value) (hx:a.eval x=.slice (some g) c.length cap) (r:∀(j:Nat) u,c[j]? =some u→w.cell? (g.add j)=some u) (A:∀u∈c,u.oneCell'=true)
  (E:xs.length+c.length<1099511627776) (n:B≤w.heap.size)
  (h:∀v' w',Own w' B e v' (xs++c)→w.grownBy w' v.ownBlock→Below B w w'→wpList P ops Q rest (a.put o.dst v') w'):wpList P ops Q (o::rest) a w:=by
 obtain⟨i,y,C,m,f⟩:=info_parts F.inf;have low:=F.low;refine wpList_append_own w l s x t p B e i z 1 b F.ty y C m f F.one (by omega) v xs.length xs q d g c.length cap c hx (by omega) r A ?_ ?_ n ?_
 ·unfold maxLen;omega
 ·have:(xs.length+c.length)*b≤(xs.length+c.length)*64:=aC _ low;omega
 ·intro v' w' h2 h3 _;have D:(xs++c).length=xs.length+c.length:=(by simp);refine h v' w' (by unfold Own;rw[D];exact h2) h3 ?_;refine(Below.refl B w).grown h3 n ?_;intro k hk;exact(World.ownsRow.lt d k hk).1
theorem At {ops:Array Oper} {rest:List Oper} {o:Oper} {a:Act} {Q:Exit→Act→World→Prop} (f:o.guard=none) (s x:Operand) (t:TypeId)
  (l:o.op=.call {callee:=.builtin .append,args:=#[s,x],argTypes:=#[t,t]})
  (B:Nat) (e:TypeId) (z:Value) (c:Nat) (F:Elem P t e z c)
  (v:Value) (xs:List Value) (m:a.eval s=v) (d:Own w B e v xs)
  (r:Value) (g:List Value) (hx:a.eval x=r) (A:Rd w r g) (y:∀u∈g,u.oneCell'=true)
  (q:xs.length+g.length<1099511627776) (p:B≤w.heap.size)
  (h:∀v' w',Own w' B e v' (xs++g)→w.grownBy w' v.ownBlock→Below B w w'→wpList P ops Q rest (a.put o.dst v') w'):wpList P ops Q (o::rest) a w:=by
 obtain⟨n,cap,rfl,_,_,⟨rfl,k⟩|⟨b,D,rfl,C⟩⟩:=A
 ·cases n with
  |none=>
   obtain rfl:=k rfl;obtain⟨i,G,_,_,_⟩:=info_parts F.inf;refine wpList_append_own_none f s x t l B e i 1 F.ty G v xs.length xs m d hx ?_;exact h v w (by simpa using d) ⟨rfl,rfl,rfl,lR,fun _ _ _=>rfl⟩ bR
  |some n=>exact Jj f s x t l B e z c F v xs m d n cap [] hx (by simp) y q p h
 ·exact Jj f s x t l B e z c F v xs m d _ cap g hx (fun j u E=>by rw[Addr.add_lit];exact C j u E) y q p h
end
theorem Qh {P:Program} (w:World) {T E len:Nat} {d:TypeDesc} (g:P.underlying T=some (.array len E)) (l:(match d with| .struct _| .array _ _=>true|_=>false)=false) (f:P.underlying E=some d)
  (b:(P.info? E).map (·.size)=some 1)
  (cs:Array Value) (k:IntKind) (i:Nat) (m:i<len) (v:Value) (e:cs[i]? =some v):
  (Instr.index T (.agg cs) (.int k (i:Int))).run P w=.ok v w:=by
 have j:(isAgg E).run P w=.ok false w:=by
  unfold isAgg;rw[Sem.run_bind,run_underlying f w];cases d<;>simp_all
 cases hq:P.info? E with
 |none=>simp[hq]at b
 |some inf=>
  have a:inf.size=1:=(by simpa [hq]using b);have c:(0:Int)≤(i:Int)∧(i:Int)<(len:Int):=(by omega);simp[Instr.index,asIntOf,Sem.run_bind,run_underlying g,c,sizeOf,typeInfo,hq,a,part,j,e];intro h;omega
theorem Bz {w:World} {u:Value} {e:TypeId} {N:Nat}(hN:N=w.heap.size):(w.alloc (.cells #[u] e)).cell? ⟨N,0,none⟩=some u:=by
 subst hN;rw[cell_of_row _ _ _ _ _ _ (heap_alloc_new w _)];rfl
theorem Own.lit0 {w:World} {B N:Nat} {e:TypeId}(hN:N=w.heap.size)(hB:B≤N):Own (w.alloc (.cells #[] e)) B e (.slice (some ⟨N,0,none⟩) 0 0) []:=by
 subst hN;exact World.ownsRow_made w #[] 0 hB (aA _) rfl
theorem Own.full {w:World} {B:Nat} {e:TypeId} {cs:Array Value} {N:Nat}(a:N=w.heap.size)(b:B≤N)(d:cs.size≤maxLen) {n:Nat}(c:n=cs.size):
  Own (w.alloc (.cells cs e)) B e (.slice (some ⟨N,0,none⟩) n n) cs.toList:=by
 subst c a;refine⟨by simp,.inr ⟨w.heap.size,cs.size,cs,by simp,b,heap_alloc_new w _,by simp,d,by simp,?_⟩⟩;simp only[Nat.mul_one,Array.length_toList];rw[List.take_of_length_le (by simp)]
theorem Own.set {w:World} {B:Nat} {e:TypeId} {g n cap:Nat} {xs:List Value}(h:Own w B e (.slice (some ⟨g,0,none⟩) n cap) xs)(i:Nat)(u:Value):
  Own (w.setCell ⟨g,i,none⟩ u) B e (.slice (some ⟨g,0,none⟩) n cap) (xs.set i u):=by
 obtain⟨l,h|⟨m,cap',a,b,f,hh,j,c,k,d⟩⟩:=h
 ·cases h.1
 ·simp only[Value.slice.injEq,Option.some.injEq,Addr.mk.injEq,and_true]at b;obtain⟨rfl,rfl,rfl⟩:=b;refine⟨by simp,.inr ⟨g,cap,a.setIfInBounds i u,by simp,f,heap_setCell_same w g i a e u hh,by simpa using j,c,by simpa using k,?_⟩⟩;simp only[Array.toList_setIfInBounds,List.length_set];rw[List.take_set,d]
theorem Own.setOther {w:World} {B:Nat} {e:TypeId} {v:Value} {xs:List Value}(h:Own w B e v xs) {a:Addr}(i:v.ownBlock≠some a.block)(u:Value):Own (w.setCell a u) B e v xs:=by
 obtain⟨c,h|⟨g,cap,b,d,f,hh,r⟩⟩:=h
 ·exact⟨c,.inl h⟩
 ·refine⟨c,.inr ⟨g,cap,b,d,f,?_,r⟩⟩;rw[Below.heap_setCell _ _ _ _ (fun e=>i (by rw[d];simp[Value.ownBlock,e]))];exact hh
theorem Own.drewN {w:World} {B:Nat} {e:TypeId} {v:Value} {xs:List Value}(h:Own w B e v xs)(n:Nat):Own (w.drewN n) B e v xs:=h
theorem Rd.drewN {w:World} {v:Value} {xs:List Value}(h:Rd w v xs)(n:Nat):Rd (w.drewN n) v xs:=h
theorem Ab {B:Nat} {a w:World}(h:Below B a w)(n:Nat):Below B a (w.drewN n):=h.trans ⟨rfl,rfl,rfl,lR,fun _ _=>rfl⟩
theorem Rd.sub {w:World} {b f n cap:Nat} {xs:List Value}(h:Rd w (.slice (some ⟨b,f,none⟩) n cap) xs)(d i:Nat) {off' n' cap':Nat}(x:d≤i)(h2:i≤n)(o:off'=f+d)(r:n'=i-d)(q:cap'=cap-d):
  Rd w (.slice (some ⟨b,off',none⟩) n' cap') ((xs.take i).drop d):=by
 obtain⟨a,c,m,s,v,p⟩:=h;simp only[Value.slice.injEq]at m;obtain⟨rfl,rfl,rfl⟩:=m;subst o r q;have e:((xs.take i).drop d).length=i-d:=(by simp;omega);refine⟨_,cap-d,by rw[e],by rw[e];omega,by omega,?_⟩;rcases p with⟨rfl,_⟩|⟨t,off',l,g⟩
 ·exact .inl ⟨by simp,by simp⟩
 ·simp only[Option.some.injEq,Addr.mk.injEq,and_true]at l;obtain⟨rfl,rfl⟩:=l;refine .inr ⟨b,f+d,rfl,?_⟩;intro j u k;rw[List.getElem?_drop,List.getElem?_take]at k
  split at k
  ·rw[Nat.add_assoc];exact g _ u k
  ·cases k
theorem Own.at {w:World} {B:Nat} {e:TypeId} {g n cap:Nat} {xs:List Value}(h:Own w B e (.slice (some ⟨g,0,none⟩) n cap) xs):
  (∀(j:Nat) u,xs[j]? =some u→w.cell? ⟨g,j,none⟩=some u)∧(∀j:Nat,w.frozen? ⟨g,j,none⟩=false):=by
 have c:=fun g=>World.ownsRow.cells (g:=g) h;obtain⟨_,h|⟨i,cap',a,b,f,hh,r⟩⟩:=h
 ·cases h.1
 ·simp only[Value.slice.injEq,Option.some.injEq,Addr.mk.injEq,and_true]at b;obtain⟨rfl,_,rfl⟩:=b;refine⟨?_,fun j=>frozen_of_row w g j a e hh⟩;intro j u d;have:=c g rfl j u d;simpa [Addr.add_lit]using this
theorem Au {P:Program} {w:World} {ops:Array Oper} {rest:List Oper} {o:Oper} {a:Act} {Q:Exit→Act→World→Prop} (b:o.guard=none) (ty:TypeId) (x:Operand) (e:o.op=.load ty x)
  (g:Nat) (hx:a.eval x=.pointer (some ⟨g,0,none⟩)) (t:TypeId) (cs:Array Value) (c:Nat×Nat) (d:TypeDesc) (f:w.heap[g]? =some (.cells cs t c))
  (i:P.underlying ty=some d) (j:(match d with| .struct _| .array _ _=>true|_=>false)=true) (k:(P.info? ty).map (·.size)=some cs.size)
  (h:wpList P ops Q rest (a.put o.dst (.agg cs)) w):wpList P ops Q (o::rest) a w:=
 wpList_load_row b ty x e g hx t cs c d f i j k h
theorem Qi {P:Program} {w:World} {ops:Array Oper} {rest:List Oper} {o:Oper} {a:Act} {Q:Exit→Act→World→Prop} (b:Region.wanted o (yielded ops a.tmps)=true)
  (h:wpList P ops Q ({o with guard:=none}::rest) a w):wpList P ops Q (o::rest) a w:=by
 unfold wpList at h⊢;rw[if_pos b];rw[if_pos (show Region.wanted {o with guard:=none} (yielded ops a.tmps)=true from rfl)]at h;exact h
end
section
def Grid (w:World)(B:Nat)(eo ei:TypeId)(r:Value)(rows:List (List Value)):Prop:=
 ∃vs:List Value,Own w B eo r vs∧vs.length=rows.length∧∀(i:Nat) (xs:List Value),rows[i]? =some xs→
  ∃v,vs[i]? =some v∧Own w B ei v xs∧v.oneCell'=true
theorem Own.ty {w:World} {B:Nat} {e:TypeId} {g n cap:Nat} {xs:List Value}(h:Own w B e (.slice (some ⟨g,0,none⟩) n cap) xs):∃a,w.heap[g]? =some (.cells a e (0,0)):=by
 obtain⟨_,h|⟨c,cap',a,b,_,hh,_⟩⟩:=h
 ·cases h.1
 ·simp only[Value.slice.injEq,Option.some.injEq,Addr.mk.injEq,and_true]at b;obtain⟨rfl,_,rfl⟩:=b;exact⟨a,hh⟩
theorem Own.form {w:World} {B:Nat} {e:TypeId} {v:Value} {xs:List Value}(h:Own w B e v xs):v=.slice none 0 0∨∃g cap,v=.slice (some ⟨g,0,none⟩) xs.length cap:=by
 obtain⟨_,h|⟨g,cap,cur,hv,_⟩⟩:=h
 ·exact .inl h.1
 ·exact .inr ⟨g,cap,hv⟩
theorem Own.apart {w:World} {B B':Nat} {e b:TypeId} {v v':Value} {xs f:List Value}(h:Own w B e v xs)(d:Own w B' b v' f)(i:e≠b):v.ownBlock=none∨v.ownBlock≠v'.ownBlock:=by
 rcases h.form with rfl|⟨g,cap,rfl⟩
 ·exact .inl rfl
 ·right
  rcases d.form with rfl|⟨k,cap',rfl⟩
  ·simp[Value.ownBlock]
  ·simp only[Value.ownBlock,ne_eq,Option.some.injEq];rintro rfl;obtain⟨c,j⟩:=h.ty;obtain⟨l,a⟩:=d.ty;rw[j]at a;simp only[Option.some.injEq,Obj.cells.injEq]at a;exact i a.2.1
theorem Own.oneCell {w:World} {B:Nat} {e:TypeId} {v:Value} {xs:List Value}(h:Own w B e v xs):v.oneCell'=true:=by
 rcases h.form with rfl|⟨g,cap,rfl⟩<;>rfl
theorem Grid.nil (w:World)(B:Nat)(eo ei:TypeId):Grid w B eo ei (.slice none 0 0) []:=⟨[],Own.nil w B eo,rfl,by intro i xs h;simp at h⟩
theorem Grid.below {w w':World} {B B':Nat} {e d:TypeId} {r:Value} {a:List (List Value)}(h:Grid w B e d r a)(c:Below B' w w')(b:w.heap.size≤B'):Grid w' B e d r a:=by
 obtain⟨f,g,h2,h3⟩:=h;refine⟨f,g.below c b,h2,?_⟩;intro i xs j;obtain⟨v,k,e2,e3⟩:=h3 i xs j;exact⟨v,k,e2.below c b,e3⟩
theorem Grid.alloc {w:World} {B:Nat} {eo ei:TypeId} {r:Value} {rows:List (List Value)}(h:Grid w B eo ei r rows)(o:Obj):Grid (w.alloc o) B eo ei r rows:=
 h.below ((Below.refl w.heap.size _).alloc lR o) lR
theorem Grid.mono {w:World} {B B':Nat} {eo ei:TypeId} {r:Value} {rows:List (List Value)}(h:Grid w B eo ei r rows)(hB:B'≤B):Grid w B' eo ei r rows:=by
 obtain⟨vs,h1,h2,h3⟩:=h;refine⟨vs,h1.mono hB,h2,?_⟩;intro i xs hi;obtain⟨v,e1,e2,e3⟩:=h3 i xs hi;exact⟨v,e1,e2.mono hB,e3⟩
section
variable {P:Program} {w:World}
theorem Og {ops:Array Oper} {rest:List Oper} {o:Oper} {a:Act} {Q:Exit→Act→World→Prop} (A:o.guard=none) (s x:Operand) (t:TypeId)
  (G:o.op=.call {callee:=.builtin .append,args:=#[s,x],argTypes:=#[t,t]})
  (B:Nat) (j l:TypeId) (z:Value) (c:Nat) (F:Elem P t j z c) (e:l≠j)
  (v:Value) (b:List (List Value)) (K:a.eval s=v) (g:Grid w B j l v b)
  (p:Addr) (u:Value) (xs:List Value) (hx:a.eval x=.slice (some p) 1 1) (J:w.cell? p=some u) (k:Own w B l u xs)
  (M:b.length<1099511627776) (H:B≤w.heap.size)
  (h:∀v' w',Grid w' B j l v' (b++[xs])→Below B w w'→wpList P ops Q rest (a.put o.dst v') w'):wpList P ops Q (o::rest) a w:=by
 obtain⟨D,r,h2,h3⟩:=g;refine Dj A s x t G B j z c F v D K r p u hx J k.oneCell (by omega) H ?_;intro v' w' n C I;refine h v' w' ⟨D++[u],n,by simp[h2],?_⟩ I;intro i E d;rcases aB i b.length with m|q
 ·rw[aE m]at d;obtain⟨y,L,e2,e3⟩:=h3 i E d;exact⟨y,by rw[aE (by omega)];exact L,World.ownsRow.kept e2 C (e2.apart r e),e3⟩
 ·rw[aF q]at d;have f:i-b.length=0:=by
   rcases Nat.eq_zero_or_pos (i-b.length)with h|h
   ·exact h
   ·rw[List.getElem?_eq_none (by simp;omega)]at d;cases d
  rw[f]at d;simp only[List.getElem?_cons_zero,Option.some.injEq]at d;subst d;refine⟨u,?_,World.ownsRow.kept k C (k.apart r e),k.oneCell⟩;rw[aF (by omega),h2,f]
  rfl
end
end
section
structure ElemK (P:Program) (t e:TypeId) (z:Value) (k bytes:Nat):Prop where
 ty:P.underlying t=some (.slice e)
 inf:(P.info? e).map (fun i=>(i.zero,i.size,i.bytes))=some (some z,k,bytes)
 one:z.cells.size=k
 pos:0<k
 low:bytes≤512
theorem Mk {P:Program} {e:TypeId} {z:Value} {k bytes:Nat}(h:(P.info? e).map (fun i=>(i.zero,i.size,i.bytes))=some (some z,k,bytes)):
  ∃i,P.info? e=some i∧i.zero=some z∧i.size=k∧i.bytes=bytes:=by
 cases hi:P.info? e with
 |none=>simp[hi]at h
 |some i=>
  simp[hi]at h;exact⟨i,rfl,h.1,h.2.1,h.2.2⟩
def OwnK (w:World)(B:Nat)(e:TypeId)(k:Nat)(v:Value)(n:Nat)(xs:List Value):Prop:=w.ownsRow B e k v n xs
theorem OwnK.nil (w:World)(B:Nat)(e:TypeId)(k:Nat):OwnK w B e k (.slice none 0 0) 0 []:=World.ownsRow_nil w B e k
theorem OwnK.alloc {w:World} {B:Nat} {e:TypeId} {k:Nat} {v:Value} {n:Nat} {xs:List Value}(h:OwnK w B e k v n xs)(o:Obj):OwnK (w.alloc o) B e k v n xs:=World.ownsRow.alloc h o
theorem OwnK.below {w w':World} {B B':Nat} {e:TypeId} {k:Nat} {v:Value} {n:Nat} {xs:List Value}(h:OwnK w B e k v n xs)(d:Below B' w w')(j:w.heap.size≤B'):OwnK w' B e k v n xs:=by
 obtain⟨c,h|⟨g,cap,a,i,f,hh,r⟩⟩:=h
 ·exact⟨c,.inl h⟩
 ·refine⟨c,.inr ⟨g,cap,a,i,f,?_,r⟩⟩;have l:g<w.heap.size:=by
   rcases aB g w.heap.size with b|b
   ·exact b
   ·simp[aD b]at hh
  rw[d.block g (by omega)];exact hh
theorem OwnK.out {w:World} {B:Nat} {e:TypeId} {k:Nat} {v:Value} {n:Nat} {xs:List Value}(h:OwnK w B e k v n xs)(c:0<n):
  ∃g cap,v=.slice (some ⟨g,0,none⟩) n cap∧B≤g∧g<w.heap.size∧n≤cap∧cap≤maxLen∧(∀(j:Nat) u,xs[j]? =some u→w.cell? ⟨g,j,none⟩=some u)∧∃a,w.heap[g]? =some (.cells a e (0,0))∧a.size=cap*k∧a.toList.take (n*k)=xs:=by
 have l:=fun g=>World.ownsRow.cells (g:=g) h;obtain⟨_,h⟩:=h;rcases h with⟨rfl,p⟩|⟨g,cap,a,rfl,i,hh,c,d,o,f⟩
 ·omega
 ·refine⟨g,cap,rfl,i,?_,c,d,?_,a,hh,o,f⟩
  ·rcases aB g w.heap.size with b|b
   ·exact b
   ·simp[aD b]at hh
  ·intro j u m;have:=l g rfl j u m;simpa [Addr.add_lit]using this
section
variable {P:Program} {w:World}
theorem Lb {ops:Array Oper} {rest:List Oper} {o:Oper} {a:Act} {Q:Exit→Act→World→Prop} (g:o.guard=none) (s x:Operand) (t:TypeId)
  (p:o.op=.call {callee:=.builtin .append,args:=#[s,x],argTypes:=#[t,t]})
  (B:Nat) (e:TypeId) (z:Value) (k b:Nat) (F:ElemK P t e z k b)
  (v:Value) (n:Nat) (xs:List Value) (y:a.eval s=v) (c:OwnK w B e k v n xs)
  (N:Nat) (d:List Value) (hx:a.eval x=.slice (some ⟨N,0,none⟩) 1 1) (E:d.length=k) (r:∀(j:Nat) u,d[j]? =some u→w.cell? ⟨N,j,none⟩=some u) (C:∀u∈d,u.oneCell'=true)
  (G:n<137438953472) (m:B≤w.heap.size)
  (h:∀v' w',OwnK w' B e k v' (n+1) (xs++d)→Below B w w'→wpList P ops Q rest (a.put o.dst v') w'):wpList P ops Q (o::rest) a w:=by
 obtain⟨i,A,D,l,f⟩:=Mk F.inf;have low:=F.low;refine wpList_append_own w g s x t p B e i z k b F.ty A D l f F.one F.pos v n xs y c ⟨N,0,none⟩ 1 1 d hx (by rw[E,Nat.one_mul]) (fun j u q=>by rw[Addr.add_lit,Nat.zero_add];exact r j u q) C ?_ ?_ m ?_
 ·unfold maxLen;omega
 ·have:(n+1)*b≤(n+1)*512:=aC _ low;omega
 ·intro v' w' h2 h3 _;refine h v' w' h2 ?_;refine(Below.refl B w).grown h3 m ?_;intro k hk;exact(World.ownsRow.lt c k hk).1
end
theorem Sh {w:World} {cs:List Value} {e:TypeId} {N:Nat}(hN:N=w.heap.size):∀(j:Nat) u,cs[j]? =some u→(w.alloc (.cells cs.toArray e)).cell? ⟨N,j,none⟩=some u:=by
 intro j u h;subst hN;rw[cell_of_row _ _ _ _ _ _ (heap_alloc_new w _)];simpa using h
def Blk (w:World)(g:Nat)(t:TypeId)(cs:Array Value):Prop:=w.heap[g]? =some (.cells cs t (0,0))
theorem Blk.lt {w:World} {g:Nat} {t:TypeId} {cs:Array Value}(h:Blk w g t cs):g<w.heap.size:=by
 rcases aB g w.heap.size with hlt|hge
 ·exact hlt
 ·unfold Blk at h;rw[aD hge]at h;cases h
theorem Blk.new (w:World)(t:TypeId)(cs:Array Value):Blk (w.alloc (.cells cs t)) w.heap.size t cs:=heap_alloc_new w _
theorem Blk.below {w w':World} {g:Nat} {t:TypeId} {cs:Array Value} {B:Nat}(h:Blk w g t cs)(hb:Below B w w')(hg:g<B):Blk w' g t cs:=(hb.block g hg).trans h
theorem Blk.alloc {w:World} {g:Nat} {t:TypeId} {cs:Array Value}(h:Blk w g t cs)(o:Obj):Blk (w.alloc o) g t cs:=(Below.heap_alloc w o g h.lt).trans h
theorem Blk.drewN {w:World} {g:Nat} {t:TypeId} {cs:Array Value}(h:Blk w g t cs)(n:Nat):Blk (w.drewN n) g t cs:=h
theorem Blk.cell {w:World} {g:Nat} {t:TypeId} {cs:Array Value}(h:Blk w g t cs)(i:Nat):w.cell? ⟨g,i,none⟩=cs[i]? :=cell_of_row w g i cs t (0,0) h
theorem Blk.frozen {w:World} {g:Nat} {t:TypeId} {cs:Array Value}(h:Blk w g t cs)(i:Nat):w.frozen? ⟨g,i,none⟩=false:=frozen_of_row w g i cs t h
theorem Aa {P:Program} {w:World} {ops:Array Oper} {rest:List Oper} {o:Oper} {a:Act} {Q:Exit→Act→World→Prop} (f:o.guard=none) (ty:TypeId) (x y:Operand) (j:o.op=.store ty x y)
  (g:Nat) (b:Array Value) (hx:a.eval x=.pointer (some ⟨g,0,none⟩)) (k:a.eval y=.agg b)
  (t:TypeId) (c:Array Value) (d:Blk w g t c) (e:(P.info? ty).map (·.size)=some b.size)
  (l:c.size=b.size) (m:b.toList.all (·.oneCell')=true)
  (h:∀w2,Blk w2 g t b→(∀B,B≤g→Below B w w2)→(∀i,i≠g→w2.heap[i]? =w.heap[i]?)→w2.heap.size=w.heap.size→wpList P ops Q rest (a.put o.dst undef) w2):wpList P ops Q (o::rest) a w:=by
 refine wpList_store_row f ty x y j g b hx k t c d e l (by rw[←Array.all_toList];exact m) ?_;refine h _ ?_ ?_ ?_ ?_
 ·exact setRow_heap w g c b t _ d
 ·intro B n;exact⟨rfl,rfl,rfl,by simp,fun i e=>setRow_other w g i b (by omega)⟩
 ·intro i e;exact setRow_other w g i b e
 ·simp
theorem Ad {P:Program} {b:Func} {p q:Tmp} {ty:TypeId} (h:b.results=#[.cell p ty,.tmp q]) (tmps:Array Value) (w:World) (g:Nat) (t:TypeId) (cs:Array Value) (d:TypeDesc)
  (e:tmps.getD p undef=.pointer (some ⟨g,0,none⟩)) (f:Blk w g t cs)
  (i:P.underlying ty=some d) (j:(match d with| .struct _| .array _ _=>true|_=>false)=true) (c:(P.info? ty).map (·.size)=some cs.size):
  (results b tmps).run P w=.ok (.tuple #[.agg cs,tmps.getD q undef]) w:=by
 have a:tmps[p]?.getD undef=.pointer (some ⟨g,0,none⟩):=(by simpa using e);simp[results,h,a,asAddr,run_loadVar_row w g t ty cs (0,0) d f i j c]
theorem Blk.set {w:World} {g:Nat} {t:TypeId} {cs:Array Value}(h:Blk w g t cs)(i:Nat)(u:Value):Blk (w.setCell ⟨g,i,none⟩ u) g t (cs.setIfInBounds i u):=heap_setCell_same w g i cs t u h
theorem Blk.far {w:World} {g:Nat} {t:TypeId} {cs:Array Value}(h:Blk w g t cs) {p:Addr}(hp:g≠p.block)(u:Value):Blk (w.setCell p u) g t cs:=(Below.heap_setCell w p u g hp).trans h
theorem Hq {P:Program} {b:Func} {p:Tmp} {ty:TypeId} (h:b.results=#[.cell p ty]) (tmps:Array Value) (w:World) (g:Nat) (t:TypeId) (cs:Array Value) (d:TypeDesc)
  (e:tmps.getD p undef=.pointer (some ⟨g,0,none⟩)) (f:Blk w g t cs)
  (i:P.underlying ty=some d) (j:(match d with| .struct _| .array _ _=>true|_=>false)=true) (c:(P.info? ty).map (·.size)=some cs.size):
  (results b tmps).run P w=.ok (.agg cs) w:=by
 have a:tmps[p]?.getD undef=.pointer (some ⟨g,0,none⟩):=(by simpa using e);simp[results,h,a,asAddr,run_loadVar_row w g t ty cs (0,0) d f i j c]
end
end Go.Proofs.YtfofaiommeckbaaGreat
