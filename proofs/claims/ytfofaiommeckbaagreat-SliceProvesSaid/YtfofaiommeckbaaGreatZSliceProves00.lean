import Derived.Test.YtfofaiommeckbaaGreatZSliceProvesB
import Derived.WalkKit
import Derived.Laws.CopyOwn
import Derived.Laws.AppendOwnNone
import Derived.Lib.Hide
import Derived.Deep.Draws
open Go.Value renaming slice → q9, pointer → rB
open Option renaming none → rF
open Nat renaming zero_le → aA, lt_or_ge → aB, mul_le_mul_left → aC
open Array renaming getElem?_eq_none → aD
set_option linter.unusedVariables false
set_option maxRecDepth 100000
set_option maxHeartbeats 40000000
namespace Go.Proofs.YtfofaiommeckbaaGreat
open Go.RowKit
section
structure Elem (P:Program) (t e:TypeId) (z:Value) (bytes:Nat):Prop where
 ty:P.underlying t=some (.slice e)
 inf:(P.info? e).map (fun i=>(i.zero,i.size,i.bytes))=some (some z,1,bytes)
 one:z.cells.size=1
 low:bytes≤64
def Rd (w:World)(v:Value)(xs:List Value):Prop:=
 ∃a cap,v=.slice a xs.length cap∧xs.length≤cap∧cap≤maxLen∧
  ((xs=[]∧(a=none→cap=0))∨∃b off,a=some ⟨b,off,rF⟩∧∀(j:Nat) u,xs[j]? =some u→w.cell? ⟨b,off+j,rF⟩=some u)
def Own (w:World)(B:Nat)(e:TypeId)(v:Value)(xs:List Value):Prop:=w.ownsRow B e 1 v xs.length xs
theorem Own.rd {w:World} {B:Nat} {e:TypeId} {v:Value} {xs:List Value}(h:Own w B e v xs):Rd w v xs:=by
 have b:=fun g=>World.ownsRow.cells (g:=g) h;obtain⟨_,h⟩:=h;rcases h with⟨rfl,h0⟩|⟨g,cap,d,rfl,l,i,f,a,k,ht⟩
 ·have:xs=[]:=List.eq_nil_of_length_eq_zero h0;subst this;exact⟨none,0,rfl,lR,aA _,.inl ⟨rfl,fun _=>rfl⟩⟩
 ·refine⟨_,cap,rfl,f,a,.inr ⟨g,0,rfl,?_⟩⟩;intro j u c;have:=b g rfl j u c;simpa [Addr.add_lit]using this
theorem Rd.lt {w:World} {v:Value} {xs:List Value}(h:Rd w v xs):xs=[]∨∃b c cap,v=q9 (some ⟨b,c,rF⟩) xs.length cap∧b<w.heap.size:=by
 obtain⟨a,cap,rfl,_,_,h|⟨b,c,rfl,d⟩⟩:=h
 ·exact .inl h.1
 ·cases xs with
  |nil=>exact .inl rfl
  |cons x xs=>exact .inr ⟨b,c,cap,rfl,World.block_lt_of_cell? w _ (d 0 x rfl)⟩
theorem Rd.below {w w':World} {B:Nat} {v:Value} {xs:List Value}(h:Rd w v xs)(g:Below B w w')(i:w.heap.size≤B):Rd w' v xs:=by
 obtain⟨a,cap,rfl,h1,h2,h|⟨b,c,rfl,d⟩⟩:=h
 ·exact⟨a,cap,rfl,h1,h2,.inl h⟩
 ·refine⟨_,cap,rfl,h1,h2,.inr ⟨b,c,rfl,?_⟩⟩;intro j u f;have:=d j u f;have e:=World.block_lt_of_cell? w _ this;rw[g.cell (by simp only at e⊢;omega)];exact this
theorem Rd.alloc {w:World} {v:Value} {xs:List Value}(h:Rd w v xs)(o:Obj):Rd (w.alloc o) v xs:=
 h.below ((Below.refl w.heap.size _).alloc lR o) lR
theorem Own.nil (w:World)(B:Nat)(e:TypeId):Own w B e (q9 rF 0 0) []:=World.ownsRow_nil w B e 1
theorem Own.alloc {w:World} {B:Nat} {e:TypeId} {v:Value} {xs:List Value}(h:Own w B e v xs)(o:Obj):Own (w.alloc o) B e v xs:=World.ownsRow.alloc h o
theorem Own.mono {w:World} {B B':Nat} {e:TypeId} {v:Value} {xs:List Value}(h:Own w B e v xs)(hB:B'≤B):Own w B' e v xs:=by
 obtain⟨h0,h|⟨g,cap,cur,hv,hg,r⟩⟩:=h
 ·exact⟨h0,.inl h⟩
 ·exact⟨h0,.inr ⟨g,cap,cur,hv,by omega,r⟩⟩
theorem Own.below {w w':World} {B B':Nat} {e:TypeId} {v:Value} {xs:List Value}(h:Own w B e v xs)(i:Below B' w w')(j:w.heap.size≤B'):Own w' B e v xs:=by
 obtain⟨h0,h|⟨g,cap,b,d,f,c,r⟩⟩:=h
 ·exact⟨h0,.inl h⟩
 ·refine⟨h0,.inr ⟨g,cap,b,d,f,?_,r⟩⟩;have k:g<w.heap.size:=by
   rcases aB g w.heap.size with a|a
   ·exact a
   ·simp[aD a]at c
  rw[i.block g (by omega)];exact c
section
variable {P:Program} {w:World}
theorem An {ops:Array Oper} {rest:List Oper} {o:Oper} {a:Act} {Q:Exit→Act→World→Prop} (m:o.guard=none) (s x:Operand) (t:TypeId)
  (C:o.op=.call {callee:=.builtin .append,args:=#[s,x],argTypes:=#[t,t]})
  (B:Nat) (e:TypeId) (z:Value) (b:Nat) (F:Elem P t e z b)
  (v:Value) (xs:List Value) (q:a.eval s=v) (c:Own w B e v xs)
  (d:Addr) (u:Value) (hx:a.eval x=.slice (some d) 1 1) (D:w.cell? d=some u) (h1:u.oneCell'=true)
  (E:xs.length<1099511627776) (p:B≤w.heap.size)
  (h:∀f w',Own w' B e f (xs++[u])→w.grownBy w' v.ownBlock→Below B w w'→wpList P ops Q rest (a.put o.dst f) w'):wpList P ops Q (o::rest) a w:=by
 obtain⟨i,A,r,g,n⟩:=info_parts F.inf;have low:=F.low;refine wpList_append_own w m s x t C B e i z 1 b F.ty A r g n F.one (by omega) v xs.length xs q c d 1 1 [u] hx rfl ?_ (by simpa using h1) ?_ ?_ p ?_
 ·intro j y l;cases j with
  |zero=>
   have:d.add 0=d:=(by unfold Addr.add;split<;>simp_all);rw[this];simp at l;rw[←l];exact D
  |succ j=>simp at l
 ·unfold maxLen;omega
 ·have:(xs.length+1)*b≤(xs.length+1)*64:=aC _ low;omega
 ·intro f w' h2 h3 _;have e1:(xs++[u]).length=xs.length+1:=(by simp);refine h f w' (by unfold Own;rw[e1];exact h2) h3 ?_;refine(Below.refl B w).grown h3 p ?_;intro k hk;exact(World.ownsRow.lt c k hk).1
theorem Ke {ops:Array Oper} {rest:List Oper} {o:Oper} {a:Act} {Q:Exit→Act→World→Prop} (m:o.guard=none) (s x:Operand) (t:TypeId)
  (A:o.op=.call {callee:=.builtin .append,args:=#[s,x],argTypes:=#[t,t]})
  (B:Nat) (e:TypeId) (z:Value) (b:Nat) (F:Elem P t e z b)
  (v:Value) (xs:List Value) (q:a.eval s=v) (d:Own w B e v xs)
  (l:Addr) (cap:Nat) (c:List Value) (hx:a.eval x=.slice (some l) c.length cap) (C:∀(j:Nat) u,c[j]? =some u→w.cell? (l.add j)=some u) (h1:∀u∈c,u.oneCell'=true)
  (D:xs.length+c.length<1099511627776) (p:B≤w.heap.size)
  (h:∀f w',Own w' B e f (xs++c)→w.grownBy w' v.ownBlock→Below B w w'→wpList P ops Q rest (a.put o.dst f) w'):wpList P ops Q (o::rest) a w:=by
 obtain⟨i,y,r,g,n⟩:=info_parts F.inf;have low:=F.low;refine wpList_append_own w m s x t A B e i z 1 b F.ty y r g n F.one (by omega) v xs.length xs q d l c.length cap c hx (by omega) C h1 ?_ ?_ p ?_
 ·unfold maxLen;omega
 ·have:(xs.length+c.length)*b≤(xs.length+c.length)*64:=aC _ low;omega
 ·intro f w' h2 h3 _;have e1:(xs++c).length=xs.length+c.length:=(by simp);refine h f w' (by unfold Own;rw[e1];exact h2) h3 ?_;refine(Below.refl B w).grown h3 p ?_;intro k hk;exact(World.ownsRow.lt d k hk).1
theorem Aj {ops:Array Oper} {rest:List Oper} {o:Oper} {a:Act} {Q:Exit→Act→World→Prop} (f:o.guard=none) (s x:Operand) (t:TypeId)
  (n:o.op=.call {callee:=.builtin .append,args:=#[s,x],argTypes:=#[t,t]})
  (B:Nat) (e:TypeId) (z:Value) (c:Nat) (F:Elem P t e z c)
  (v:Value) (xs:List Value) (m:a.eval s=v) (d:Own w B e v xs)
  (r:Value) (k:List Value) (hx:a.eval x=r) (E:Rd w r k) (h1:∀u∈k,u.oneCell'=true)
  (q:xs.length+k.length<1099511627776) (p:B≤w.heap.size)
  (h:∀v' w',Own w' B e v' (xs++k)→w.grownBy w' v.ownBlock→Below B w w'→wpList P ops Q rest (a.put o.dst v') w'):wpList P ops Q (o::rest) a w:=by
 obtain⟨l,cap,rfl,_,_,⟨rfl,g⟩|⟨b,y,rfl,A⟩⟩:=E
 ·cases l with
  |none=>
   obtain rfl:=g rfl;obtain⟨i,C,_,_,_⟩:=info_parts F.inf;refine wpList_append_own_none f s x t n B e i 1 F.ty C v xs.length xs m d hx ?_;exact h v w (by simpa using d) ⟨rfl,rfl,rfl,lR,fun _ _ _=>rfl⟩ bR
  |some l=>exact Ke f s x t n B e z c F v xs m d l cap [] hx (by simp) h1 q p h
 ·exact Ke f s x t n B e z c F v xs m d _ cap k hx (fun j u D=>by rw[Addr.add_lit];exact A j u D) h1 q p h
end
theorem Ri {P:Program} (w:World) {T E len:Nat} {d:TypeDesc} (g:P.underlying T=some (.array len E)) (j:(match d with| .struct _| .array _ _=>true|_=>false)=false) (c:P.underlying E=some d)
  (b:(P.info? E).map (·.size)=some 1)
  (cs:Array Value) (k:IntKind) (i:Nat) (l:i<len) (v:Value) (f:cs[i]? =some v):
  (Instr.index T (.agg cs) (.int k (i:Int))).run P w=.ok v w:=by
 have e:(isAgg E).run P w=.ok false w:=by
  unfold isAgg;rw[Sem.run_bind,run_underlying c w];cases d<;>simp_all
 cases hq:P.info? E with
 |none=>simp[hq]at b
 |some inf=>
  have a:inf.size=1:=(by simpa [hq]using b);have h0:(0:Int)≤(i:Int)∧(i:Int)<(len:Int):=(by omega);simp[Instr.index,asIntOf,Sem.run_bind,run_underlying g,h0,sizeOf,typeInfo,hq,a,part,e,f];intro h;omega
theorem Ar {w:World} {u:Value} {e:TypeId} {N:Nat}(hN:N=w.heap.size):(w.alloc (.cells #[u] e)).cell? ⟨N,0,rF⟩=some u:=by
 subst hN;rw[cell_of_row _ _ _ _ _ _ (heap_alloc_new w _)];rfl
theorem Own.lit0 {w:World} {B N:Nat} {e:TypeId}(hN:N=w.heap.size)(hB:B≤N):Own (w.alloc (.cells #[] e)) B e (q9 (some ⟨N,0,rF⟩) 0 0) []:=by
 subst hN;exact World.ownsRow_made w #[] 0 hB (aA _) rfl
theorem Own.full {w:World} {B:Nat} {e:TypeId} {cs:Array Value} {N:Nat}(c:N=w.heap.size)(a:B≤N)(b:cs.size≤maxLen) {n:Nat}(d:n=cs.size):
  Own (w.alloc (.cells cs e)) B e (q9 (some ⟨N,0,rF⟩) n n) cs.toList:=by
 subst d c;refine⟨by simp,.inr ⟨w.heap.size,cs.size,cs,by simp,a,heap_alloc_new w _,by simp,b,by simp,?_⟩⟩;simp only[Nat.mul_one,Array.length_toList];rw[List.take_of_length_le (by simp)]
theorem Own.set {w:World} {B:Nat} {e:TypeId} {g n cap:Nat} {xs:List Value}(h:Own w B e (q9 (some ⟨g,0,rF⟩) n cap) xs)(i:Nat)(u:Value):
  Own (w.setCell ⟨g,i,rF⟩ u) B e (q9 (some ⟨g,0,rF⟩) n cap) (xs.set i u):=by
 obtain⟨h0,h|⟨l,cap',a,b,j,d,k,c,f,ht⟩⟩:=h
 ·cases h.1
 ·simp only[Value.slice.injEq,Option.some.injEq,Addr.mk.injEq,and_true]at b;obtain⟨rfl,rfl,rfl⟩:=b;refine⟨by simp,.inr ⟨g,cap,a.setIfInBounds i u,by simp,j,heap_setCell_same w g i a e u d,by simpa using k,c,by simpa using f,?_⟩⟩;simp only[Array.toList_setIfInBounds,List.length_set];rw[List.take_set,ht]
theorem Own.setOther {w:World} {B:Nat} {e:TypeId} {v:Value} {xs:List Value}(h:Own w B e v xs) {a:Addr}(f:v.ownBlock≠some a.block)(u:Value):Own (w.setCell a u) B e v xs:=by
 obtain⟨h0,h|⟨g,cap,b,c,d,i,r⟩⟩:=h
 ·exact⟨h0,.inl h⟩
 ·refine⟨h0,.inr ⟨g,cap,b,c,d,?_,r⟩⟩;rw[Below.heap_setCell _ _ _ _ (fun e=>f (by rw[c];simp[Value.ownBlock,e]))];exact i
theorem Own.drewN {w:World} {B:Nat} {e:TypeId} {v:Value} {xs:List Value}(h:Own w B e v xs)(n:Nat):Own (w.drewN n) B e v xs:=h
theorem Rd.drewN {w:World} {v:Value} {xs:List Value}(h:Rd w v xs)(n:Nat):Rd (w.drewN n) v xs:=h
theorem Ab {B:Nat} {a w:World}(h:Below B a w)(n:Nat):Below B a (w.drewN n):=h.trans ⟨rfl,rfl,rfl,lR,fun _ _=>rfl⟩
theorem Rd.sub {w:World} {b g n cap:Nat} {xs:List Value}(h:Rd w (q9 (some ⟨b,g,rF⟩) n cap) xs)(d i:Nat) {off' n' cap':Nat}(h1:d≤i)(h2:i≤n)(q:off'=g+d)(r:n'=i-d)(o:cap'=cap-d):
  Rd w (q9 (some ⟨b,off',rF⟩) n' cap') ((xs.take i).drop d):=by
 obtain⟨a,c,m,v,s,p⟩:=h;simp only[Value.slice.injEq]at m;obtain⟨rfl,rfl,rfl⟩:=m;subst q r o;have e:((xs.take i).drop d).length=i-d:=(by simp;omega);refine⟨_,cap-d,by rw[e],by rw[e];omega,by omega,?_⟩;rcases p with⟨rfl,_⟩|⟨t,off',l,f⟩
 ·exact .inl ⟨by simp,by simp⟩
 ·simp only[Option.some.injEq,Addr.mk.injEq,and_true]at l;obtain⟨rfl,rfl⟩:=l;refine .inr ⟨b,g+d,rfl,?_⟩;intro j u k;rw[List.getElem?_drop,List.getElem?_take]at k
  split at k
  ·rw[Nat.add_assoc];exact f _ u k
  ·cases k
theorem Own.at {w:World} {B:Nat} {e:TypeId} {g n cap:Nat} {xs:List Value}(h:Own w B e (q9 (some ⟨g,0,rF⟩) n cap) xs):
  (∀(j:Nat) u,xs[j]? =some u→w.cell? ⟨g,j,rF⟩=some u)∧(∀j:Nat,w.frozen? ⟨g,j,rF⟩=false):=by
 have d:=fun g=>World.ownsRow.cells (g:=g) h;obtain⟨_,h|⟨i,cap',a,b,k,c,r⟩⟩:=h
 ·cases h.1
 ·simp only[Value.slice.injEq,Option.some.injEq,Addr.mk.injEq,and_true]at b;obtain⟨rfl,_,rfl⟩:=b;refine⟨?_,fun j=>frozen_of_row w g j a e c⟩;intro j u f;have:=d g rfl j u f;simpa [Addr.add_lit]using this
theorem Aw {P:Program} {w:World} {ops:Array Oper} {rest:List Oper} {o:Oper} {a:Act} {Q:Exit→Act→World→Prop} (b:o.guard=none) (ty:TypeId) (x:Operand) (i:o.op=.load ty x)
  (g:Nat) (hx:a.eval x=rB (some ⟨g,0,rF⟩)) (t:TypeId) (cs:Array Value) (c:Nat×Nat) (d:TypeDesc) (k:w.heap[g]? =some (.cells cs t c))
  (j:P.underlying ty=some d) (e:(match d with| .struct _| .array _ _=>true|_=>false)=true) (f:(P.info? ty).map (·.size)=some cs.size)
  (h:wpList P ops Q rest (a.put o.dst (.agg cs)) w):wpList P ops Q (o::rest) a w:=
 wpList_load_row b ty x i g hx t cs c d k j e f h
theorem Rj {P:Program} {w:World} {ops:Array Oper} {rest:List Oper} {o:Oper} {a:Act} {Q:Exit→Act→World→Prop} (b:Region.wanted o (yielded ops a.tmps)=true)
  (h:wpList P ops Q ({o with guard:=none}::rest) a w):wpList P ops Q (o::rest) a w:=by
 unfold wpList at h⊢;rw[if_pos b];rw[if_pos (show Region.wanted {o with guard:=none} (yielded ops a.tmps)=true from rfl)]at h;exact h
end
section
theorem Own.form {w:World} {B:Nat} {e:TypeId} {v:Value} {xs:List Value}(h:Own w B e v xs):v=q9 rF 0 0∨∃g cap,v=q9 (some ⟨g,0,rF⟩) xs.length cap:=by
 obtain⟨_,h|⟨g,cap,cur,hv,_⟩⟩:=h
 ·exact .inl h.1
 ·exact .inr ⟨g,cap,hv⟩
theorem Own.oneCell {w:World} {B:Nat} {e:TypeId} {v:Value} {xs:List Value}(h:Own w B e v xs):v.oneCell'=true:=by
 rcases h.form with rfl|⟨g,cap,rfl⟩<;>rfl
section
variable {P:Program} {w:World}
end
end
section
structure ElemK (P:Program) (t e:TypeId) (z:Value) (k bytes:Nat):Prop where
 ty:P.underlying t=some (.slice e)
 inf:(P.info? e).map (fun i=>(i.zero,i.size,i.bytes))=some (some z,k,bytes)
 one:z.cells.size=k
 pos:0<k
 low:bytes≤512
theorem Jt {P:Program} {e:TypeId} {z:Value} {k bytes:Nat}(h:(P.info? e).map (fun i=>(i.zero,i.size,i.bytes))=some (some z,k,bytes)):
  ∃i,P.info? e=some i∧i.zero=some z∧i.size=k∧i.bytes=bytes:=by
 cases hi:P.info? e with
 |none=>simp[hi]at h
 |some i=>
  simp[hi]at h;exact⟨i,rfl,h.1,h.2.1,h.2.2⟩
def OwnK (w:World)(B:Nat)(e:TypeId)(k:Nat)(v:Value)(n:Nat)(xs:List Value):Prop:=w.ownsRow B e k v n xs
theorem OwnK.nil (w:World)(B:Nat)(e:TypeId)(k:Nat):OwnK w B e k (q9 rF 0 0) 0 []:=World.ownsRow_nil w B e k
theorem OwnK.alloc {w:World} {B:Nat} {e:TypeId} {k:Nat} {v:Value} {n:Nat} {xs:List Value}(h:OwnK w B e k v n xs)(o:Obj):OwnK (w.alloc o) B e k v n xs:=World.ownsRow.alloc h o
theorem OwnK.below {w w':World} {B B':Nat} {e:TypeId} {k:Nat} {v:Value} {n:Nat} {xs:List Value}(h:OwnK w B e k v n xs)(i:Below B' w w')(j:w.heap.size≤B'):OwnK w' B e k v n xs:=by
 obtain⟨h0,h|⟨g,cap,b,d,f,c,r⟩⟩:=h
 ·exact⟨h0,.inl h⟩
 ·refine⟨h0,.inr ⟨g,cap,b,d,f,?_,r⟩⟩;have l:g<w.heap.size:=by
   rcases aB g w.heap.size with a|a
   ·exact a
   ·simp[aD a]at c
  rw[i.block g (by omega)];exact c
theorem OwnK.out {w:World} {B:Nat} {e:TypeId} {k:Nat} {v:Value} {n:Nat} {xs:List Value}(h:OwnK w B e k v n xs)(d:0<n):
  ∃g cap,v=q9 (some ⟨g,0,rF⟩) n cap∧B≤g∧g<w.heap.size∧n≤cap∧cap≤maxLen∧(∀(j:Nat) u,xs[j]? =some u→w.cell? ⟨g,j,rF⟩=some u)∧∃a,w.heap[g]? =some (.cells a e (0,0))∧a.size=cap*k∧a.toList.take (n*k)=xs:=by
 have l:=fun g=>World.ownsRow.cells (g:=g) h;obtain⟨_,h⟩:=h;rcases h with⟨rfl,h0⟩|⟨g,cap,a,rfl,o,c,d,f,i,ht⟩
 ·omega
 ·refine⟨g,cap,rfl,o,?_,d,f,?_,a,c,i,ht⟩
  ·rcases aB g w.heap.size with b|b
   ·exact b
   ·simp[aD b]at c
  ·intro j u m;have:=l g rfl j u m;simpa [Addr.add_lit]using this
section
variable {P:Program} {w:World}
theorem Mc {ops:Array Oper} {rest:List Oper} {o:Oper} {a:Act} {Q:Exit→Act→World→Prop} (l:o.guard=none) (s x:Operand) (t:TypeId)
  (C:o.op=.call {callee:=.builtin .append,args:=#[s,x],argTypes:=#[t,t]})
  (B:Nat) (e:TypeId) (z:Value) (k b:Nat) (F:ElemK P t e z k b)
  (v:Value) (n:Nat) (xs:List Value) (r:a.eval s=v) (c:OwnK w B e k v n xs)
  (N:Nat) (d:List Value) (hx:a.eval x=q9 (some ⟨N,0,rF⟩) 1 1) (D:d.length=k) (E:∀(j:Nat) u,d[j]? =some u→w.cell? ⟨N,j,rF⟩=some u) (h1:∀u∈d,u.oneCell'=true)
  (G:n<137438953472) (p:B≤w.heap.size)
  (h:∀f w',OwnK w' B e k f (n+1) (xs++d)→Below B w w'→wpList P ops Q rest (a.put o.dst f) w'):wpList P ops Q (o::rest) a w:=by
 obtain⟨i,A,y,g,m⟩:=Jt F.inf;have low:=F.low;refine wpList_append_own w l s x t C B e i z k b F.ty A y g m F.one F.pos v n xs r c ⟨N,0,rF⟩ 1 1 d hx (by rw[D,Nat.one_mul]) (fun j u q=>by rw[Addr.add_lit,Nat.zero_add];exact E j u q) h1 ?_ ?_ p ?_
 ·unfold maxLen;omega
 ·have:(n+1)*b≤(n+1)*512:=aC _ low;omega
 ·intro f w' h2 h3 _;refine h f w' h2 ?_;refine(Below.refl B w).grown h3 p ?_;intro k hk;exact(World.ownsRow.lt c k hk).1
end
theorem Tj {w:World} {cs:List Value} {e:TypeId} {N:Nat}(hN:N=w.heap.size):∀(j:Nat) u,cs[j]? =some u→(w.alloc (.cells cs.toArray e)).cell? ⟨N,j,rF⟩=some u:=by
 intro j u h;subst hN;rw[cell_of_row _ _ _ _ _ _ (heap_alloc_new w _)];simpa using h
def Blk (w:World)(g:Nat)(t:TypeId)(cs:Array Value):Prop:=w.heap[g]? =some (.cells cs t (0,0))
theorem Blk.lt {w:World} {g:Nat} {t:TypeId} {cs:Array Value}(h:Blk w g t cs):g<w.heap.size:=by
 rcases aB g w.heap.size with hlt|hge
 ·exact hlt
 ·unfold Blk at h;rw[aD hge]at h;cases h
theorem Blk.new (w:World)(t:TypeId)(cs:Array Value):Blk (w.alloc (.cells cs t)) w.heap.size t cs:=heap_alloc_new w _
theorem Blk.below {w w':World} {g:Nat} {t:TypeId} {cs:Array Value} {B:Nat}(h:Blk w g t cs)(hb:Below B w w')(hg:g<B):Blk w' g t cs:=(hb.block g hg).trans h
theorem Blk.alloc {w:World} {g:Nat} {t:TypeId} {cs:Array Value}(h:Blk w g t cs)(o:Obj):Blk (w.alloc o) g t cs:=(Below.heap_alloc w o g h.lt).trans h
theorem Blk.drewN {w:World} {g:Nat} {t:TypeId} {cs:Array Value}(h:Blk w g t cs)(n:Nat):Blk (w.drewN n) g t cs:=h
theorem Blk.cell {w:World} {g:Nat} {t:TypeId} {cs:Array Value}(h:Blk w g t cs)(i:Nat):w.cell? ⟨g,i,rF⟩=cs[i]? :=cell_of_row w g i cs t (0,0) h
theorem Blk.frozen {w:World} {g:Nat} {t:TypeId} {cs:Array Value}(h:Blk w g t cs)(i:Nat):w.frozen? ⟨g,i,rF⟩=false:=frozen_of_row w g i cs t h
theorem Aa {P:Program} {w:World} {ops:Array Oper} {rest:List Oper} {o:Oper} {a:Act} {Q:Exit→Act→World→Prop} (f:o.guard=none) (ty:TypeId) (x y:Operand) (l:o.op=.store ty x y)
  (g:Nat) (b:Array Value) (hx:a.eval x=rB (some ⟨g,0,rF⟩)) (j:a.eval y=.agg b)
  (t:TypeId) (c:Array Value) (d:Blk w g t c) (e:(P.info? ty).map (·.size)=some b.size)
  (k:c.size=b.size) (h1:b.toList.all (·.oneCell')=true)
  (h:∀w2,Blk w2 g t b→(∀B,B≤g→Below B w w2)→(∀i,i≠g→w2.heap[i]? =w.heap[i]?)→w2.heap.size=w.heap.size→wpList P ops Q rest (a.put o.dst undef) w2):wpList P ops Q (o::rest) a w:=by
 refine wpList_store_row f ty x y l g b hx j t c d e k (by rw[←Array.all_toList];exact h1) ?_;refine h _ ?_ ?_ ?_ ?_
 ·exact setRow_heap w g c b t _ d
 ·intro B m;exact⟨rfl,rfl,rfl,by simp,fun i e=>setRow_other w g i b (by omega)⟩
 ·intro i e;exact setRow_other w g i b e
 ·simp
theorem Ad {P:Program} {b:Func} {p q:Tmp} {ty:TypeId} (h:b.results=#[.cell p ty,.tmp q]) (tmps:Array Value) (w:World) (g:Nat) (t:TypeId) (cs:Array Value) (d:TypeDesc)
  (f:tmps.getD p undef=rB (some ⟨g,0,rF⟩)) (i:Blk w g t cs)
  (e:P.underlying ty=some d) (c:(match d with| .struct _| .array _ _=>true|_=>false)=true) (j:(P.info? ty).map (·.size)=some cs.size):
  (results b tmps).run P w=.ok (.tuple #[.agg cs,tmps.getD q undef]) w:=by
 have a:tmps[p]?.getD undef=rB (some ⟨g,0,rF⟩):=(by simpa using f);simp[results,h,a,asAddr,run_loadVar_row w g t ty cs (0,0) d i e c j]
theorem Blk.set {w:World} {g:Nat} {t:TypeId} {cs:Array Value}(h:Blk w g t cs)(i:Nat)(u:Value):Blk (w.setCell ⟨g,i,rF⟩ u) g t (cs.setIfInBounds i u):=heap_setCell_same w g i cs t u h
theorem Blk.far {w:World} {g:Nat} {t:TypeId} {cs:Array Value}(h:Blk w g t cs) {p:Addr}(hp:g≠p.block)(u:Value):Blk (w.setCell p u) g t cs:=(Below.heap_setCell w p u g hp).trans h
theorem Fz {P:Program} {b:Func} {p:Tmp} {ty:TypeId} (h:b.results=#[.cell p ty]) (tmps:Array Value) (w:World) (g:Nat) (t:TypeId) (cs:Array Value) (d:TypeDesc)
  (f:tmps.getD p undef=rB (some ⟨g,0,rF⟩)) (i:Blk w g t cs)
  (e:P.underlying ty=some d) (c:(match d with| .struct _| .array _ _=>true|_=>false)=true) (j:(P.info? ty).map (·.size)=some cs.size):
  (results b tmps).run P w=.ok (.agg cs) w:=by
 have a:tmps[p]?.getD undef=rB (some ⟨g,0,rF⟩):=(by simpa using f);simp[results,h,a,asAddr,run_loadVar_row w g t ty cs (0,0) d i e c j]
end
end Go.Proofs.YtfofaiommeckbaaGreat
