import Derived.Test.YtfofaiommeckbaaGreatZCkB
import Derived.WalkKit
import Derived.Laws.CopyOwn
import Derived.Laws.AppendOwnNone
import Derived.Lib.Hide
import Derived.Deep.Draws
import Derived.RegionTactic
open Go.Obj renaming cells -> rJ
open Go.Value renaming slice -> rC, pointer -> rE
open Option renaming none -> rI
open Nat renaming zero_le -> aA, lt_or_ge -> aB, mul_le_mul_left -> aC, zero_add -> aD
open Array renaming getElem?_eq_none -> aE, toList_setIfInBounds -> aF, all_eq_true_iff_forall_mem -> aG, getElem?_eq_getElem -> aH, getElem?_toList -> aI, getD_eq_getD_getElem? -> aJ, size_setIfInBounds -> aK, getElem?_setIfInBounds -> aL, replicate -> aM
open List renaming range -> aN, mem_filter -> aO, getElem?_cons_succ -> aP, getElem?_eq_none -> aQ, any_eq_true -> aR, getD_eq_getElem?_getD -> aS
open Bool renaming and_eq_true -> aT, or_eq_true -> aU, not_eq_true' -> aV
open Option renaming map_some -> aW, getD_some -> aX, bind_some -> aY
set_option linter.unusedVariables false
set_option maxRecDepth 100000
set_option maxHeartbeats 40000000
namespace Go.Proofs.YtfofaiommeckbaaGreat
open Go.RowKit
section
structure Elem (P:Program) (t e:TypeId) (z:Value) (bytes:Nat):Prop where
 ty:P.underlying t=some (.slice e)
 inf:(P.info? e).map (fun i=>(i.zero,i.size,i.bytes))=some (some z,1,bytes)
 one:z.cells.size=1
 low:bytes<=64
def Rd (w:World)(v:Value)(xs:List Value):Prop:=
 ∃a cap,v=.slice a xs.length cap/\xs.length<=cap/\cap<=maxLen/\
  ((xs=[]/\(a=none->cap=0))\/∃b off,a=some ⟨b,off,rI⟩/\∀(j:Nat) u,xs[j]? =some u->w.cell? ⟨b,off+j,rI⟩=some u)
def Own (w:World)(B:Nat)(e:TypeId)(v:Value)(xs:List Value):Prop:=w.ownsRow B e 1 v xs.length xs
theorem Own.rd {w:World} {B:Nat} {e:TypeId} {v:Value} {xs:List Value}(h:Own w B e v xs):Rd w v xs:=by
 have b:=fun g=>World.ownsRow.cells (g:=g) h;obtain⟨_,h⟩:=h;rcases h with⟨rfl,h0⟩|⟨g,cap,a,rfl,i,k,d,c,l,ht⟩
 ·have:xs=[]:=List.eq_nil_of_length_eq_zero h0;subst this;exact⟨none,0,rfl,lR,aA _,.inl ⟨rfl,fun _=>rfl⟩⟩
 ·refine⟨_,cap,rfl,d,c,.inr ⟨g,0,rfl,?_⟩⟩;intro j u f;have:=b g rfl j u f;simpa [Addr.add_lit]using this
theorem Rd.lt {w:World} {v:Value} {xs:List Value}(h:Rd w v xs):xs=[]\/∃b c cap,v=rC (some ⟨b,c,rI⟩) xs.length cap/\b<w.heap.size:=by
 obtain⟨a,cap,rfl,_,_,h|⟨b,c,rfl,d⟩⟩:=h
 ·exact .inl h.1
 ·cases xs with
  |nil=>exact .inl rfl
  |cons x xs=>exact .inr ⟨b,c,cap,rfl,World.block_lt_of_cell? w _ (d 0 x rfl)⟩
theorem Rd.below {w w':World} {B:Nat} {v:Value} {xs:List Value}(h:Rd w v xs)(d:Below B w w')(i:w.heap.size<=B):Rd w' v xs:=by
 obtain⟨a,cap,rfl,h1,h2,h|⟨b,c,rfl,e⟩⟩:=h
 ·exact⟨a,cap,rfl,h1,h2,.inl h⟩
 ·refine⟨_,cap,rfl,h1,h2,.inr ⟨b,c,rfl,?_⟩⟩;intro j u g;have:=e j u g;have f:=World.block_lt_of_cell? w _ this;rw[d.cell (by simp only at f|-;omega)];exact this
theorem Rd.alloc {w:World} {v:Value} {xs:List Value}(h:Rd w v xs)(o:Obj):Rd (w.alloc o) v xs:=
 h.below ((Below.refl w.heap.size _).alloc lR o) lR
theorem Own.nil (w:World)(B:Nat)(e:TypeId):Own w B e (rC rI 0 0) []:=World.ownsRow_nil w B e 1
theorem Own.alloc {w:World} {B:Nat} {e:TypeId} {v:Value} {xs:List Value}(h:Own w B e v xs)(o:Obj):Own (w.alloc o) B e v xs:=World.ownsRow.alloc h o
theorem Own.mono {w:World} {B B':Nat} {e:TypeId} {v:Value} {xs:List Value}(h:Own w B e v xs)(hB:B'<=B):Own w B' e v xs:=by
 obtain⟨h0,h|⟨g,cap,cur,hv,hg,r⟩⟩:=h
 ·exact⟨h0,.inl h⟩
 ·exact⟨h0,.inr ⟨g,cap,cur,hv,by omega,r⟩⟩
theorem Own.below {w w':World} {B B':Nat} {e:TypeId} {v:Value} {xs:List Value}(h:Own w B e v xs)(d:Below B' w w')(j:w.heap.size<=B'):Own w' B e v xs:=by
 obtain⟨h0,h|⟨g,cap,a,i,f,c,r⟩⟩:=h
 ·exact⟨h0,.inl h⟩
 ·refine⟨h0,.inr ⟨g,cap,a,i,f,?_,r⟩⟩;have k:g<w.heap.size:=by
   rcases aB g w.heap.size with b|b
   ·exact b
   ·simp[aE b]at c
  rw[d.block g (by omega)];exact c
section
variable {P:Program} {w:World}
theorem An {ops:Array Oper} {rest:List Oper} {o:Oper} {a:Act} {Q:Exit->Act->World->Prop} (l:o.guard=none) (s x:Operand) (t:TypeId)
  (r:o.op=.call {callee:=.builtin .append,args:=#[s,x],argTypes:=#[t,t]})
  (B:Nat) (e:TypeId) (z:Value) (b:Nat) (F:Elem P t e z b)
  (v:Value) (xs:List Value) (A:a.eval s=v) (c:Own w B e v xs)
  (d:Addr) (u:Value) (hx:a.eval x=.slice (some d) 1 1) (C:w.cell? d=some u) (h1:u.oneCell'=true)
  (E:xs.length<1099511627776) (p:B<=w.heap.size)
  (h:∀f w',Own w' B e f (xs++[u])->w.grownBy w' v.ownBlock->Below B w w'->wpList P ops Q rest (a.put o.dst f) w'):wpList P ops Q (o::rest) a w:=by
 obtain⟨i,q,D,m,g⟩:=info_parts F.inf;have low:=F.low;refine wpList_append_own w l s x t r B e i z 1 b F.ty q D m g F.one (by omega) v xs.length xs A c d 1 1 [u] hx rfl ?_ (by simpa using h1) ?_ ?_ p ?_
 ·intro j y n;cases j with
  |zero=>
   have:d.add 0=d:=(by unfold Addr.add;split<;>simp_all);rw[this];simp at n;rw[<-n];exact C
  |succ j=>simp at n
 ·unfold maxLen;omega
 ·have:(xs.length+1)*b<=(xs.length+1)*64:=aC _ low;omega
 ·intro f w' h2 h3 _;have e1:(xs++[u]).length=xs.length+1:=(by simp);refine h f w' (by unfold Own;rw[e1];exact h2) h3 ?_;refine(Below.refl B w).grown h3 p ?_;intro k hk;exact(World.ownsRow.lt c k hk).1
theorem Jr {ops:Array Oper} {rest:List Oper} {o:Oper} {a:Act} {Q:Exit->Act->World->Prop} (m:o.guard=none) (s x:Operand) (t:TypeId)
  (r:o.op=.call {callee:=.builtin .append,args:=#[s,x],argTypes:=#[t,t]})
  (B:Nat) (e:TypeId) (z:Value) (b:Nat) (F:Elem P t e z b)
  (v:Value) (xs:List Value) (y:a.eval s=v) (d:Own w B e v xs)
  (g:Addr) (cap:Nat) (c:List Value) (hx:a.eval x=.slice (some g) c.length cap) (A:∀(j:Nat) u,c[j]? =some u->w.cell? (g.add j)=some u) (h1:∀u∈c,u.oneCell'=true)
  (D:xs.length+c.length<1099511627776) (p:B<=w.heap.size)
  (h:∀f w',Own w' B e f (xs++c)->w.grownBy w' v.ownBlock->Below B w w'->wpList P ops Q rest (a.put o.dst f) w'):wpList P ops Q (o::rest) a w:=by
 obtain⟨i,q,C,n,l⟩:=info_parts F.inf;have low:=F.low;refine wpList_append_own w m s x t r B e i z 1 b F.ty q C n l F.one (by omega) v xs.length xs y d g c.length cap c hx (by omega) A h1 ?_ ?_ p ?_
 ·unfold maxLen;omega
 ·have:(xs.length+c.length)*b<=(xs.length+c.length)*64:=aC _ low;omega
 ·intro f w' h2 h3 _;have e1:(xs++c).length=xs.length+c.length:=(by simp);refine h f w' (by unfold Own;rw[e1];exact h2) h3 ?_;refine(Below.refl B w).grown h3 p ?_;intro k hk;exact(World.ownsRow.lt d k hk).1
theorem Ak {ops:Array Oper} {rest:List Oper} {o:Oper} {a:Act} {Q:Exit->Act->World->Prop} (f:o.guard=none) (s x:Operand) (t:TypeId)
  (m:o.op=.call {callee:=.builtin .append,args:=#[s,x],argTypes:=#[t,t]})
  (B:Nat) (e:TypeId) (z:Value) (c:Nat) (F:Elem P t e z c)
  (v:Value) (xs:List Value) (n:a.eval s=v) (d:Own w B e v xs)
  (r:Value) (k:List Value) (hx:a.eval x=r) (C:Rd w r k) (h1:∀u∈k,u.oneCell'=true)
  (q:xs.length+k.length<1099511627776) (p:B<=w.heap.size)
  (h:∀v' w',Own w' B e v' (xs++k)->w.grownBy w' v.ownBlock->Below B w w'->wpList P ops Q rest (a.put o.dst v') w'):wpList P ops Q (o::rest) a w:=by
 obtain⟨l,cap,rfl,_,_,⟨rfl,g⟩|⟨b,E,rfl,y⟩⟩:=C
 ·cases l with
  |none=>
   obtain rfl:=g rfl;obtain⟨i,A,_,_,_⟩:=info_parts F.inf;refine wpList_append_own_none f s x t m B e i 1 F.ty A v xs.length xs n d hx ?_;exact h v w (by simpa using d) ⟨rfl,rfl,rfl,lR,fun _ _ _=>rfl⟩ bR
  |some l=>exact Jr f s x t m B e z c F v xs n d l cap [] hx (by simp) h1 q p h
 ·exact Jr f s x t m B e z c F v xs n d _ cap k hx (fun j u D=>by rw[Addr.add_lit];exact y j u D) h1 q p h
end
theorem Qx {P:Program} (w:World) {T E len:Nat} {d:TypeDesc} (e:P.underlying T=some (.array len E)) (j:(match d with| .struct _| .array _ _=>true|_=>false)=false) (c:P.underlying E=some d)
  (b:(P.info? E).map (·.size)=some 1)
  (cs:Array Value) (k:IntKind) (i:Nat) (l:i<len) (v:Value) (g:cs[i]? =some v):
  (Instr.index T (.agg cs) (.int k (i:Int))).run P w=.ok v w:=by
 have f:(isAgg E).run P w=.ok false w:=by
  unfold isAgg;rw[Sem.run_bind,run_underlying c w];cases d<;>simp_all
 cases hq:P.info? E with
 |none=>simp[hq]at b
 |some inf=>
  have a:inf.size=1:=(by simpa [hq]using b);have h0:(0:Int)<=(i:Int)/\(i:Int)<(len:Int):=(by omega);simp[Instr.index,asIntOf,Sem.run_bind,run_underlying e,h0,sizeOf,typeInfo,hq,a,part,f,g];intro h;omega
theorem Aq {w:World} {u:Value} {e:TypeId} {N:Nat}(hN:N=w.heap.size):(w.alloc (rJ #[u] e)).cell? ⟨N,0,rI⟩=some u:=by
 subst hN;rw[cell_of_row _ _ _ _ _ _ (heap_alloc_new w _)];rfl
theorem Own.lit0 {w:World} {B N:Nat} {e:TypeId}(hN:N=w.heap.size)(hB:B<=N):Own (w.alloc (rJ #[] e)) B e (rC (some ⟨N,0,rI⟩) 0 0) []:=by
 subst hN;exact World.ownsRow_made w #[] 0 hB (aA _) rfl
theorem Own.full {w:World} {B:Nat} {e:TypeId} {cs:Array Value} {N:Nat}(b:N=w.heap.size)(a:B<=N)(c:cs.size<=maxLen) {n:Nat}(d:n=cs.size):
  Own (w.alloc (.cells cs e)) B e (rC (some ⟨N,0,rI⟩) n n) cs.toList:=by
 subst d b;refine⟨by simp,.inr ⟨w.heap.size,cs.size,cs,by simp,a,heap_alloc_new w _,by simp,c,by simp,?_⟩⟩;simp only[Nat.mul_one,Array.length_toList];rw[List.take_of_length_le (by simp)]
theorem Own.set {w:World} {B:Nat} {e:TypeId} {g n cap:Nat} {xs:List Value}(h:Own w B e (rC (some ⟨g,0,rI⟩) n cap) xs)(i:Nat)(u:Value):
  Own (w.setCell ⟨g,i,rI⟩ u) B e (rC (some ⟨g,0,rI⟩) n cap) (xs.set i u):=by
 obtain⟨h0,h|⟨l,cap',a,b,c,d,j,f,k,ht⟩⟩:=h
 ·cases h.1
 ·simp only[Value.slice.injEq,Option.some.injEq,Addr.mk.injEq,and_true]at b;obtain⟨rfl,rfl,rfl⟩:=b;refine⟨by simp,.inr ⟨g,cap,a.setIfInBounds i u,by simp,c,heap_setCell_same w g i a e u d,by simpa using j,f,by simpa using k,?_⟩⟩;simp only[aF,List.length_set];rw[List.take_set,ht]
theorem Own.setOther {w:World} {B:Nat} {e:TypeId} {v:Value} {xs:List Value}(h:Own w B e v xs) {a:Addr}(d:v.ownBlock≠some a.block)(u:Value):Own (w.setCell a u) B e v xs:=by
 obtain⟨h0,h|⟨g,cap,b,c,f,i,r⟩⟩:=h
 ·exact⟨h0,.inl h⟩
 ·refine⟨h0,.inr ⟨g,cap,b,c,f,?_,r⟩⟩;rw[Below.heap_setCell _ _ _ _ (fun e=>d (by rw[c];simp[Value.ownBlock,e]))];exact i
theorem Own.drewN {w:World} {B:Nat} {e:TypeId} {v:Value} {xs:List Value}(h:Own w B e v xs)(n:Nat):Own (w.drewN n) B e v xs:=h
theorem Rd.drewN {w:World} {v:Value} {xs:List Value}(h:Rd w v xs)(n:Nat):Rd (w.drewN n) v xs:=h
theorem Ab {B:Nat} {a w:World}(h:Below B a w)(n:Nat):Below B a (w.drewN n):=h.trans ⟨rfl,rfl,rfl,lR,fun _ _=>rfl⟩
theorem Rd.sub {w:World} {b g n cap:Nat} {xs:List Value}(h:Rd w (rC (some ⟨b,g,rI⟩) n cap) xs)(d i:Nat) {off' n' cap':Nat}(h1:d<=i)(h2:i<=n)(q:off'=g+d)(p:n'=i-d)(o:cap'=cap-d):
  Rd w (rC (some ⟨b,off',rI⟩) n' cap') ((xs.take i).drop d):=by
 obtain⟨a,c,m,t,v,r⟩:=h;simp only[Value.slice.injEq]at m;obtain⟨rfl,rfl,rfl⟩:=m;subst q p o;have e:((xs.take i).drop d).length=i-d:=(by simp;omega);refine⟨_,cap-d,by rw[e],by rw[e];omega,by omega,?_⟩;rcases r with⟨rfl,_⟩|⟨s,off',l,f⟩
 ·exact .inl ⟨by simp,by simp⟩
 ·simp only[Option.some.injEq,Addr.mk.injEq,and_true]at l;obtain⟨rfl,rfl⟩:=l;refine .inr ⟨b,g+d,rfl,?_⟩;intro j u k;rw[List.getElem?_drop,List.getElem?_take]at k
  split at k
  ·rw[Nat.add_assoc];exact f _ u k
  ·cases k
theorem Own.at {w:World} {B:Nat} {e:TypeId} {g n cap:Nat} {xs:List Value}(h:Own w B e (rC (some ⟨g,0,rI⟩) n cap) xs):
  (∀(j:Nat) u,xs[j]? =some u->w.cell? ⟨g,j,rI⟩=some u)/\(∀j:Nat,w.frozen? ⟨g,j,rI⟩=false):=by
 have c:=fun g=>World.ownsRow.cells (g:=g) h;obtain⟨_,h|⟨i,cap',a,b,k,d,r⟩⟩:=h
 ·cases h.1
 ·simp only[Value.slice.injEq,Option.some.injEq,Addr.mk.injEq,and_true]at b;obtain⟨rfl,_,rfl⟩:=b;refine⟨?_,fun j=>frozen_of_row w g j a e d⟩;intro j u f;have:=c g rfl j u f;simpa [Addr.add_lit]using this
theorem Af {P:Program} {w:World} {ops:Array Oper} {rest:List Oper} {o:Oper} {a:Act} {Q:Exit->Act->World->Prop} (b:o.guard=none) (ty:TypeId) (x:Operand) (j:o.op=.load ty x)
  (g:Nat) (hx:a.eval x=rE (some ⟨g,0,rI⟩)) (t:TypeId) (cs:Array Value) (c:Nat×Nat) (d:TypeDesc) (f:w.heap[g]? =some (.cells cs t c))
  (k:P.underlying ty=some d) (e:(match d with| .struct _| .array _ _=>true|_=>false)=true) (i:(P.info? ty).map (·.size)=some cs.size)
  (h:wpList P ops Q rest (a.put o.dst (.agg cs)) w):wpList P ops Q (o::rest) a w:=
 wpList_load_row b ty x j g hx t cs c d f k e i h
theorem Js {P:Program} {w:World} {ops:Array Oper} {rest:List Oper} {o:Oper} {a:Act} {Q:Exit->Act->World->Prop} (b:Region.wanted o (yielded ops a.tmps)=true)
  (h:wpList P ops Q ({o with guard:=none}::rest) a w):wpList P ops Q (o::rest) a w:=by
 unfold wpList at h|-;rw[iP b];rw[iP (show Region.wanted {o with guard:=none} (yielded ops a.tmps)=true from rfl)]at h;exact h
end
section
theorem Own.form {w:World} {B:Nat} {e:TypeId} {v:Value} {xs:List Value}(h:Own w B e v xs):v=rC rI 0 0\/∃g cap,v=rC (some ⟨g,0,rI⟩) xs.length cap:=by
 obtain⟨_,h|⟨g,cap,cur,hv,_⟩⟩:=h
 ·exact .inl h.1
 ·exact .inr ⟨g,cap,hv⟩
theorem Own.oneCell {w:World} {B:Nat} {e:TypeId} {v:Value} {xs:List Value}(h:Own w B e v xs):v.oneCell'=true:=by
 rcases h.form with rfl|⟨g,cap,rfl⟩<;>rfl
section
variable {P:Program} {w:World}
end
end
section
structure ElemK (P:Program) (t e:TypeId) (z:Value) (k bytes:Nat):Prop where
 ty:P.underlying t=some (.slice e)
 inf:(P.info? e).map (fun i=>(i.zero,i.size,i.bytes))=some (some z,k,bytes)
 one:z.cells.size=k
 pos:0<k
 low:bytes<=512
theorem Jd {P:Program} {e:TypeId} {z:Value} {k bytes:Nat}(h:(P.info? e).map (fun i=>(i.zero,i.size,i.bytes))=some (some z,k,bytes)):
  ∃i,P.info? e=some i/\i.zero=some z/\i.size=k/\i.bytes=bytes:=by
 cases hi:P.info? e with
 |none=>simp[hi]at h
 |some i=>
  simp[hi]at h;exact⟨i,rfl,h.1,h.2.1,h.2.2⟩
def OwnK (w:World)(B:Nat)(e:TypeId)(k:Nat)(v:Value)(n:Nat)(xs:List Value):Prop:=w.ownsRow B e k v n xs
theorem OwnK.nil (w:World)(B:Nat)(e:TypeId)(k:Nat):OwnK w B e k (rC rI 0 0) 0 []:=World.ownsRow_nil w B e k
theorem OwnK.len {w:World} {B:Nat} {e:TypeId} {k:Nat} {v:Value} {n:Nat} {xs:List Value}(h:OwnK w B e k v n xs):xs.length=n*k:=h.1
theorem OwnK.alloc {w:World} {B:Nat} {e:TypeId} {k:Nat} {v:Value} {n:Nat} {xs:List Value}(h:OwnK w B e k v n xs)(o:Obj):OwnK (w.alloc o) B e k v n xs:=World.ownsRow.alloc h o
theorem OwnK.mono {w:World} {B B':Nat} {e:TypeId} {k:Nat} {v:Value} {n:Nat} {xs:List Value}(h:OwnK w B e k v n xs)(hB:B'<=B):OwnK w B' e k v n xs:=by
 obtain⟨h0,h|⟨g,cap,cur,hv,hg,r⟩⟩:=h
 ·exact⟨h0,.inl h⟩
 ·exact⟨h0,.inr ⟨g,cap,cur,hv,by omega,r⟩⟩
theorem OwnK.below {w w':World} {B B':Nat} {e:TypeId} {k:Nat} {v:Value} {n:Nat} {xs:List Value}(h:OwnK w B e k v n xs)(d:Below B' w w')(j:w.heap.size<=B'):OwnK w' B e k v n xs:=by
 obtain⟨h0,h|⟨g,cap,a,i,f,c,r⟩⟩:=h
 ·exact⟨h0,.inl h⟩
 ·refine⟨h0,.inr ⟨g,cap,a,i,f,?_,r⟩⟩;have l:g<w.heap.size:=by
   rcases aB g w.heap.size with b|b
   ·exact b
   ·simp[aE b]at c
  rw[d.block g (by omega)];exact c
theorem OwnK.out {w:World} {B:Nat} {e:TypeId} {k:Nat} {v:Value} {n:Nat} {xs:List Value}(h:OwnK w B e k v n xs)(d:0<n):
  ∃g cap,v=rC (some ⟨g,0,rI⟩) n cap/\B<=g/\g<w.heap.size/\n<=cap/\cap<=maxLen/\(∀(j:Nat) u,xs[j]? =some u->w.cell? ⟨g,j,rI⟩=some u)/\∃a,w.heap[g]? =some (.cells a e (0,0))/\a.size=cap*k/\a.toList.take (n*k)=xs:=by
 have f:=fun g=>World.ownsRow.cells (g:=g) h;obtain⟨_,h⟩:=h;rcases h with⟨rfl,h0⟩|⟨g,cap,a,rfl,i,c,d,l,m,ht⟩
 ·omega
 ·refine⟨g,cap,rfl,i,?_,d,l,?_,a,c,m,ht⟩
  ·rcases aB g w.heap.size with b|b
   ·exact b
   ·simp[aE b]at c
  ·intro j u o;have:=f g rfl j u o;simpa [Addr.add_lit]using this
section
variable {P:Program} {w:World}
theorem Lt {ops:Array Oper} {rest:List Oper} {o:Oper} {a:Act} {Q:Exit->Act->World->Prop} (l:o.guard=none) (s x:Operand) (t:TypeId)
  (A:o.op=.call {callee:=.builtin .append,args:=#[s,x],argTypes:=#[t,t]})
  (B:Nat) (e:TypeId) (z:Value) (k b:Nat) (F:ElemK P t e z k b)
  (v:Value) (n:Nat) (xs:List Value) (C:a.eval s=v) (c:OwnK w B e k v n xs)
  (N:Nat) (d:List Value) (hx:a.eval x=rC (some ⟨N,0,rI⟩) 1 1) (y:d.length=k) (D:∀(j:Nat) u,d[j]? =some u->w.cell? ⟨N,j,rI⟩=some u) (h1:∀u∈d,u.oneCell'=true)
  (G:n<137438953472) (p:B<=w.heap.size)
  (h:∀f w',OwnK w' B e k f (n+1) (xs++d)->Below B w w'->wpList P ops Q rest (a.put o.dst f) w'):wpList P ops Q (o::rest) a w:=by
 obtain⟨i,q,E,m,g⟩:=Jd F.inf;have low:=F.low;refine wpList_append_own w l s x t A B e i z k b F.ty q E m g F.one F.pos v n xs C c ⟨N,0,rI⟩ 1 1 d hx (by rw[y,Nat.one_mul]) (fun j u r=>by rw[Addr.add_lit,aD];exact D j u r) h1 ?_ ?_ p ?_
 ·unfold maxLen;omega
 ·have:(n+1)*b<=(n+1)*512:=aC _ low;omega
 ·intro f w' h2 h3 _;refine h f w' h2 ?_;refine(Below.refl B w).grown h3 p ?_;intro k hk;exact(World.ownsRow.lt c k hk).1
end
theorem Tb {w:World} {cs:List Value} {e:TypeId} {N:Nat}(hN:N=w.heap.size):∀(j:Nat) u,cs[j]? =some u->(w.alloc (.cells cs.toArray e)).cell? ⟨N,j,rI⟩=some u:=by
 intro j u h;subst hN;rw[cell_of_row _ _ _ _ _ _ (heap_alloc_new w _)];simpa using h
def Blk (w:World)(g:Nat)(t:TypeId)(cs:Array Value):Prop:=w.heap[g]? =some (.cells cs t (0,0))
theorem Blk.lt {w:World} {g:Nat} {t:TypeId} {cs:Array Value}(h:Blk w g t cs):g<w.heap.size:=by
 rcases aB g w.heap.size with hlt|hge
 ·exact hlt
 ·unfold Blk at h;rw[aE hge]at h;cases h
theorem Blk.new (w:World)(t:TypeId)(cs:Array Value):Blk (w.alloc (.cells cs t)) w.heap.size t cs:=heap_alloc_new w _
theorem Blk.below {w w':World} {g:Nat} {t:TypeId} {cs:Array Value} {B:Nat}(h:Blk w g t cs)(hb:Below B w w')(hg:g<B):Blk w' g t cs:=(hb.block g hg).trans h
theorem Blk.alloc {w:World} {g:Nat} {t:TypeId} {cs:Array Value}(h:Blk w g t cs)(o:Obj):Blk (w.alloc o) g t cs:=(Below.heap_alloc w o g h.lt).trans h
theorem Blk.drewN {w:World} {g:Nat} {t:TypeId} {cs:Array Value}(h:Blk w g t cs)(n:Nat):Blk (w.drewN n) g t cs:=h
theorem Blk.cell {w:World} {g:Nat} {t:TypeId} {cs:Array Value}(h:Blk w g t cs)(i:Nat):w.cell? ⟨g,i,rI⟩=cs[i]? :=cell_of_row w g i cs t (0,0) h
theorem Blk.frozen {w:World} {g:Nat} {t:TypeId} {cs:Array Value}(h:Blk w g t cs)(i:Nat):w.frozen? ⟨g,i,rI⟩=false:=frozen_of_row w g i cs t h
theorem Aa {P:Program} {w:World} {ops:Array Oper} {rest:List Oper} {o:Oper} {a:Act} {Q:Exit->Act->World->Prop} (f:o.guard=none) (ty:TypeId) (x y:Operand) (j:o.op=.store ty x y)
  (g:Nat) (b:Array Value) (hx:a.eval x=rE (some ⟨g,0,rI⟩)) (l:a.eval y=.agg b)
  (t:TypeId) (c:Array Value) (d:Blk w g t c) (e:(P.info? ty).map (·.size)=some b.size)
  (k:c.size=b.size) (h1:b.toList.all (·.oneCell')=true)
  (h:∀w2,Blk w2 g t b->(∀B,B<=g->Below B w w2)->(∀i,i≠g->w2.heap[i]? =w.heap[i]?)->w2.heap.size=w.heap.size->wpList P ops Q rest (a.put o.dst undef) w2):wpList P ops Q (o::rest) a w:=by
 refine wpList_store_row f ty x y j g b hx l t c d e k (by rw[<-Array.all_toList];exact h1) ?_;refine h _ ?_ ?_ ?_ ?_
 ·exact setRow_heap w g c b t _ d
 ·intro B m;exact⟨rfl,rfl,rfl,by simp,fun i e=>setRow_other w g i b (by omega)⟩
 ·intro i e;exact setRow_other w g i b e
 ·simp
theorem Ac {P:Program} {b:Func} {p q:Tmp} {ty:TypeId} (h:b.results=#[.cell p ty,.tmp q]) (tmps:Array Value) (w:World) (g:Nat) (t:TypeId) (cs:Array Value) (d:TypeDesc)
  (i:tmps.getD p undef=rE (some ⟨g,0,rI⟩)) (e:Blk w g t cs)
  (j:P.underlying ty=some d) (c:(match d with| .struct _| .array _ _=>true|_=>false)=true) (f:(P.info? ty).map (·.size)=some cs.size):
  (results b tmps).run P w=.ok (.tuple #[.agg cs,tmps.getD q undef]) w:=by
 have a:tmps[p]?.getD undef=rE (some ⟨g,0,rI⟩):=(by simpa using i);simp[results,h,a,asAddr,run_loadVar_row w g t ty cs (0,0) d e j c f]
theorem Blk.set {w:World} {g:Nat} {t:TypeId} {cs:Array Value}(h:Blk w g t cs)(i:Nat)(u:Value):Blk (w.setCell ⟨g,i,rI⟩ u) g t (cs.setIfInBounds i u):=heap_setCell_same w g i cs t u h
theorem Blk.far {w:World} {g:Nat} {t:TypeId} {cs:Array Value}(h:Blk w g t cs) {p:Addr}(hp:g≠p.block)(u:Value):Blk (w.setCell p u) g t cs:=(Below.heap_setCell w p u g hp).trans h
theorem Hi {P:Program} {b:Func} {p:Tmp} {ty:TypeId} (h:b.results=#[.cell p ty]) (tmps:Array Value) (w:World) (g:Nat) (t:TypeId) (cs:Array Value) (d:TypeDesc)
  (i:tmps.getD p undef=rE (some ⟨g,0,rI⟩)) (e:Blk w g t cs)
  (j:P.underlying ty=some d) (c:(match d with| .struct _| .array _ _=>true|_=>false)=true) (f:(P.info? ty).map (·.size)=some cs.size):
  (results b tmps).run P w=.ok (.agg cs) w:=by
 have a:tmps[p]?.getD undef=rE (some ⟨g,0,rI⟩):=(by simpa using i);simp[results,h,a,asAddr,run_loadVar_row w g t ty cs (0,0) d e j c f]
end
abbrev Fg:=Value->World->Prop
def Av (l:List Oper):List Tmp:=l.filterMap (·.dst)
def Dp (l:List Oper)(i:Nat)(s:Tmp):Bool:=
 (aN l.length).all fun j=>match l[j]? with
  |some o=>o.dst !=some s||j==i||o.after.toList.any fun e=>Region.binds .any e&&e.on==i
  |none=>true
def Zae (sat:List Fg):Prop:=∀(i:Nat) v w w',(sat.getD i (fun _ _=>True)) v w->Below w.heap.size w w'->(sat.getD i (fun _ _=>True)) v w'
theorem Tc:Zae []:=fun i v w w' h _=>by simp
theorem Dv {s:Fg} {sat:List Fg}(h:∀v w w',s v w->Below w.heap.size w w'->s v w')(hs:Zae sat):Zae (s::sat):=by
 intro i v w w' hv hb;cases i with
 |zero=>exact h v w w' hv hb
 |succ i=>exact hs i v w w' hv hb
theorem Vo (a:Act)(d s:Tmp)(v:Value)(h:d≠s):(a.put (some d) v).tmps[s]?.getD undef=a.tmps[s]?.getD undef:=by
 show(a.tmps.setIfInBounds d v)[s]?.getD undef=_;simp[h]
theorem Vp (a:Act)(d:Tmp)(v:Value)(h:d<a.tmps.size):(a.put (some d) v).tmps[d]?.getD undef=v:=by
 show(a.tmps.setIfInBounds d v)[d]?.getD undef=v;simp[h]
theorem Zaf {ops:Array Oper} {a:Array Bool} {i:Nat}(h:i∈Region.ready .any ops a):∃o,ops[i]? =some o/\∀e∈o.after.toList,Region.binds .any e=true->a.getD e.on false=true:=by
 rw[Region.ready,aO]at h;obtain⟨_,h⟩:=h;rw[aT]at h;cases ho:ops[i]? with
 |none=>rw[ho]at h;simp at h
 |some o=>
  refine⟨o,rfl,?_⟩;intro e c b;have h2:=h.2;rw[ho]at h2;simp only[aW,aX]at h2;rw[aG]at h2;have:=h2 e (by simpa using c);rw[b]at this;simpa using this
def Ej (ds:List Tmp)(f:Nat->Value):Nat->List Value->List Value
 |_,[]=>[]
 |s,x::xs=>(bif ds.contains s then f s else x)::Ej ds f (s+1) xs
def Ao (l:List Oper)(a:Act)(f:Nat->Value):Act:= {tmps:=(Ej (Av l) f 0 a.tmps.toList).toArray,defers:=a.defers}
theorem Zgf (a:List Tmp)(f:Nat->Value):∀(xs:List Value) (k i:Nat),(Ej a f k xs)[i]? =(xs[i]?).map fun x=>bif a.contains (k+i)then f (k+i)else x:=by
 intro xs
 induction xs with
 |nil=>intro k i;simp[Ej]
 |cons x xs ih=>
  intro k i;cases i with
  |zero=>simp[Ej]
  |succ i=>
   rw[Ej,aP,aP,ih,show k+1+i=k+(i+1) by omega]
theorem Zag {l:List Oper} {a b:Act}(j:b.tmps.size=a.tmps.size)(f:b.defers=a.defers)(g:∀s,(Av l).contains s=false->b.tmps[s]?.getD undef=a.tmps[s]?.getD undef):
  b=Ao l a (fun s=>b.tmps[s]?.getD undef):=by
 obtain⟨c,k⟩:=b;obtain⟨t,d⟩:=a;simp only at j f g;subst f;unfold Ao
 congr 1
 apply Array.ext_getElem?;intro i;have e:∀xs:List Value,((Ej (Av l) (fun s=>c[s]?.getD undef) 0 xs).toArray)[i]? =(xs[i]?).map fun x=>bif (Av l).contains i then c[i]?.getD undef else x:=by
  intro xs;rw[List.getElem?_toArray,Zgf,aD]
 show c[i]? =((Ej (Av l) (fun s=>c[s]?.getD undef) 0 t.toList).toArray)[i]?;rw[e];rcases aB i t.size with h|h
 ·rw[aH (by omega),aI,aH h,aW]
  congr 1
  cases hc:(Av l).contains i with
  |true=>simp
  |false=>
   have:=g i hc;rw[aH (by omega),aH h]at this;exact this
 ·rw[aE (by omega),aI,aE h,Option.map_none]
theorem Bj {o:Oper} {ops:Array Oper} {tmps:Array Value} {j:Nat} {b:Bool} {c:Oper} {s:Tmp}(d:o.guard=some (j,b))(e:ops[j]? =some c)(f:c.dst=some s)(a:tmps[s]?.getD undef=.bool b):Region.wanted o (yielded ops tmps)=true:=by
 cases ht:tmps[s]? with
 |none=>rw[ht]at a;cases a
 |some x=>
  rw[ht]at a;have hx:x=.bool b:=a;have g:yielded ops tmps j=some b:=by
   unfold yielded;rw[e,aY,f,aY,ht,hx]
  unfold Region.wanted;rw[d];simp[g]
def Zah (e:Edge):Bool:=Region.binds .any e&&match e.ground with| .data=>true|_=>false
theorem Vq {e:Edge}(h:Zah e=true):Region.binds .any e=true:=by
 unfold Zah at h;rw[aT]at h;exact h.1
def Kx (o:Oper):Option Tmp:=match o.dst with
 |some d=>some d
 |none=>match o.op with
  | .store _ (.tmp p) _=>some p
  | .mapUpdate _ (.tmp p) _ _=>some p
  |_=>none
theorem Zj2 {o:Oper} {d:Tmp}(h:o.dst=some d):Kx o=some d:=by unfold Kx;rw[h]
def Hj (sat:List Fg)(l:List Oper)(a:Act)(w:World)(i:Nat):Prop:=
 match l[i]? with
 |some o=>match Kx o with
  |some d=>(sat.getD i (fun _ _=>True)) (a.tmps[d]?.getD undef) w
  |none=>True
 |none=>True
def Ib (sat:List Fg)(l:List Oper)(a:Act)(w:World):List Edge->Prop
 |[]=>True
 |e::es=>(if Zah e=true then Hj sat l a w e.on else True)/\Ib sat l a w es
theorem Vr {c:List Fg} {l:List Oper} {a:Act} {w:World}:∀b:List Edge,(∀e∈b,Zah e=true->Hj c l a w e.on)->Ib c l a w b:=by
 intro b
 induction b with
 |nil=>intro _;trivial
 |cons e b ih=>
  intro h;refine⟨?_,ih fun x hx=>h x (by simp[hx])⟩
  split
  ·rename_i hb;exact h e (by simp) hb
  ·trivial
def Jt (l:List Oper)(n:Nat):Bool:=
 ((aN l.length).all fun i=>match l[i]? with
  |some o=>(match Kx o with|some d=>decide (d<n)|none=>false)&&(aN l.length).all fun j=>match l[j]? with
   |some o'=>i==j||o'.dst.isNone||o'.dst !=Kx o||(o.dst.isNone&&o.after.toList.any fun e=>Region.binds .any e&&e.on==j)
   |none=>true
  |none=>true)
theorem Xt {l:List Oper} {n:Nat}(h:Jt l n=true) {i:Nat} {o:Oper}(a:l[i]? =some o):∃d,Kx o=some d/\d<n:=by
 have b:i<l.length:=by
  rcases aB i l.length with h|h
  ·exact h
  ·rw[aQ h]at a;cases a
 have:=List.all_eq_true.1 h i (List.mem_range.2 b);rw[a]at this;simp only[aT]at this;have h1:=this.1;cases hd:Kx o with
 |none=>rw[hd]at h1;cases h1
 |some d=>rw[hd]at h1;exact⟨d,rfl,by simpa using h1⟩
theorem Zlq {l:List Oper} {n:Nat}(h:Jt l n=true) {i j:Nat} {o q:Oper} {d p:Tmp}(c:l[i]? =some o)(g:l[j]? =some q)(t:Kx o=some d)(a:q.dst=some p)(m:i≠j):p≠d\/∃e∈o.after.toList,Region.binds .any e=true/\e.on=j:=by
 have f:i<l.length:=by
  rcases aB i l.length with h|h
  ·exact h
  ·rw[aQ h]at c;cases c
 have k:j<l.length:=by
  rcases aB j l.length with h|h
  ·exact h
  ·rw[aQ h]at g;cases g
 have:=List.all_eq_true.1 h i (List.mem_range.2 f);rw[c]at this;simp only[aT]at this;have h2:=List.all_eq_true.1 this.2 j (List.mem_range.2 k);rw[g]at h2;simp only[aU,beq_iff_eq,bne_iff_ne,aT,aR]at h2;rcases h2 with((h2|h2)|h2)|⟨_,e,s,r,b⟩
 ·exact absurd h2 m
 ·rw[a]at h2;cases h2
 ·left
  intro e;rw[t,a,e]at h2;exact h2 rfl
 ·exact .inr ⟨e,s,r,b⟩
def Da (o:Oper)(a:Act)(v:Value):Value:=match o.dst with
 |some _=>v
 |none=>match Kx o with
  |some p=>a.tmps[p]?.getD undef
  |none=>undef
def En (l:List Oper):Bool:=(aN l.length).all fun i=>match l[i]? with|some o=>o.after.toList.all fun e=> !Region.binds .any e||decide (e.on<i)|none=>true
theorem Zb6 {l:List Oper}(h:En l=true) {i:Nat} {o:Oper}(a:l[i]? =some o):∀e∈o.after.toList,Region.binds .any e=true->e.on<i:=by
 have b:i<l.length:=by
  rcases aB i l.length with h|h
  ·exact h
  ·rw[aQ h]at a;cases a
 have:=List.all_eq_true.1 h i (List.mem_range.2 b);rw[a]at this;intro e d c;have h2:=List.all_eq_true.1 this e d;rw[c]at h2;simpa using h2
theorem Vs {l:List Oper}(h:En l=true) {a:Array Bool}(t:a.size=l.length) {i:Nat}(r:i<l.length)(q:a.getD i false=false):Region.ready .any l.toArray a≠[]:=by
 have:∃j,j<l.length/\a.getD j false=false/\∀k,k<j->a.getD k false=true:=by
  induction i using Nat.strongRecOn with
  |ind i ih=>
   by_cases hall:∀k,k<i->a.getD k false=true
   ·exact⟨i,r,q,hall⟩
   ·have:∃k,k<i/\a.getD k false=false:=by
     refine Classical.byContradiction fun s=>hall fun k hk=> ?_;cases c:a.getD k false with
     |true=>rfl
     |false=>exact absurd ⟨k,hk,c⟩ s
    obtain⟨k,hk,c⟩:=this;exact ih k hk (by omega) c
 obtain⟨j,g,b,d⟩:=this;obtain⟨o,n⟩:∃o,l[j]? =some o:=⟨l[j],List.getElem?_eq_getElem g⟩;have m:j∈Region.ready .any l.toArray a:=by
  rw[Region.ready,aO];refine⟨by simpa using g,?_⟩;rw[aT];constructor
  ·have:a.getD j true=false:=by
    rw[aJ]at b|-;rw[aH (by omega)]at b|-;exact b
   rw[this];rfl
  ·have f:l.toArray[j]? =some o:=(by simpa using n);rw[f,aW,aX,aG];intro e p;cases c:Region.binds .any e with
   |false=>rfl
   |true=>
    rw[aU]
    right
    exact d _ (Zb6 h n e (by simpa using p) c)
 intro e;rw[e]at m;cases m
theorem Zgg (a:Act)(d:Option Tmp)(v:Value):(a.put d v).tmps.size=a.tmps.size:=by
 cases d with
 |none=>rfl
 |some d=>show(a.tmps.setIfInBounds d v).size=_;rw[aK]
theorem Zai (a:Act)(d:Option Tmp)(v:Value):(a.put d v).defers=a.defers:=by cases d<;>rfl
theorem Zjb (a:Act)(d:Option Tmp)(s:Tmp)(v:Value)(h:d≠some s):(a.put d v).tmps[s]?.getD undef=a.tmps[s]?.getD undef:=by
 cases d with
 |none=>rfl
 |some d=>exact Vo a d s v (fun e=>h (by rw[e]))
theorem Zj3 (a:Act) {o:Oper} {d:Tmp}(h:Kx o=some d)(v:Value)(hd:d<a.tmps.size):(a.put o.dst v).tmps[d]?.getD undef=Da o a v:=by
 unfold Da;cases ho:o.dst with
 |none=>simp only[h];rfl
 |some d'=>
  have:=Zj2 ho;rw[h]at this;cases this;exact Vp a d v hd
def Eb (sat:List Fg)(fin:List Bool)(f:Nat->Value)(w:World):Nat->List Oper->Prop
 |_,[]=>True
 |i,o::os=>(bif fin.getD i false then(match Kx o with|some d=>(sat.getD i (fun _ _=>True)) (f d) w|none=>True)else True)/\Eb sat fin f w (i+1) os
theorem Td {c:List Fg} {b:List Bool} {f:Nat->Value} {w:World}:∀(os:List Oper) (k:Nat),(∀i o d,os[i]? =some o->Kx o=some d->b.getD (k+i) false=true->(c.getD (k+i) (fun _ _=>True)) (f d) w)->Eb c b f w k os:=by
 intro os
 induction os with
 |nil=>intro k _;trivial
 |cons o os ih=>
  intro k h;refine⟨?_,ih (k+1) fun i j d g e a=> ?_⟩
  ·cases a:b.getD k false with
   |false=>trivial
   |true=>
    cases e:Kx o with
    |none=>trivial
    |some d=>exact h 0 o d rfl e a
  ·have e1:k+1+i=k+(i+1):=(by omega);rw[e1]at a|-;exact h (i+1) j d (by simpa using g) e a
section
def Je (l:List Oper)(listed:Array Bool):Prop:=∀j o,listed.getD j false=true->l[j]? =some o->∀e∈o.after.toList,Region.binds .any e=true->listed.getD e.on false=true
structure OnceX (l:List Oper) (sat:List Fg) (C:Array Bool->Nat->Prop) (Y:Array Bool->World->Prop) (a0:Act) (listed:Array Bool) (a:Act) (w:World):Prop where
 size:a.tmps.size=a0.tmps.size
 defers:a.defers=a0.defers
 out:∀s,(∀j o,listed.getD j false=true->l[j]? =some o->o.dst≠some s)->a.tmps[s]?.getD undef=a0.tmps[s]?.getD undef
 closed:Je l listed
 wld:Y listed w
 facts:∀i,listed.getD i false=true->C listed i->Hj sat l a w i
 lsize:listed.size=l.length
theorem Xu {listed:Array Bool} {i:Nat}(h:i<listed.size):(listed.setIfInBounds i true).getD i false=true:=by
 rw[aJ,aL,iP rfl,iP h];rfl
theorem Te {listed:Array Bool} {i j:Nat}(h:j≠i):(listed.setIfInBounds i true).getD j false=listed.getD j false:=by
 rw[aJ,aL,iN (fun e=>h e.symm),<-aJ]
theorem Zb7 {n i:Nat}:(aM n false).getD i false=false:=by
 rw[aJ,Array.getElem?_replicate];split<;>simp
theorem Gj {l:List Oper} {i:Nat} {o:Oper}(h:l[i]? =some o):i<l.length:=by
 rcases aB i l.length with k|k
 ·exact k
 ·rw[aQ k]at h;cases h
section
variable {P:Program} {l:List Oper} {Q:Exit->Act->World->Prop} {sat:List Fg} {C:Array Bool->Nat->Prop} {Y:Array Bool->World->Prop} {R:Array Bool->Nat->World->World->Prop} {a0:Act}
def Zlr (P:Program)(l:List Oper)(Q:Exit->Act->World->Prop)(sat:List Fg)(C:Array Bool->Nat->Prop)(Y:Array Bool->World->Prop)(R:Array Bool->Nat->World->World->Prop)(a0:Act)(i:Nat)(o:Oper):Prop:=
 ∀(listed:Array Bool) (a:Act) (w:World),OnceX l sat C Y a0 listed a w->listed.getD i false=false->(∀e∈o.after.toList,Region.binds .any e=true->listed.getD e.on false=true)->(∀s,Dp l i s=true->a.tmps[s]?.getD undef=a0.tmps[s]?.getD undef)->
  ∀K:Act->World->Prop,(∀v w',(sat.getD i (fun _ _=>True)) (Da o a v) w'->R listed i w w'->K (a.put o.dst v) w')->
   if Region.wanted o (yielded l.toArray a.tmps)=true then Oper.wp P o a w K Q else K (a.put o.dst undef) w
theorem Zb8 (N:Jt l a0.tmps.size=true) (D:En l=true)
  (H:∀i o,l[i]? =some o->Zlr P l Q sat C Y R a0 i o)
  (hY:∀(i:Nat) (o:Oper) (b:Array Bool) (w w':World),l[i]? =some o->Je l b->b.size=l.length->b.getD i false=false->(∀e∈o.after.toList,Region.binds .any e=true->b.getD e.on false=true)->Y b w->R b i w w'->Y (b.setIfInBounds i true) w')
  (Z:∀(i j:Nat) (o oj:Oper) (b:Array Bool) (w w':World),l[i]? =some o->l[j]? =some oj->Je l b->b.size=l.length->b.getD i false=false->(∀e∈o.after.toList,Region.binds .any e=true->b.getD e.on false=true)->b.getD j false=true->C (b.setIfInBounds i true) j->Y b w->R b i w w'->
   C b j/\∀v,(sat.getD j (fun _ _=>True)) v w->(sat.getD j (fun _ _=>True)) v w')
  (F:∀(b:Array Bool) (a:Act) (w:World),OnceX l sat C Y a0 b a w->(∀i,i<l.length->b.getD i false=true)->Q .normal a w):
  ∀(g:Nat) (b:Array Bool) (a:Act) (w:World),OnceX l sat C Y a0 b a w->b.toList.count false<=g->wpAny P .any l.toArray Q g b a w:=by
 intro g;have x:∀(b:Array Bool) (a:Act) (w:World),OnceX l sat C Y a0 b a w->Region.ready .any l.toArray b=[]->Q .normal a w:=by
  intro b a w J I;refine F _ a w J fun i y=> ?_;cases u:b.getD i false with
  |true=>rfl
  |false=>exact absurd I (Vs D J.lsize y u)
 have h0:∀(b:Array Bool) (i:Nat),i∈Region.ready .any l.toArray b->i<b.size/\b.getD i false=false/\false∈b.toList:=by
  intro b i y;have h1:=(mem_ready.1 y).1;have f:i<b.size:=by
   rcases aB i b.size with h|h
   ·exact h
   ·rw[aJ,aE h]at h1;simp at h1
  rw[aJ,aH f]at h1;refine⟨f,?_,?_⟩
  ·rw[aJ,aH f];exact h1
  ·rw[<-show b[i]=false from h1];simp
 induction g with
 |zero=>
  intro b a w J hc;have I:Region.ready .any l.toArray b=[]:=by
   refine Classical.byContradiction fun hn=> ?_;obtain⟨i,y⟩:=List.exists_mem_of_ne_nil _ hn;have:=List.count_pos_iff.2 (h0 b i y).2.2;omega
  exact⟨I,x b a w J I⟩
 |succ g ih=>
  intro b a w J hc;refine⟨x b a w J,?_⟩;intro i y;obtain⟨o,V,p⟩:=Zaf y;obtain⟨f,k,-⟩:=h0 b i y;have n:l[i]? =some o:=(by simpa using V);obtain⟨d,G,S⟩:=Xt N n;refine wpOp_step V ?_;intro W M;have B:∀s,Dp l i s=true->a.tmps[s]?.getD undef=a0.tmps[s]?.getD undef:=by
   intro s K;refine J.out s fun j z q c T=> ?_;have:=List.all_eq_true.1 K j (List.mem_range.2 (Gj c));rw[c]at this;simp only[aU,bne_iff_ne,beq_iff_eq,aR,aT]at this;rcases this with(h|h)|⟨e,D,u,A⟩
   ·exact h T
   ·subst h;rw[k]at q;cases q
   ·have:=J.closed j z q c e D u;rw[A,k]at this;cases this
  refine H i o n b a w J k p B W ?_;intro v w' hv U;refine M _ _ (ih _ _ _ ⟨?_,?_,?_,?_,hY i o b w w' n J.closed J.lsize k p J.wld U,?_,?_⟩ ?_)
  ·rw[Zgg];exact J.size
  ·rw[Zai];exact J.defers
  ·intro s K;rw[Zjb a o.dst s v (K i o (Xu f) n)];refine J.out s fun j z q c=>K j z ?_ c
   by_cases hji:j=i
   ·rw[hji];exact Xu f
   ·rw[Te hji];exact q
  ·intro j z q c e E u;have t:∀m,b.getD m false=true->(b.setIfInBounds i true).getD m false=true:=by
    intro m hm
    by_cases hmi:m=i
    ·rw[hmi];exact Xu f
    ·rw[Te hmi];exact hm
   by_cases hji:j=i
   ·subst hji;rw[n]at c;cases c;exact t _ (p e E u)
   ·rw[Te hji]at q;exact t _ (J.closed j z q c e E u)
  ·intro j q L;unfold Hj;cases c:l[j]? with
   |none=>trivial
   |some z=>
    obtain⟨X,r,_⟩:=Xt N c;simp only[r]
    by_cases hji:j=i
    ·subst hji;rw[n]at c;cases c;rw[G]at r;cases r;rw[Zj3 a G v (by rw[J.size];exact S)];exact hv
    ·rw[Te hji]at q;rw[Zjb a o.dst X v (by
      intro O;rcases Zlq N c n r O hji with h|⟨e,D,u,A⟩
      ·exact h rfl
      ·have:=J.closed j z q c e D u;rw[A,k]at this;cases this)]
     obtain⟨c1,c2⟩:=Z i j o z b w w' n c J.closed J.lsize k p q L J.wld U;have:=J.facts j q c1;unfold Hj at this;rw[c]at this;simp only[r]at this;exact c2 _ this
  ·rw[aK];exact J.lsize
  ·rw[aF,List.count_set (by simpa using f)];have h2:b.toList[i]'(by simpa using f)=false:=by
    rw[aJ,aH f]at k;simpa using k
   rw[h2,iP (show(false==false)=true from rfl),iN (by decide)];omega
theorem Pp {F:Nat} {a:Act} {w:World} (g:List Bool) (E:P.follows .mixedOrders=true) (B:Jt l a.tmps.size=true) (D:En l=true) (h0:Y (aM l.length false) w.drew)
  (q:∀i o,l[i]? =some o->Zlr P l Q sat C Y R a i o)
  (A:∀(i:Nat) (o:Oper) (b:Array Bool) (w w':World),l[i]? =some o->Je l b->b.size=l.length->b.getD i false=false->(∀e∈o.after.toList,Region.binds .any e=true->b.getD e.on false=true)->Y b w->R b i w w'->Y (b.setIfInBounds i true) w')
  (z:∀(i j:Nat) (o G:Oper) (b:Array Bool) (w w':World),l[i]? =some o->l[j]? =some G->Je l b->b.size=l.length->b.getD i false=false->(∀e∈o.after.toList,Region.binds .any e=true->b.getD e.on false=true)->b.getD j false=true->C (b.setIfInBounds i true) j->Y b w->R b i w w'->
   C b j/\∀v,(sat.getD j (fun _ _=>True)) v w->(sat.getD j (fun _ _=>True)) v w')
  (y:∀(b:Array Bool) (i:Nat),(∀k,k<l.length->b.getD k false=true)->i<l.length->g.getD i false=true->C b i)
  (h:∀(b:Array Bool) (f:Nat->Value) (w':World),Y b w'->(∀k,k<l.length->b.getD k false=true)->b.size=l.length->Eb sat g f w' 0 l->Q .normal (Ao l a f) w'):
  (Code.region F l.toArray true).wp P Q a w:=by
 refine wp_region_any E (Zb8 B D q A z ?_ _ _ _ _ ⟨rfl,rfl,fun _ _=>rfl,?_,by simpa using h0,?_,by simp⟩ ?_)
 ·intro b H w' J c;rw[Zag J.size J.defers (fun s x=>J.out s fun j o _ r t=>by
   have:(Av l).contains s=true:=by
    rw[List.contains_iff_mem];exact List.mem_filterMap.2 ⟨o,List.mem_of_getElem? r,t⟩
   rw[this]at x;cases x)]
  refine h b _ w' J.wld c J.lsize (Td l 0 ?_);intro i o d r u m;rw[aD]at m|-;have p:=Gj r;have:=J.facts i (c i p) (y _ i c p m);unfold Hj at this;rw[r]at this;simp only[u]at this;exact this
 ·intro i _ n;rw[Zb7]at n;cases n
 ·intro i n _;rw[Zb7]at n;cases n
 ·simp
end
end
def Bs (sat:List Fg)(l:List Oper)(a:Act)(w:World):List Edge->Prop
 |[]=>True
 |e::es=>(if Region.binds .any e=true then Hj sat l a w e.on else True)/\Bs sat l a w es
theorem Ng {c:List Fg} {l:List Oper} {a:Act} {w:World}:∀b:List Edge,(∀e∈b,Region.binds .any e=true->Hj c l a w e.on)->Bs c l a w b:=by
 intro b
 induction b with
 |nil=>intro _;trivial
 |cons e b ih=>
  intro h;refine⟨?_,ih fun x hx=>h x (by simp[hx])⟩
  split
  ·rename_i hb;exact h e (by simp) hb
  ·trivial
def Hf (S:World->World->Prop)(q:Option Nat)(i:Nat)(x y:World):Prop:=bif some i==q then S x y else Below x.heap.size x y
theorem Ai {S:World->World->Prop} {q:Option Nat} {i:Nat} {x y:World}(h:(some i==q)=false)(hb:Below x.heap.size x y):Hf S q i x y:=by unfold Hf;rw[h];exact hb
theorem Bu {S:World->World->Prop} {q:Option Nat} {i:Nat} {x y:World}(h:(some i==q)=true)(hs:S x y):Hf S q i x y:=by unfold Hf;rw[h];exact hs
def Fh (l:List Oper)(q:Option Nat)(i:Nat):Bool:=match q with
 |none=>true
 |some j=>i==j||match l[j]? with
  |some oj=>oj.after.toList.any fun e=>Region.binds .any e&&e.on==i
  |none=>false
def Di (I:World->Prop)(S:World->World->Prop):Option Nat->List Fg->Prop
 |_,[]=>True
 |none,s::sat=>(∀v x y,s v x->I x->S x y->s v y)/\Di I S none sat
 |some 0,s::sat=>(∀v x y,s v x->I x->Below x.heap.size x y->s v y)/\Di I S none sat
 |some (q+1),s::sat=>(∀v x y,s v x->I x->S x y->s v y)/\Di I S (some q) sat
theorem Ag {I:World->Prop} {S:World->World->Prop} {q:Option Nat}:Di I S q []:=by cases q with
 |none=>trivial
 |some q=>cases q<;>trivial
theorem Ax {I:World->Prop} {S:World->World->Prop} {s:Fg} {sat:List Fg}(h:∀v x y,s v x->I x->S x y->s v y)(t:Di I S none sat):Di I S none (s::sat):=⟨h,t⟩
theorem Cp {I:World->Prop} {S:World->World->Prop} {s:Fg} {sat:List Fg}(h:∀v x y,s v x->I x->Below x.heap.size x y->s v y)(t:Di I S none sat):Di I S (some 0) (s::sat):=⟨h,t⟩
theorem Cw {I:World->Prop} {S:World->World->Prop} {q:Nat} {s:Fg} {sat:List Fg}(h:∀v x y,s v x->I x->S x y->s v y)(t:Di I S (some q) sat):Di I S (some (q+1)) (s::sat):=⟨h,t⟩
theorem Ky {I:World->Prop} {S:World->World->Prop}:∀(a:List Fg) (q:Option Nat),Di I S q a->
  (∀i v x y,some i≠q->(a.getD i (fun _ _=>True)) v x->I x->S x y->(a.getD i (fun _ _=>True)) v y)/\
  (∀i v x y,some i=q->(a.getD i (fun _ _=>True)) v x->I x->Below x.heap.size x y->(a.getD i (fun _ _=>True)) v y):=by
 intro a
 induction a with
 |nil=>intro q _;exact⟨fun i v x y _ _ _ _=>by simp,fun i v x y _ _ _ _=>by simp⟩
 |cons s a ih=>
  intro q h
  match q,h with
  |none,h=>
   refine⟨fun i v x y b f c d=> ?_,fun i v x y b=>by cases b⟩;cases i with
   |zero=>exact h.1 v x y f c d
   |succ i=>exact(ih none h.2).1 i v x y (by simp) f c d
  |some 0,h=>
   refine⟨fun i v x y b f c d=> ?_,fun i v x y b f c d=> ?_⟩
   ·cases i with
    |zero=>exact absurd rfl b
    |succ i=>exact(ih none h.2).1 i v x y (by simp) f c d
   ·cases i with
    |zero=>exact h.1 v x y f c d
    |succ i=>cases b
  |some (q+1),h=>
   refine⟨fun i v x y b f c d=> ?_,fun i v x y b f c d=> ?_⟩
   ·cases i with
    |zero=>exact h.1 v x y f c d
    |succ i=>exact(ih (some q) h.2).1 i v x y (fun e=>b (by simp at e;rw[e])) f c d
   ·cases i with
    |zero=>cases b
    |succ i=>exact(ih (some q) h.2).2 i v x y (by simp at b;rw[b]) f c d
def Zb9 (P:Program)(l:List Oper)(Q:Exit->Act->World->Prop)(sat:List Fg)(I:World->Prop)(S:World->World->Prop)(q:Option Nat)(a0:Act)(W:World)(i:Nat)(o:Oper):Prop:=
 ∀(a:Act) (w:World),I w->(Fh l q i=true->Below W.heap.size W w)->(∀s,Dp l i s=true->a.tmps[s]?.getD undef=a0.tmps[s]?.getD undef)->Bs sat l a w o.after.toList->
  ∀K:Act->World->Prop,(∀v w',(sat.getD i (fun _ _=>True)) (Da o a v) w'->Hf S q i w w'->K (a.put o.dst v) w')->
   if Region.wanted o (yielded l.toArray a.tmps)=true then Oper.wp P o a w K Q else K (a.put o.dst undef) w
def OwedAll7 (P:Program)(l:List Oper)(Q:Exit->Act->World->Prop)(sat:List Fg)(I:World->Prop)(S:World->World->Prop)(q:Option Nat)(a0:Act)(W:World):Nat->List Oper->Prop
 |_,[]=>True
 |i,o::os=>Zb9 P l Q sat I S q a0 W i o/\OwedAll7 P l Q sat I S q a0 W (i+1) os
theorem OwedAll7.nil {P:Program} {l:List Oper} {Q:Exit->Act->World->Prop} {sat:List Fg} {I:World->Prop} {S:World->World->Prop} {q:Option Nat} {a0:Act} {W:World} {i:Nat}:OwedAll7 P l Q sat I S q a0 W i []:=trivial
theorem OwedAll7.cons {P:Program} {l:List Oper} {Q:Exit->Act->World->Prop} {a:List Fg} {I:World->Prop} {S:World->World->Prop} {q:Option Nat} {b:Act} {W:World} {i:Nat} {o:Oper} {os:List Oper}(h:Zb9 P l Q a I S q b W i o)(t:OwedAll7 P l Q a I S q b W (i+1) os):OwedAll7 P l Q a I S q b W i (o::os):=⟨h,t⟩
theorem Tf {P:Program} {l:List Oper} {Q:Exit->Act->World->Prop} {a:List Fg} {I:World->Prop} {S:World->World->Prop} {q:Option Nat} {c:Act} {W:World}:∀(os:List Oper) (k:Nat),OwedAll7 P l Q a I S q c W k os->∀i o,os[i]? =some o->Zb9 P l Q a I S q c W (k+i) o:=by
 intro os
 induction os with
 |nil=>intro k _ i o h;simp at h
 |cons x os ih=>
  intro k h i o b;cases i with
  |zero=>simp at b;subst b;exact h.1
  |succ i=>
   have:=ih (k+1) h.2 i o (by simpa using b);rw[show k+(i+1)=k+1+i by omega];exact this
theorem Qy {I:World->Prop} {S:World->World->Prop} {q:Option Nat} {i:Nat} {x y:World}(h12:∀x y,I x->Below x.heap.size x y->S x y)(hI:I x)(h:Hf S q i x y):S x y:=by
 unfold Hf at h;cases hq:some i==q with
 |true=>rw[hq]at h;exact h
 |false=>rw[hq]at h;exact h12 _ _ hI h
theorem Qz {S:World->World->Prop} {q:Option Nat} {i:Nat} {x y:World}(hq:some i≠q)(h:Hf S q i x y):Below x.heap.size x y:=by
 unfold Hf at h;rw[qN.2 hq]at h;exact h
theorem Xv {l:List Oper} {a:Array Bool} {i j:Nat}(f:Je l a)(c:a.getD i false=false)(h:Fh l (some j) i=true):a.getD j false=false:=by
 unfold Fh at h;simp only[aU,beq_iff_eq]at h;rcases h with rfl|h
 ·exact c
 ·cases hoj:l[j]? with
  |none=>rw[hoj]at h;cases h
  |some oj=>
   rw[hoj]at h;simp only[aR,aT,beq_iff_eq]at h;obtain⟨e,g,d,b⟩:=h;cases hl:a.getD j false with
   |false=>rfl
   |true=>
    have:=f j oj hl hoj e g d;rw[b,c]at this;cases this
theorem Ra {listed:Array Bool} {i j:Nat}(hi:listed.getD i false=false)(h:(listed.setIfInBounds i true).getD j false=false):listed.getD j false=false:=by
 by_cases hji:j=i
 ·rw[hji];exact hi
 ·rwa [Te hji]at h
theorem Rb {listed:Array Bool} {i j:Nat}(hl:i<listed.size)(h:(listed.setIfInBounds i true).getD j false=false):i≠j:=by
 intro e;rw[<-e,Xu hl]at h;cases h
theorem Bd {P:Program} {id:Nat} {l:List Oper} {Q:Exit->Act->World->Prop} {a:Act} {w:World} (d:List Fg) (n:List Bool) (I:World->Prop) (S:World->World->Prop) (q:Option Nat) (G:P.follows .mixedOrders=true) (hk:Di I S q d) (h0:I w.drew) (p:∀x y,I x->Below x.heap.size x y->S x y) (D:∀x y,I x->S x y->I y) (U:Jt l a.tmps.size=true) (V:En l=true)
  (z:OwedAll7 P l Q d I S q a w 0 l)
  (s:∀(f:Nat->Value) (w':World),I w'->Eb d n f w' 0 l->Q .normal (Ao l a f) w'):
  (Code.region id l.toArray true).wp P Q a w:=by
 refine Pp (C:=fun _ _=>True) (Y:=fun b x=>I x/\((∀j,q=some j->b.getD j false=false)->Below w.heap.size w x)) (R:=fun _ i x y=>Hf S q i x y) n G U V ⟨h0,fun _=>⟨rfl,rfl,rfl,lR,fun _ _=>rfl⟩⟩ ?_ ?_ ?_ (fun _ _ _ _ _=>trivial) (fun _ f w' g _ _ W=>s f w' g.1 W)
 ·intro i o X b N x J c h m K O;have L:=Tf l 0 z i o X;rw[aD]at L;exact L N x J.wld.1 (fun H=>J.wld.2 fun j F=>Xv J.closed c (by rw[<-F];exact H)) m (Ng _ fun e G T=>J.facts _ (h e G T) trivial) K O
 ·intro i o b x y u E B c _ g r;refine⟨D _ _ g.1 (Qy p g.1 r),fun k=> ?_⟩;have A:=g.2 fun j F=>Ra c (k j F);exact A.trans ((Qz (fun e=>Rb (by rw[B];exact Gj u) (k i e.symm) rfl) r).mono A.size)
 ·intro i j o oj b x y u Z E B c h t _ g r;refine⟨trivial,fun v M=> ?_⟩
  by_cases hjq:some j=q
  ·refine(Ky d q hk).2 j _ _ _ hjq M g.1 (Qz ?_ r);rw[<-hjq];intro e;cases e;rw[c]at t;cases t
  ·exact(Ky d q hk).1 j _ _ _ hjq M g.1 (Qy p g.1 r)
theorem Zgh {P:Program} {l:List Oper} {Q:Exit->Act->World->Prop} {b:List Fg} {I:World->Prop} {S:World->World->Prop} {q:Option Nat} {c:Act} {W:World} {i:Nat} {o:Oper}
  (h:∀(a:Act) (w:World),I w->(Fh l q i=true->Below W.heap.size W w)->(∀s,Dp l i s=true->a.tmps[s]?.getD undef=c.tmps[s]?.getD undef)->Bs b l a w o.after.toList->
   Region.wanted o (yielded l.toArray a.tmps)=true/\∀K:Act->World->Prop,(∀v w',(b.getD i (fun _ _=>True)) (Da o a v) w'->Hf S q i w w'->K (a.put o.dst v) w')->Oper.wp P o a w K Q):Zb9 P l Q b I S q c W i o:=by
 intro a w d g f e K j;rw[iP (h a w d g f e).1];exact(h a w d g f e).2 K j
theorem Vt {o:Oper} {ops:Array Oper} {tmps:Array Value} {j:Nat} {b:Bool} {c:Oper} {s:Tmp} {v:Value}(d:o.guard=some (j,b))(e:ops[j]? =some c)(g:c.dst=some s)(a:tmps[s]?.getD undef=v)(f:v≠ .bool b):Region.wanted o (yielded ops tmps)=false:=by
 have i:yielded ops tmps j≠some b:=by
  unfold yielded;rw[e,aY,g,aY];cases ht:tmps[s]? with
  |none=>simp
  |some x=>
   rw[ht]at a;have hx:x=v:=a;subst hx;intro h;cases x<;>simp_all
 unfold Region.wanted;rw[d];simp[i]
theorem Zca {P:Program} {l:List Oper} {Q:Exit->Act->World->Prop} {b:List Fg} {I:World->Prop} {S:World->World->Prop} {q:Option Nat} {c:Act} {W:World} {i:Nat} {o:Oper} {d:Tmp} (f:o.dst=some d) (k:b.getD i (fun _ _=>True)=fun v _=>v=undef) (j:(some i==q)=false)
  (h:∀(a:Act) (w:World),Bs b l a w o.after.toList->Region.wanted o (yielded l.toArray a.tmps)=false):Zb9 P l Q b I S q c W i o:=by
 intro a w m _ n g K e;rw[iN (by rw[h a w g];simp)];exact e undef w (by rw[k];unfold Da;rw[f]) (Ai j bR)
section
def Zaj (l:List Oper)(fin tl:List Bool)(q:Nat):Bool:=
 decide (q<l.length)&& !tl.getD q false&&(aN l.length).all fun i=>i==q||(if tl.getD i false then(match l[i]? with|some o=>(o.after.toList.any fun e=>Region.binds .any e&&e.on==q)&&o.after.toList.all fun e=> !Zah e||e.on==q||tl.getD e.on false|none=>false)else(!fin.getD i false&&(aN l.length).any fun j=>decide (i<j)&& !tl.getD j false&&match l[j]? with|some o=>o.after.toList.any fun e=>Region.binds .any e&&e.on==i|none=>false))
theorem Xw {l:List Oper} {f d:List Bool} {q:Nat}(h:Zaj l f d q=true):q<l.length/\d.getD q false=false/\(∀i,i<l.length->i≠q->d.getD i false=false->f.getD i false=false/\∃j o,i<j/\j<l.length/\d.getD j false=false/\l[j]? =some o/\∃e∈o.after.toList,Region.binds .any e=true/\e.on=i)/\
  (∀i o,l[i]? =some o->d.getD i false=true->(∃e∈o.after.toList,Region.binds .any e=true/\e.on=q)/\∀e∈o.after.toList,Zah e=true->e.on=q\/d.getD e.on false=true):=by
 unfold Zaj at h;rw[aT,aT,dI,aV]at h;refine⟨h.1.1,h.1.2,fun i p s a=> ?_,fun i o c a=> ?_⟩
 ·have h2:=List.all_eq_true.1 h.2 i (List.mem_range.2 p);rw[a,aU,beq_iff_eq]at h2;rcases h2 with h2|h2
  ·exact absurd h2 s
  ·simp only[Bool.false_eq_true,if_false,aT,aV]at h2;obtain⟨h2,h3⟩:=h2;refine⟨h2,?_⟩;obtain⟨j,w,h3⟩:=List.any_eq_true.1 h3;simp only[aT,dI,aV]at h3;obtain⟨⟨r,t⟩,h3⟩:=h3;cases c:l[j]? with
   |none=>rw[c]at h3;cases h3
   |some o=>
    rw[c]at h3;simp only[aR,aT,beq_iff_eq]at h3;obtain⟨e,m,k,b⟩:=h3;exact⟨j,o,r,List.mem_range.1 w,t,c,e,m,k,b⟩
 ·have p:i<l.length:=by
   rcases aB i l.length with h|h
   ·exact h
   ·rw[aQ h]at c;cases c
  have h2:=List.all_eq_true.1 h.2 i (List.mem_range.2 p);rw[a,aU,beq_iff_eq,c]at h2;rcases h2 with h2|h2
  ·subst h2;rw[h.1.2]at a;cases a
  ·simp only[if_true,aT,aR,beq_iff_eq,List.all_eq_true,aU,aV]at h2;obtain⟨⟨e,m,k,b⟩,h3⟩:=h2;refine⟨⟨e,m,k,b⟩,fun v n u=> ?_⟩;rcases h3 v n with(g|g)|g
   ·rw[g]at u;cases u
   ·exact .inl g
   ·exact .inr g
theorem Vu {l:List Oper} {b f:List Bool} {q:Nat}(h:Zaj l b f q=true) {a:Array Bool}(k:∀j o,a.getD j false=true->l[j]? =some o->∀e∈o.after.toList,Region.binds .any e=true->a.getD e.on false=true)(t:a.getD q false=true):
  ∀n i,l.length-i<=n->i<l.length->f.getD i false=false->a.getD i false=true:=by
 intro n
 induction n with
 |zero=>intro i h1 h2;omega
 |succ n ih=>
  intro i h1 h2 h3
  by_cases hiq:i=q
  ·subst hiq;exact t
  ·obtain⟨_,j,o,p,r,d,s,e,m,g,c⟩:=(Xw h).2.2.1 i h2 hiq h3;have:=k j o (ih j (by omega) r d) s e m g;rw[c]at this;exact this
def Zcb (P:Program)(l:List Oper)(Q:Exit->Act->World->Prop)(sat:List Fg)(I:World->Prop)(S:World->World->Prop)(q:Option Nat)(z:Nat)(tl:List Bool)(a0:Act)(W:World)(i:Nat)(o:Oper):Prop:=
 ∀(a:Act) (w:World),(tl.getD i false=false->I w/\(Fh l q i=true->Below W.heap.size W w)/\Bs sat l a w o.after.toList)->(∀s,Dp l i s=true->a.tmps[s]?.getD undef=a0.tmps[s]?.getD undef)->Ib sat l a w o.after.toList->
  ∀K:Act->World->Prop,(∀v w',(sat.getD i (fun _ _=>True)) (Da o a v) w'->(i≠z->bif tl.getD i false then Below w.heap.size w w' else Hf S q i w w')->K (a.put o.dst v) w')->
   if Region.wanted o (yielded l.toArray a.tmps)=true then Oper.wp P o a w K Q else K (a.put o.dst undef) w
def OwedAll8 (P:Program)(l:List Oper)(Q:Exit->Act->World->Prop)(sat:List Fg)(I:World->Prop)(S:World->World->Prop)(q:Option Nat)(z:Nat)(tl:List Bool)(a0:Act)(W:World):Nat->List Oper->Prop
 |_,[]=>True
 |i,o::os=>Zcb P l Q sat I S q z tl a0 W i o/\OwedAll8 P l Q sat I S q z tl a0 W (i+1) os
section
variable {P:Program} {l:List Oper} {Q:Exit->Act->World->Prop} {sat:List Fg} {I:World->Prop} {S:World->World->Prop} {q:Option Nat} {z:Nat} {tl:List Bool} {a0:Act} {W:World} {i:Nat} {o:Oper}
theorem OwedAll8.nil:OwedAll8 P l Q sat I S q z tl a0 W i []:=trivial
theorem OwedAll8.cons {os:List Oper}(h:Zcb P l Q sat I S q z tl a0 W i o)(t:OwedAll8 P l Q sat I S q z tl a0 W (i+1) os):OwedAll8 P l Q sat I S q z tl a0 W i (o::os):=⟨h,t⟩
theorem Tg:∀(os:List Oper) (k:Nat),OwedAll8 P l Q sat I S q z tl a0 W k os->∀i o,os[i]? =some o->Zcb P l Q sat I S q z tl a0 W (k+i) o:=by
 intro os
 induction os with
 |nil=>intro k _ i o h;simp at h
 |cons x os ih=>
  intro k h i o a;cases i with
  |zero=>simp at a;subst a;exact h.1
  |succ i=>
   have:=ih (k+1) h.2 i o (by simpa using a);rw[show k+(i+1)=k+1+i by omega];exact this
theorem Ju {id:Nat} {a:Act} {w:World} (m:List Fg) (H:List Bool) (I:World->Prop) (S:World->World->Prop) (q:Option Nat) (z:Nat) (n:List Bool) (U:P.follows .mixedOrders=true)
  (hk:∀j,j≠z->n.getD j false=false->(∀v x y,some j≠q->(m.getD j (fun _ _=>True)) v x->I x->S x y->(m.getD j (fun _ _=>True)) v y)/\∀v x y,some j=q->(m.getD j (fun _ _=>True)) v x->I x->Below x.heap.size x y->(m.getD j (fun _ _=>True)) v y)
  (aJ:∀i j,n.getD i false=true->j=z\/n.getD j false=true->∀v x y,(m.getD j (fun _ _=>True)) v x->Below x.heap.size x y->(m.getD j (fun _ _=>True)) v y)
  (h0:I w.drew) (W:∀x y,I x->Below x.heap.size x y->S x y) (aH:∀x y,I x->S x y->I y) (hd:Jt l a.tmps.size=true) (M:En l=true) (aA:Zaj l H n z=true)
  (aC:OwedAll8 P l Q m I S q z n a w 0 l)
  (X:∀(f:Nat->Value) (w':World),Eb m H f w' 0 l->Q .normal (Ao l a f) w'):
  (Code.region id l.toArray true).wp P Q a w:=by
 have t:=Xw aA
 -- ahead of z nothing of the tail is done
 have O:∀(i:Nat) (o:Oper) (b:Array Bool),l[i]? =some o->Je l b->b.getD i false=false->n.getD i false=false->b.getD z false=false:=by
  intro i o b V hc d c
  by_cases k:i=z
  ·rw[<-k];exact d
  ·cases u:b.getD z false with
   |false=>rfl
   |true=>
    have:=Vu aA hc u (l.length-i) i lR (Gj V) c;rw[d]at this;cases this
 refine Pp (C:=fun b i=>i=z\/n.getD i false=true\/b.getD z false=false) (Y:=fun b x=>b.getD z false=false->I x/\((∀j,q=some j->b.getD j false=false)->Below w.heap.size w x))
  (R:=fun _ i x y=>i≠z->bif n.getD i false then Below x.heap.size x y else Hf S q i x y) H U hd M (fun _=>⟨h0,fun _=>⟨rfl,rfl,rfl,lR,fun _ _=>rfl⟩⟩) ?_ ?_ ?_ ?_ (fun _ f w' _ _ _ hf=>X f w' hf)
 ·intro i o V b a' x J d g N K hK;have hO:=Tg l 0 aC i o V;rw[aD]at hO;refine hO a' x (fun c=> ?_) N (Vr _ fun e U u=>J.facts _ (g e U (Vq u)) ?_) K hK
  ·have E:=O i o b V J.closed d c;exact⟨(J.wld E).1,fun aK=>(J.wld E).2 fun j hj=>Xv J.closed d (by rw[<-hj];exact aK),Ng _ fun e U u=>J.facts _ (g e U u) (.inr (.inr E))⟩
  ·cases c:n.getD i false with
   |false=>exact .inr (.inr (O i o b V J.closed d c))
   |true=>
    rcases(t.2.2.2 i o V c).2 e U u with h|h
    ·exact .inl h
    ·exact .inr (.inl h)
 ·intro i o b x y r L F d g hY p aF;have E:=Ra d aF;have p:=p (Rb (by rw[F];exact Gj r) aF);have c:n.getD i false=false:=by
   cases c:n.getD i false with
   |false=>rfl
   |true=>
    obtain⟨e,M,u,A⟩:=(t.2.2.2 i o r c).1;have:=g e M u;rw[A,E]at this;cases this
  rw[c]at p;obtain⟨T,hB⟩:=hY E;refine⟨aH _ _ T (Qy W T p),fun G=> ?_⟩;have aE:=hB fun j hj=>Ra d (G j hj);exact aE.trans ((Qz (fun e=>Rb (by rw[F];exact Gj r) (G i e.symm) rfl) p).mono aE.size)
 ·intro i j o oj b x y r aB L F d g D hC hY p;cases c:n.getD i false with
  |true=>
   obtain⟨e,M,u,A⟩:=(t.2.2.2 i o r c).1;have aG:=g e M u;rw[A]at aG;have k:i≠z:=by
    intro e;rw[e,t.2.1]at c;cases c
   have p:=p k;rw[c]at p;have s:j=z\/n.getD j false=true:=by
    rcases hC with h|h|h
    ·exact .inl h
    ·exact .inr h
    ·have:=Ra d h;rw[aG]at this;cases this
   exact⟨s.elim .inl fun h=> .inr (.inl h),fun v hv=>aJ i j c s v _ _ hv p⟩
  |false=>
   have E:=O i o b r L d c;have s:j≠z:=by
    intro e;rw[e,E]at D;cases D
   have B:n.getD j false=false:=by
    cases B:n.getD j false with
    |false=>rfl
    |true=>
     obtain⟨e,M,u,A⟩:=(t.2.2.2 j oj aB B).1;have:=L j oj D aB e M u;rw[A,E]at this;cases this
   have k:i≠z:=by
    rcases hC with h|h|h
    ·exact absurd h s
    ·rw[B]at h;cases h
    ·exact Rb (by rw[F];exact Gj r) h
   have p:=p k;rw[c]at p;obtain⟨T,_⟩:=hY E;refine⟨.inr (.inr E),fun v hv=> ?_⟩
   by_cases hjq:some j=q
   ·refine(hk j s B).2 v _ _ hjq hv T (Qz ?_ p);rw[<-hjq];intro e;cases e;rw[d]at D;cases D
   ·exact(hk j s B).1 v _ _ hjq hv T (Qy W T p)
 ·intro b i _ aI Z
  by_cases k:i=z
  ·exact .inl k
  ·cases c:n.getD i false with
   |true=>exact .inr (.inl rfl)
   |false=>rw[(t.2.2.1 i aI k c).1]at Z;cases Z
theorem Aw {B:Nat} {a:Act} {w:World} (c:List Fg) (d:List Bool) (I:World->Prop) (S:World->World->Prop) (q:Option Nat) (z:Nat) (A:P.follows .mixedOrders=true) (hk:Di I S q (c.set z fun _ _=>True)) (h0:I w.drew) (m:∀x y,I x->Below x.heap.size x y->S x y) (n:∀x y,I x->S x y->I y) (s:Jt l a.tmps.size=true) (t:En l=true) (o:Zaj l d [] z=true)
  (k:OwedAll8 P l Q c I S q z [] a w 0 l)
  (g:∀(f:Nat->Value) (w':World),Eb c d f w' 0 l->Q .normal (Ao l a f) w'):
  (Code.region B l.toArray true).wp P Q a w:=by
 refine Ju c d I S q z [] A (fun j u _=> ?_) (fun i j h=>by simp at h) h0 m n s t o k g;have b:(c.set z fun _ _=>True).getD j (fun _ _=>True)=c.getD j (fun _ _=>True):=by
  rw[aS,List.getElem?_set_ne (fun e=>u e.symm),<-aS]
 have h:=Ky _ q hk;exact⟨fun v x y p r=>b▸h.1 j v x y (fun e=>p e) (b▸r),fun v x y p r=>b▸h.2 j v x y p (b▸r)⟩
theorem Mn (h:∀(a:Act) (w:World),I w->(Fh l q i=true->Below W.heap.size W w)->(∀s,Dp l i s=true->a.tmps[s]?.getD undef=a0.tmps[s]?.getD undef)->Bs sat l a w o.after.toList->
      Region.wanted o (yielded l.toArray a.tmps)=true/\∀K:Act->World->Prop,(∀v w',(sat.getD i (fun _ _=>True)) (Da o a v) w'->(i≠z->Hf S q i w w')->K (a.put o.dst v) w')->Oper.wp P o a w K Q):Zcb P l Q sat I S q z [] a0 W i o:=by
 intro a w d b _ K c;obtain⟨h1,h2,h3⟩:=d rfl;rw[iP (h a w h1 h2 b h3).1];exact(h a w h1 h2 b h3).2 K c
end
end
section
abbrev eF (x:Value):Fg:=fun v _=>v=x
theorem eqn {v x:Value}(h:v=x):v=x:=h
def isB (b:Bool):Value->Bool
 | .bool c=>c==b
 |_=>false
theorem Zls {b:Bool} {v:Value}(h:isB b v=false):v≠ .bool b:=by
 intro e;rw[e]at h;simp[isB]at h
section
variable {P:Program} {l:List Oper} {Q:Exit->Act->World->Prop} {sat:List Fg} {I:World->Prop} {S:World->World->Prop} {q:Option Nat} {a0:Act} {W:World} {i:Nat} {o:Oper} {os:List Oper}
def dn:Option Nat->Option Nat
 |some (q+1)=>some q
 |_=>none
theorem kX {s:Fg}(h:∀v x y,s v x->I x->S x y->s v y)(h2:∀v x y,s v x->I x->Below x.heap.size x y->s v y)(t:Di I S (dn q) sat):Di I S q (s::sat):=by
 match q,t with
 |none,t=>exact⟨h,t⟩
 |some 0,t=>exact⟨h2,t⟩
 |some (q+1),t=>exact⟨h,t⟩
theorem kE {x:Value}(t:Di I S (dn q) sat):Di I S q (eF x::sat):=kX (fun _ _ _ h _ _=>h) (fun _ _ _ h _ _=>h) t
theorem gO (h:∀(a:Act) (w:World),I w->(Fh l q i=true->Below W.heap.size W w)->(∀s,Dp l i s=true->a.tmps[s]?.getD undef=a0.tmps[s]?.getD undef)->Bs sat l a w o.after.toList->
      Region.wanted o (yielded l.toArray a.tmps)=true/\∀K:Act->World->Prop,(∀v w',(sat.getD i (fun _ _=>True)) (Da o a v) w'->Hf S q i w w'->K (a.put o.dst v) w')->Oper.wp P o a w K Q)
  (t:OwedAll7 P l Q sat I S q a0 W (i+1) os):OwedAll7 P l Q sat I S q a0 W i (o::os):=.cons (Zgh h) t
theorem gP (h:∀(a:Act) (w:World),I w->(Fh l q i=true->Below W.heap.size W w)->(∀s,Dp l i s=true->a.tmps[s]?.getD undef=a0.tmps[s]?.getD undef)->Bs sat l a w o.after.toList->
      Region.wanted o (yielded l.toArray a.tmps)=true/\∀K:Act->World->Prop,(∀v,(sat.getD i (fun _ _=>True)) (Da o a v) w->K (a.put o.dst v) w)->Hid (Oper.wp P o a w K Q))
  (d:(some i==q)=false) (t:OwedAll7 P l Q sat I S q a0 W (i+1) os):OwedAll7 P l Q sat I S q a0 W i (o::os):=
 gO (fun a w h1 h2 h3 b=>⟨(h a w h1 h2 h3 b).1,fun K c=>((h a w h1 h2 h3 b).2 K fun v e=>c v w e (Ai d bR)).out⟩) t
theorem fO {j:Nat} {b:Bool} {e:Oper} {s:Tmp} {v:Value} {d:Tmp} (f:o.dst=some d) (n:sat.getD i (fun _ _=>True)=fun v _=>v=undef) (m:(some i==q)=false) (h:o.guard=some (j,b)) (k:l.toArray[j]? =some e) (ht:e.dst=some s)
  (p:∀(a:Act) (w:World),Bs sat l a w o.after.toList->a.tmps[s]?.getD undef=v) (c:isB b v=false)
  (t:OwedAll7 P l Q sat I S q a0 W (i+1) os):OwedAll7 P l Q sat I S q a0 W i (o::os):=
 .cons (Zca f n m fun a w g=>Vt h k ht (p a w g) (Zls c)) t
theorem gOw (b:Fh l q i=true) (h:∀(a:Act) (w:World),I w->Below W.heap.size W w->(∀s,Dp l i s=true->a.tmps[s]?.getD undef=a0.tmps[s]?.getD undef)->Bs sat l a w o.after.toList->
      Region.wanted o (yielded l.toArray a.tmps)=true/\∀K:Act->World->Prop,(∀v w',(sat.getD i (fun _ _=>True)) (Da o a v) w'->Hf S q i w w'->K (a.put o.dst v) w')->Oper.wp P o a w K Q)
  (t:OwedAll7 P l Q sat I S q a0 W (i+1) os):OwedAll7 P l Q sat I S q a0 W i (o::os):=gO (fun a w h1 h2=>h a w h1 (h2 b)) t
theorem gPw (c:Fh l q i=true) (h:∀(a:Act) (w:World),I w->Below W.heap.size W w->(∀s,Dp l i s=true->a.tmps[s]?.getD undef=a0.tmps[s]?.getD undef)->Bs sat l a w o.after.toList->
      Region.wanted o (yielded l.toArray a.tmps)=true/\∀K:Act->World->Prop,(∀v,(sat.getD i (fun _ _=>True)) (Da o a v) w->K (a.put o.dst v) w)->Hid (Oper.wp P o a w K Q))
  (b:(some i==q)=false) (t:OwedAll7 P l Q sat I S q a0 W (i+1) os):OwedAll7 P l Q sat I S q a0 W i (o::os):=gP (fun a w h1 h2=>h a w h1 (h2 c)) b t
theorem Dj {k:Nat} {a:Act} {w:World} (b:List Fg) (i:P.follows .mixedOrders=true) (e:Jt l a.tmps.size=true) (g:En l=true) (hk:Di (fun x=>Below w.heap.size w x) (fun x y=>Below x.heap.size x y) none b)
  (d:OwedAll7 P l Q b (fun x=>Below w.heap.size w x) (fun x y=>Below x.heap.size x y) none a w 0 l)
  (c:∀(f:Nat->Value) (w':World),Below w.heap.size w w'->Eb b (List.replicate l.length true) f w' 0 l->Q .normal (Ao l a f) w'):
  (Code.region k l.toArray true).wp P Q a w:=
 Bd b _ _ _ none i hk ⟨rfl,rfl,rfl,lR,fun _ _=>rfl⟩ (fun _ _ _ h=>h) (fun _ _ hx j=>hx.trans (j.mono hx.size)) e g d c
theorem bX {s:Fg}(h:∀v x y,s v x->Below x.heap.size x y->s v y)(t:Di I (fun x y=>Below x.heap.size x y) none sat):Di I (fun x y=>Below x.heap.size x y) none (s::sat):=⟨fun v x y hv _ hs=>h v x y hv hs,t⟩
theorem gB (h:∀(a:Act) (w:World),Below W.heap.size W w->(∀s,Dp l i s=true->a.tmps[s]?.getD undef=a0.tmps[s]?.getD undef)->Bs sat l a w o.after.toList->
      Region.wanted o (yielded l.toArray a.tmps)=true/\∀K:Act->World->Prop,(∀v w',(sat.getD i (fun _ _=>True)) (Da o a v) w'->Below w.heap.size w w'->K (a.put o.dst v) w')->Oper.wp P o a w K Q)
  (t:OwedAll7 P l Q sat (fun x=>Below W.heap.size W x) S none a0 W (i+1) os):OwedAll7 P l Q sat (fun x=>Below W.heap.size W x) S none a0 W i (o::os):=
 gO (fun a w h1 _ h3 b=>⟨(h a w h1 h3 b).1,fun K c=>(h a w h1 h3 b).2 K fun v w' e d=>c v w' e (Ai rfl d)⟩) t
theorem gQ (h:∀(a:Act) (w:World),Below W.heap.size W w->(∀s,Dp l i s=true->a.tmps[s]?.getD undef=a0.tmps[s]?.getD undef)->Bs sat l a w o.after.toList->
      Region.wanted o (yielded l.toArray a.tmps)=true/\∀K:Act->World->Prop,(∀v,(sat.getD i (fun _ _=>True)) (Da o a v) w->K (a.put o.dst v) w)->Hid (Oper.wp P o a w K Q))
  (t:OwedAll7 P l Q sat (fun x=>Below W.heap.size W x) S none a0 W (i+1) os):OwedAll7 P l Q sat (fun x=>Below W.heap.size W x) S none a0 W i (o::os):=
 gP (fun a w h1 _ h3 b=>h a w h1 h3 b) rfl t
variable {z:Nat}
theorem gO8 (h:∀(a:Act) (w:World),I w->(Fh l q i=true->Below W.heap.size W w)->(∀s,Dp l i s=true->a.tmps[s]?.getD undef=a0.tmps[s]?.getD undef)->Bs sat l a w o.after.toList->
      Region.wanted o (yielded l.toArray a.tmps)=true/\∀K:Act->World->Prop,(∀v w',(sat.getD i (fun _ _=>True)) (Da o a v) w'->(i≠z->Hf S q i w w')->K (a.put o.dst v) w')->Oper.wp P o a w K Q)
  (t:OwedAll8 P l Q sat I S q z [] a0 W (i+1) os):OwedAll8 P l Q sat I S q z [] a0 W i (o::os):=.cons (Mn h) t
theorem gP8 (h:∀(a:Act) (w:World),I w->(Fh l q i=true->Below W.heap.size W w)->(∀s,Dp l i s=true->a.tmps[s]?.getD undef=a0.tmps[s]?.getD undef)->Bs sat l a w o.after.toList->
      Region.wanted o (yielded l.toArray a.tmps)=true/\∀K:Act->World->Prop,(∀v,(sat.getD i (fun _ _=>True)) (Da o a v) w->K (a.put o.dst v) w)->Hid (Oper.wp P o a w K Q))
  (d:(some i==q)=false) (t:OwedAll8 P l Q sat I S q z [] a0 W (i+1) os):OwedAll8 P l Q sat I S q z [] a0 W i (o::os):=
 gO8 (fun a w h1 h2 h3 b=>⟨(h a w h1 h2 h3 b).1,fun K c=>((h a w h1 h2 h3 b).2 K fun v e=>c v w e fun _=>Ai d bR).out⟩) t
theorem Pd (b:Fh l q i=true) (h:∀(a:Act) (w:World),I w->Below W.heap.size W w->(∀s,Dp l i s=true->a.tmps[s]?.getD undef=a0.tmps[s]?.getD undef)->Bs sat l a w o.after.toList->
      Region.wanted o (yielded l.toArray a.tmps)=true/\∀K:Act->World->Prop,(∀v w',(sat.getD i (fun _ _=>True)) (Da o a v) w'->(i≠z->Hf S q i w w')->K (a.put o.dst v) w')->Oper.wp P o a w K Q)
  (t:OwedAll8 P l Q sat I S q z [] a0 W (i+1) os):OwedAll8 P l Q sat I S q z [] a0 W i (o::os):=gO8 (fun a w h1 h2=>h a w h1 (h2 b)) t
theorem Pc (c:Fh l q i=true) (h:∀(a:Act) (w:World),I w->Below W.heap.size W w->(∀s,Dp l i s=true->a.tmps[s]?.getD undef=a0.tmps[s]?.getD undef)->Bs sat l a w o.after.toList->
      Region.wanted o (yielded l.toArray a.tmps)=true/\∀K:Act->World->Prop,(∀v,(sat.getD i (fun _ _=>True)) (Da o a v) w->K (a.put o.dst v) w)->Hid (Oper.wp P o a w K Q))
  (b:(some i==q)=false) (t:OwedAll8 P l Q sat I S q z [] a0 W (i+1) os):OwedAll8 P l Q sat I S q z [] a0 W i (o::os):=gP8 (fun a w h1 h2=>h a w h1 (h2 c)) b t
variable {tl:List Bool}
end
end
