import Derived.Test.YtfofaiommeckbaaGreatZTrB
import Derived.WalkKit
import Derived.Laws.CopyOwn
import Derived.Laws.AppendOwnNone
import Derived.Lib.Hide
import Derived.Deep.Draws
open Go.Obj renaming cells -> rK
open Go.Value renaming slice -> rD, pointer -> rF
open Option renaming none -> rJ
open List renaming eq_nil_of_length_eq_zero -> aA, mem_cons -> aB, range -> aC, length_append -> aD, getD_eq_getElem?_getD -> aE, getElem?_eq_getElem -> aF, getElem_mem -> aG, getElem?_eq_none -> aH
open Nat renaming zero_le -> aI, lt_or_ge -> aJ, mul_le_mul_left -> aK, mod_lt -> aL, two_pow_add_eq_or_of_lt -> aM, pow_succ -> aN, div_div_eq_div_mul -> aO, one_mul -> aP, pos_of_ne_zero -> aQ, pow_add -> aR, add_mul_mod_self_left -> aS, mod_eq_of_lt -> aT, mul_comm -> aU, div_add_mod -> aV, div_eq_of_lt -> aW, mod_mul -> aX, log2 -> aY, pow_le_pow_right -> aZ, div_lt_iff_lt_mul -> bA, mul_le_mul_right -> bB, add_mul -> bC, mul_left_comm -> bD, mul_assoc -> bE, mod_two_eq_zero_or_one -> bF, testBit_xor -> bG, testBit_and -> bH
open Array renaming getElem?_eq_none -> bI
set_option linter.unusedVariables false
set_option maxRecDepth 100000
set_option maxHeartbeats 40000000
namespace Go.Proofs.YtfofaiommeckbaaGreat
open Go.RowKit
section
structure Elem (P:Program) (t e:TypeId) (z:Value) (bytes:Nat):Prop where
 ty:P.underlying t=some (.slice e)
 inf:(P.info? e).map (fun i=>(i.zero,i.size,i.bytes))=some (some z,1,bytes)
 one:z.cells.size=1
 low:bytes<=64
def Rd (w:World)(v:Value)(xs:List Value):Prop:=
 ∃a cap,v=.slice a xs.length cap/\xs.length<=cap/\cap<=maxLen/\
  ((xs=[]/\(a=none->cap=0))\/∃b off,a=some ⟨b,off,rJ⟩/\∀(j:Nat) u,xs[j]? =some u->w.cell? ⟨b,off+j,rJ⟩=some u)
def Own (w:World)(B:Nat)(e:TypeId)(v:Value)(xs:List Value):Prop:=w.ownsRow B e 1 v xs.length xs
theorem Own.rd {w:World} {B:Nat} {e:TypeId} {v:Value} {xs:List Value}(h:Own w B e v xs):Rd w v xs:=by
 have c:=fun g=>World.ownsRow.cells (g:=g) h;obtain⟨_,h⟩:=h;rcases h with⟨rfl,b⟩|⟨g,cap,a,rfl,k,l,f,d,m,n⟩
 ·have:xs=[]:=aA b;subst this;exact⟨none,0,rfl,lR,aI _,.inl ⟨rfl,fun _=>rfl⟩⟩
 ·refine⟨_,cap,rfl,f,d,.inr ⟨g,0,rfl,?_⟩⟩;intro j u i;have:=c g rfl j u i;simpa [Addr.add_lit]using this
theorem Rd.lt {w:World} {v:Value} {xs:List Value}(h:Rd w v xs):xs=[]\/∃b c cap,v=rD (some ⟨b,c,rJ⟩) xs.length cap/\b<w.heap.size:=by
 obtain⟨a,cap,rfl,_,_,h|⟨b,c,rfl,d⟩⟩:=h
 ·exact .inl h.1
 ·cases xs with
  |nil=>exact .inl rfl
  |cons x xs=>exact .inr ⟨b,c,cap,rfl,World.block_lt_of_cell? w _ (d 0 x rfl)⟩
theorem Rd.below {w w':World} {B:Nat} {v:Value} {xs:List Value}(h:Rd w v xs)(e:Below B w w')(k:w.heap.size<=B):Rd w' v xs:=by
 obtain⟨a,cap,rfl,d,h2,h|⟨b,c,rfl,f⟩⟩:=h
 ·exact⟨a,cap,rfl,d,h2,.inl h⟩
 ·refine⟨_,cap,rfl,d,h2,.inr ⟨b,c,rfl,?_⟩⟩;intro j u i;have:=f j u i;have g:=World.block_lt_of_cell? w _ this;rw[e.cell (by simp only at g|-;omega)];exact this
theorem Rd.alloc {w:World} {v:Value} {xs:List Value}(h:Rd w v xs)(o:Obj):Rd (w.alloc o) v xs:=
 h.below ((Below.refl w.heap.size _).alloc lR o) lR
theorem Own.nil (w:World)(B:Nat)(e:TypeId):Own w B e (rD rJ 0 0) []:=World.ownsRow_nil w B e 1
theorem Own.alloc {w:World} {B:Nat} {e:TypeId} {v:Value} {xs:List Value}(h:Own w B e v xs)(o:Obj):Own (w.alloc o) B e v xs:=World.ownsRow.alloc h o
theorem Own.mono {w:World} {B B':Nat} {e:TypeId} {v:Value} {xs:List Value}(h:Own w B e v xs)(hB:B'<=B):Own w B' e v xs:=by
 obtain⟨h0,h|⟨g,cap,cur,hv,hg,r⟩⟩:=h
 ·exact⟨h0,.inl h⟩
 ·exact⟨h0,.inr ⟨g,cap,cur,hv,by omega,r⟩⟩
theorem Own.below {w w':World} {B B':Nat} {e:TypeId} {v:Value} {xs:List Value}(h:Own w B e v xs)(f:Below B' w w')(k:w.heap.size<=B'):Own w' B e v xs:=by
 obtain⟨c,h|⟨g,cap,a,j,i,d,r⟩⟩:=h
 ·exact⟨c,.inl h⟩
 ·refine⟨c,.inr ⟨g,cap,a,j,i,?_,r⟩⟩;have l:g<w.heap.size:=by
   rcases aJ g w.heap.size with b|b
   ·exact b
   ·simp[bI b]at d
  rw[f.block g (by omega)];exact d
theorem Own.out {w:World} {B:Nat} {e:TypeId} {v:Value} {xs:List Value}(h:Own w B e v xs)(hx:xs≠[]):
  ∃g cap a,v=rD (some ⟨g,0,rJ⟩) xs.length cap/\B<=g/\g<w.heap.size/\w.heap[g]? =some (.cells a e (0,0))/\xs.length<=cap/\cap<=maxLen/\a.size=cap/\a.toList.take xs.length=xs/\
   (∀(j:Nat) u,xs[j]? =some u->w.cell? ⟨g,j,rJ⟩=some u)/\(∀j:Nat,w.frozen? ⟨g,j,rJ⟩=false):=by
 have f:=fun g=>World.ownsRow.cells (g:=g) h;obtain⟨_,h⟩:=h;rcases h with⟨rfl,d⟩|⟨g,cap,a,rfl,i,c,l,k,m,n⟩
 ·exact absurd (aA d) hx
 ·refine⟨g,cap,a,rfl,i,?_,c,l,k,by simpa using m,by simpa using n,?_,?_⟩
  ·rcases aJ g w.heap.size with b|b
   ·exact b
   ·simp[bI b]at c
  ·intro j u o;have:=f g rfl j u o;simpa [Addr.add_lit]using this
  ·intro j;exact frozen_of_row w g j a e c
section
variable {P:Program} {w:World}
theorem Bq {ops:Array Oper} {rest:List Oper} {o:Oper} {a:Act} {Q:Exit->Act->World->Prop} (l:o.guard=none) (s x:Operand) (t:TypeId)
  (C:o.op=.call {callee:=.builtin .append,args:=#[s,x],argTypes:=#[t,t]})
  (B:Nat) (e:TypeId) (z:Value) (b:Nat) (F:Elem P t e z b)
  (v:Value) (xs:List Value) (D:a.eval s=v) (c:Own w B e v xs)
  (d:Addr) (u:Value) (hx:a.eval x=.slice (some d) 1 1) (E:w.cell? d=some u) (r:u.oneCell'=true)
  (H:xs.length<1099511627776) (p:B<=w.heap.size)
  (h:∀f w',Own w' B e f (xs++[u])->w.grownBy w' v.ownBlock->Below B w w'->wpList P ops Q rest (a.put o.dst f) w'):wpList P ops Q (o::rest) a w:=by
 obtain⟨i,A,G,m,g⟩:=info_parts F.inf;have low:=F.low;refine wpList_append_own w l s x t C B e i z 1 b F.ty A G m g F.one (by omega) v xs.length xs D c d 1 1 [u] hx rfl ?_ (by simpa using r) ?_ ?_ p ?_
 ·intro j y n;cases j with
  |zero=>
   have:d.add 0=d:=(by unfold Addr.add;split<;>simp_all);rw[this];simp at n;rw[<-n];exact E
  |succ j=>simp at n
 ·unfold maxLen;omega
 ·have:(xs.length+1)*b<=(xs.length+1)*64:=aK _ low;omega
 ·intro f w' h2 h3 _;have q:(xs++[u]).length=xs.length+1:=(by simp);refine h f w' (by unfold Own;rw[q];exact h2) h3 ?_;refine(Below.refl B w).grown h3 p ?_;intro k hk;exact(World.ownsRow.lt c k hk).1
theorem Jc {ops:Array Oper} {rest:List Oper} {o:Oper} {a:Act} {Q:Exit->Act->World->Prop} (m:o.guard=none) (s x:Operand) (t:TypeId)
  (A:o.op=.call {callee:=.builtin .append,args:=#[s,x],argTypes:=#[t,t]})
  (B:Nat) (e:TypeId) (z:Value) (b:Nat) (F:Elem P t e z b)
  (v:Value) (xs:List Value) (C:a.eval s=v) (d:Own w B e v xs)
  (g:Addr) (cap:Nat) (c:List Value) (hx:a.eval x=.slice (some g) c.length cap) (D:∀(j:Nat) u,c[j]? =some u->w.cell? (g.add j)=some u) (r:∀u∈c,u.oneCell'=true)
  (G:xs.length+c.length<1099511627776) (p:B<=w.heap.size)
  (h:∀f w',Own w' B e f (xs++c)->w.grownBy w' v.ownBlock->Below B w w'->wpList P ops Q rest (a.put o.dst f) w'):wpList P ops Q (o::rest) a w:=by
 obtain⟨i,y,E,n,l⟩:=info_parts F.inf;have low:=F.low;refine wpList_append_own w m s x t A B e i z 1 b F.ty y E n l F.one (by omega) v xs.length xs C d g c.length cap c hx (by omega) D r ?_ ?_ p ?_
 ·unfold maxLen;omega
 ·have:(xs.length+c.length)*b<=(xs.length+c.length)*64:=aK _ low;omega
 ·intro f w' h2 h3 _;have q:(xs++c).length=xs.length+c.length:=(by simp);refine h f w' (by unfold Own;rw[q];exact h2) h3 ?_;refine(Below.refl B w).grown h3 p ?_;intro k hk;exact(World.ownsRow.lt d k hk).1
theorem An {ops:Array Oper} {rest:List Oper} {o:Oper} {a:Act} {Q:Exit->Act->World->Prop} (f:o.guard=none) (s x:Operand) (t:TypeId)
  (m:o.op=.call {callee:=.builtin .append,args:=#[s,x],argTypes:=#[t,t]})
  (B:Nat) (e:TypeId) (z:Value) (c:Nat) (F:Elem P t e z c)
  (v:Value) (xs:List Value) (n:a.eval s=v) (d:Own w B e v xs)
  (r:Value) (k:List Value) (hx:a.eval x=r) (D:Rd w r k) (p:∀u∈k,u.oneCell'=true)
  (y:xs.length+k.length<1099511627776) (q:B<=w.heap.size)
  (h:∀v' w',Own w' B e v' (xs++k)->w.grownBy w' v.ownBlock->Below B w w'->wpList P ops Q rest (a.put o.dst v') w'):wpList P ops Q (o::rest) a w:=by
 obtain⟨l,cap,rfl,_,_,⟨rfl,g⟩|⟨b,G,rfl,A⟩⟩:=D
 ·cases l with
  |none=>
   obtain rfl:=g rfl;obtain⟨i,C,_,_,_⟩:=info_parts F.inf;refine wpList_append_own_none f s x t m B e i 1 F.ty C v xs.length xs n d hx ?_;exact h v w (by simpa using d) ⟨rfl,rfl,rfl,lR,fun _ _ _=>rfl⟩ bR
  |some l=>exact Jc f s x t m B e z c F v xs n d l cap [] hx (by simp) p y q h
 ·exact Jc f s x t m B e z c F v xs n d _ cap k hx (fun j u E=>by rw[Addr.add_lit];exact A j u E) p y q h
end
theorem Qq {P:Program} (w:World) {T E len:Nat} {d:TypeDesc} (f:P.underlying T=some (.array len E)) (l:(match d with| .struct _| .array _ _=>true|_=>false)=false) (e:P.underlying E=some d)
  (b:(P.info? E).map (·.size)=some 1)
  (cs:Array Value) (k:IntKind) (i:Nat) (m:i<len) (v:Value) (j:cs[i]? =some v):
  (Instr.index T (.agg cs) (.int k (i:Int))).run P w=.ok v w:=by
 have g:(isAgg E).run P w=.ok false w:=by
  unfold isAgg;rw[Sem.run_bind,run_underlying e w];cases d<;>simp_all
 cases hq:P.info? E with
 |none=>simp[hq]at b
 |some inf=>
  have a:inf.size=1:=(by simpa [hq]using b);have c:(0:Int)<=(i:Int)/\(i:Int)<(len:Int):=(by omega);simp[Instr.index,asIntOf,Sem.run_bind,run_underlying f,c,sizeOf,typeInfo,hq,a,part,g,j];intro h;omega
theorem Bi {w:World} {u:Value} {e:TypeId} {N:Nat}(hN:N=w.heap.size):(w.alloc (rK #[u] e)).cell? ⟨N,0,rJ⟩=some u:=by
 subst hN;rw[cell_of_row _ _ _ _ _ _ (heap_alloc_new w _)];rfl
theorem Own.lit0 {w:World} {B N:Nat} {e:TypeId}(hN:N=w.heap.size)(hB:B<=N):Own (w.alloc (rK #[] e)) B e (rD (some ⟨N,0,rJ⟩) 0 0) []:=by
 subst hN;exact World.ownsRow_made w #[] 0 hB (aI _) rfl
theorem Own.full {w:World} {B:Nat} {e:TypeId} {cs:Array Value} {N:Nat}(b:N=w.heap.size)(a:B<=N)(c:cs.size<=maxLen) {n:Nat}(d:n=cs.size):
  Own (w.alloc (.cells cs e)) B e (rD (some ⟨N,0,rJ⟩) n n) cs.toList:=by
 subst d b;refine⟨by simp,.inr ⟨w.heap.size,cs.size,cs,by simp,a,heap_alloc_new w _,by simp,c,by simp,?_⟩⟩;simp only[Nat.mul_one,Array.length_toList];rw[List.take_of_length_le (by simp)]
theorem Own.set {w:World} {B:Nat} {e:TypeId} {g n cap:Nat} {xs:List Value}(h:Own w B e (rD (some ⟨g,0,rJ⟩) n cap) xs)(i:Nat)(u:Value):
  Own (w.setCell ⟨g,i,rJ⟩ u) B e (rD (some ⟨g,0,rJ⟩) n cap) (xs.set i u):=by
 obtain⟨o,h|⟨m,cap',a,b,c,d,j,f,k,l⟩⟩:=h
 ·cases h.1
 ·simp only[Value.slice.injEq,Option.some.injEq,Addr.mk.injEq,and_true]at b;obtain⟨rfl,rfl,rfl⟩:=b;refine⟨by simp,.inr ⟨g,cap,a.setIfInBounds i u,by simp,c,heap_setCell_same w g i a e u d,by simpa using j,f,by simpa using k,?_⟩⟩;simp only[Array.toList_setIfInBounds,List.length_set];rw[List.take_set,l]
theorem Own.setOther {w:World} {B:Nat} {e:TypeId} {v:Value} {xs:List Value}(h:Own w B e v xs) {a:Addr}(f:v.ownBlock≠some a.block)(u:Value):Own (w.setCell a u) B e v xs:=by
 obtain⟨c,h|⟨g,cap,b,d,i,j,r⟩⟩:=h
 ·exact⟨c,.inl h⟩
 ·refine⟨c,.inr ⟨g,cap,b,d,i,?_,r⟩⟩;rw[Below.heap_setCell _ _ _ _ (fun e=>f (by rw[d];simp[Value.ownBlock,e]))];exact j
theorem Own.drewN {w:World} {B:Nat} {e:TypeId} {v:Value} {xs:List Value}(h:Own w B e v xs)(n:Nat):Own (w.drewN n) B e v xs:=h
theorem Rd.drewN {w:World} {v:Value} {xs:List Value}(h:Rd w v xs)(n:Nat):Rd (w.drewN n) v xs:=h
theorem Ab {B:Nat} {a w:World}(h:Below B a w)(n:Nat):Below B a (w.drewN n):=h.trans ⟨rfl,rfl,rfl,lR,fun _ _=>rfl⟩
theorem Rd.sub {w:World} {b g n cap:Nat} {xs:List Value}(h:Rd w (rD (some ⟨b,g,rJ⟩) n cap) xs)(d i:Nat) {off' n' cap':Nat}(t:d<=i)(h2:i<=n)(q:off'=g+d)(p:n'=i-d)(o:cap'=cap-d):
  Rd w (rD (some ⟨b,off',rJ⟩) n' cap') ((xs.take i).drop d):=by
 obtain⟨a,c,m,v,x,r⟩:=h;simp only[Value.slice.injEq]at m;obtain⟨rfl,rfl,rfl⟩:=m;subst q p o;have e:((xs.take i).drop d).length=i-d:=(by simp;omega);refine⟨_,cap-d,by rw[e],by rw[e];omega,by omega,?_⟩;rcases r with⟨rfl,_⟩|⟨s,off',l,f⟩
 ·exact .inl ⟨by simp,by simp⟩
 ·simp only[Option.some.injEq,Addr.mk.injEq,and_true]at l;obtain⟨rfl,rfl⟩:=l;refine .inr ⟨b,g+d,rfl,?_⟩;intro j u k;rw[List.getElem?_drop,List.getElem?_take]at k
  split at k
  ·rw[Nat.add_assoc];exact f _ u k
  ·cases k
theorem Own.at {w:World} {B:Nat} {e:TypeId} {g n cap:Nat} {xs:List Value}(h:Own w B e (rD (some ⟨g,0,rJ⟩) n cap) xs):
  (∀(j:Nat) u,xs[j]? =some u->w.cell? ⟨g,j,rJ⟩=some u)/\(∀j:Nat,w.frozen? ⟨g,j,rJ⟩=false):=by
 have c:=fun g=>World.ownsRow.cells (g:=g) h;obtain⟨_,h|⟨i,cap',a,b,k,d,r⟩⟩:=h
 ·cases h.1
 ·simp only[Value.slice.injEq,Option.some.injEq,Addr.mk.injEq,and_true]at b;obtain⟨rfl,_,rfl⟩:=b;refine⟨?_,fun j=>frozen_of_row w g j a e d⟩;intro j u f;have:=c g rfl j u f;simpa [Addr.add_lit]using this
theorem As {P:Program} {w:World} {ops:Array Oper} {rest:List Oper} {o:Oper} {a:Act} {Q:Exit->Act->World->Prop} (b:o.guard=none) (ty:TypeId) (x:Operand) (j:o.op=.load ty x)
  (g:Nat) (hx:a.eval x=rF (some ⟨g,0,rJ⟩)) (t:TypeId) (cs:Array Value) (c:Nat×Nat) (d:TypeDesc) (f:w.heap[g]? =some (.cells cs t c))
  (k:P.underlying ty=some d) (e:(match d with| .struct _| .array _ _=>true|_=>false)=true) (i:(P.info? ty).map (·.size)=some cs.size)
  (h:wpList P ops Q rest (a.put o.dst (.agg cs)) w):wpList P ops Q (o::rest) a w:=
 wpList_load_row b ty x j g hx t cs c d f k e i h
theorem Qr {P:Program} {w:World} {ops:Array Oper} {rest:List Oper} {o:Oper} {a:Act} {Q:Exit->Act->World->Prop} (b:Region.wanted o (yielded ops a.tmps)=true)
  (h:wpList P ops Q ({o with guard:=none}::rest) a w):wpList P ops Q (o::rest) a w:=by
 unfold wpList at h|-;rw[iP b];rw[iP (show Region.wanted {o with guard:=none} (yielded ops a.tmps)=true from rfl)]at h;exact h
end
end Go.Proofs.YtfofaiommeckbaaGreat
namespace Go.Proofs.YtfofaiommeckbaaGreat.WireM
def beN:Nat->Nat->List Nat
 |0,_=>[]
 |i+1,n=>(n/256^i%256)::beN i n
theorem beN_len:∀i n,(beN i n).length=i:=by
 intro i
 induction i with
 |zero=>intro n;rfl
 |succ i ih=>intro n;simp[beN,ih]
theorem beN_lt:∀i n,∀x∈beN i n,x<256:=by
 intro i
 induction i with
 |zero=>intro n x h;simp[beN]at h
 |succ i ih=>
  intro n x h;simp only[beN,aB]at h;rcases h with rfl|h
  ·exact aL _ (by omega)
  ·exact ih n x h
def lenB (n:Nat):List Nat:=
 if n<64 then [n]else if n<16384 then [64+n/256,n%256]else [128+n/16777216,n/65536%256,n/256%256,n%256]
def lenS (n:Int):Nat:=if n<0\/1073741823<n then 0 else if n<64 then 1 else if n<16384 then 2 else 4
theorem lenB_lt {n:Nat}(h:n<1073741824):∀x∈lenB n,x<256:=by
 intro x hx;unfold lenB at hx
 split at hx
 ·simp at hx;omega
 ·split at hx
  ·simp at hx;omega
  ·simp at hx;omega
theorem lenS1 {n:Nat}(h1:n<64):lenS n=1:=by unfold lenS;rw[iN (by omega),iP (by omega)]
theorem lenS2 {n:Nat}(h0:64<=n)(h1:n<16384):lenS n=2:=by unfold lenS;rw[iN (by omega),iN (by omega),iP (by omega)]
theorem lenS4 {n:Nat}(h0:16384<=n)(h1:n<1073741824):lenS n=4:=by unfold lenS;rw[iN (by omega),iN (by omega),iN (by omega)]
theorem lenB_len {n:Nat}(h:n<1073741824):(lenB n).length=lenS n:=by
 by_cases h1:n<64
 ·rw[lenS1 h1,lenB,iP h1];rfl
 ·by_cases h2:n<16384
  ·rw[lenS2 (by omega) h2,lenB,iN h1,iP h2];rfl
  ·rw[lenS4 (by omega) h,lenB,iN h1,iN h2];rfl
theorem be1 (n:Nat)(h:n<64):beN 1 n=lenB n:=by
 unfold lenB;rw[iP h];simp[beN];omega
theorem be2 (n:Nat)(h0:64<=n)(h:n<16384):beN 2 (16384+n)=lenB n:=by
 unfold lenB;rw[iN (by omega),iP h];simp[beN];omega
theorem be4 (n:Nat)(h0:16384<=n)(h:n<1073741824):beN 4 (2147483648+n)=lenB n:=by
 unfold lenB;rw[iN (by omega),iN (by omega)];simp[beN];omega
theorem or2 (n:Nat)(h:n<16384):16384|||n=16384+n:=by
 have:=aM (i:=14) (b:=n) (by omega) 1;simpa using this.symm
theorem or4 (n:Nat)(h:n<1073741824):2147483648|||n=2147483648+n:=by
 have:=aM (i:=31) (b:=n) (by omega) 1;simpa using this.symm
theorem beN_step (i n:Nat):n/256^i/256=n/256^(i+1):=by rw[aN,aO]
theorem shift_pow (i:Nat):2^(8*i)=256^i:=by rw[Nat.pow_mul]
end Go.Proofs.YtfofaiommeckbaaGreat.WireM
namespace Go.Proofs.YtfofaiommeckbaaGreat
open Go.RowKit
section
theorem Own.form {w:World} {B:Nat} {e:TypeId} {v:Value} {xs:List Value}(h:Own w B e v xs):v=rD rJ 0 0\/∃g cap,v=rD (some ⟨g,0,rJ⟩) xs.length cap:=by
 obtain⟨_,h|⟨g,cap,cur,hv,_⟩⟩:=h
 ·exact .inl h.1
 ·exact .inr ⟨g,cap,hv⟩
theorem Own.oneCell {w:World} {B:Nat} {e:TypeId} {v:Value} {xs:List Value}(h:Own w B e v xs):v.oneCell'=true:=by
 rcases h.form with rfl|⟨g,cap,rfl⟩<;>rfl
section
variable {P:Program} {w:World}
end
end
section
structure ElemK (P:Program) (t e:TypeId) (z:Value) (k bytes:Nat):Prop where
 ty:P.underlying t=some (.slice e)
 inf:(P.info? e).map (fun i=>(i.zero,i.size,i.bytes))=some (some z,k,bytes)
 one:z.cells.size=k
 pos:0<k
 low:bytes<=512
theorem Iw {P:Program} {e:TypeId} {z:Value} {k bytes:Nat}(h:(P.info? e).map (fun i=>(i.zero,i.size,i.bytes))=some (some z,k,bytes)):
  ∃i,P.info? e=some i/\i.zero=some z/\i.size=k/\i.bytes=bytes:=by
 cases hi:P.info? e with
 |none=>simp[hi]at h
 |some i=>
  simp[hi]at h;exact⟨i,rfl,h.1,h.2.1,h.2.2⟩
def OwnK (w:World)(B:Nat)(e:TypeId)(k:Nat)(v:Value)(n:Nat)(xs:List Value):Prop:=w.ownsRow B e k v n xs
theorem OwnK.nil (w:World)(B:Nat)(e:TypeId)(k:Nat):OwnK w B e k (rD rJ 0 0) 0 []:=World.ownsRow_nil w B e k
theorem OwnK.len {w:World} {B:Nat} {e:TypeId} {k:Nat} {v:Value} {n:Nat} {xs:List Value}(h:OwnK w B e k v n xs):xs.length=n*k:=h.1
theorem OwnK.alloc {w:World} {B:Nat} {e:TypeId} {k:Nat} {v:Value} {n:Nat} {xs:List Value}(h:OwnK w B e k v n xs)(o:Obj):OwnK (w.alloc o) B e k v n xs:=World.ownsRow.alloc h o
theorem OwnK.below {w w':World} {B B':Nat} {e:TypeId} {k:Nat} {v:Value} {n:Nat} {xs:List Value}(h:OwnK w B e k v n xs)(f:Below B' w w')(l:w.heap.size<=B'):OwnK w' B e k v n xs:=by
 obtain⟨c,h|⟨g,cap,a,j,i,d,r⟩⟩:=h
 ·exact⟨c,.inl h⟩
 ·refine⟨c,.inr ⟨g,cap,a,j,i,?_,r⟩⟩;have m:g<w.heap.size:=by
   rcases aJ g w.heap.size with b|b
   ·exact b
   ·simp[bI b]at d
  rw[f.block g (by omega)];exact d
theorem OwnK.out {w:World} {B:Nat} {e:TypeId} {k:Nat} {v:Value} {n:Nat} {xs:List Value}(h:OwnK w B e k v n xs)(d:0<n):
  ∃g cap,v=rD (some ⟨g,0,rJ⟩) n cap/\B<=g/\g<w.heap.size/\n<=cap/\cap<=maxLen/\(∀(j:Nat) u,xs[j]? =some u->w.cell? ⟨g,j,rJ⟩=some u)/\∃a,w.heap[g]? =some (.cells a e (0,0))/\a.size=cap*k/\a.toList.take (n*k)=xs:=by
 have f:=fun g=>World.ownsRow.cells (g:=g) h;obtain⟨_,h⟩:=h;rcases h with⟨rfl,q⟩|⟨g,cap,a,rfl,i,c,d,l,m,o⟩
 ·omega
 ·refine⟨g,cap,rfl,i,?_,d,l,?_,a,c,m,o⟩
  ·rcases aJ g w.heap.size with b|b
   ·exact b
   ·simp[bI b]at c
  ·intro j u p;have:=f g rfl j u p;simpa [Addr.add_lit]using this
section
variable {P:Program} {w:World}
theorem Lk {ops:Array Oper} {rest:List Oper} {o:Oper} {a:Act} {Q:Exit->Act->World->Prop} (l:o.guard=none) (s x:Operand) (t:TypeId)
  (C:o.op=.call {callee:=.builtin .append,args:=#[s,x],argTypes:=#[t,t]})
  (B:Nat) (e:TypeId) (z:Value) (k b:Nat) (F:ElemK P t e z k b)
  (v:Value) (n:Nat) (xs:List Value) (D:a.eval s=v) (c:OwnK w B e k v n xs)
  (N:Nat) (d:List Value) (hx:a.eval x=rD (some ⟨N,0,rJ⟩) 1 1) (A:d.length=k) (E:∀(j:Nat) u,d[j]? =some u->w.cell? ⟨N,j,rJ⟩=some u) (q:∀u∈d,u.oneCell'=true)
  (H:n<137438953472) (p:B<=w.heap.size)
  (h:∀f w',OwnK w' B e k f (n+1) (xs++d)->Below B w w'->wpList P ops Q rest (a.put o.dst f) w'):wpList P ops Q (o::rest) a w:=by
 obtain⟨i,r,G,m,g⟩:=Iw F.inf;have low:=F.low;refine wpList_append_own w l s x t C B e i z k b F.ty r G m g F.one F.pos v n xs D c ⟨N,0,rJ⟩ 1 1 d hx (by rw[A,aP]) (fun j u y=>by rw[Addr.add_lit,Nat.zero_add];exact E j u y) q ?_ ?_ p ?_
 ·unfold maxLen;omega
 ·have:(n+1)*b<=(n+1)*512:=aK _ low;omega
 ·intro f w' h2 h3 _;refine h f w' h2 ?_;refine(Below.refl B w).grown h3 p ?_;intro k hk;exact(World.ownsRow.lt c k hk).1
end
theorem St {w:World} {cs:List Value} {e:TypeId} {N:Nat}(hN:N=w.heap.size):∀(j:Nat) u,cs[j]? =some u->(w.alloc (.cells cs.toArray e)).cell? ⟨N,j,rJ⟩=some u:=by
 intro j u h;subst hN;rw[cell_of_row _ _ _ _ _ _ (heap_alloc_new w _)];simpa using h
def Blk (w:World)(g:Nat)(t:TypeId)(cs:Array Value):Prop:=w.heap[g]? =some (.cells cs t (0,0))
theorem Blk.lt {w:World} {g:Nat} {t:TypeId} {cs:Array Value}(h:Blk w g t cs):g<w.heap.size:=by
 rcases aJ g w.heap.size with hlt|hge
 ·exact hlt
 ·unfold Blk at h;rw[bI hge]at h;cases h
theorem Blk.new (w:World)(t:TypeId)(cs:Array Value):Blk (w.alloc (.cells cs t)) w.heap.size t cs:=heap_alloc_new w _
theorem Blk.below {w w':World} {g:Nat} {t:TypeId} {cs:Array Value} {B:Nat}(h:Blk w g t cs)(hb:Below B w w')(hg:g<B):Blk w' g t cs:=(hb.block g hg).trans h
theorem Blk.alloc {w:World} {g:Nat} {t:TypeId} {cs:Array Value}(h:Blk w g t cs)(o:Obj):Blk (w.alloc o) g t cs:=(Below.heap_alloc w o g h.lt).trans h
theorem Blk.drewN {w:World} {g:Nat} {t:TypeId} {cs:Array Value}(h:Blk w g t cs)(n:Nat):Blk (w.drewN n) g t cs:=h
theorem Blk.cell {w:World} {g:Nat} {t:TypeId} {cs:Array Value}(h:Blk w g t cs)(i:Nat):w.cell? ⟨g,i,rJ⟩=cs[i]? :=cell_of_row w g i cs t (0,0) h
theorem Blk.frozen {w:World} {g:Nat} {t:TypeId} {cs:Array Value}(h:Blk w g t cs)(i:Nat):w.frozen? ⟨g,i,rJ⟩=false:=frozen_of_row w g i cs t h
theorem Aa {P:Program} {w:World} {ops:Array Oper} {rest:List Oper} {o:Oper} {a:Act} {Q:Exit->Act->World->Prop} (f:o.guard=none) (ty:TypeId) (x y:Operand) (k:o.op=.store ty x y)
  (g:Nat) (b:Array Value) (hx:a.eval x=rF (some ⟨g,0,rJ⟩)) (m:a.eval y=.agg b)
  (t:TypeId) (c:Array Value) (d:Blk w g t c) (e:(P.info? ty).map (·.size)=some b.size)
  (l:c.size=b.size) (j:b.toList.all (·.oneCell')=true)
  (h:∀w2,Blk w2 g t b->(∀B,B<=g->Below B w w2)->(∀i,i≠g->w2.heap[i]? =w.heap[i]?)->w2.heap.size=w.heap.size->wpList P ops Q rest (a.put o.dst undef) w2):wpList P ops Q (o::rest) a w:=by
 refine wpList_store_row f ty x y k g b hx m t c d e l (by rw[<-Array.all_toList];exact j) ?_;refine h _ ?_ ?_ ?_ ?_
 ·exact setRow_heap w g c b t _ d
 ·intro B n;exact⟨rfl,rfl,rfl,by simp,fun i e=>setRow_other w g i b (by omega)⟩
 ·intro i e;exact setRow_other w g i b e
 ·simp
theorem Ad {P:Program} {b:Func} {p q:Tmp} {ty:TypeId} (h:b.results=#[.cell p ty,.tmp q]) (tmps:Array Value) (w:World) (g:Nat) (t:TypeId) (cs:Array Value) (d:TypeDesc)
  (i:tmps.getD p undef=rF (some ⟨g,0,rJ⟩)) (e:Blk w g t cs)
  (j:P.underlying ty=some d) (c:(match d with| .struct _| .array _ _=>true|_=>false)=true) (f:(P.info? ty).map (·.size)=some cs.size):
  (results b tmps).run P w=.ok (.tuple #[.agg cs,tmps.getD q undef]) w:=by
 have a:tmps[p]?.getD undef=rF (some ⟨g,0,rJ⟩):=(by simpa using i);simp[results,h,a,asAddr,run_loadVar_row w g t ty cs (0,0) d e j c f]
theorem Blk.set {w:World} {g:Nat} {t:TypeId} {cs:Array Value}(h:Blk w g t cs)(i:Nat)(u:Value):Blk (w.setCell ⟨g,i,rJ⟩ u) g t (cs.setIfInBounds i u):=heap_setCell_same w g i cs t u h
theorem Blk.far {w:World} {g:Nat} {t:TypeId} {cs:Array Value}(h:Blk w g t cs) {p:Addr}(hp:g≠p.block)(u:Value):Blk (w.setCell p u) g t cs:=(Below.heap_setCell w p u g hp).trans h
theorem Hp {P:Program} {b:Func} {p:Tmp} {ty:TypeId} (h:b.results=#[.cell p ty]) (tmps:Array Value) (w:World) (g:Nat) (t:TypeId) (cs:Array Value) (d:TypeDesc)
  (i:tmps.getD p undef=rF (some ⟨g,0,rJ⟩)) (e:Blk w g t cs)
  (j:P.underlying ty=some d) (c:(match d with| .struct _| .array _ _=>true|_=>false)=true) (f:(P.info? ty).map (·.size)=some cs.size):
  (results b tmps).run P w=.ok (.agg cs) w:=by
 have a:tmps[p]?.getD undef=rF (some ⟨g,0,rJ⟩):=(by simpa using i);simp[results,h,a,asAddr,run_loadVar_row w g t ty cs (0,0) d e j c f]
end
end Go.Proofs.YtfofaiommeckbaaGreat
namespace Go.Proofs.YtfofaiommeckbaaGreat.WalkM
def IsLev (x l:Nat):Prop:=x%2^(l+1)=2^l-1
def anc (x j:Nat):Nat:=x/2^(j+1)*2^(j+1)+(2^j-1)
theorem pow_pos' (k:Nat):0<2^k:=aQ (by simp)
theorem ones_mod {m k:Nat}(h:k<=m):(2^m-1)%2^k=2^k-1:=by
 obtain⟨d,rfl⟩:∃d,m=k+d:=⟨m-k,by omega⟩;have hk:=pow_pos' k;have hd:=pow_pos' d;rw[aR];have e:2^k*2^d-1=2^k-1+2^k*(2^d-1):=by
  rw[Nat.mul_sub_one];have:2^k<=2^k*2^d:=Nat.le_mul_of_pos_right _ hd;omega
 rw[e,aS];exact aT (by omega)
theorem lev_lt {x l m:Nat}(a:IsLev x l)(b:IsLev x m):¬l<m:=by
 intro h;unfold IsLev at a b;have c:x%2^(l+1)=2^(l+1)-1:=by
  have h2:x%2^(m+1)%2^(l+1)=x%2^(l+1):=Nat.mod_mod_of_dvd _ (Nat.pow_dvd_pow 2 (by omega));rw[b,ones_mod (by omega)]at h2;exact h2.symm
 rw[a,aN]at c;have:=pow_pos' l;omega
theorem lev_unique {x l m:Nat}(hl:IsLev x l)(hm:IsLev x m):l=m:=by
 have:=lev_lt hl hm;have:=lev_lt hm hl;omega
theorem anc_lev (x j:Nat):IsLev (anc x j) j:=by
 unfold IsLev anc;rw[aU,Nat.mul_add_mod];have:=pow_pos' j;exact aT (by rw[aN];omega)
theorem anc_self {x l:Nat}(h:IsLev x l):anc x l=x:=by
 unfold anc;rw[<-h,aU];exact aV x _
theorem anc_div {x j k:Nat}(h:j<=k):anc x j/2^(k+1)=x/2^(k+1):=by
 obtain⟨d,rfl⟩:∃d,k=j+d:=⟨k-j,by omega⟩;have hp:=pow_pos' (j+1);have h1:2^j-1<2^(j+1):=by
  have:=pow_pos' j;rw[aN];omega
 rw[show j+d+1=j+1+d from by omega,aR,<-aO,<-aO]
 congr 1
 unfold anc;rw[aU,Nat.mul_add_div hp,aW h1,Nat.add_zero]
theorem anc_anc {x j k:Nat}(h:j<=k):anc (anc x j) k=anc x k:=by
 unfold anc;rw[show(x/2^(j+1)*2^(j+1)+(2^j-1))=anc x j from rfl,anc_div h]
def tones:Nat->Nat->Nat
 |0,_=>0
 |f+1,x=>if x%2=1 then tones f (x/2)+1 else 0
theorem tones_lev:∀f x,x+1<2^f->IsLev x (tones f x):=by
 intro f
 induction f with
 |zero=>intro x h;simp at h
 |succ f ih=>
  intro x h;unfold tones
  by_cases hx:x%2=1
  ·rw[iP hx];have a:=ih (x/2) (by rw[aN]at h;omega);unfold IsLev at a|-;rw[aN,aU,aX,hx,a];have:=pow_pos' (tones f (x/2));rw[aN];omega
  ·rw[iN hx];unfold IsLev
   simp;omega
theorem tones_lt:∀f x,x+1<2^f->tones f x<f:=by
 intro f
 induction f with
 |zero=>intro x h;simp at h
 |succ f ih=>
  intro x h;unfold tones
  split
  ·have:=ih (x/2) (by rw[aN]at h;omega);omega
  ·omega
def lev (x:Nat):Nat:=tones 17 x
theorem lev_is {x:Nat}(h:x<=131070):IsLev x (lev x):=tones_lev 17 x (by omega)
theorem lev_le {x:Nat}(h:x<=131070):lev x<=16:=by have:=tones_lt 17 x (by omega);unfold lev;omega
theorem lev_eq {x l:Nat}(h:x<=131070)(hl:IsLev x l):lev x=l:=lev_unique (lev_is h) hl
theorem anc_bounds (x j:Nat):x/2^(j+1)*2^(j+1)<=x/\x<x/2^(j+1)*2^(j+1)+2^(j+1):=by
 have h:=aV x (2^(j+1));have h2:=aL x (pow_pos' (j+1));rw[aU]at h;omega
end Go.Proofs.YtfofaiommeckbaaGreat.WalkM
namespace Go.Proofs.YtfofaiommeckbaaGreat.WalkM
def pop1 (n:Nat):Nat:=((n/2)&&&6148914691236517205)+(n&&&6148914691236517205)
def pop2 (n:Nat):Nat:=((n/4)&&&3689348814741910323)+(n&&&3689348814741910323)
def pop3 (n:Nat):Nat:=(n/16+n)&&&1085102592571150095
def pop4 (n:Nat):Nat:=n+n/256
def pop5 (n:Nat):Nat:=n+n/65536
def pop6 (n:Nat):Nat:=n+n/4294967296
def popc (n:Nat):Nat:=pop6 (pop5 (pop4 (pop3 (pop2 (pop1 n)))))&&&127
def fits (n:Nat):Bool:=(aC 17).any fun d=>n==2^d
def chk (t:Nat->Bool):Nat->Nat->Bool
 |0,lo=>t lo
 |k+1,lo=>chk t k lo&&chk t k (lo+2^k)
theorem chk_all (t:Nat->Bool):∀k a,chk t k a=true->∀n,a<=n->n<a+2^k->t n=true:=by
 intro k
 induction k with
 | zero => intro a h n b h2;obtain rfl:n=a:=by omega
           exact h
 |succ k ih=>
  intro a h n b h2;simp only[chk,Bool.and_eq_true]at h;rw[aN]at h2
  by_cases hn:n<a+2^k
  ·exact ih a h.1 n b hn
  ·exact ih (a+2^k) h.2 n (by omega) (by omega)
theorem fits_iff (n:Nat):fits n=true↔∃d,d<=16/\n=2^d:=by
 unfold fits;rw[List.any_eq_true];constructor
 ·rintro⟨d,hd,h⟩;exact⟨d,by have:=List.mem_range.1 hd;omega,by simpa using h⟩
 ·rintro⟨d,hd,rfl⟩;exact⟨d,List.mem_range.2 (by omega),by simp⟩
def tst (n:Nat):Bool:=(popc n==1)==(n==2^aY n&&n !=0)
theorem popc_0:chk tst 12 0=true:=by decide+kernel
theorem popc_1:chk tst 12 4096=true:=by decide+kernel
theorem popc_2:chk tst 12 8192=true:=by decide+kernel
theorem popc_3:chk tst 12 12288=true:=by decide+kernel
theorem popc_4:chk tst 12 16384=true:=by decide+kernel
theorem popc_5:chk tst 12 20480=true:=by decide+kernel
theorem popc_6:chk tst 12 24576=true:=by decide+kernel
theorem popc_7:chk tst 12 28672=true:=by decide+kernel
theorem popc_8:chk tst 12 32768=true:=by decide+kernel
theorem popc_9:chk tst 12 36864=true:=by decide+kernel
theorem popc_10:chk tst 12 40960=true:=by decide+kernel
theorem popc_11:chk tst 12 45056=true:=by decide+kernel
theorem popc_12:chk tst 12 49152=true:=by decide+kernel
theorem popc_13:chk tst 12 53248=true:=by decide+kernel
theorem popc_14:chk tst 12 57344=true:=by decide+kernel
theorem popc_15:chk tst 12 61440=true:=by decide+kernel
theorem popc_log (n:Nat)(h:n<=65536):(popc n==1)=(n==2^aY n&&n !=0):=by
 have a:tst n=true:=by
  by_cases e:n=65536
  ·subst e;decide+kernel
  ·obtain⟨k,hk,b⟩:∃k,k<16/\(4096*k<=n/\n<4096*k+2^12):=⟨n/4096,by omega,by omega,by omega⟩;obtain rfl|rfl|rfl|rfl|rfl|rfl|rfl|rfl|rfl|rfl|rfl|rfl|rfl|rfl|rfl|rfl:k=0\/k=1\/k=2\/k=3\/k=4\/k=5\/k=6\/k=7\/k=8\/k=9\/k=10\/k=11\/k=12\/k=13\/k=14\/k=15:=by omega
   ·exact chk_all _ 12 _ popc_0 n (by omega) (by omega)
   ·exact chk_all _ 12 _ popc_1 n (by omega) (by omega)
   ·exact chk_all _ 12 _ popc_2 n (by omega) (by omega)
   ·exact chk_all _ 12 _ popc_3 n (by omega) (by omega)
   ·exact chk_all _ 12 _ popc_4 n (by omega) (by omega)
   ·exact chk_all _ 12 _ popc_5 n (by omega) (by omega)
   ·exact chk_all _ 12 _ popc_6 n (by omega) (by omega)
   ·exact chk_all _ 12 _ popc_7 n (by omega) (by omega)
   ·exact chk_all _ 12 _ popc_8 n (by omega) (by omega)
   ·exact chk_all _ 12 _ popc_9 n (by omega) (by omega)
   ·exact chk_all _ 12 _ popc_10 n (by omega) (by omega)
   ·exact chk_all _ 12 _ popc_11 n (by omega) (by omega)
   ·exact chk_all _ 12 _ popc_12 n (by omega) (by omega)
   ·exact chk_all _ 12 _ popc_13 n (by omega) (by omega)
   ·exact chk_all _ 12 _ popc_14 n (by omega) (by omega)
   ·exact chk_all _ 12 _ popc_15 n (by omega) (by omega)
 simpa [tst]using a
theorem popc_fits (n:Nat)(h:n<=65536):(popc n==1)=fits n:=by
 rw[popc_log n h,Bool.eq_iff_iff,fits_iff];simp only[Bool.and_eq_true,beq_iff_eq,bne_iff_ne];constructor
 ·rintro⟨b,h2⟩;refine⟨aY n,?_,b⟩;rcases aJ 16 (aY n)with a|a
  ·have:2^17<=2^aY n:=aZ (by omega) a;omega
  ·exact a
 ·rintro⟨d,c,rfl⟩;rw[Nat.log2_two_pow];have:=aQ (show 2^d≠0 by simp);exact⟨rfl,by omega⟩
end Go.Proofs.YtfofaiommeckbaaGreat.WalkM
namespace Go.Proofs.YtfofaiommeckbaaGreat.WalkM
theorem lev_root {x d l:Nat}(hx:x+1<2^(d+1))(a:IsLev x l):l<=d/\(l=d↔x=2^d-1):=by
 have c:=pow_pos' d;unfold IsLev at a;rw[aN]at hx
 by_cases h:l<=d
 ·refine⟨h,?_,?_⟩
  ·rintro rfl;rw[aT (by rw[aN];omega)]at a;exact a
  ·intro e;have h2:IsLev x d:=by
    unfold IsLev;rw[aT (by rw[aN];omega)];exact e
   exact lev_unique a h2
 ·exfalso;have b:2^(d+1)<=2^l:=aZ (by omega) (by omega);rw[aN]at b;rw[aT (by rw[aN];omega)]at a;omega
theorem anc_root {x d:Nat}(hx:x<2^(d+1)):anc x d=2^d-1:=by
 unfold anc;rw[aW hx];omega
theorem anc_le {x d j:Nat}(hx:x<2^(d+1))(c:j<=d):anc x j+1<2^(d+1):=by
 have b:=pow_pos' (j+1);have f:=pow_pos' j;obtain⟨e,rfl⟩:∃e,d=j+e:=⟨d-j,by omega⟩;have a:x/2^(j+1)<2^e:=by
  rw[bA b,<-aR];rw[show e+(j+1)=j+e+1 by omega];exact hx
 have h2:(x/2^(j+1)+1)*2^(j+1)<=2^e*2^(j+1):=bB _ a;rw[<-aR,bC,aP,show e+(j+1)=j+e+1 by omega]at h2;unfold anc;have h3:2^(j+1)=2*2^j:=(by rw[aN];omega);omega
end Go.Proofs.YtfofaiommeckbaaGreat.WalkM
namespace Go.Proofs.YtfofaiommeckbaaGreat
namespace ShaM
open WireM
def rot (x n:Nat):Nat:=x/2^n+x%2^n*2^(32-n)
def chN (e f g:Nat):Nat:=(e&&&f)^^^((4294967295-e)&&&g)
def majN (a b c:Nat):Nat:=((a&&&b)^^^(a&&&c))^^^(b&&&c)
def s0N (x:Nat):Nat:=(rot x 7^^^rot x 18)^^^(x/8)
def s1N (x:Nat):Nat:=(rot x 17^^^rot x 19)^^^(x/1024)
def S0N (x:Nat):Nat:=(rot x 2^^^rot x 13)^^^rot x 22
def S1N (x:Nat):Nat:=(rot x 6^^^rot x 11)^^^rot x 25
theorem rot_lt {x n:Nat}(hx:x<4294967296)(c:n<=32):rot x n<4294967296:=by
 have e:(4294967296:Nat)=2^n*2^(32-n):=(by rw[<-aR,show n+(32-n)=32 by omega]);have a:0<2^n:=aQ (by simp);have d:0<2^(32-n):=aQ (by simp);have b:x/2^n<2^(32-n):=(by rw[bA a,aU,<-e];exact hx);have h2:=aL x a;unfold rot;rw[e];have h3:(x%2^n+1)*2^(32-n)<=2^n*2^(32-n):=bB _ h2;rw[bC]at h3;omega
theorem rot_or {x n:Nat}(hx:x<4294967296)(f:n<=32):(x*2^(32-n))%4294967296|||x/2^n=rot x n:=by
 have e:(4294967296:Nat)=2^n*2^(32-n):=(by rw[<-aR,show n+(32-n)=32 by omega]);have d:0<2^n:=aQ (by simp);have c:x/2^n<2^(32-n):=(by rw[bA d,aU,<-e];exact hx);have h2:(x*2^(32-n))%4294967296=x%2^n*2^(32-n):=(by rw[e,Nat.mul_mod_mul_right]);have h3:=Nat.shiftLeft_add_eq_or_of_lt (a:=x%2^n) (b:=x/2^n) (i:=32-n) c;rw[Nat.shiftLeft_eq]at h3;rw[h2,<-h3,rot,Nat.add_comm]
theorem rot_zero (x:Nat):rot x 0=x:=by simp[rot,Nat.mod_one]
theorem rot_succ {x n:Nat}(a:x<4294967296)(f:n<32):rot x (n+1)=rot x n/2+rot x n%2*2147483648:=by
 have b:(2147483648:Nat)=2^n*2^(31-n):=(by rw[<-aR,show n+(31-n)=31 by omega]);have e2:2^(32-n)=2*2^(31-n):=(by rw[show 32-n=(31-n)+1 by omega,aN];omega);have e3:2^(n+1)=2^n*2:=aN 2 n;have g:0<2^n:=aQ (by simp);have d1:x/2^(n+1)=x/2^n/2:=(by rw[e3,aO]);have e:x%2^(n+1)=x%2^n+2^n*(x/2^n%2):=(by rw[e3,aX]);unfold rot;rw[d1,e,e2,show 32-(n+1)=31-n by omega,b];generalize 2^(31-n)=p;generalize x/2^n=q;generalize x%2^n=r;generalize 2^n=s;have c:(q+r*(2*p))/2=q/2+r*p:=by
  rw[show r*(2*p)=2*(r*p) by rw[bD],Nat.add_mul_div_left _ _ (by omega)]
 have d:(q+r*(2*p))%2=q%2:=by
  rw[show r*(2*p)=2*(r*p) by rw[bD],aS]
 rw[c,d,bC];rw[show s*(q%2)*p=q%2*(s*p) by rw[aU s,bE]];omega
theorem and_lt32 {a b:Nat}(h:a<4294967296):a&&&b<4294967296:=Nat.lt_of_le_of_lt Nat.and_le_left h
theorem xor_lt32 {a b:Nat}(ha:a<4294967296)(hb:b<4294967296):a^^^b<4294967296:=Nat.xor_lt_two_pow (n:=32) ha hb
theorem chN_lt {e f g:Nat}(he:e<4294967296):chN e f g<4294967296:=xor_lt32 (and_lt32 he) (and_lt32 (by omega))
theorem majN_lt {a b c:Nat}(ha:a<4294967296)(hb:b<4294967296):majN a b c<4294967296:=xor_lt32 (xor_lt32 (and_lt32 ha) (and_lt32 ha)) (and_lt32 hb)
theorem S0N_lt {x:Nat}(hx:x<4294967296):S0N x<4294967296:=xor_lt32 (xor_lt32 (rot_lt hx (by omega)) (rot_lt hx (by omega))) (rot_lt hx (by omega))
theorem S1N_lt {x:Nat}(hx:x<4294967296):S1N x<4294967296:=xor_lt32 (xor_lt32 (rot_lt hx (by omega)) (rot_lt hx (by omega))) (rot_lt hx (by omega))
theorem tb_mod (x i:Nat):x/2^i%2=(x.testBit i).toNat:=by rw[Nat.testBit_eq_decide_div_mod_eq];rcases bF (x/2^i)with h|h<;>simp[h]
theorem not_bit {e i:Nat}(he:e<4294967296)(hi:i<32):(4294967295-e).testBit i= !(e.testBit i):=by
 have:=Nat.testBit_two_pow_sub_succ (n:=32) (x:=e) he i;rw[show(2:Nat)^32-(e+1)=4294967295-e by omega]at this;rw[this,dT hi,Bool.true_and]
theorem chN_bit {e f g i:Nat}(he:e<4294967296)(hi:i<32):chN e f g/2^i%2=if e/2^i%2=1 then f/2^i%2 else g/2^i%2:=by
 rw[tb_mod,tb_mod,tb_mod,tb_mod,chN,bG,bH,bH,not_bit he hi];cases e.testBit i<;>cases f.testBit i<;>cases g.testBit i<;>rfl
theorem majN_bit (a b c i:Nat):majN a b c/2^i%2=if 2<=a/2^i%2+b/2^i%2+c/2^i%2 then 1 else 0:=by
 rw[tb_mod,tb_mod,tb_mod,tb_mod,majN,bG,bG,bH,bH,bH];cases a.testBit i<;>cases b.testBit i<;>cases c.testBit i<;>rfl
theorem mod_succ (x i:Nat):x%2^(i+1)=x%2^i+x/2^i%2*2^i:=by rw[aN,aX,aU (2^i)]
theorem mod_full {x:Nat}(h:x<4294967296):x%2^32=x:=aT h
-- the words of a block
def wNext (B l:List Nat)(t:Nat):Nat:=
 if t<16 then((B.getD (4*t) 0*256+B.getD (4*t+1) 0)*256+B.getD (4*t+2) 0)*256+B.getD (4*t+3) 0
 else(s1N (l.getD (t-2) 0)+l.getD (t-7) 0+s0N (l.getD (t-15) 0)+l.getD (t-16) 0)%4294967296
def wL (B:List Nat):Nat->List Nat
 |0=>[]
 |t+1=>wL B t++[wNext B (wL B t) t]
theorem wL_len (B:List Nat)(t:Nat):(wL B t).length=t:=by
 induction t with
 |zero=>rfl
 |succ t ih=>rw[wL,aD,ih];rfl
theorem wNext_lt {B l:List Nat}(a:∀x∈B,x<256)(t:Nat):wNext B l t<4294967296:=by
 have g:∀i,B.getD i 0<256:=by
  intro i;rw[aE]
  by_cases h:i<B.length
  ·rw[aF h];exact a _ (aG h)
  ·rw[aH (by omega)];decide
 unfold wNext
 split
 ·have b:=g (4*t);have c:=g (4*t+1);have h2:=g (4*t+2);have h3:=g (4*t+3);omega
 ·omega
theorem wL_lt {B:List Nat}(hB:∀x∈B,x<256):∀t,∀x∈wL B t,x<4294967296:=by
 intro t
 induction t with
 |zero=>intro x hx;cases hx
 |succ t ih=>
  intro x hx;rw[wL,List.mem_append]at hx;rcases hx with hx|hx
  ·exact ih x hx
  ·simp at hx;rw[hx];exact wNext_lt hB t
-- one round
def rnd (k w:Nat)(v:List Nat):List Nat:=
 let t1:=v.getD 7 0+S1N (v.getD 4 0)+chN (v.getD 4 0) (v.getD 5 0) (v.getD 6 0)+k+w
 let t2:=S0N (v.getD 0 0)+majN (v.getD 0 0) (v.getD 1 0) (v.getD 2 0)
 [(t1+t2)%4294967296,v.getD 0 0,v.getD 1 0,v.getD 2 0,(v.getD 3 0+t1)%4294967296,v.getD 4 0,v.getD 5 0,v.getD 6 0]
def KL:List Nat:=[1116352408,1899447441,3049323471,3921009573,961987163,1508970993,2453635748,2870763221,3624381080,310598401,607225278,1426881987,1925078388,2162078206,2614888103,3248222580,3835390401,4022224774,264347078,604807628,770255983,1249150122,1555081692,1996064986,2554220882,2821834349,2952996808,3210313671,3336571891,3584528711,113926993,338241895,666307205,773529912,1294757372,1396182291,1695183700,1986661051,2177026350,2456956037,2730485921,2820302411,3259730800,3345764771,3516065817,3600352804,4094571909,275423344,430227734,506948616,659060556,883997877,958139571,1322822218,1537002063,1747873779,1955562222,2024104815,2227730452,2361852424,2428436474,2756734187,3204031479,3329325298]
def HL0:List Nat:=[1779033703,3144134277,1013904242,2773480762,1359893119,2600822924,528734635,1541459225]
def rndsN (W v:List Nat):Nat->List Nat
 |0=>v
 |t+1=>rnd (KL.getD t 0) (W.getD t 0) (rndsN W v t)
def stepN (h B:List Nat):List Nat:=(aC 8).map fun i=>(h.getD i 0+(rndsN (wL B 64) h 64).getD i 0)%4294967296
def tailL (n:Nat):List Nat:=128::(List.replicate ((119-n%64)%64) 0++beN 8 (8*n))
def padL (b:List Nat):List Nat:=b++tailL b.length
def blocksN (m:List Nat)(h:List Nat):Nat->List Nat
 |0=>h
 |i+1=>stepN (blocksN m h i) ((m.drop (64*i)).take 64)
def shaF (b:List Nat):List Nat:=((blocksN (padL b) HL0 ((padL b).length/64)).map (beN 4)).flatten
theorem KL_len:KL.length=64:=by decide
theorem HL0_len:HL0.length=8:=by decide
theorem KL_lt:∀x∈KL,x<4294967296:=by decide
theorem HL0_lt:∀x∈HL0,x<4294967296:=by decide
theorem stepN_len (h B:List Nat):(stepN h B).length=8:=by simp[stepN]
theorem stepN_lt (h B:List Nat):∀x∈stepN h B,x<4294967296:=by
 intro x hx;obtain⟨i,_,rfl⟩:=List.mem_map.1 hx;omega
theorem getD_lt32 {l:List Nat}(h:∀x∈l,x<4294967296)(i:Nat):l.getD i 0<4294967296:=by
 rw[aE]
 by_cases hi:i<l.length
 ·rw[aF hi];exact h _ (aG hi)
 ·rw[aH (by omega)];decide
theorem rnd_lt {k w:Nat} {v:List Nat}(hv:∀x∈v,x<4294967296):∀x∈rnd k w v,x<4294967296:=by
 have g:=getD_lt32 hv;intro x hx;simp only[rnd,aB,List.not_mem_nil,or_false]at hx;rcases hx with rfl|rfl|rfl|rfl|rfl|rfl|rfl|rfl<;>first|exact g _|omega
theorem rndsN_ok {W v:List Nat}(hl:v.length=8)(hv:∀x∈v,x<4294967296):∀t,(rndsN W v t).length=8/\∀x∈rndsN W v t,x<4294967296:=by
 intro t
 induction t with
 |zero=>exact⟨hl,hv⟩
 |succ t ih=>exact⟨rfl,rnd_lt ih.2⟩
theorem blocksN_ok (m:List Nat) {h:List Nat}(hl:h.length=8)(hh:∀x∈h,x<4294967296):∀i,(blocksN m h i).length=8/\∀x∈blocksN m h i,x<4294967296:=by
 intro i
 induction i with
 |zero=>exact⟨hl,hh⟩
 |succ i ih=>exact⟨stepN_len _ _,stepN_lt _ _⟩
theorem padL_len (b:List Nat):(padL b).length%64=0:=by
 simp only[padL,tailL,aD,List.length_cons,List.length_replicate,beN_len];omega
end ShaM
end Go.Proofs.YtfofaiommeckbaaGreat
namespace Go.Proofs.YtfofaiommeckbaaGreat.WalkM
def plo (x j:Nat):Nat:=x/2^(j+1)*2^(j+1)
def phi (x j:Nat):Nat:=plo x j+(2^(j+1)-2)
theorem anc_plo (x j:Nat):anc x j=plo x j+(2^j-1):=rfl
theorem mid_eq (x j:Nat):(plo x j+phi x j)/2=anc x j:=by
 have:=pow_pos' j;unfold phi;rw[anc_plo,aN];omega
theorem halves (x j:Nat):(plo x j=plo x (j+1)/\phi x j+1=anc x (j+1)/\x<=anc x (j+1))\/(plo x j=anc x (j+1)+1/\phi x j=phi x (j+1)/\anc x (j+1)<x):=by
 have c:=anc_bounds x j;have f:=pow_pos' j;have e2:x/2^(j+1+1)=x/2^(j+1)/2:=(by rw[aN 2 (j+1),aO]);have e3:2^(j+1+1)=2*2^(j+1):=(by rw[aN 2 (j+1)];omega);have a:2^(j+1)=2*2^j:=(by rw[aN];omega);have d:2^(j+1+1)=4*2^j:=(by rw[e3,a];omega);unfold phi;rw[anc_plo];unfold plo;rw[e2];obtain⟨q,e⟩:=eX (x/2^(j+1));rw[<-e]at c|-;rcases bF q with h|h
 ·obtain⟨r,rfl⟩:∃r,q=2*r:=⟨q/2,by omega⟩
  left
  have b:2*r*2^(j+1)=2*r/2*2^(j+1+1):=by
   rw[Nat.mul_div_cancel_left _ (by omega),e3,<-bE,aU r 2]
  rw[b]at c|-;rw[d,a]at*;refine⟨rfl,?_,?_⟩<;>omega
 ·obtain⟨r,rfl⟩:∃r,q=2*r+1:=⟨q/2,by omega⟩
  right
  have b:(2*r+1)*2^(j+1)=(2*r+1)/2*2^(j+1+1)+2^(j+1):=by
   rw[show(2*r+1)/2=r by omega,bC,e3,aP,<-bE,aU r 2]
  rw[b]at c|-;rw[d,a]at*;refine⟨?_,?_,?_⟩<;>omega
theorem plo_root {x d:Nat}(hx:x<2^(d+1)):plo x d=0:=by
 unfold plo;rw[aW hx,Nat.zero_mul]
theorem phi_root {x d:Nat}(hx:x<2^(d+1)):phi x d=2^(d+1)-2:=by
 unfold phi;rw[plo_root hx];omega
theorem phi_le {x d j:Nat}(hx:x<2^(d+1))(b:j<=d):phi x j+2<=2^(d+1):=by
 have h:=anc_le hx b;have f:=pow_pos' j;have c:=pow_pos' (j+1);obtain⟨e,rfl⟩:∃e,d=j+e:=⟨d-j,by omega⟩;have a:x/2^(j+1)<2^e:=by
  rw[bA c,<-aR];rw[show e+(j+1)=j+e+1 by omega];exact hx
 have h2:(x/2^(j+1)+1)*2^(j+1)<=2^e*2^(j+1):=bB _ a;rw[<-aR,bC,aP,show e+(j+1)=j+e+1 by omega]at h2;unfold phi plo;have h3:2^(j+1)=2*2^j:=(by rw[aN];omega);omega
theorem anc_ne {x j:Nat}(h:¬IsLev x j):anc x j≠x:=by
 intro e;exact h (e▸anc_lev x j)
end Go.Proofs.YtfofaiommeckbaaGreat.WalkM
