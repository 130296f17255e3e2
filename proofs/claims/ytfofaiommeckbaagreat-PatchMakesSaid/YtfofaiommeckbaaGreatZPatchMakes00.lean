/- A small vocabulary for slices whose elements are one cell each: a slice that reads as a list; a slice that the call itself owns; append. -/
import Derived.Test.YtfofaiommeckbaaGreatZPatchMakesB
import Derived.WalkKit
import Derived.Laws.CopyOwn
import Derived.Laws.AppendOwnNone
import Derived.Lib.Hide
import Derived.Deep.Draws
open Nat renaming zero_le → aA, lt_or_ge → aB, mul_le_mul_left → aC
open Array renaming getElem?_eq_none → aD
set_option linter.unusedVariables false
set_option maxRecDepth 100000
set_option maxHeartbeats 40000000
namespace Go.Proofs.YtfofaiommeckbaaGreat
open Go.RowKit
section
structure Elem (P:Program) (t e:TypeId) (z:Value) (bytes:Nat):Prop where
 ty:P.underlying t=some (.slice e)
 inf:(P.info? e).map (fun i=>(i.zero,i.size,i.bytes))=some (some z,1,bytes)
 one:z.cells.size=1
 low:bytes≤64
def Rd (w:World)(v:Value)(xs:List Value):Prop:=
 ∃a cap,v=.slice a xs.length cap∧xs.length≤cap∧cap≤maxLen∧
  ((xs=[]∧(a=none→cap=0))∨∃b off,a=some ⟨b,off,none⟩∧∀(j:Nat) u,xs[j]? =some u→w.cell? ⟨b,off+j,none⟩=some u)
def Own (w:World)(B:Nat)(e:TypeId)(v:Value)(xs:List Value):Prop:=w.ownsRow B e 1 v xs.length xs
theorem Own.rd {w:World} {B:Nat} {e:TypeId} {v:Value} {xs:List Value}(h:Own w B e v xs):Rd w v xs:=by
 have hc:=fun g=>World.ownsRow.cells (g:=g) h;obtain⟨_,h⟩:=h;rcases h with⟨rfl,h0⟩|⟨g,cap,cur,rfl,hg,hh,hn,hm,hs,ht⟩
 ·have:xs=[]:=List.eq_nil_of_length_eq_zero h0;subst this;exact⟨none,0,rfl,lR,aA _,.inl ⟨rfl,fun _=>rfl⟩⟩
 ·refine⟨_,cap,rfl,hn,hm,.inr ⟨g,0,rfl,?_⟩⟩;intro j u hu;have:=hc g rfl j u hu;simpa [Addr.add_lit]using this
theorem Rd.lt {w:World} {v:Value} {xs:List Value}(h:Rd w v xs):xs=[]∨∃b off cap,v=.slice (some ⟨b,off,none⟩) xs.length cap∧b<w.heap.size:=by
 obtain⟨a,cap,rfl,_,_,h|⟨b,off,rfl,hc⟩⟩:=h
 ·exact .inl h.1
 ·cases xs with
  |nil=>exact .inl rfl
  |cons x xs=>exact .inr ⟨b,off,cap,rfl,World.block_lt_of_cell? w _ (hc 0 x rfl)⟩
theorem Rd.below {w w':World} {B:Nat} {v:Value} {xs:List Value}(h:Rd w v xs)(hb:Below B w w')(hB:w.heap.size≤B):Rd w' v xs:=by
 obtain⟨a,cap,rfl,h1,h2,h|⟨b,off,rfl,hc⟩⟩:=h
 ·exact⟨a,cap,rfl,h1,h2,.inl h⟩
 ·refine⟨_,cap,rfl,h1,h2,.inr ⟨b,off,rfl,?_⟩⟩;intro j u hu;have:=hc j u hu;have hl:=World.block_lt_of_cell? w _ this;rw[hb.cell (by simp only at hl⊢;omega)];exact this
theorem Rd.alloc {w:World} {v:Value} {xs:List Value}(h:Rd w v xs)(o:Obj):Rd (w.alloc o) v xs:=
 h.below ((Below.refl w.heap.size _).alloc lR o) lR
theorem Own.nil (w:World)(B:Nat)(e:TypeId):Own w B e (.slice none 0 0) []:=World.ownsRow_nil w B e 1
theorem Own.alloc {w:World} {B:Nat} {e:TypeId} {v:Value} {xs:List Value}(h:Own w B e v xs)(o:Obj):Own (w.alloc o) B e v xs:=World.ownsRow.alloc h o
theorem Own.mono {w:World} {B B':Nat} {e:TypeId} {v:Value} {xs:List Value}(h:Own w B e v xs)(hB:B'≤B):Own w B' e v xs:=by
 obtain⟨h0,h|⟨g,cap,cur,hv,hg,r⟩⟩:=h
 ·exact⟨h0,.inl h⟩
 ·exact⟨h0,.inr ⟨g,cap,cur,hv,by omega,r⟩⟩
theorem Own.below {w w':World} {B B':Nat} {e:TypeId} {v:Value} {xs:List Value}(h:Own w B e v xs)(hb:Below B' w w')(hB:w.heap.size≤B'):Own w' B e v xs:=by
 obtain⟨h0,h|⟨g,cap,cur,hv,hg,hh,r⟩⟩:=h
 ·exact⟨h0,.inl h⟩
 ·refine⟨h0,.inr ⟨g,cap,cur,hv,hg,?_,r⟩⟩;have hl:g<w.heap.size:=by
   rcases aB g w.heap.size with h'|h'
   ·exact h'
   ·simp[aD h']at hh
  rw[hb.block g (by omega)];exact hh
section
variable {P:Program} {w:World}
theorem An {ops:Array Oper} {rest:List Oper} {o:Oper} {a:Act} {Q:Exit→Act→World→Prop} (hgd:o.guard=none) (s x:Operand) (t:TypeId)
  (ho:o.op=.call {callee:=.builtin .append,args:=#[s,x],argTypes:=#[t,t]})
  (B:Nat) (e:TypeId) (z:Value) (bytes:Nat) (F:Elem P t e z bytes)
  (v:Value) (xs:List Value) (hs:a.eval s=v) (hown:Own w B e v xs)
  (ad:Addr) (u:Value) (hx:a.eval x=.slice (some ad) 1 1) (hu:w.cell? ad=some u) (h1:u.oneCell'=true)
  (hn:xs.length<1099511627776) (hB:B≤w.heap.size)
  (h:∀v' w',Own w' B e v' (xs++[u])→w.grownBy w' v.ownBlock→Below B w w'→wpList P ops Q rest (a.put o.dst v') w'):wpList P ops Q (o::rest) a w:=by
 obtain⟨i,hi,hz,hsz,hby⟩:=info_parts F.inf;have low:=F.low;refine wpList_append_own w hgd s x t ho B e i z 1 bytes F.ty hi hz hsz hby F.one (by omega) v xs.length xs hs hown ad 1 1 [u] hx rfl ?_ (by simpa using h1) ?_ ?_ hB ?_
 ·intro j y hy;cases j with
  |zero=>
   have:ad.add 0=ad:=(by unfold Addr.add;split<;>simp_all);rw[this];simp at hy;rw[←hy];exact hu
  |succ j=>simp at hy
 ·unfold maxLen;omega
 ·have:(xs.length+1)*bytes≤(xs.length+1)*64:=aC _ low;omega
 ·intro v' w' h2 h3 _;have e1:(xs++[u]).length=xs.length+1:=(by simp);refine h v' w' (by unfold Own;rw[e1];exact h2) h3 ?_;refine(Below.refl B w).grown h3 hB ?_;intro k hk;exact(World.ownsRow.lt hown k hk).1
theorem If {ops:Array Oper} {rest:List Oper} {o:Oper} {a:Act} {Q:Exit→Act→World→Prop} (hgd:o.guard=none) (s x:Operand) (t:TypeId)
  (ho:o.op=.call {callee:=.builtin .append,args:=#[s,x],argTypes:=#[t,t]})
  (B:Nat) (e:TypeId) (z:Value) (bytes:Nat) (F:Elem P t e z bytes)
  (v:Value) (xs:List Value) (hs:a.eval s=v) (hown:Own w B e v xs)
  (ad:Addr) (cap:Nat) (ys:List Value) (hx:a.eval x=.slice (some ad) ys.length cap) (hu:∀(j:Nat) u,ys[j]? =some u→w.cell? (ad.add j)=some u) (h1:∀u∈ys,u.oneCell'=true)
  (hn:xs.length+ys.length<1099511627776) (hB:B≤w.heap.size)
  (h:∀v' w',Own w' B e v' (xs++ys)→w.grownBy w' v.ownBlock→Below B w w'→wpList P ops Q rest (a.put o.dst v') w'):wpList P ops Q (o::rest) a w:=by
 obtain⟨i,hi,hz,hsz,hby⟩:=info_parts F.inf;have low:=F.low;refine wpList_append_own w hgd s x t ho B e i z 1 bytes F.ty hi hz hsz hby F.one (by omega) v xs.length xs hs hown ad ys.length cap ys hx (by omega) hu h1 ?_ ?_ hB ?_
 ·unfold maxLen;omega
 ·have:(xs.length+ys.length)*bytes≤(xs.length+ys.length)*64:=aC _ low;omega
 ·intro v' w' h2 h3 _;have e1:(xs++ys).length=xs.length+ys.length:=(by simp);refine h v' w' (by unfold Own;rw[e1];exact h2) h3 ?_;refine(Below.refl B w).grown h3 hB ?_;intro k hk;exact(World.ownsRow.lt hown k hk).1
theorem Am {ops:Array Oper} {rest:List Oper} {o:Oper} {a:Act} {Q:Exit→Act→World→Prop} (hgd:o.guard=none) (s x:Operand) (t:TypeId)
  (ho:o.op=.call {callee:=.builtin .append,args:=#[s,x],argTypes:=#[t,t]})
  (B:Nat) (e:TypeId) (z:Value) (bytes:Nat) (F:Elem P t e z bytes)
  (v:Value) (xs:List Value) (hs:a.eval s=v) (hown:Own w B e v xs)
  (r:Value) (ys:List Value) (hx:a.eval x=r) (hr:Rd w r ys) (h1:∀u∈ys,u.oneCell'=true)
  (hn:xs.length+ys.length<1099511627776) (hB:B≤w.heap.size)
  (h:∀v' w',Own w' B e v' (xs++ys)→w.grownBy w' v.ownBlock→Below B w w'→wpList P ops Q rest (a.put o.dst v') w'):wpList P ops Q (o::rest) a w:=by
 obtain⟨ad,cap,rfl,_,_,⟨rfl,hcap⟩|⟨b,off,rfl,hc⟩⟩:=hr
 ·cases ad with
  |none=>
   obtain rfl:=hcap rfl;obtain⟨i,hi,_,_,_⟩:=info_parts F.inf;refine wpList_append_own_none hgd s x t ho B e i 1 F.ty hi v xs.length xs hs hown hx ?_;exact h v w (by simpa using hown) ⟨rfl,rfl,rfl,lR,fun _ _ _=>rfl⟩ bR
  |some ad=>exact If hgd s x t ho B e z bytes F v xs hs hown ad cap [] hx (by simp) h1 hn hB h
 ·exact If hgd s x t ho B e z bytes F v xs hs hown _ cap ys hx (fun j u hu=>by rw[Addr.add_lit];exact hc j u hu) h1 hn hB h
end
theorem Zbt {P:Program} (w:World) {T E len:Nat} {d:TypeDesc} (hT:P.underlying T=some (.array len E)) (hd:(match d with| .struct _| .array _ _=>true|_=>false)=false) (hE:P.underlying E=some d)
  (hs:(P.info? E).map (·.size)=some 1)
  (cs:Array Value) (k:IntKind) (i:Nat) (hi:i<len) (v:Value) (hv:cs[i]? =some v):
  (Instr.index T (.agg cs) (.int k (i:Int))).run P w=.ok v w:=by
 have ha:(isAgg E).run P w=.ok false w:=by
  unfold isAgg;rw[Sem.run_bind,run_underlying hE w];cases d<;>simp_all
 cases hq:P.info? E with
 |none=>simp[hq]at hs
 |some inf=>
  have hs1:inf.size=1:=(by simpa [hq]using hs);have h0:(0:Int)≤(i:Int)∧(i:Int)<(len:Int):=(by omega);simp[Instr.index,asIntOf,Sem.run_bind,run_underlying hT,h0,sizeOf,typeInfo,hq,hs1,part,ha,hv];intro h;omega
theorem Aq {w:World} {u:Value} {e:TypeId} {N:Nat}(hN:N=w.heap.size):(w.alloc (.cells #[u] e)).cell? ⟨N,0,none⟩=some u:=by
 subst hN;rw[cell_of_row _ _ _ _ _ _ (heap_alloc_new w _)];rfl
theorem Own.lit0 {w:World} {B N:Nat} {e:TypeId}(hN:N=w.heap.size)(hB:B≤N):Own (w.alloc (.cells #[] e)) B e (.slice (some ⟨N,0,none⟩) 0 0) []:=by
 subst hN;exact World.ownsRow_made w #[] 0 hB (aA _) rfl
theorem Own.full {w:World} {B:Nat} {e:TypeId} {cs:Array Value} {N:Nat}(hN:N=w.heap.size)(hB:B≤N)(hm:cs.size≤maxLen) {n:Nat}(hn:n=cs.size):
  Own (w.alloc (.cells cs e)) B e (.slice (some ⟨N,0,none⟩) n n) cs.toList:=by
 subst hn hN;refine⟨by simp,.inr ⟨w.heap.size,cs.size,cs,by simp,hB,heap_alloc_new w _,by simp,hm,by simp,?_⟩⟩;simp only[Nat.mul_one,Array.length_toList];rw[List.take_of_length_le (by simp)]
theorem Own.set {w:World} {B:Nat} {e:TypeId} {g n cap:Nat} {xs:List Value}(h:Own w B e (.slice (some ⟨g,0,none⟩) n cap) xs)(i:Nat)(u:Value):
  Own (w.setCell ⟨g,i,none⟩ u) B e (.slice (some ⟨g,0,none⟩) n cap) (xs.set i u):=by
 obtain⟨h0,h|⟨g',cap',cur,hv,hg,hh,hn,hm,hs,ht⟩⟩:=h
 ·cases h.1
 ·simp only[Value.slice.injEq,Option.some.injEq,Addr.mk.injEq,and_true]at hv;obtain⟨rfl,rfl,rfl⟩:=hv;refine⟨by simp,.inr ⟨g,cap,cur.setIfInBounds i u,by simp,hg,heap_setCell_same w g i cur e u hh,by simpa using hn,hm,by simpa using hs,?_⟩⟩;simp only[Array.toList_setIfInBounds,List.length_set];rw[List.take_set,ht]
theorem Own.setOther {w:World} {B:Nat} {e:TypeId} {v:Value} {xs:List Value}(h:Own w B e v xs) {a:Addr}(ha:v.ownBlock≠some a.block)(u:Value):Own (w.setCell a u) B e v xs:=by
 obtain⟨h0,h|⟨g,cap,cur,hv,hg,hh,r⟩⟩:=h
 ·exact⟨h0,.inl h⟩
 ·refine⟨h0,.inr ⟨g,cap,cur,hv,hg,?_,r⟩⟩;rw[Below.heap_setCell _ _ _ _ (fun e=>ha (by rw[hv];simp[Value.ownBlock,e]))];exact hh
theorem Own.drewN {w:World} {B:Nat} {e:TypeId} {v:Value} {xs:List Value}(h:Own w B e v xs)(n:Nat):Own (w.drewN n) B e v xs:=h
theorem Rd.drewN {w:World} {v:Value} {xs:List Value}(h:Rd w v xs)(n:Nat):Rd (w.drewN n) v xs:=h
theorem Aa {B:Nat} {a w:World}(h:Below B a w)(n:Nat):Below B a (w.drewN n):=h.trans ⟨rfl,rfl,rfl,lR,fun _ _=>rfl⟩
theorem Own.at {w:World} {B:Nat} {e:TypeId} {g n cap:Nat} {xs:List Value}(h:Own w B e (.slice (some ⟨g,0,none⟩) n cap) xs):
  (∀(j:Nat) u,xs[j]? =some u→w.cell? ⟨g,j,none⟩=some u)∧(∀j:Nat,w.frozen? ⟨g,j,none⟩=false):=by
 have hc:=fun g=>World.ownsRow.cells (g:=g) h;obtain⟨_,h|⟨g',cap',cur,hv,hg,hh,r⟩⟩:=h
 ·cases h.1
 ·simp only[Value.slice.injEq,Option.some.injEq,Addr.mk.injEq,and_true]at hv;obtain⟨rfl,_,rfl⟩:=hv;refine⟨?_,fun j=>frozen_of_row w g j cur e hh⟩;intro j u hu;have:=hc g rfl j u hu;simpa [Addr.add_lit]using this
theorem Eb {P:Program} {w:World} {ops:Array Oper} {rest:List Oper} {o:Oper} {a:Act} {Q:Exit→Act→World→Prop} (hgd:o.guard=none) (ty:TypeId) (x:Operand) (ho:o.op=.load ty x)
  (g:Nat) (hx:a.eval x=.pointer (some ⟨g,0,none⟩)) (t:TypeId) (cs:Array Value) (fr:Nat×Nat) (d:TypeDesc) (hg:w.heap[g]? =some (.cells cs t fr))
  (hu:P.underlying ty=some d) (hd:(match d with| .struct _| .array _ _=>true|_=>false)=true) (hi:(P.info? ty).map (·.size)=some cs.size)
  (h:wpList P ops Q rest (a.put o.dst (.agg cs)) w):wpList P ops Q (o::rest) a w:=
 wpList_load_row hgd ty x ho g hx t cs fr d hg hu hd hi h
theorem Ca {P:Program} {w:World} {ops:Array Oper} {rest:List Oper} {o:Oper} {a:Act} {Q:Exit→Act→World→Prop} (hw:Region.wanted o (yielded ops a.tmps)=true)
  (h:wpList P ops Q ({o with guard:=none}::rest) a w):wpList P ops Q (o::rest) a w:=by
 unfold wpList at h⊢;rw[if_pos hw];rw[if_pos (show Region.wanted {o with guard:=none} (yielded ops a.tmps)=true from rfl)]at h;exact h
end
section
theorem Own.form {w:World} {B:Nat} {e:TypeId} {v:Value} {xs:List Value}(h:Own w B e v xs):v=.slice none 0 0∨∃g cap,v=.slice (some ⟨g,0,none⟩) xs.length cap:=by
 obtain⟨_,h|⟨g,cap,cur,hv,_⟩⟩:=h
 ·exact .inl h.1
 ·exact .inr ⟨g,cap,hv⟩
theorem Own.oneCell {w:World} {B:Nat} {e:TypeId} {v:Value} {xs:List Value}(h:Own w B e v xs):v.oneCell'=true:=by
 rcases h.form with rfl|⟨g,cap,rfl⟩<;>rfl
section
variable {P:Program} {w:World}
end
end
section
structure ElemK (P:Program) (t e:TypeId) (z:Value) (k bytes:Nat):Prop where
 ty:P.underlying t=some (.slice e)
 inf:(P.info? e).map (fun i=>(i.zero,i.size,i.bytes))=some (some z,k,bytes)
 one:z.cells.size=k
 pos:0<k
 low:bytes≤512
theorem Fx {P:Program} {e:TypeId} {z:Value} {k bytes:Nat}(h:(P.info? e).map (fun i=>(i.zero,i.size,i.bytes))=some (some z,k,bytes)):
  ∃i,P.info? e=some i∧i.zero=some z∧i.size=k∧i.bytes=bytes:=by
 cases hi:P.info? e with
 |none=>simp[hi]at h
 |some i=>
  simp[hi]at h;exact⟨i,rfl,h.1,h.2.1,h.2.2⟩
def OwnK (w:World)(B:Nat)(e:TypeId)(k:Nat)(v:Value)(n:Nat)(xs:List Value):Prop:=w.ownsRow B e k v n xs
theorem OwnK.nil (w:World)(B:Nat)(e:TypeId)(k:Nat):OwnK w B e k (.slice none 0 0) 0 []:=World.ownsRow_nil w B e k
theorem OwnK.len {w:World} {B:Nat} {e:TypeId} {k:Nat} {v:Value} {n:Nat} {xs:List Value}(h:OwnK w B e k v n xs):xs.length=n*k:=h.1
theorem OwnK.alloc {w:World} {B:Nat} {e:TypeId} {k:Nat} {v:Value} {n:Nat} {xs:List Value}(h:OwnK w B e k v n xs)(o:Obj):OwnK (w.alloc o) B e k v n xs:=World.ownsRow.alloc h o
theorem OwnK.mono {w:World} {B B':Nat} {e:TypeId} {k:Nat} {v:Value} {n:Nat} {xs:List Value}(h:OwnK w B e k v n xs)(hB:B'≤B):OwnK w B' e k v n xs:=by
 obtain⟨h0,h|⟨g,cap,cur,hv,hg,r⟩⟩:=h
 ·exact⟨h0,.inl h⟩
 ·exact⟨h0,.inr ⟨g,cap,cur,hv,by omega,r⟩⟩
theorem OwnK.below {w w':World} {B B':Nat} {e:TypeId} {k:Nat} {v:Value} {n:Nat} {xs:List Value}(h:OwnK w B e k v n xs)(hb:Below B' w w')(hB:w.heap.size≤B'):OwnK w' B e k v n xs:=by
 obtain⟨h0,h|⟨g,cap,cur,hv,hg,hh,r⟩⟩:=h
 ·exact⟨h0,.inl h⟩
 ·refine⟨h0,.inr ⟨g,cap,cur,hv,hg,?_,r⟩⟩;have hl:g<w.heap.size:=by
   rcases aB g w.heap.size with h'|h'
   ·exact h'
   ·simp[aD h']at hh
  rw[hb.block g (by omega)];exact hh
theorem OwnK.out {w:World} {B:Nat} {e:TypeId} {k:Nat} {v:Value} {n:Nat} {xs:List Value}(h:OwnK w B e k v n xs)(hn:0<n):
  ∃g cap,v=.slice (some ⟨g,0,none⟩) n cap∧B≤g∧g<w.heap.size∧n≤cap∧cap≤maxLen∧(∀(j:Nat) u,xs[j]? =some u→w.cell? ⟨g,j,none⟩=some u)∧∃cur,w.heap[g]? =some (.cells cur e (0,0))∧cur.size=cap*k∧cur.toList.take (n*k)=xs:=by
 have hc:=fun g=>World.ownsRow.cells (g:=g) h;obtain⟨_,h⟩:=h;rcases h with⟨rfl,h0⟩|⟨g,cap,cur,rfl,hg,hh,hn,hm,hs,ht⟩
 ·omega
 ·refine⟨g,cap,rfl,hg,?_,hn,hm,?_,cur,hh,hs,ht⟩
  ·rcases aB g w.heap.size with h'|h'
   ·exact h'
   ·simp[aD h']at hh
  ·intro j u hu;have:=hc g rfl j u hu;simpa [Addr.add_lit]using this
section
variable {P:Program} {w:World}
theorem Jv {ops:Array Oper} {rest:List Oper} {o:Oper} {a:Act} {Q:Exit→Act→World→Prop} (hgd:o.guard=none) (s x:Operand) (t:TypeId)
  (ho:o.op=.call {callee:=.builtin .append,args:=#[s,x],argTypes:=#[t,t]})
  (B:Nat) (e:TypeId) (z:Value) (k bytes:Nat) (F:ElemK P t e z k bytes)
  (v:Value) (n:Nat) (xs:List Value) (hs:a.eval s=v) (hown:OwnK w B e k v n xs)
  (N:Nat) (ys:List Value) (hx:a.eval x=.slice (some ⟨N,0,none⟩) 1 1) (hl:ys.length=k) (hu:∀(j:Nat) u,ys[j]? =some u→w.cell? ⟨N,j,none⟩=some u) (h1:∀u∈ys,u.oneCell'=true)
  (hn:n<137438953472) (hB:B≤w.heap.size)
  (h:∀v' w',OwnK w' B e k v' (n+1) (xs++ys)→Below B w w'→wpList P ops Q rest (a.put o.dst v') w'):wpList P ops Q (o::rest) a w:=by
 obtain⟨i,hi,hz,hsz,hby⟩:=Fx F.inf;have low:=F.low;refine wpList_append_own w hgd s x t ho B e i z k bytes F.ty hi hz hsz hby F.one F.pos v n xs hs hown ⟨N,0,none⟩ 1 1 ys hx (by rw[hl,Nat.one_mul]) (fun j u hj=>by rw[Addr.add_lit,Nat.zero_add];exact hu j u hj) h1 ?_ ?_ hB ?_
 ·unfold maxLen;omega
 ·have:(n+1)*bytes≤(n+1)*512:=aC _ low;omega
 ·intro v' w' h2 h3 _;refine h v' w' h2 ?_;refine(Below.refl B w).grown h3 hB ?_;intro k hk;exact(World.ownsRow.lt hown k hk).1
end
theorem Pw {w:World} {cs:List Value} {e:TypeId} {N:Nat}(hN:N=w.heap.size):∀(j:Nat) u,cs[j]? =some u→(w.alloc (.cells cs.toArray e)).cell? ⟨N,j,none⟩=some u:=by
 intro j u h;subst hN;rw[cell_of_row _ _ _ _ _ _ (heap_alloc_new w _)];simpa using h
def Blk (w:World)(g:Nat)(t:TypeId)(cs:Array Value):Prop:=w.heap[g]? =some (.cells cs t (0,0))
theorem Blk.lt {w:World} {g:Nat} {t:TypeId} {cs:Array Value}(h:Blk w g t cs):g<w.heap.size:=by
 rcases aB g w.heap.size with hlt|hge
 ·exact hlt
 ·unfold Blk at h;rw[aD hge]at h;cases h
theorem Blk.new (w:World)(t:TypeId)(cs:Array Value):Blk (w.alloc (.cells cs t)) w.heap.size t cs:=heap_alloc_new w _
theorem Blk.below {w w':World} {g:Nat} {t:TypeId} {cs:Array Value} {B:Nat}(h:Blk w g t cs)(hb:Below B w w')(hg:g<B):Blk w' g t cs:=(hb.block g hg).trans h
theorem Blk.alloc {w:World} {g:Nat} {t:TypeId} {cs:Array Value}(h:Blk w g t cs)(o:Obj):Blk (w.alloc o) g t cs:=(Below.heap_alloc w o g h.lt).trans h
theorem Blk.drewN {w:World} {g:Nat} {t:TypeId} {cs:Array Value}(h:Blk w g t cs)(n:Nat):Blk (w.drewN n) g t cs:=h
theorem Blk.cell {w:World} {g:Nat} {t:TypeId} {cs:Array Value}(h:Blk w g t cs)(i:Nat):w.cell? ⟨g,i,none⟩=cs[i]? :=cell_of_row w g i cs t (0,0) h
theorem Blk.frozen {w:World} {g:Nat} {t:TypeId} {cs:Array Value}(h:Blk w g t cs)(i:Nat):w.frozen? ⟨g,i,none⟩=false:=frozen_of_row w g i cs t h
theorem Ab {P:Program} {w:World} {ops:Array Oper} {rest:List Oper} {o:Oper} {a:Act} {Q:Exit→Act→World→Prop} (hgd:o.guard=none) (ty:TypeId) (x y:Operand) (ho:o.op=.store ty x y)
  (g:Nat) (cells:Array Value) (hx:a.eval x=.pointer (some ⟨g,0,none⟩)) (hy:a.eval y=.agg cells)
  (t:TypeId) (old:Array Value) (hold:Blk w g t old) (hi:(P.info? ty).map (·.size)=some cells.size)
  (hs:old.size=cells.size) (h1:cells.toList.all (·.oneCell')=true)
  (h:∀w2,Blk w2 g t cells→(∀B,B≤g→Below B w w2)→(∀i,i≠g→w2.heap[i]? =w.heap[i]?)→w2.heap.size=w.heap.size→wpList P ops Q rest (a.put o.dst undef) w2):wpList P ops Q (o::rest) a w:=by
 refine wpList_store_row hgd ty x y ho g cells hx hy t old hold hi hs (by rw[←Array.all_toList];exact h1) ?_;refine h _ ?_ ?_ ?_ ?_
 ·exact setRow_heap w g old cells t _ hold
 ·intro B hB;exact⟨rfl,rfl,rfl,by simp,fun i hi=>setRow_other w g i cells (by omega)⟩
 ·intro i hi;exact setRow_other w g i cells hi
 ·simp
theorem Bi {P:Program} {fn:Func} {p q:Tmp} {ty:TypeId} (h:fn.results=#[.cell p ty,.tmp q]) (tmps:Array Value) (w:World) (g:Nat) (t:TypeId) (cs:Array Value) (d:TypeDesc)
  (hp:tmps.getD p undef=.pointer (some ⟨g,0,none⟩)) (hg:Blk w g t cs)
  (hu:P.underlying ty=some d) (hd:(match d with| .struct _| .array _ _=>true|_=>false)=true) (hi:(P.info? ty).map (·.size)=some cs.size):
  (results fn tmps).run P w=.ok (.tuple #[.agg cs,tmps.getD q undef]) w:=by
 have hp':tmps[p]?.getD undef=.pointer (some ⟨g,0,none⟩):=(by simpa using hp);simp[results,h,hp',asAddr,run_loadVar_row w g t ty cs (0,0) d hg hu hd hi]
theorem Blk.set {w:World} {g:Nat} {t:TypeId} {cs:Array Value}(h:Blk w g t cs)(i:Nat)(u:Value):Blk (w.setCell ⟨g,i,none⟩ u) g t (cs.setIfInBounds i u):=heap_setCell_same w g i cs t u h
theorem Blk.far {w:World} {g:Nat} {t:TypeId} {cs:Array Value}(h:Blk w g t cs) {p:Addr}(hp:g≠p.block)(u:Value):Blk (w.setCell p u) g t cs:=(Below.heap_setCell w p u g hp).trans h
theorem Ex {P:Program} {fn:Func} {p:Tmp} {ty:TypeId} (h:fn.results=#[.cell p ty]) (tmps:Array Value) (w:World) (g:Nat) (t:TypeId) (cs:Array Value) (d:TypeDesc)
  (hp:tmps.getD p undef=.pointer (some ⟨g,0,none⟩)) (hg:Blk w g t cs)
  (hu:P.underlying ty=some d) (hd:(match d with| .struct _| .array _ _=>true|_=>false)=true) (hi:(P.info? ty).map (·.size)=some cs.size):
  (results fn tmps).run P w=.ok (.agg cs) w:=by
 have hp':tmps[p]?.getD undef=.pointer (some ⟨g,0,none⟩):=(by simpa using hp);simp[results,h,hp',asAddr,run_loadVar_row w g t ty cs (0,0) d hg hu hd hi]
end
end Go.Proofs.YtfofaiommeckbaaGreat
