/- A region that draws its order, whose operations make memory and change none: each operation is shown once, whatever ran ahead of it. -/
import Derived.Test.YtfofaiommeckbaaGreatZSliceSoundB
import Derived.Test.YtfofaiommeckbaaGreatZSliceSound00
import Derived.RegionTactic
open List renaming range → aH, mem_filter → cH, getElem?_cons_succ → cE, getElem?_eq_none → aM, any_eq_true → cI, getD_eq_getElem?_getD → aJ, getElem?_set_ne → cJ, replicate → cK
open Bool renaming and_eq_true → cL, or_eq_true → cM, not_eq_true' → cN
open Option renaming map_some → cO, getD_some → cP, bind_some → cQ
open Array renaming all_eq_true_iff_forall_mem → cR, getElem?_eq_getElem → cS, getElem?_toList → cT, getElem?_eq_none → aD, getD_eq_getD_getElem? → cU, size_setIfInBounds → cV, getElem?_setIfInBounds → cW, replicate → cX
open Nat renaming zero_add → cY, lt_or_ge → aB
set_option linter.unusedVariables false
set_option maxRecDepth 100000
set_option maxHeartbeats 40000000
namespace Go.Proofs.YtfofaiommeckbaaGreat
open Go.RowKit
abbrev Fb:=Value→World→Prop
def Zm6 (sat:List Fb)(l:List Oper)(a:Act)(w:World)(i:Nat):Prop:=
 match l[i]? with
 |some o=>match o.dst with
  |some d=>(sat.getD i (fun _ _=>True)) (a.tmps[d]?.getD undef) w
  |none=>True
 |none=>True
def Aq (l:List Oper):List Tmp:=l.filterMap (·.dst)
def Co (l:List Oper)(i:Nat)(s:Tmp):Bool:=
 (aH l.length).all fun j=>match l[j]? with
  |some o=>o.dst !=some s||j==i||o.after.toList.any fun e=>Region.binds .any e&&e.on==i
  |none=>true
def Zam (sat:List Fb):Prop:=∀(i:Nat) v w w',(sat.getD i (fun _ _=>True)) v w→Below w.heap.size w w'→(sat.getD i (fun _ _=>True)) v w'
theorem Sq:Zam []:=fun i v w w' h _=>by simp
theorem Ee {s:Fb} {sat:List Fb}(h:∀v w w',s v w→Below w.heap.size w w'→s v w')(hs:Zam sat):Zam (s::sat):=by
 intro i v w w' hv hb;cases i with
 |zero=>exact h v w w' hv hb
 |succ i=>exact hs i v w w' hv hb
theorem Va (a:Act)(d s:Tmp)(v:Value)(h:d≠s):(a.put (some d) v).tmps[s]?.getD undef=a.tmps[s]?.getD undef:=by
 show(a.tmps.setIfInBounds d v)[s]?.getD undef=_;simp[h]
theorem Vb (a:Act)(d:Tmp)(v:Value)(h:d<a.tmps.size):(a.put (some d) v).tmps[d]?.getD undef=v:=by
 show(a.tmps.setIfInBounds d v)[d]?.getD undef=v;simp[h]
theorem Zan {ops:Array Oper} {a:Array Bool} {i:Nat}(h:i∈Region.ready .any ops a):∃o,ops[i]? =some o∧∀e∈o.after.toList,Region.binds .any e=true→a.getD e.on false=true:=by
 rw[Region.ready,cH]at h;obtain⟨_,h⟩:=h;rw[cL]at h;cases ho:ops[i]? with
 |none=>rw[ho]at h;simp at h
 |some o=>
  refine⟨o,rfl,?_⟩;intro e b c;have h2:=h.2;rw[ho]at h2;simp only[cO,cP]at h2;rw[cR]at h2;have:=h2 e (by simpa using b);rw[c]at this;simpa using this
def Dr (ds:List Tmp)(f:Nat→Value):Nat→List Value→List Value
 |_,[]=>[]
 |s,x::xs=>(bif ds.contains s then f s else x)::Dr ds f (s+1) xs
def Aj (l:List Oper)(a:Act)(f:Nat→Value):Act:= {tmps:=(Dr (Aq l) f 0 a.tmps.toList).toArray,defers:=a.defers}
theorem Zgo (a:List Tmp)(f:Nat→Value):∀(xs:List Value) (k i:Nat),(Dr a f k xs)[i]? =(xs[i]?).map fun x=>bif a.contains (k+i)then f (k+i)else x:=by
 intro xs
 induction xs with
 |nil=>intro k i;simp[Dr]
 |cons x xs ih=>
  intro k i;cases i with
  |zero=>simp[Dr]
  |succ i=>
   rw[Dr,cE,cE,ih,show k+1+i=k+(i+1) by omega]
theorem Zao {l:List Oper} {a b:Act}(j:b.tmps.size=a.tmps.size)(g:b.defers=a.defers)(f:∀s,(Aq l).contains s=false→b.tmps[s]?.getD undef=a.tmps[s]?.getD undef):
  b=Aj l a (fun s=>b.tmps[s]?.getD undef):=by
 obtain⟨c,k⟩:=b;obtain⟨t,d⟩:=a;simp only at j g f;subst g;unfold Aj
 congr 1
 apply Array.ext_getElem?;intro i;have e:∀xs:List Value,((Dr (Aq l) (fun s=>c[s]?.getD undef) 0 xs).toArray)[i]? =(xs[i]?).map fun x=>bif (Aq l).contains i then c[i]?.getD undef else x:=by
  intro xs;rw[List.getElem?_toArray,Zgo,cY]
 show c[i]? =((Dr (Aq l) (fun s=>c[s]?.getD undef) 0 t.toList).toArray)[i]?;rw[e];rcases aB i t.size with h|h
 ·rw[cS (by omega),cT,cS h,cO]
  congr 1
  cases hc:(Aq l).contains i with
  |true=>simp
  |false=>
   have:=f i hc;rw[cS (by omega),cS h]at this;exact this
 ·rw[aD (by omega),cT,aD h,Option.map_none]
theorem Ag {o:Oper} {ops:Array Oper} {tmps:Array Value} {j:Nat} {b:Bool} {c:Oper} {s:Tmp}(e:o.guard=some (j,b))(f:ops[j]? =some c)(g:c.dst=some s)(a:tmps[s]?.getD undef=.bool b):Region.wanted o (yielded ops tmps)=true:=by
 cases ht:tmps[s]? with
 |none=>rw[ht]at a;cases a
 |some x=>
  rw[ht]at a;have hx:x=.bool b:=a;have d:yielded ops tmps j=some b:=by
   unfold yielded;rw[f,cQ,g,cQ,ht,hx]
  unfold Region.wanted;rw[e];simp[d]
def Vc (e:Edge):Bool:=Region.binds .any e&&match e.ground with| .data=>true|_=>false
theorem Vd {e:Edge}(h:Vc e=true):Region.binds .any e=true:=by
 unfold Vc at h;rw[cL]at h;exact h.1
def Zm7 (l:List Oper)(j i:Nat):Bool:=
 (aH l.length).all fun c=>c==j||match l[c]? with
  |some o=> !(o.after.toList.any fun e=>Vc e&&e.on==i)||(match l[j]? with|some oj=>oj.after.toList.any fun e=>Region.binds .any e&&e.on==c|none=>false)
  |none=>true
def Ko (o:Oper):Option Tmp:=match o.dst with
 |some d=>some d
 |none=>match o.op with
  | .store _ (.tmp p) _=>some p
  | .mapUpdate _ (.tmp p) _ _=>some p
  |_=>none
theorem Zjy {o:Oper} {d:Tmp}(h:o.dst=some d):Ko o=some d:=by unfold Ko;rw[h]
def Hx (sat:List Fb)(l:List Oper)(a:Act)(w:World)(i:Nat):Prop:=
 match l[i]? with
 |some o=>match Ko o with
  |some d=>(sat.getD i (fun _ _=>True)) (a.tmps[d]?.getD undef) w
  |none=>True
 |none=>True
def Ew (sat:List Fb)(l:List Oper)(a:Act)(w:World):List Edge→Prop
 |[]=>True
 |e::es=>(if Vc e=true then Hx sat l a w e.on else True)∧Ew sat l a w es
theorem Ve {c:List Fb} {l:List Oper} {a:Act} {w:World}:∀b:List Edge,(∀e∈b,Vc e=true→Hx c l a w e.on)→Ew c l a w b:=by
 intro b
 induction b with
 |nil=>intro _;trivial
 |cons e b ih=>
  intro h;refine⟨?_,ih fun x hx=>h x (by simp[hx])⟩
  split
  ·rename_i hb;exact h e (by simp) hb
  ·trivial
def Iw (l:List Oper)(n:Nat):Bool:=
 ((aH l.length).all fun i=>match l[i]? with
  |some o=>(match Ko o with|some d=>decide (d<n)|none=>false)&&(aH l.length).all fun j=>match l[j]? with
   |some o'=>i==j||o'.dst.isNone||o'.dst !=Ko o||(o.dst.isNone&&o.after.toList.any fun e=>Region.binds .any e&&e.on==j)
   |none=>true
  |none=>true)
theorem Ya {l:List Oper} {n:Nat}(h:Iw l n=true) {i:Nat} {o:Oper}(b:l[i]? =some o):∃d,Ko o=some d∧d<n:=by
 have c:i<l.length:=by
  rcases aB i l.length with h|h
  ·exact h
  ·rw[aM h]at b;cases b
 have:=List.all_eq_true.1 h i (List.mem_range.2 c);rw[b]at this;simp only[cL]at this;have a:=this.1;cases hd:Ko o with
 |none=>rw[hd]at a;cases a
 |some d=>rw[hd]at a;exact⟨d,rfl,by simpa using a⟩
theorem Zlj {l:List Oper} {n:Nat}(h:Iw l n=true) {i j:Nat} {o q:Oper} {d p:Tmp}(m:l[i]? =some o)(f:l[j]? =some q)(r:Ko o=some d)(a:q.dst=some p)(b:i≠j):p≠d∨∃e∈o.after.toList,Region.binds .any e=true∧e.on=j:=by
 have c:i<l.length:=by
  rcases aB i l.length with h|h
  ·exact h
  ·rw[aM h]at m;cases m
 have g:j<l.length:=by
  rcases aB j l.length with h|h
  ·exact h
  ·rw[aM h]at f;cases f
 have:=List.all_eq_true.1 h i (List.mem_range.2 c);rw[m]at this;simp only[cL]at this;have h2:=List.all_eq_true.1 this.2 j (List.mem_range.2 g);rw[f]at h2;simp only[cM,beq_iff_eq,bne_iff_ne,cL,cI]at h2;rcases h2 with((h2|h2)|h2)|⟨_,e,t,s,k⟩
 ·exact absurd h2 b
 ·rw[a]at h2;cases h2
 ·left
  intro e;rw[r,a,e]at h2;exact h2 rfl
 ·exact .inr ⟨e,t,s,k⟩
def Ce (o:Oper)(a:Act)(v:Value):Value:=match o.dst with
 |some _=>v
 |none=>match Ko o with
  |some p=>a.tmps[p]?.getD undef
  |none=>undef
def Zmr (P:Program)(l:List Oper)(Q:Exit→Act→World→Prop)(sat:List Fb)(st:List Bool)(a0:Act)(W:World)(i:Nat)(o:Oper):Prop:=
 ∀(a:Act) (w:World),Below W.heap.size W w→(∀s,Co l i s=true→a.tmps[s]?.getD undef=a0.tmps[s]?.getD undef)→Ew sat l a w o.after.toList→
  ∀K:Act→World→Prop,(∀v w',(sat.getD i (fun _ _=>True)) (Ce o a v) w'→Below (bif st.getD i true then w.heap.size else W.heap.size) w w'→K (a.put o.dst v) w')→
   if Region.wanted o (yielded l.toArray a.tmps)=true then Oper.wp P o a w K Q else K (a.put o.dst undef) w
def Zgp (P:Program)(l:List Oper)(Q:Exit→Act→World→Prop)(sat:List Fb)(st:List Bool)(a0:Act)(W:World):Nat→List Oper→Prop
 |_,[]=>True
 |i,o::os=>Zmr P l Q sat st a0 W i o∧Zgp P l Q sat st a0 W (i+1) os
def Ej (l:List Oper):Bool:=(aH l.length).all fun i=>match l[i]? with|some o=>o.after.toList.all fun e=> !Region.binds .any e||decide (e.on<i)|none=>true
theorem Zcj {l:List Oper}(h:Ej l=true) {i:Nat} {o:Oper}(a:l[i]? =some o):∀e∈o.after.toList,Region.binds .any e=true→e.on<i:=by
 have b:i<l.length:=by
  rcases aB i l.length with h|h
  ·exact h
  ·rw[aM h]at a;cases a
 have:=List.all_eq_true.1 h i (List.mem_range.2 b);rw[a]at this;intro e c d;have h2:=List.all_eq_true.1 this e c;rw[d]at h2;simpa using h2
theorem Vf {l:List Oper}(h:Ej l=true) {a:Array Bool}(t:a.size=l.length) {i:Nat}(s:i<l.length)(r:a.getD i false=false):Region.ready .any l.toArray a≠[]:=by
 have:∃j,j<l.length∧a.getD j false=false∧∀k,k<j→a.getD k false=true:=by
  induction i using Nat.strongRecOn with
  |ind i ih=>
   by_cases hall:∀k,k<i→a.getD k false=true
   ·exact⟨i,s,r,hall⟩
   ·have:∃k,k<i∧a.getD k false=false:=by
     refine Classical.byContradiction fun q=>hall fun k hk=> ?_;cases c:a.getD k false with
     |true=>rfl
     |false=>exact absurd ⟨k,hk,c⟩ q
    obtain⟨k,hk,c⟩:=this;exact ih k hk (by omega) c
 obtain⟨j,n,b,d⟩:=this;obtain⟨o,g⟩:∃o,l[j]? =some o:=⟨l[j],List.getElem?_eq_getElem n⟩;have m:j∈Region.ready .any l.toArray a:=by
  rw[Region.ready,cH];refine⟨by simpa using n,?_⟩;rw[cL];constructor
  ·have:a.getD j true=false:=by
    rw[cU]at b⊢;rw[cS (by omega)]at b⊢;exact b
   rw[this];rfl
  ·have f:l.toArray[j]? =some o:=(by simpa using g);rw[f,cO,cP,cR];intro e p;cases c:Region.binds .any e with
   |false=>rfl
   |true=>
    rw[cM]
    right
    exact d _ (Zcj h g e (by simpa using p) c)
 intro e;rw[e]at m;cases m
theorem Zgq (a:Act)(d:Option Tmp)(v:Value):(a.put d v).tmps.size=a.tmps.size:=by
 cases d with
 |none=>rfl
 |some d=>show(a.tmps.setIfInBounds d v).size=_;rw[cV]
theorem Zap (a:Act)(d:Option Tmp)(v:Value):(a.put d v).defers=a.defers:=by cases d<;>rfl
theorem Zje (a:Act)(d:Option Tmp)(s:Tmp)(v:Value)(h:d≠some s):(a.put d v).tmps[s]?.getD undef=a.tmps[s]?.getD undef:=by
 cases d with
 |none=>rfl
 |some d=>exact Va a d s v (fun e=>h (by rw[e]))
theorem Zjz (a:Act) {o:Oper} {d:Tmp}(h:Ko o=some d)(v:Value)(hd:d<a.tmps.size):(a.put o.dst v).tmps[d]?.getD undef=Ce o a v:=by
 unfold Ce;cases ho:o.dst with
 |none=>simp only[h];rfl
 |some d'=>
  have:=Zjy ho;rw[h]at this;cases this;exact Vb a d v hd
def Dt (sat:List Fb)(fin:List Bool)(f:Nat→Value)(w:World):Nat→List Oper→Prop
 |_,[]=>True
 |i,o::os=>(bif fin.getD i false then(match Ko o with|some d=>(sat.getD i (fun _ _=>True)) (f d) w|none=>True)else True)∧Dt sat fin f w (i+1) os
theorem Ss {c:List Fb} {b:List Bool} {f:Nat→Value} {w:World}:∀(os:List Oper) (k:Nat),(∀i o d,os[i]? =some o→Ko o=some d→b.getD (k+i) false=true→(c.getD (k+i) (fun _ _=>True)) (f d) w)→Dt c b f w k os:=by
 intro os
 induction os with
 |nil=>intro k _;trivial
 |cons o os ih=>
  intro k h;refine⟨?_,ih (k+1) fun i l d g e a=> ?_⟩
  ·cases a:b.getD k false with
   |false=>trivial
   |true=>
    cases e:Ko o with
    |none=>trivial
    |some d=>exact h 0 o d rfl e a
  ·have j:k+1+i=k+(i+1):=(by omega);rw[j]at a⊢;exact h (i+1) l d (by simpa using g) e a
section
def Jc (l:List Oper)(listed:Array Bool):Prop:=∀j o,listed.getD j false=true→l[j]? =some o→∀e∈o.after.toList,Region.binds .any e=true→listed.getD e.on false=true
structure OnceX (l:List Oper) (sat:List Fb) (C:Array Bool→Nat→Prop) (Y:Array Bool→World→Prop) (a0:Act) (listed:Array Bool) (a:Act) (w:World):Prop where
 size:a.tmps.size=a0.tmps.size
 defers:a.defers=a0.defers
 out:∀s,(∀j o,listed.getD j false=true→l[j]? =some o→o.dst≠some s)→a.tmps[s]?.getD undef=a0.tmps[s]?.getD undef
 closed:Jc l listed
 wld:Y listed w
 facts:∀i,listed.getD i false=true→C listed i→Hx sat l a w i
 lsize:listed.size=l.length
theorem Yb {listed:Array Bool} {i:Nat}(h:i<listed.size):(listed.setIfInBounds i true).getD i false=true:=by
 rw[cU,cW,if_pos rfl,if_pos h];rfl
theorem St {listed:Array Bool} {i j:Nat}(h:j≠i):(listed.setIfInBounds i true).getD j false=listed.getD j false:=by
 rw[cU,cW,if_neg (fun e=>h e.symm),←cU]
theorem Zck {n i:Nat}:(cX n false).getD i false=false:=by
 rw[cU,Array.getElem?_replicate];split<;>simp
theorem Hc {l:List Oper} {i:Nat} {o:Oper}(h:l[i]? =some o):i<l.length:=by
 rcases aB i l.length with k|k
 ·exact k
 ·rw[aM k]at h;cases h
section
variable {P:Program} {l:List Oper} {Q:Exit→Act→World→Prop} {sat:List Fb} {C:Array Bool→Nat→Prop} {Y:Array Bool→World→Prop} {R:Array Bool→Nat→World→World→Prop} {a0:Act}
def Zlk (P:Program)(l:List Oper)(Q:Exit→Act→World→Prop)(sat:List Fb)(C:Array Bool→Nat→Prop)(Y:Array Bool→World→Prop)(R:Array Bool→Nat→World→World→Prop)(a0:Act)(i:Nat)(o:Oper):Prop:=
 ∀(listed:Array Bool) (a:Act) (w:World),OnceX l sat C Y a0 listed a w→listed.getD i false=false→(∀e∈o.after.toList,Region.binds .any e=true→listed.getD e.on false=true)→(∀s,Co l i s=true→a.tmps[s]?.getD undef=a0.tmps[s]?.getD undef)→
  ∀K:Act→World→Prop,(∀v w',(sat.getD i (fun _ _=>True)) (Ce o a v) w'→R listed i w w'→K (a.put o.dst v) w')→
   if Region.wanted o (yielded l.toArray a.tmps)=true then Oper.wp P o a w K Q else K (a.put o.dst undef) w
theorem Zcl (S:Iw l a0.tmps.size=true) (D:Ej l=true)
  (F:∀i o,l[i]? =some o→Zlk P l Q sat C Y R a0 i o)
  (hY:∀(i:Nat) (o:Oper) (b:Array Bool) (w w':World),l[i]? =some o→Jc l b→b.size=l.length→b.getD i false=false→(∀e∈o.after.toList,Region.binds .any e=true→b.getD e.on false=true)→Y b w→R b i w w'→Y (b.setIfInBounds i true) w')
  (hF:∀(i j:Nat) (o oj:Oper) (b:Array Bool) (w w':World),l[i]? =some o→l[j]? =some oj→Jc l b→b.size=l.length→b.getD i false=false→(∀e∈o.after.toList,Region.binds .any e=true→b.getD e.on false=true)→b.getD j false=true→C (b.setIfInBounds i true) j→Y b w→R b i w w'→
   C b j∧∀v,(sat.getD j (fun _ _=>True)) v w→(sat.getD j (fun _ _=>True)) v w')
  (E:∀(b:Array Bool) (a:Act) (w:World),OnceX l sat C Y a0 b a w→(∀i,i<l.length→b.getD i false=true)→Q .normal a w):
  ∀(k:Nat) (b:Array Bool) (a:Act) (w:World),OnceX l sat C Y a0 b a w→b.toList.count false≤k→wpAny P .any l.toArray Q k b a w:=by
 intro k;have y:∀(b:Array Bool) (a:Act) (w:World),OnceX l sat C Y a0 b a w→Region.ready .any l.toArray b=[]→Q .normal a w:=by
  intro b a w J K;refine E _ a w J fun i z=> ?_;cases u:b.getD i false with
  |true=>rfl
  |false=>exact absurd K (Vf D J.lsize z u)
 have W:∀(b:Array Bool) (i:Nat),i∈Region.ready .any l.toArray b→i<b.size∧b.getD i false=false∧false∈b.toList:=by
  intro b i z;have H:=(mem_ready.1 z).1;have f:i<b.size:=by
   rcases aB i b.size with h|h
   ·exact h
   ·rw[cU,aD h]at H;simp at H
  rw[cU,cS f]at H;refine⟨f,?_,?_⟩
  ·rw[cU,cS f];exact H
  ·rw[←show b[i]=false from H];simp
 induction k with
 |zero=>
  intro b a w J hc;have K:Region.ready .any l.toArray b=[]:=by
   refine Classical.byContradiction fun hn=> ?_;obtain⟨i,z⟩:=List.exists_mem_of_ne_nil _ hn;have:=List.count_pos_iff.2 (W b i z).2.2;omega
  exact⟨K,y b a w J K⟩
 |succ k ih=>
  intro b a w J hc;refine⟨y b a w J,?_⟩;intro i z;obtain⟨o,V,p⟩:=Zan z;obtain⟨f,g,-⟩:=W b i z;have n:l[i]? =some o:=(by simpa using V);obtain⟨d,I,O⟩:=Ya S n;refine wpOp_step V ?_;intro K' U;have A:∀s,Co l i s=true→a.tmps[s]?.getD undef=a0.tmps[s]?.getD undef:=by
   intro s L;refine J.out s fun j x q c N=> ?_;have:=List.all_eq_true.1 L j (List.mem_range.2 (Hc c));rw[c]at this;simp only[cM,bne_iff_ne,beq_iff_eq,cI,cL]at this;rcases this with(h|h)|⟨e,D,u,B⟩
   ·exact h N
   ·subst h;rw[g]at q;cases q
   ·have:=J.closed j x q c e D u;rw[B,g]at this;cases this
  refine F i o n b a w J g p A K' ?_;intro v w' hv X;refine U _ _ (ih _ _ _ ⟨?_,?_,?_,?_,hY i o b w w' n J.closed J.lsize g p J.wld X,?_,?_⟩ ?_)
  ·rw[Zgq];exact J.size
  ·rw[Zap];exact J.defers
  ·intro s L;rw[Zje a o.dst s v (L i o (Yb f) n)];refine J.out s fun j x q c=>L j x ?_ c
   by_cases hji:j=i
   ·rw[hji];exact Yb f
   ·rw[St hji];exact q
  ·intro j x q c e G u;have r:∀m,b.getD m false=true→(b.setIfInBounds i true).getD m false=true:=by
    intro m hm
    by_cases hmi:m=i
    ·rw[hmi];exact Yb f
    ·rw[St hmi];exact hm
   by_cases hji:j=i
   ·subst hji;rw[n]at c;cases c;exact r _ (p e G u)
   ·rw[St hji]at q;exact r _ (J.closed j x q c e G u)
  ·intro j q T;unfold Hx;cases c:l[j]? with
   |none=>trivial
   |some x=>
    obtain⟨Z,t,_⟩:=Ya S c;simp only[t]
    by_cases hji:j=i
    ·subst hji;rw[n]at c;cases c;rw[I]at t;cases t;rw[Zjz a I v (by rw[J.size];exact O)];exact hv
    ·rw[St hji]at q;rw[Zje a o.dst Z v (by
      intro M;rcases Zlj S c n t M hji with h|⟨e,D,u,B⟩
      ·exact h rfl
      ·have:=J.closed j x q c e D u;rw[B,g]at this;cases this)]
     obtain⟨c1,c2⟩:=hF i j o x b w w' n c J.closed J.lsize g p q T J.wld X;have:=J.facts j q c1;unfold Hx at this;rw[c]at this;simp only[t]at this;exact c2 _ this
  ·rw[cV];exact J.lsize
  ·rw[Array.toList_setIfInBounds,List.count_set (by simpa using f)];have h2:b.toList[i]'(by simpa using f)=false:=by
    rw[cU,cS f]at g;simpa using g
   rw[h2,if_pos (show(false==false)=true from rfl),if_neg (by decide)];omega
theorem Ov {G:Nat} {a:Act} {w:World} (n:List Bool) (A:P.follows .mixedOrders=true) (H:Iw l a.tmps.size=true) (B:Ej l=true) (z:Y (cX l.length false) w.drew)
  (p:∀i o,l[i]? =some o→Zlk P l Q sat C Y R a i o)
  (E:∀(i:Nat) (o:Oper) (b:Array Bool) (w w':World),l[i]? =some o→Jc l b→b.size=l.length→b.getD i false=false→(∀e∈o.after.toList,Region.binds .any e=true→b.getD e.on false=true)→Y b w→R b i w w'→Y (b.setIfInBounds i true) w')
  (D:∀(i j:Nat) (o F:Oper) (b:Array Bool) (w w':World),l[i]? =some o→l[j]? =some F→Jc l b→b.size=l.length→b.getD i false=false→(∀e∈o.after.toList,Region.binds .any e=true→b.getD e.on false=true)→b.getD j false=true→C (b.setIfInBounds i true) j→Y b w→R b i w w'→
   C b j∧∀v,(sat.getD j (fun _ _=>True)) v w→(sat.getD j (fun _ _=>True)) v w')
  (y:∀(b:Array Bool) (i:Nat),(∀k,k<l.length→b.getD k false=true)→i<l.length→n.getD i false=true→C b i)
  (h:∀(b:Array Bool) (f:Nat→Value) (w':World),Y b w'→(∀k,k<l.length→b.getD k false=true)→b.size=l.length→Dt sat n f w' 0 l→Q .normal (Aj l a f) w'):
  (Code.region G l.toArray true).wp P Q a w:=by
 refine wp_region_any A (Zcl H B p E D ?_ _ _ _ _ ⟨rfl,rfl,fun _ _=>rfl,?_,by simpa using z,?_,by simp⟩ ?_)
 ·intro b I w' J c;rw[Zao J.size J.defers (fun s x=>J.out s fun j o _ r u=>by
   have:(Aq l).contains s=true:=by
    rw[List.contains_iff_mem];exact List.mem_filterMap.2 ⟨o,List.mem_of_getElem? r,u⟩
   rw[this]at x;cases x)]
  refine h b _ w' J.wld c J.lsize (Ss l 0 ?_);intro i o d r t m;rw[cY]at m⊢;have g:=Hc r;have:=J.facts i (c i g) (y _ i c g m);unfold Hx at this;rw[r]at this;simp only[t]at this;exact this
 ·intro i _ q;rw[Zck]at q;cases q
 ·intro i q _;rw[Zck]at q;cases q
 ·simp
end
end
def Bh (sat:List Fb)(l:List Oper)(a:Act)(w:World):List Edge→Prop
 |[]=>True
 |e::es=>(if Region.binds .any e=true then Hx sat l a w e.on else True)∧Bh sat l a w es
theorem Mu {c:List Fb} {l:List Oper} {a:Act} {w:World}:∀b:List Edge,(∀e∈b,Region.binds .any e=true→Hx c l a w e.on)→Bh c l a w b:=by
 intro b
 induction b with
 |nil=>intro _;trivial
 |cons e b ih=>
  intro h;refine⟨?_,ih fun x hx=>h x (by simp[hx])⟩
  split
  ·rename_i hb;exact h e (by simp) hb
  ·trivial
def Gl (S:World→World→Prop)(q:Option Nat)(i:Nat)(x y:World):Prop:=bif some i==q then S x y else Below x.heap.size x y
theorem Af {S:World→World→Prop} {q:Option Nat} {i:Nat} {x y:World}(h:(some i==q)=false)(hb:Below x.heap.size x y):Gl S q i x y:=by unfold Gl;rw[h];exact hb
theorem Ca {S:World→World→Prop} {q:Option Nat} {i:Nat} {x y:World}(h:(some i==q)=true)(hs:S x y):Gl S q i x y:=by unfold Gl;rw[h];exact hs
def En (l:List Oper)(q:Option Nat)(i:Nat):Bool:=match q with
 |none=>true
 |some j=>i==j||match l[j]? with
  |some oj=>oj.after.toList.any fun e=>Region.binds .any e&&e.on==i
  |none=>false
def Dd (I:World→Prop)(S:World→World→Prop):Option Nat→List Fb→Prop
 |_,[]=>True
 |none,s::sat=>(∀v x y,s v x→I x→S x y→s v y)∧Dd I S none sat
 |some 0,s::sat=>(∀v x y,s v x→I x→Below x.heap.size x y→s v y)∧Dd I S none sat
 |some (q+1),s::sat=>(∀v x y,s v x→I x→S x y→s v y)∧Dd I S (some q) sat
theorem Ae {I:World→Prop} {S:World→World→Prop} {q:Option Nat}:Dd I S q []:=by cases q with
 |none=>trivial
 |some q=>cases q<;>trivial
theorem Ah {I:World→Prop} {S:World→World→Prop} {s:Fb} {sat:List Fb}(h:∀v x y,s v x→I x→S x y→s v y)(t:Dd I S none sat):Dd I S none (s::sat):=⟨h,t⟩
theorem Cv {I:World→Prop} {S:World→World→Prop} {s:Fb} {sat:List Fb}(h:∀v x y,s v x→I x→Below x.heap.size x y→s v y)(t:Dd I S none sat):Dd I S (some 0) (s::sat):=⟨h,t⟩
theorem Da {I:World→Prop} {S:World→World→Prop} {q:Nat} {s:Fb} {sat:List Fb}(h:∀v x y,s v x→I x→S x y→s v y)(t:Dd I S (some q) sat):Dd I S (some (q+1)) (s::sat):=⟨h,t⟩
theorem Ig {I:World→Prop} {S:World→World→Prop}:∀(a:List Fb) (q:Option Nat),Dd I S q a→
  (∀i v x y,some i≠q→(a.getD i (fun _ _=>True)) v x→I x→S x y→(a.getD i (fun _ _=>True)) v y)∧
  (∀i v x y,some i=q→(a.getD i (fun _ _=>True)) v x→I x→Below x.heap.size x y→(a.getD i (fun _ _=>True)) v y):=by
 intro a
 induction a with
 |nil=>intro q _;exact⟨fun i v x y _ _ _ _=>by simp,fun i v x y _ _ _ _=>by simp⟩
 |cons s a ih=>
  intro q h
  match q,h with
  |none,h=>
   refine⟨fun i v x y b f c d=> ?_,fun i v x y b=>by cases b⟩;cases i with
   |zero=>exact h.1 v x y f c d
   |succ i=>exact(ih none h.2).1 i v x y (by simp) f c d
  |some 0,h=>
   refine⟨fun i v x y b f c d=> ?_,fun i v x y b f c d=> ?_⟩
   ·cases i with
    |zero=>exact absurd rfl b
    |succ i=>exact(ih none h.2).1 i v x y (by simp) f c d
   ·cases i with
    |zero=>exact h.1 v x y f c d
    |succ i=>cases b
  |some (q+1),h=>
   refine⟨fun i v x y b f c d=> ?_,fun i v x y b f c d=> ?_⟩
   ·cases i with
    |zero=>exact h.1 v x y f c d
    |succ i=>exact(ih (some q) h.2).1 i v x y (fun e=>b (by simp at e;rw[e])) f c d
   ·cases i with
    |zero=>cases b
    |succ i=>exact(ih (some q) h.2).2 i v x y (by simp at b;rw[b]) f c d
def Zcm (P:Program)(l:List Oper)(Q:Exit→Act→World→Prop)(sat:List Fb)(I:World→Prop)(S:World→World→Prop)(q:Option Nat)(a0:Act)(W:World)(i:Nat)(o:Oper):Prop:=
 ∀(a:Act) (w:World),I w→(En l q i=true→Below W.heap.size W w)→(∀s,Co l i s=true→a.tmps[s]?.getD undef=a0.tmps[s]?.getD undef)→Bh sat l a w o.after.toList→
  ∀K:Act→World→Prop,(∀v w',(sat.getD i (fun _ _=>True)) (Ce o a v) w'→Gl S q i w w'→K (a.put o.dst v) w')→
   if Region.wanted o (yielded l.toArray a.tmps)=true then Oper.wp P o a w K Q else K (a.put o.dst undef) w
def OwedAll7 (P:Program)(l:List Oper)(Q:Exit→Act→World→Prop)(sat:List Fb)(I:World→Prop)(S:World→World→Prop)(q:Option Nat)(a0:Act)(W:World):Nat→List Oper→Prop
 |_,[]=>True
 |i,o::os=>Zcm P l Q sat I S q a0 W i o∧OwedAll7 P l Q sat I S q a0 W (i+1) os
theorem OwedAll7.nil {P:Program} {l:List Oper} {Q:Exit→Act→World→Prop} {sat:List Fb} {I:World→Prop} {S:World→World→Prop} {q:Option Nat} {a0:Act} {W:World} {i:Nat}:OwedAll7 P l Q sat I S q a0 W i []:=trivial
theorem OwedAll7.cons {P:Program} {l:List Oper} {Q:Exit→Act→World→Prop} {a:List Fb} {I:World→Prop} {S:World→World→Prop} {q:Option Nat} {b:Act} {W:World} {i:Nat} {o:Oper} {os:List Oper}(h:Zcm P l Q a I S q b W i o)(t:OwedAll7 P l Q a I S q b W (i+1) os):OwedAll7 P l Q a I S q b W i (o::os):=⟨h,t⟩
theorem Su {P:Program} {l:List Oper} {Q:Exit→Act→World→Prop} {a:List Fb} {I:World→Prop} {S:World→World→Prop} {q:Option Nat} {c:Act} {W:World}:∀(os:List Oper) (k:Nat),OwedAll7 P l Q a I S q c W k os→∀i o,os[i]? =some o→Zcm P l Q a I S q c W (k+i) o:=by
 intro os
 induction os with
 |nil=>intro k _ i o h;simp at h
 |cons x os ih=>
  intro k h i o b;cases i with
  |zero=>simp at b;subst b;exact h.1
  |succ i=>
   have:=ih (k+1) h.2 i o (by simpa using b);rw[show k+(i+1)=k+1+i by omega];exact this
theorem Qo {I:World→Prop} {S:World→World→Prop} {q:Option Nat} {i:Nat} {x y:World}(h12:∀x y,I x→Below x.heap.size x y→S x y)(hI:I x)(h:Gl S q i x y):S x y:=by
 unfold Gl at h;cases hq:some i==q with
 |true=>rw[hq]at h;exact h
 |false=>rw[hq]at h;exact h12 _ _ hI h
theorem Qp {S:World→World→Prop} {q:Option Nat} {i:Nat} {x y:World}(hq:some i≠q)(h:Gl S q i x y):Below x.heap.size x y:=by
 unfold Gl at h;rw[beq_eq_false_iff_ne.2 hq]at h;exact h
theorem Yc {l:List Oper} {a:Array Bool} {i j:Nat}(f:Jc l a)(c:a.getD i false=false)(h:En l (some j) i=true):a.getD j false=false:=by
 unfold En at h;simp only[cM,beq_iff_eq]at h;rcases h with rfl|h
 ·exact c
 ·cases hoj:l[j]? with
  |none=>rw[hoj]at h;cases h
  |some oj=>
   rw[hoj]at h;simp only[cI,cL,beq_iff_eq]at h;obtain⟨e,d,g,b⟩:=h;cases hl:a.getD j false with
   |false=>rfl
   |true=>
    have:=f j oj hl hoj e d g;rw[b,c]at this;cases this
theorem Qq {listed:Array Bool} {i j:Nat}(hi:listed.getD i false=false)(h:(listed.setIfInBounds i true).getD j false=false):listed.getD j false=false:=by
 by_cases hji:j=i
 ·rw[hji];exact hi
 ·rwa [St hji]at h
theorem Qr {listed:Array Bool} {i j:Nat}(hl:i<listed.size)(h:(listed.setIfInBounds i true).getD j false=false):i≠j:=by
 intro e;rw[←e,Yb hl]at h;cases h
theorem Bl {P:Program} {id:Nat} {l:List Oper} {Q:Exit→Act→World→Prop} {a:Act} {w:World} (d:List Fb) (s:List Bool) (I:World→Prop) (S:World→World→Prop) (q:Option Nat) (D:P.follows .mixedOrders=true) (hk:Dd I S q d) (O:I w.drew) (t:∀x y,I x→Below x.heap.size x y→S x y) (H:∀x y,I x→S x y→I y) (W:Iw l a.tmps.size=true) (U:Ej l=true)
  (z:OwedAll7 P l Q d I S q a w 0 l)
  (p:∀(f:Nat→Value) (w':World),I w'→Dt d s f w' 0 l→Q .normal (Aj l a f) w'):
  (Code.region id l.toArray true).wp P Q a w:=by
 refine Ov (C:=fun _ _=>True) (Y:=fun b x=>I x∧((∀j,q=some j→b.getD j false=false)→Below w.heap.size w x)) (R:=fun _ i x y=>Gl S q i x y) s D W U ⟨O,fun _=>⟨rfl,rfl,rfl,lR,fun _ _=>rfl⟩⟩ ?_ ?_ ?_ (fun _ _ _ _ _=>trivial) (fun _ f w' g _ _ hf=>p f w' g.1 hf)
 ·intro i o N b V x J c k m K X;have L:=Su l 0 z i o N;rw[cY]at L;exact L V x J.wld.1 (fun F=>J.wld.2 fun j E=>Yc J.closed c (by rw[←E];exact F)) m (Mu _ fun e D T=>J.facts _ (k e D T) trivial) K X
 ·intro i o b x y n G B c _ g A;refine⟨H _ _ g.1 (Qo t g.1 A),fun h=> ?_⟩;have r:=g.2 fun j E=>Qq c (h j E);exact r.trans ((Qp (fun e=>Qr (by rw[B];exact Hc n) (h i e.symm) rfl) A).mono r.size)
 ·intro i j o oj b x y n Z G B c k u _ g A;refine⟨trivial,fun v M=> ?_⟩
  by_cases hjq:some j=q
  ·refine(Ig d q hk).2 j _ _ _ hjq M g.1 (Qp ?_ A);rw[←hjq];intro e;cases e;rw[c]at u;cases u
  ·exact(Ig d q hk).1 j _ _ _ hjq M g.1 (Qo t g.1 A)
theorem Zgr {P:Program} {l:List Oper} {Q:Exit→Act→World→Prop} {b:List Fb} {I:World→Prop} {S:World→World→Prop} {q:Option Nat} {e:Act} {W:World} {i:Nat} {o:Oper}
  (h:∀(a:Act) (w:World),I w→(En l q i=true→Below W.heap.size W w)→(∀s,Co l i s=true→a.tmps[s]?.getD undef=e.tmps[s]?.getD undef)→Bh b l a w o.after.toList→
   Region.wanted o (yielded l.toArray a.tmps)=true∧∀K:Act→World→Prop,(∀v w',(b.getD i (fun _ _=>True)) (Ce o a v) w'→Gl S q i w w'→K (a.put o.dst v) w')→Oper.wp P o a w K Q):Zcm P l Q b I S q e W i o:=by
 intro a w d f c g K j;rw[if_pos (h a w d f c g).1];exact(h a w d f c g).2 K j
theorem Vg {o:Oper} {ops:Array Oper} {tmps:Array Value} {j:Nat} {b:Bool} {a:Oper} {s:Tmp} {v:Value}(f:o.guard=some (j,b))(g:ops[j]? =some a)(i:a.dst=some s)(c:tmps[s]?.getD undef=v)(e:v≠ .bool b):Region.wanted o (yielded ops tmps)=false:=by
 have d:yielded ops tmps j≠some b:=by
  unfold yielded;rw[g,cQ,i,cQ];cases ht:tmps[s]? with
  |none=>simp
  |some x=>
   rw[ht]at c;have hx:x=v:=c;subst hx;intro h;cases x<;>simp_all
 unfold Region.wanted;rw[f];simp[d]
theorem Zcn {P:Program} {l:List Oper} {Q:Exit→Act→World→Prop} {b:List Fb} {I:World→Prop} {S:World→World→Prop} {q:Option Nat} {c:Act} {W:World} {i:Nat} {o:Oper} {d:Tmp} (f:o.dst=some d) (j:b.getD i (fun _ _=>True)=fun v _=>v=undef) (e:(some i==q)=false)
  (h:∀(a:Act) (w:World),Bh b l a w o.after.toList→Region.wanted o (yielded l.toArray a.tmps)=false):Zcm P l Q b I S q c W i o:=by
 intro a w n _ m k K g;rw[if_neg (by rw[h a w k];simp)];exact g undef w (by rw[j];unfold Ce;rw[f]) (Af e bR)
section
def Vh (l:List Oper)(fin tl:List Bool)(q:Nat):Bool:=
 decide (q<l.length)&& !tl.getD q false&&(aH l.length).all fun i=>i==q||(if tl.getD i false then(match l[i]? with|some o=>(o.after.toList.any fun e=>Region.binds .any e&&e.on==q)&&o.after.toList.all fun e=> !Vc e||e.on==q||tl.getD e.on false|none=>false)else(!fin.getD i false&&(aH l.length).any fun j=>decide (i<j)&& !tl.getD j false&&match l[j]? with|some o=>o.after.toList.any fun e=>Region.binds .any e&&e.on==i|none=>false))
theorem Yd {l:List Oper} {g d:List Bool} {q:Nat}(h:Vh l g d q=true):q<l.length∧d.getD q false=false∧(∀i,i<l.length→i≠q→d.getD i false=false→g.getD i false=false∧∃j o,i<j∧j<l.length∧d.getD j false=false∧l[j]? =some o∧∃e∈o.after.toList,Region.binds .any e=true∧e.on=i)∧
  (∀i o,l[i]? =some o→d.getD i false=true→(∃e∈o.after.toList,Region.binds .any e=true∧e.on=q)∧∀e∈o.after.toList,Vc e=true→e.on=q∨d.getD e.on false=true):=by
 unfold Vh at h;rw[cL,cL,decide_eq_true_iff,cN]at h;refine⟨h.1.1,h.1.2,fun i s m a=> ?_,fun i o b a=> ?_⟩
 ·have h2:=List.all_eq_true.1 h.2 i (List.mem_range.2 s);rw[a,cM,beq_iff_eq]at h2;rcases h2 with h2|h2
  ·exact absurd h2 m
  ·simp only[Bool.false_eq_true,if_false,cL,cN]at h2;obtain⟨h2,h3⟩:=h2;refine⟨h2,?_⟩;obtain⟨j,v,h3⟩:=List.any_eq_true.1 h3;simp only[cL,decide_eq_true_iff,cN]at h3;obtain⟨⟨t,p⟩,h3⟩:=h3;cases b:l[j]? with
   |none=>rw[b]at h3;cases h3
   |some o=>
    rw[b]at h3;simp only[cI,cL,beq_iff_eq]at h3;obtain⟨e,r,n,c⟩:=h3;exact⟨j,o,t,List.mem_range.1 v,p,b,e,r,n,c⟩
 ·have s:i<l.length:=by
   rcases aB i l.length with h|h
   ·exact h
   ·rw[aM h]at b;cases b
  have h2:=List.all_eq_true.1 h.2 i (List.mem_range.2 s);rw[a,cM,beq_iff_eq,b]at h2;rcases h2 with h2|h2
  ·subst h2;rw[h.1.2]at a;cases a
  ·simp only[if_true,cL,cI,beq_iff_eq,List.all_eq_true,cM,cN]at h2;obtain⟨⟨e,r,n,c⟩,h3⟩:=h2;refine⟨⟨e,r,n,c⟩,fun w k u=> ?_⟩;rcases h3 w k with(f|f)|f
   ·rw[f]at u;cases u
   ·exact .inl f
   ·exact .inr f
theorem Vi {l:List Oper} {c f:List Bool} {q:Nat}(h:Vh l c f q=true) {a:Array Bool}(r:∀j o,a.getD j false=true→l[j]? =some o→∀e∈o.after.toList,Region.binds .any e=true→a.getD e.on false=true)(s:a.getD q false=true):
  ∀n i,l.length-i≤n→i<l.length→f.getD i false=false→a.getD i false=true:=by
 intro n
 induction n with
 |zero=>intro i t h2;omega
 |succ n ih=>
  intro i t h2 h3
  by_cases hiq:i=q
  ·subst hiq;exact s
  ·obtain⟨_,j,o,u,p,b,g,e,m,k,d⟩:=(Yd h).2.2.1 i h2 hiq h3;have:=r j o (ih j (by omega) p b) g e m k;rw[d]at this;exact this
def Vj (P:Program)(l:List Oper)(Q:Exit→Act→World→Prop)(sat:List Fb)(I:World→Prop)(S:World→World→Prop)(q:Option Nat)(z:Nat)(tl:List Bool)(a0:Act)(W:World)(i:Nat)(o:Oper):Prop:=
 ∀(a:Act) (w:World),(tl.getD i false=false→I w∧(En l q i=true→Below W.heap.size W w)∧Bh sat l a w o.after.toList)→(∀s,Co l i s=true→a.tmps[s]?.getD undef=a0.tmps[s]?.getD undef)→Ew sat l a w o.after.toList→
  ∀K:Act→World→Prop,(∀v w',(sat.getD i (fun _ _=>True)) (Ce o a v) w'→(i≠z→bif tl.getD i false then Below w.heap.size w w' else Gl S q i w w')→K (a.put o.dst v) w')→
   if Region.wanted o (yielded l.toArray a.tmps)=true then Oper.wp P o a w K Q else K (a.put o.dst undef) w
def OwedAll8 (P:Program)(l:List Oper)(Q:Exit→Act→World→Prop)(sat:List Fb)(I:World→Prop)(S:World→World→Prop)(q:Option Nat)(z:Nat)(tl:List Bool)(a0:Act)(W:World):Nat→List Oper→Prop
 |_,[]=>True
 |i,o::os=>Vj P l Q sat I S q z tl a0 W i o∧OwedAll8 P l Q sat I S q z tl a0 W (i+1) os
section
variable {P:Program} {l:List Oper} {Q:Exit→Act→World→Prop} {sat:List Fb} {I:World→Prop} {S:World→World→Prop} {q:Option Nat} {z:Nat} {tl:List Bool} {a0:Act} {W:World} {i:Nat} {o:Oper}
theorem OwedAll8.nil:OwedAll8 P l Q sat I S q z tl a0 W i []:=trivial
theorem OwedAll8.cons {os:List Oper}(h:Vj P l Q sat I S q z tl a0 W i o)(t:OwedAll8 P l Q sat I S q z tl a0 W (i+1) os):OwedAll8 P l Q sat I S q z tl a0 W i (o::os):=⟨h,t⟩
theorem Sv:∀(os:List Oper) (k:Nat),OwedAll8 P l Q sat I S q z tl a0 W k os→∀i o,os[i]? =some o→Vj P l Q sat I S q z tl a0 W (k+i) o:=by
 intro os
 induction os with
 |nil=>intro k _ i o h;simp at h
 |cons x os ih=>
  intro k h i o a;cases i with
  |zero=>simp at a;subst a;exact h.1
  |succ i=>
   have:=ih (k+1) h.2 i o (by simpa using a);rw[show k+(i+1)=k+1+i by omega];exact this
theorem He {id:Nat} {a:Act} {w:World} (m:List Fb) (N:List Bool) (I:World→Prop) (S:World→World→Prop) (q:Option Nat) (z:Nat) (n:List Bool) (U:P.follows .mixedOrders=true)
  (hk:∀j,j≠z→n.getD j false=false→(∀v x y,some j≠q→(m.getD j (fun _ _=>True)) v x→I x→S x y→(m.getD j (fun _ _=>True)) v y)∧∀v x y,some j=q→(m.getD j (fun _ _=>True)) v x→I x→Below x.heap.size x y→(m.getD j (fun _ _=>True)) v y)
  (aI:∀i j,n.getD i false=true→j=z∨n.getD j false=true→∀v x y,(m.getD j (fun _ _=>True)) v x→Below x.heap.size x y→(m.getD j (fun _ _=>True)) v y)
  (h0:I w.drew) (aB:∀x y,I x→Below x.heap.size x y→S x y) (aJ:∀x y,I x→S x y→I y) (hd:Iw l a.tmps.size=true) (L:Ej l=true) (Z:Vh l N n z=true)
  (aD:OwedAll8 P l Q m I S q z n a w 0 l)
  (W:∀(f:Nat→Value) (w':World),Dt m N f w' 0 l→Q .normal (Aj l a f) w'):
  (Code.region id l.toArray true).wp P Q a w:=by
 have s:=Yd Z
 -- ahead of z nothing of the tail is done
 have M:∀(i:Nat) (o:Oper) (b:Array Bool),l[i]? =some o→Jc l b→b.getD i false=false→n.getD i false=false→b.getD z false=false:=by
  intro i o b T hc d c
  by_cases k:i=z
  ·rw[←k];exact d
  ·cases u:b.getD z false with
   |false=>rfl
   |true=>
    have:=Vi Z hc u (l.length-i) i lR (Hc T) c;rw[d]at this;cases this
 refine Ov (C:=fun b i=>i=z∨n.getD i false=true∨b.getD z false=false) (Y:=fun b x=>b.getD z false=false→I x∧((∀j,q=some j→b.getD j false=false)→Below w.heap.size w x))
  (R:=fun _ i x y=>i≠z→bif n.getD i false then Below x.heap.size x y else Gl S q i x y) N U hd L (fun _=>⟨h0,fun _=>⟨rfl,rfl,rfl,lR,fun _ _=>rfl⟩⟩) ?_ ?_ ?_ ?_ (fun _ f w' _ _ _ hf=>W f w' hf)
 ·intro i o T b a' x J d g H K hK;have hO:=Sv l 0 aD i o T;rw[cY]at hO;refine hO a' x (fun c=> ?_) H (Ve _ fun e U u=>J.facts _ (g e U (Vd u)) ?_) K hK
  ·have E:=M i o b T J.closed d c;exact⟨(J.wld E).1,fun aH=>(J.wld E).2 fun j hj=>Yc J.closed d (by rw[←hj];exact aH),Mu _ fun e U u=>J.facts _ (g e U u) (.inr (.inr E))⟩
  ·cases c:n.getD i false with
   |false=>exact .inr (.inr (M i o b T J.closed d c))
   |true=>
    rcases(s.2.2.2 i o T c).2 e U u with h|h
    ·exact .inl h
    ·exact .inr (.inl h)
 ·intro i o b x y p O F d g hY r aC;have E:=Qq d aC;have r:=r (Qr (by rw[F];exact Hc p) aC);have c:n.getD i false=false:=by
   cases c:n.getD i false with
   |false=>rfl
   |true=>
    obtain⟨e,L,u,D⟩:=(s.2.2.2 i o p c).1;have:=g e L u;rw[D,E]at this;cases this
  rw[c]at r;obtain⟨V,hB⟩:=hY E;refine⟨aJ _ _ V (Qo aB V r),fun G=> ?_⟩;have aA:=hB fun j hj=>Qq d (G j hj);exact aA.trans ((Qp (fun e=>Qr (by rw[F];exact Hc p) (G i e.symm) rfl) r).mono aA.size)
 ·intro i j o oj b x y p aE O F d g B hC hY r;cases c:n.getD i false with
  |true=>
   obtain⟨e,L,u,D⟩:=(s.2.2.2 i o p c).1;have aF:=g e L u;rw[D]at aF;have k:i≠z:=by
    intro e;rw[e,s.2.1]at c;cases c
   have r:=r k;rw[c]at r;have t:j=z∨n.getD j false=true:=by
    rcases hC with h|h|h
    ·exact .inl h
    ·exact .inr h
    ·have:=Qq d h;rw[aF]at this;cases this
   exact⟨t.elim .inl fun h=> .inr (.inl h),fun v hv=>aI i j c t v _ _ hv r⟩
  |false=>
   have E:=M i o b p O d c;have t:j≠z:=by
    intro e;rw[e,E]at B;cases B
   have A:n.getD j false=false:=by
    cases A:n.getD j false with
    |false=>rfl
    |true=>
     obtain⟨e,L,u,D⟩:=(s.2.2.2 j oj aE A).1;have:=O j oj B aE e L u;rw[D,E]at this;cases this
   have k:i≠z:=by
    rcases hC with h|h|h
    ·exact absurd h t
    ·rw[A]at h;cases h
    ·exact Qr (by rw[F];exact Hc p) h
   have r:=r k;rw[c]at r;obtain⟨V,_⟩:=hY E;refine⟨.inr (.inr E),fun v hv=> ?_⟩
   by_cases hjq:some j=q
   ·refine(hk j t A).2 v _ _ hjq hv V (Qp ?_ r);rw[←hjq];intro e;cases e;rw[d]at B;cases B
   ·exact(hk j t A).1 v _ _ hjq hv V (Qo aB V r)
 ·intro b i _ aG X
  by_cases k:i=z
  ·exact .inl k
  ·cases c:n.getD i false with
   |true=>exact .inr (.inl rfl)
   |false=>rw[(s.2.2.1 i aG k c).1]at X;cases X
theorem Aw {C:Nat} {a:Act} {w:World} (c:List Fb) (d:List Bool) (I:World→Prop) (S:World→World→Prop) (q:Option Nat) (z:Nat) (t:P.follows .mixedOrders=true) (hk:Dd I S q (c.set z fun _ _=>True)) (s:I w.drew) (o:∀x y,I x→Below x.heap.size x y→S x y) (r:∀x y,I x→S x y→I y) (B:Iw l a.tmps.size=true) (u:Ej l=true) (m:Vh l d [] z=true)
  (k:OwedAll8 P l Q c I S q z [] a w 0 l)
  (g:∀(f:Nat→Value) (w':World),Dt c d f w' 0 l→Q .normal (Aj l a f) w'):
  (Code.region C l.toArray true).wp P Q a w:=by
 refine He c d I S q z [] t (fun j A _=> ?_) (fun i j h=>by simp at h) s o r B u m k g;have b:(c.set z fun _ _=>True).getD j (fun _ _=>True)=c.getD j (fun _ _=>True):=by
  rw[aJ,cJ (fun e=>A e.symm),←aJ]
 have h:=Ig _ q hk;exact⟨fun v x y p n=>b▸h.1 j v x y (fun e=>p e) (b▸n),fun v x y p n=>b▸h.2 j v x y p (b▸n)⟩
theorem Ly (h:∀(a:Act) (w:World),I w→(En l q i=true→Below W.heap.size W w)→(∀s,Co l i s=true→a.tmps[s]?.getD undef=a0.tmps[s]?.getD undef)→Bh sat l a w o.after.toList→
      Region.wanted o (yielded l.toArray a.tmps)=true∧∀K:Act→World→Prop,(∀v w',(sat.getD i (fun _ _=>True)) (Ce o a v) w'→(i≠z→Gl S q i w w')→K (a.put o.dst v) w')→Oper.wp P o a w K Q):Vj P l Q sat I S q z [] a0 W i o:=by
 intro a w d c _ K e;obtain⟨b,h2,h3⟩:=d rfl;rw[if_pos (h a w b h2 c h3).1];exact(h a w b h2 c h3).2 K e
theorem Zgs (b:tl.getD i false=false) (h:∀(a:Act) (w:World),I w→(En l q i=true→Below W.heap.size W w)→(∀s,Co l i s=true→a.tmps[s]?.getD undef=a0.tmps[s]?.getD undef)→Bh sat l a w o.after.toList→
      Region.wanted o (yielded l.toArray a.tmps)=true∧∀K:Act→World→Prop,(∀v w',(sat.getD i (fun _ _=>True)) (Ce o a v) w'→(i≠z→Gl S q i w w')→K (a.put o.dst v) w')→Oper.wp P o a w K Q):Vj P l Q sat I S q z tl a0 W i o:=by
 intro a w f e _ K k;obtain⟨d,h2,h3⟩:=f b;rw[if_pos (h a w d h2 e h3).1];exact(h a w d h2 e h3).2 K fun v w' j g=>k v w' j fun c=>by rw[b];exact g c
theorem Zgt (b:tl.getD i false=true) (h:∀(a:Act) (w:World),(∀s,Co l i s=true→a.tmps[s]?.getD undef=a0.tmps[s]?.getD undef)→Ew sat l a w o.after.toList→
      Region.wanted o (yielded l.toArray a.tmps)=true∧∀K:Act→World→Prop,(∀v w',(sat.getD i (fun _ _=>True)) (Ce o a v) w'→Below w.heap.size w w'→K (a.put o.dst v) w')→Oper.wp P o a w K Q):Vj P l Q sat I S q z tl a0 W i o:=by
 intro a w _ d c K g;rw[if_pos (h a w d c).1];exact(h a w d c).2 K fun v w' f e=>g v w' f fun _=>by rw[b];exact e
end
end
section
abbrev eF (x:Value):Fb:=fun v _=>v=x
theorem eqn {v x:Value}(h:v=x):v=x:=h
def isB (b:Bool):Value→Bool
 | .bool c=>c==b
 |_=>false
theorem Zll {b:Bool} {v:Value}(h:isB b v=false):v≠ .bool b:=by
 intro e;rw[e]at h;simp[isB]at h
section
variable {P:Program} {l:List Oper} {Q:Exit→Act→World→Prop} {sat:List Fb} {I:World→Prop} {S:World→World→Prop} {q:Option Nat} {a0:Act} {W:World} {i:Nat} {o:Oper} {os:List Oper}
def dn:Option Nat→Option Nat
 |some (q+1)=>some q
 |_=>none
theorem kX {s:Fb}(h:∀v x y,s v x→I x→S x y→s v y)(h2:∀v x y,s v x→I x→Below x.heap.size x y→s v y)(t:Dd I S (dn q) sat):Dd I S q (s::sat):=by
 match q,t with
 |none,t=>exact⟨h,t⟩
 |some 0,t=>exact⟨h2,t⟩
 |some (q+1),t=>exact⟨h,t⟩
theorem kE {x:Value}(t:Dd I S (dn q) sat):Dd I S q (eF x::sat):=kX (fun _ _ _ h _ _=>h) (fun _ _ _ h _ _=>h) t
theorem gO (h:∀(a:Act) (w:World),I w→(En l q i=true→Below W.heap.size W w)→(∀s,Co l i s=true→a.tmps[s]?.getD undef=a0.tmps[s]?.getD undef)→Bh sat l a w o.after.toList→
      Region.wanted o (yielded l.toArray a.tmps)=true∧∀K:Act→World→Prop,(∀v w',(sat.getD i (fun _ _=>True)) (Ce o a v) w'→Gl S q i w w'→K (a.put o.dst v) w')→Oper.wp P o a w K Q)
  (t:OwedAll7 P l Q sat I S q a0 W (i+1) os):OwedAll7 P l Q sat I S q a0 W i (o::os):=.cons (Zgr h) t
theorem gP (h:∀(a:Act) (w:World),I w→(En l q i=true→Below W.heap.size W w)→(∀s,Co l i s=true→a.tmps[s]?.getD undef=a0.tmps[s]?.getD undef)→Bh sat l a w o.after.toList→
      Region.wanted o (yielded l.toArray a.tmps)=true∧∀K:Act→World→Prop,(∀v,(sat.getD i (fun _ _=>True)) (Ce o a v) w→K (a.put o.dst v) w)→Hid (Oper.wp P o a w K Q))
  (d:(some i==q)=false) (t:OwedAll7 P l Q sat I S q a0 W (i+1) os):OwedAll7 P l Q sat I S q a0 W i (o::os):=
 gO (fun a w b h2 h3 c=>⟨(h a w b h2 h3 c).1,fun K f=>((h a w b h2 h3 c).2 K fun v e=>f v w e (Af d bR)).out⟩) t
theorem fO {j:Nat} {b:Bool} {e:Oper} {s:Tmp} {v:Value} {d:Tmp} (p:o.dst=some d) (n:sat.getD i (fun _ _=>True)=fun v _=>v=undef) (m:(some i==q)=false) (g:o.guard=some (j,b)) (h:l.toArray[j]? =some e) (f:e.dst=some s)
  (k:∀(a:Act) (w:World),Bh sat l a w o.after.toList→a.tmps[s]?.getD undef=v) (c:isB b v=false)
  (t:OwedAll7 P l Q sat I S q a0 W (i+1) os):OwedAll7 P l Q sat I S q a0 W i (o::os):=
 .cons (Zcn p n m fun a w r=>Vg g h f (k a w r) (Zll c)) t
theorem gOw (c:En l q i=true) (h:∀(a:Act) (w:World),I w→Below W.heap.size W w→(∀s,Co l i s=true→a.tmps[s]?.getD undef=a0.tmps[s]?.getD undef)→Bh sat l a w o.after.toList→
      Region.wanted o (yielded l.toArray a.tmps)=true∧∀K:Act→World→Prop,(∀v w',(sat.getD i (fun _ _=>True)) (Ce o a v) w'→Gl S q i w w'→K (a.put o.dst v) w')→Oper.wp P o a w K Q)
  (t:OwedAll7 P l Q sat I S q a0 W (i+1) os):OwedAll7 P l Q sat I S q a0 W i (o::os):=gO (fun a w b h2=>h a w b (h2 c)) t
theorem gPw (d:En l q i=true) (h:∀(a:Act) (w:World),I w→Below W.heap.size W w→(∀s,Co l i s=true→a.tmps[s]?.getD undef=a0.tmps[s]?.getD undef)→Bh sat l a w o.after.toList→
      Region.wanted o (yielded l.toArray a.tmps)=true∧∀K:Act→World→Prop,(∀v,(sat.getD i (fun _ _=>True)) (Ce o a v) w→K (a.put o.dst v) w)→Hid (Oper.wp P o a w K Q))
  (c:(some i==q)=false) (t:OwedAll7 P l Q sat I S q a0 W (i+1) os):OwedAll7 P l Q sat I S q a0 W i (o::os):=gP (fun a w b h2=>h a w b (h2 d)) c t
theorem Cb {j:Nat} {a:Act} {w:World} (b:List Fb) (g:P.follows .mixedOrders=true) (k:Iw l a.tmps.size=true) (e:Ej l=true) (hk:Dd (fun x=>Below w.heap.size w x) (fun x y=>Below x.heap.size x y) none b)
  (c:OwedAll7 P l Q b (fun x=>Below w.heap.size w x) (fun x y=>Below x.heap.size x y) none a w 0 l)
  (d:∀(f:Nat→Value) (w':World),Below w.heap.size w w'→Dt b (cK l.length true) f w' 0 l→Q .normal (Aj l a f) w'):
  (Code.region j l.toArray true).wp P Q a w:=
 Bl b _ _ _ none g hk ⟨rfl,rfl,rfl,lR,fun _ _=>rfl⟩ (fun _ _ _ h=>h) (fun _ _ hx i=>hx.trans (i.mono hx.size)) k e c d
theorem bX {s:Fb}(h:∀v x y,s v x→Below x.heap.size x y→s v y)(t:Dd I (fun x y=>Below x.heap.size x y) none sat):Dd I (fun x y=>Below x.heap.size x y) none (s::sat):=⟨fun v x y hv _ hs=>h v x y hv hs,t⟩
theorem gB (h:∀(a:Act) (w:World),Below W.heap.size W w→(∀s,Co l i s=true→a.tmps[s]?.getD undef=a0.tmps[s]?.getD undef)→Bh sat l a w o.after.toList→
      Region.wanted o (yielded l.toArray a.tmps)=true∧∀K:Act→World→Prop,(∀v w',(sat.getD i (fun _ _=>True)) (Ce o a v) w'→Below w.heap.size w w'→K (a.put o.dst v) w')→Oper.wp P o a w K Q)
  (t:OwedAll7 P l Q sat (fun x=>Below W.heap.size W x) S none a0 W (i+1) os):OwedAll7 P l Q sat (fun x=>Below W.heap.size W x) S none a0 W i (o::os):=
 gO (fun a w b _ h3 c=>⟨(h a w b h3 c).1,fun K f=>(h a w b h3 c).2 K fun v w' e d=>f v w' e (Af rfl d)⟩) t
theorem gQ (h:∀(a:Act) (w:World),Below W.heap.size W w→(∀s,Co l i s=true→a.tmps[s]?.getD undef=a0.tmps[s]?.getD undef)→Bh sat l a w o.after.toList→
      Region.wanted o (yielded l.toArray a.tmps)=true∧∀K:Act→World→Prop,(∀v,(sat.getD i (fun _ _=>True)) (Ce o a v) w→K (a.put o.dst v) w)→Hid (Oper.wp P o a w K Q))
  (t:OwedAll7 P l Q sat (fun x=>Below W.heap.size W x) S none a0 W (i+1) os):OwedAll7 P l Q sat (fun x=>Below W.heap.size W x) S none a0 W i (o::os):=
 gP (fun a w b _ h3 c=>h a w b h3 c) rfl t
variable {z:Nat}
theorem gO8 (h:∀(a:Act) (w:World),I w→(En l q i=true→Below W.heap.size W w)→(∀s,Co l i s=true→a.tmps[s]?.getD undef=a0.tmps[s]?.getD undef)→Bh sat l a w o.after.toList→
      Region.wanted o (yielded l.toArray a.tmps)=true∧∀K:Act→World→Prop,(∀v w',(sat.getD i (fun _ _=>True)) (Ce o a v) w'→(i≠z→Gl S q i w w')→K (a.put o.dst v) w')→Oper.wp P o a w K Q)
  (t:OwedAll8 P l Q sat I S q z [] a0 W (i+1) os):OwedAll8 P l Q sat I S q z [] a0 W i (o::os):=.cons (Ly h) t
theorem gP8 (h:∀(a:Act) (w:World),I w→(En l q i=true→Below W.heap.size W w)→(∀s,Co l i s=true→a.tmps[s]?.getD undef=a0.tmps[s]?.getD undef)→Bh sat l a w o.after.toList→
      Region.wanted o (yielded l.toArray a.tmps)=true∧∀K:Act→World→Prop,(∀v,(sat.getD i (fun _ _=>True)) (Ce o a v) w→K (a.put o.dst v) w)→Hid (Oper.wp P o a w K Q))
  (d:(some i==q)=false) (t:OwedAll8 P l Q sat I S q z [] a0 W (i+1) os):OwedAll8 P l Q sat I S q z [] a0 W i (o::os):=
 gO8 (fun a w b h2 h3 c=>⟨(h a w b h2 h3 c).1,fun K f=>((h a w b h2 h3 c).2 K fun v e=>f v w e fun _=>Af d bR).out⟩) t
theorem Lz (c:En l q i=true) (h:∀(a:Act) (w:World),I w→Below W.heap.size W w→(∀s,Co l i s=true→a.tmps[s]?.getD undef=a0.tmps[s]?.getD undef)→Bh sat l a w o.after.toList→
      Region.wanted o (yielded l.toArray a.tmps)=true∧∀K:Act→World→Prop,(∀v w',(sat.getD i (fun _ _=>True)) (Ce o a v) w'→(i≠z→Gl S q i w w')→K (a.put o.dst v) w')→Oper.wp P o a w K Q)
  (t:OwedAll8 P l Q sat I S q z [] a0 W (i+1) os):OwedAll8 P l Q sat I S q z [] a0 W i (o::os):=gO8 (fun a w b h2=>h a w b (h2 c)) t
theorem Mv (d:En l q i=true) (h:∀(a:Act) (w:World),I w→Below W.heap.size W w→(∀s,Co l i s=true→a.tmps[s]?.getD undef=a0.tmps[s]?.getD undef)→Bh sat l a w o.after.toList→
      Region.wanted o (yielded l.toArray a.tmps)=true∧∀K:Act→World→Prop,(∀v,(sat.getD i (fun _ _=>True)) (Ce o a v) w→K (a.put o.dst v) w)→Hid (Oper.wp P o a w K Q))
  (c:(some i==q)=false) (t:OwedAll8 P l Q sat I S q z [] a0 W (i+1) os):OwedAll8 P l Q sat I S q z [] a0 W i (o::os):=gP8 (fun a w b h2=>h a w b (h2 d)) c t
variable {tl:List Bool}
theorem Hf {H:Nat} {a:Act} {w:World} (b:List Fb) (I:World→Prop) (S:World→World→Prop) (q:Option Nat) (z:Nat) (E:P.follows .mixedOrders=true) (G:Iw l a.tmps.size=true) (F:Ej l=true)
  (r:Vh l (cK z false++[true,true]) (cK (z+1) false++[true]) z=true) (hk:Dd I S q ((b.set z fun _ _=>True).set (z+1) fun _ _=>True))
  (J:∀v x y,(b.getD z (fun _ _=>True)) v x→Below x.heap.size x y→(b.getD z (fun _ _=>True)) v y) (o:∀v x y,(b.getD (z+1) (fun _ _=>True)) v x→Below x.heap.size x y→(b.getD (z+1) (fun _ _=>True)) v y)
  (D:I w.drew) (s:∀x y,I x→Below x.heap.size x y→S x y) (A:∀x y,I x→S x y→I y)
  (m:OwedAll8 P l Q b I S q z (cK (z+1) false++[true]) a w 0 l)
  (k:∀(f:Nat→Value) (w':World),Dt b (cK z false++[true,true]) f w' 0 l→Q .normal (Aj l a f) w'):
  (Code.region H l.toArray true).wp P Q a w:=by
 have p:∀j,(cK (z+1) false++[true]).getD j false=true→j=z+1:=by
  intro j h;rw[aJ,List.getElem?_append]at h
  split at h
  ·rename_i d
   rw[List.getElem?_replicate]at h
   split at h<;>simp at h
  ·rename_i d
   simp only[List.length_replicate]at d h;cases hx:j-(z+1)with
   |zero=>omega
   |succ n=>rw[hx]at h;simp at h
 refine He b _ I S q z _ E (fun j d C=> ?_) (fun i j _ d v x y g B=> ?_) D s A G F r m k
 ·have t:j≠z+1:=by
   rintro rfl;rw[aJ,List.getElem?_append_right (by simp)]at C;simp at C
  have c:((b.set z fun _ _=>True).set (z+1) fun _ _=>True).getD j (fun _ _=>True)=b.getD j (fun _ _=>True):=by
   rw[aJ,cJ (fun e=>t e.symm),cJ (fun e=>d e.symm),←aJ]
  have h:=Ig _ q hk;exact⟨fun v x y u g=>c▸h.1 j v x y (fun e=>u e) (c▸g),fun v x y u g=>c▸h.2 j v x y u (c▸g)⟩
 ·rcases d with rfl|d
  ·exact J v x y g B
  ·rw[p j d]at g⊢;exact o v x y g B
theorem gO9 (b:tl.getD i false=false) (h:∀(a:Act) (w:World),I w→(En l q i=true→Below W.heap.size W w)→(∀s,Co l i s=true→a.tmps[s]?.getD undef=a0.tmps[s]?.getD undef)→Bh sat l a w o.after.toList→
      Region.wanted o (yielded l.toArray a.tmps)=true∧∀K:Act→World→Prop,(∀v w',(sat.getD i (fun _ _=>True)) (Ce o a v) w'→(i≠z→Gl S q i w w')→K (a.put o.dst v) w')→Oper.wp P o a w K Q)
  (t:OwedAll8 P l Q sat I S q z tl a0 W (i+1) os):OwedAll8 P l Q sat I S q z tl a0 W i (o::os):=.cons (Zgs b h) t
theorem gP9 (b:tl.getD i false=false) (h:∀(a:Act) (w:World),I w→(En l q i=true→Below W.heap.size W w)→(∀s,Co l i s=true→a.tmps[s]?.getD undef=a0.tmps[s]?.getD undef)→Bh sat l a w o.after.toList→
      Region.wanted o (yielded l.toArray a.tmps)=true∧∀K:Act→World→Prop,(∀v,(sat.getD i (fun _ _=>True)) (Ce o a v) w→K (a.put o.dst v) w)→Hid (Oper.wp P o a w K Q))
  (e:(some i==q)=false) (t:OwedAll8 P l Q sat I S q z tl a0 W (i+1) os):OwedAll8 P l Q sat I S q z tl a0 W i (o::os):=
 gO9 b (fun a w c h2 h3 d=>⟨(h a w c h2 h3 d).1,fun K g=>((h a w c h2 h3 d).2 K fun v f=>g v w f fun _=>Af e bR).out⟩) t
theorem gT9 (b:tl.getD i false=true) (h:∀(a:Act) (w:World),(∀s,Co l i s=true→a.tmps[s]?.getD undef=a0.tmps[s]?.getD undef)→Ew sat l a w o.after.toList→
      Region.wanted o (yielded l.toArray a.tmps)=true∧∀K:Act→World→Prop,(∀v w',(sat.getD i (fun _ _=>True)) (Ce o a v) w'→Below w.heap.size w w'→K (a.put o.dst v) w')→Oper.wp P o a w K Q)
  (t:OwedAll8 P l Q sat I S q z tl a0 W (i+1) os):OwedAll8 P l Q sat I S q z tl a0 W i (o::os):=.cons (Zgt b h) t
end
end
end Go.Proofs.YtfofaiommeckbaaGreat
