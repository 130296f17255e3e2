import Derived.Test.YtfofaiommeckbaaGreatZTr00
import Derived.RegionTactic
open List renaming range -> aC, mem_filter -> cG, getElem?_cons_succ -> cA, getElem?_eq_none -> aH, any_eq_true -> cH, getD_eq_getElem?_getD -> aE, getElem?_set_ne -> cI, replicate -> cJ
open Bool renaming and_eq_true -> cK, or_eq_true -> cL, not_eq_true' -> cM
open Option renaming map_some -> cN, getD_some -> cO, bind_some -> cP
open Array renaming all_eq_true_iff_forall_mem -> cQ, getElem?_eq_getElem -> cR, getElem?_toList -> cS, getElem?_eq_none -> bI, getD_eq_getD_getElem? -> cT, size_setIfInBounds -> cU, getElem?_setIfInBounds -> cV, replicate -> cW
open Nat renaming zero_add -> cX, lt_or_ge -> aJ
set_option linter.unusedVariables false
set_option maxRecDepth 100000
set_option maxHeartbeats 40000000
namespace Go.Proofs.YtfofaiommeckbaaGreat
open Go.RowKit
abbrev Fi:=Value->World->Prop
def At (l:List Oper):List Tmp:=l.filterMap (·.dst)
def Cn (l:List Oper)(i:Nat)(s:Tmp):Bool:=
 (aC l.length).all fun j=>match l[j]? with
  |some o=>o.dst !=some s||j==i||o.after.toList.any fun e=>Region.binds .any e&&e.on==i
  |none=>true
def Za5 (sat:List Fi):Prop:=∀(i:Nat) v w w',(sat.getD i (fun _ _=>True)) v w->Below w.heap.size w w'->(sat.getD i (fun _ _=>True)) v w'
theorem Sy:Za5 []:=fun i v w w' h _=>by simp
theorem Dt {s:Fi} {sat:List Fi}(h:∀v w w',s v w->Below w.heap.size w w'->s v w')(hs:Za5 sat):Za5 (s::sat):=by
 intro i v w w' hv hb;cases i with
 |zero=>exact h v w w' hv hb
 |succ i=>exact hs i v w w' hv hb
theorem Vn (a:Act)(d s:Tmp)(v:Value)(h:d≠s):(a.put (some d) v).tmps[s]?.getD undef=a.tmps[s]?.getD undef:=by
 show(a.tmps.setIfInBounds d v)[s]?.getD undef=_;simp[h]
theorem Vo (a:Act)(d:Tmp)(v:Value)(h:d<a.tmps.size):(a.put (some d) v).tmps[d]?.getD undef=v:=by
 show(a.tmps.setIfInBounds d v)[d]?.getD undef=v;simp[h]
theorem Za6 {ops:Array Oper} {a:Array Bool} {i:Nat}(h:i∈Region.ready .any ops a):∃o,ops[i]? =some o/\∀e∈o.after.toList,Region.binds .any e=true->a.getD e.on false=true:=by
 rw[Region.ready,cG]at h;obtain⟨_,h⟩:=h;rw[cK]at h;cases ho:ops[i]? with
 |none=>rw[ho]at h;simp at h
 |some o=>
  refine⟨o,rfl,?_⟩;intro e c b;have h2:=h.2;rw[ho]at h2;simp only[cN,cO]at h2;rw[cQ]at h2;have:=h2 e (by simpa using c);rw[b]at this;simpa using this
def Ei (ds:List Tmp)(f:Nat->Value):Nat->List Value->List Value
 |_,[]=>[]
 |s,x::xs=>(bif ds.contains s then f s else x)::Ei ds f (s+1) xs
def Ak (l:List Oper)(a:Act)(f:Nat->Value):Act:= {tmps:=(Ei (At l) f 0 a.tmps.toList).toArray,defers:=a.defers}
theorem Zhh (a:List Tmp)(f:Nat->Value):∀(xs:List Value) (k i:Nat),(Ei a f k xs)[i]? =(xs[i]?).map fun x=>bif a.contains (k+i)then f (k+i)else x:=by
 intro xs
 induction xs with
 |nil=>intro k i;simp[Ei]
 |cons x xs ih=>
  intro k i;cases i with
  |zero=>simp[Ei]
  |succ i=>
   rw[Ei,cA,cA,ih,show k+1+i=k+(i+1) by omega]
theorem Za7 {l:List Oper} {a b:Act}(j:b.tmps.size=a.tmps.size)(f:b.defers=a.defers)(g:∀s,(At l).contains s=false->b.tmps[s]?.getD undef=a.tmps[s]?.getD undef):
  b=Ak l a (fun s=>b.tmps[s]?.getD undef):=by
 obtain⟨c,k⟩:=b;obtain⟨t,d⟩:=a;simp only at j f g;subst f;unfold Ak
 congr 1
 apply Array.ext_getElem?;intro i;have e:∀xs:List Value,((Ei (At l) (fun s=>c[s]?.getD undef) 0 xs).toArray)[i]? =(xs[i]?).map fun x=>bif (At l).contains i then c[i]?.getD undef else x:=by
  intro xs;rw[List.getElem?_toArray,Zhh,cX]
 show c[i]? =((Ei (At l) (fun s=>c[s]?.getD undef) 0 t.toList).toArray)[i]?;rw[e];rcases aJ i t.size with h|h
 ·rw[cR (by omega),cS,cR h,cN]
  congr 1
  cases hc:(At l).contains i with
  |true=>simp
  |false=>
   have:=g i hc;rw[cR (by omega),cR h]at this;exact this
 ·rw[bI (by omega),cS,bI h,Option.map_none]
theorem Be {o:Oper} {ops:Array Oper} {tmps:Array Value} {j:Nat} {b:Bool} {c:Oper} {s:Tmp}(d:o.guard=some (j,b))(e:ops[j]? =some c)(f:c.dst=some s)(a:tmps[s]?.getD undef=.bool b):Region.wanted o (yielded ops tmps)=true:=by
 cases ht:tmps[s]? with
 |none=>rw[ht]at a;cases a
 |some x=>
  rw[ht]at a;have hx:x=.bool b:=a;have g:yielded ops tmps j=some b:=by
   unfold yielded;rw[e,cP,f,cP,ht,hx]
  unfold Region.wanted;rw[d];simp[g]
def Za8 (e:Edge):Bool:=Region.binds .any e&&match e.ground with| .data=>true|_=>false
theorem Vp {e:Edge}(h:Za8 e=true):Region.binds .any e=true:=by
 unfold Za8 at h;rw[cK]at h;exact h.1
def Ks (o:Oper):Option Tmp:=match o.dst with
 |some d=>some d
 |none=>match o.op with
  | .store _ (.tmp p) _=>some p
  | .mapUpdate _ (.tmp p) _ _=>some p
  |_=>none
theorem Zkr {o:Oper} {d:Tmp}(h:o.dst=some d):Ks o=some d:=by unfold Ks;rw[h]
def Hr (sat:List Fi)(l:List Oper)(a:Act)(w:World)(i:Nat):Prop:=
 match l[i]? with
 |some o=>match Ks o with
  |some d=>(sat.getD i (fun _ _=>True)) (a.tmps[d]?.getD undef) w
  |none=>True
 |none=>True
def Fl (sat:List Fi)(l:List Oper)(a:Act)(w:World):List Edge->Prop
 |[]=>True
 |e::es=>(if Za8 e=true then Hr sat l a w e.on else True)/\Fl sat l a w es
theorem Vq {c:List Fi} {l:List Oper} {a:Act} {w:World}:∀b:List Edge,(∀e∈b,Za8 e=true->Hr c l a w e.on)->Fl c l a w b:=by
 intro b
 induction b with
 |nil=>intro _;trivial
 |cons e b ih=>
  intro h;refine⟨?_,ih fun x hx=>h x (by simp[hx])⟩
  split
  ·rename_i hb;exact h e (by simp) hb
  ·trivial
def Ir (l:List Oper)(n:Nat):Bool:=
 ((aC l.length).all fun i=>match l[i]? with
  |some o=>(match Ks o with|some d=>decide (d<n)|none=>false)&&(aC l.length).all fun j=>match l[j]? with
   |some o'=>i==j||o'.dst.isNone||o'.dst !=Ks o||(o.dst.isNone&&o.after.toList.any fun e=>Region.binds .any e&&e.on==j)
   |none=>true
  |none=>true)
theorem Yq {l:List Oper} {n:Nat}(h:Ir l n=true) {i:Nat} {o:Oper}(b:l[i]? =some o):∃d,Ks o=some d/\d<n:=by
 have c:i<l.length:=by
  rcases aJ i l.length with h|h
  ·exact h
  ·rw[aH h]at b;cases b
 have:=List.all_eq_true.1 h i (List.mem_range.2 c);rw[b]at this;simp only[cK]at this;have a:=this.1;cases hd:Ks o with
 |none=>rw[hd]at a;cases a
 |some d=>rw[hd]at a;exact⟨d,rfl,by simpa using a⟩
theorem Zmi {l:List Oper} {n:Nat}(h:Ir l n=true) {i j:Nat} {o q:Oper} {d p:Tmp}(c:l[i]? =some o)(g:l[j]? =some q)(t:Ks o=some d)(a:q.dst=some p)(m:i≠j):p≠d\/∃e∈o.after.toList,Region.binds .any e=true/\e.on=j:=by
 have f:i<l.length:=by
  rcases aJ i l.length with h|h
  ·exact h
  ·rw[aH h]at c;cases c
 have k:j<l.length:=by
  rcases aJ j l.length with h|h
  ·exact h
  ·rw[aH h]at g;cases g
 have:=List.all_eq_true.1 h i (List.mem_range.2 f);rw[c]at this;simp only[cK]at this;have h2:=List.all_eq_true.1 this.2 j (List.mem_range.2 k);rw[g]at h2;simp only[cL,beq_iff_eq,bne_iff_ne,cK,cH]at h2;rcases h2 with((h2|h2)|h2)|⟨_,e,s,r,b⟩
 ·exact absurd h2 m
 ·rw[a]at h2;cases h2
 ·left
  intro e;rw[t,a,e]at h2;exact h2 rfl
 ·exact .inr ⟨e,s,r,b⟩
def Cg (o:Oper)(a:Act)(v:Value):Value:=match o.dst with
 |some _=>v
 |none=>match Ks o with
  |some p=>a.tmps[p]?.getD undef
  |none=>undef
def Dz (l:List Oper):Bool:=(aC l.length).all fun i=>match l[i]? with|some o=>o.after.toList.all fun e=> !Region.binds .any e||decide (e.on<i)|none=>true
theorem Zc6 {l:List Oper}(h:Dz l=true) {i:Nat} {o:Oper}(a:l[i]? =some o):∀e∈o.after.toList,Region.binds .any e=true->e.on<i:=by
 have b:i<l.length:=by
  rcases aJ i l.length with h|h
  ·exact h
  ·rw[aH h]at a;cases a
 have:=List.all_eq_true.1 h i (List.mem_range.2 b);rw[a]at this;intro e d c;have h2:=List.all_eq_true.1 this e d;rw[c]at h2;simpa using h2
theorem Vr {l:List Oper}(h:Dz l=true) {a:Array Bool}(t:a.size=l.length) {i:Nat}(r:i<l.length)(q:a.getD i false=false):Region.ready .any l.toArray a≠[]:=by
 have:∃j,j<l.length/\a.getD j false=false/\∀k,k<j->a.getD k false=true:=by
  induction i using Nat.strongRecOn with
  |ind i ih=>
   by_cases hall:∀k,k<i->a.getD k false=true
   ·exact⟨i,r,q,hall⟩
   ·have:∃k,k<i/\a.getD k false=false:=by
     refine Classical.byContradiction fun s=>hall fun k hk=> ?_;cases c:a.getD k false with
     |true=>rfl
     |false=>exact absurd ⟨k,hk,c⟩ s
    obtain⟨k,hk,c⟩:=this;exact ih k hk (by omega) c
 obtain⟨j,g,b,d⟩:=this;obtain⟨o,n⟩:∃o,l[j]? =some o:=⟨l[j],List.getElem?_eq_getElem g⟩;have m:j∈Region.ready .any l.toArray a:=by
  rw[Region.ready,cG];refine⟨by simpa using g,?_⟩;rw[cK];constructor
  ·have:a.getD j true=false:=by
    rw[cT]at b|-;rw[cR (by omega)]at b|-;exact b
   rw[this];rfl
  ·have f:l.toArray[j]? =some o:=(by simpa using n);rw[f,cN,cO,cQ];intro e p;cases c:Region.binds .any e with
   |false=>rfl
   |true=>
    rw[cL]
    right
    exact d _ (Zc6 h n e (by simpa using p) c)
 intro e;rw[e]at m;cases m
theorem Zhi (a:Act)(d:Option Tmp)(v:Value):(a.put d v).tmps.size=a.tmps.size:=by
 cases d with
 |none=>rfl
 |some d=>show(a.tmps.setIfInBounds d v).size=_;rw[cU]
theorem Za9 (a:Act)(d:Option Tmp)(v:Value):(a.put d v).defers=a.defers:=by cases d<;>rfl
theorem Zj8 (a:Act)(d:Option Tmp)(s:Tmp)(v:Value)(h:d≠some s):(a.put d v).tmps[s]?.getD undef=a.tmps[s]?.getD undef:=by
 cases d with
 |none=>rfl
 |some d=>exact Vn a d s v (fun e=>h (by rw[e]))
theorem Zks (a:Act) {o:Oper} {d:Tmp}(h:Ks o=some d)(v:Value)(hd:d<a.tmps.size):(a.put o.dst v).tmps[d]?.getD undef=Cg o a v:=by
 unfold Cg;cases ho:o.dst with
 |none=>simp only[h];rfl
 |some d'=>
  have:=Zkr ho;rw[h]at this;cases this;exact Vo a d v hd
def Dj (sat:List Fi)(fin:List Bool)(f:Nat->Value)(w:World):Nat->List Oper->Prop
 |_,[]=>True
 |i,o::os=>(bif fin.getD i false then(match Ks o with|some d=>(sat.getD i (fun _ _=>True)) (f d) w|none=>True)else True)/\Dj sat fin f w (i+1) os
theorem Sz {c:List Fi} {b:List Bool} {f:Nat->Value} {w:World}:∀(os:List Oper) (k:Nat),(∀i o d,os[i]? =some o->Ks o=some d->b.getD (k+i) false=true->(c.getD (k+i) (fun _ _=>True)) (f d) w)->Dj c b f w k os:=by
 intro os
 induction os with
 |nil=>intro k _;trivial
 |cons o os ih=>
  intro k h;refine⟨?_,ih (k+1) fun i l d j e a=> ?_⟩
  ·cases a:b.getD k false with
   |false=>trivial
   |true=>
    cases e:Ks o with
    |none=>trivial
    |some d=>exact h 0 o d rfl e a
  ·have g:k+1+i=k+(i+1):=(by omega);rw[g]at a|-;exact h (i+1) l d (by simpa using j) e a
section
def Ix (l:List Oper)(listed:Array Bool):Prop:=∀j o,listed.getD j false=true->l[j]? =some o->∀e∈o.after.toList,Region.binds .any e=true->listed.getD e.on false=true
structure OnceX (l:List Oper) (sat:List Fi) (C:Array Bool->Nat->Prop) (Y:Array Bool->World->Prop) (a0:Act) (listed:Array Bool) (a:Act) (w:World):Prop where
 size:a.tmps.size=a0.tmps.size
 defers:a.defers=a0.defers
 out:∀s,(∀j o,listed.getD j false=true->l[j]? =some o->o.dst≠some s)->a.tmps[s]?.getD undef=a0.tmps[s]?.getD undef
 closed:Ix l listed
 wld:Y listed w
 facts:∀i,listed.getD i false=true->C listed i->Hr sat l a w i
 lsize:listed.size=l.length
theorem Yr {listed:Array Bool} {i:Nat}(h:i<listed.size):(listed.setIfInBounds i true).getD i false=true:=by
 rw[cT,cV,iP rfl,iP h];rfl
theorem Ta {listed:Array Bool} {i j:Nat}(h:j≠i):(listed.setIfInBounds i true).getD j false=listed.getD j false:=by
 rw[cT,cV,iN (fun e=>h e.symm),<-cT]
theorem Zc7 {n i:Nat}:(cW n false).getD i false=false:=by
 rw[cT,Array.getElem?_replicate];split<;>simp
theorem Gw {l:List Oper} {i:Nat} {o:Oper}(h:l[i]? =some o):i<l.length:=by
 rcases aJ i l.length with k|k
 ·exact k
 ·rw[aH k]at h;cases h
section
variable {P:Program} {l:List Oper} {Q:Exit->Act->World->Prop} {sat:List Fi} {C:Array Bool->Nat->Prop} {Y:Array Bool->World->Prop} {R:Array Bool->Nat->World->World->Prop} {a0:Act}
def Zmj (P:Program)(l:List Oper)(Q:Exit->Act->World->Prop)(sat:List Fi)(C:Array Bool->Nat->Prop)(Y:Array Bool->World->Prop)(R:Array Bool->Nat->World->World->Prop)(a0:Act)(i:Nat)(o:Oper):Prop:=
 ∀(listed:Array Bool) (a:Act) (w:World),OnceX l sat C Y a0 listed a w->listed.getD i false=false->(∀e∈o.after.toList,Region.binds .any e=true->listed.getD e.on false=true)->(∀s,Cn l i s=true->a.tmps[s]?.getD undef=a0.tmps[s]?.getD undef)->
  ∀K:Act->World->Prop,(∀v w',(sat.getD i (fun _ _=>True)) (Cg o a v) w'->R listed i w w'->K (a.put o.dst v) w')->
   if Region.wanted o (yielded l.toArray a.tmps)=true then Oper.wp P o a w K Q else K (a.put o.dst undef) w
theorem Zc8 (O:Ir l a0.tmps.size=true) (E:Dz l=true)
  (I:∀i o,l[i]? =some o->Zmj P l Q sat C Y R a0 i o)
  (hY:∀(i:Nat) (o:Oper) (b:Array Bool) (w w':World),l[i]? =some o->Ix l b->b.size=l.length->b.getD i false=false->(∀e∈o.after.toList,Region.binds .any e=true->b.getD e.on false=true)->Y b w->R b i w w'->Y (b.setIfInBounds i true) w')
  (hF:∀(i j:Nat) (o oj:Oper) (b:Array Bool) (w w':World),l[i]? =some o->l[j]? =some oj->Ix l b->b.size=l.length->b.getD i false=false->(∀e∈o.after.toList,Region.binds .any e=true->b.getD e.on false=true)->b.getD j false=true->C (b.setIfInBounds i true) j->Y b w->R b i w w'->
   C b j/\∀v,(sat.getD j (fun _ _=>True)) v w->(sat.getD j (fun _ _=>True)) v w')
  (G:∀(b:Array Bool) (a:Act) (w:World),OnceX l sat C Y a0 b a w->(∀i,i<l.length->b.getD i false=true)->Q .normal a w):
  ∀(g:Nat) (b:Array Bool) (a:Act) (w:World),OnceX l sat C Y a0 b a w->b.toList.count false<=g->wpAny P .any l.toArray Q g b a w:=by
 intro g;have x:∀(b:Array Bool) (a:Act) (w:World),OnceX l sat C Y a0 b a w->Region.ready .any l.toArray b=[]->Q .normal a w:=by
  intro b a w J K;refine G _ a w J fun i y=> ?_;cases u:b.getD i false with
  |true=>rfl
  |false=>exact absurd K (Vr E J.lsize y u)
 have V:∀(b:Array Bool) (i:Nat),i∈Region.ready .any l.toArray b->i<b.size/\b.getD i false=false/\false∈b.toList:=by
  intro b i y;have D:=(mem_ready.1 y).1;have f:i<b.size:=by
   rcases aJ i b.size with h|h
   ·exact h
   ·rw[cT,bI h]at D;simp at D
  rw[cT,cR f]at D;refine⟨f,?_,?_⟩
  ·rw[cT,cR f];exact D
  ·rw[<-show b[i]=false from D];simp
 induction g with
 |zero=>
  intro b a w J hc;have K:Region.ready .any l.toArray b=[]:=by
   refine Classical.byContradiction fun hn=> ?_;obtain⟨i,y⟩:=List.exists_mem_of_ne_nil _ hn;have:=List.count_pos_iff.2 (V b i y).2.2;omega
  exact⟨K,x b a w J K⟩
 |succ g ih=>
  intro b a w J hc;refine⟨x b a w J,?_⟩;intro i y;obtain⟨o,X,p⟩:=Za6 y;obtain⟨f,k,-⟩:=V b i y;have n:l[i]? =some o:=(by simpa using X);obtain⟨d,H,T⟩:=Yq O n;refine wpOp_step X ?_;intro Z N;have B:∀s,Cn l i s=true->a.tmps[s]?.getD undef=a0.tmps[s]?.getD undef:=by
   intro s L;refine J.out s fun j z q c U=> ?_;have:=List.all_eq_true.1 L j (List.mem_range.2 (Gw c));rw[c]at this;simp only[cL,bne_iff_ne,beq_iff_eq,cH,cK]at this;rcases this with(h|h)|⟨e,E,u,A⟩
   ·exact h U
   ·subst h;rw[k]at q;cases q
   ·have:=J.closed j z q c e E u;rw[A,k]at this;cases this
  refine I i o n b a w J k p B Z ?_;intro v w' hv W;refine N _ _ (ih _ _ _ ⟨?_,?_,?_,?_,hY i o b w w' n J.closed J.lsize k p J.wld W,?_,?_⟩ ?_)
  ·rw[Zhi];exact J.size
  ·rw[Za9];exact J.defers
  ·intro s L;rw[Zj8 a o.dst s v (L i o (Yr f) n)];refine J.out s fun j z q c=>L j z ?_ c
   by_cases hji:j=i
   ·rw[hji];exact Yr f
   ·rw[Ta hji];exact q
  ·intro j z q c e F u;have t:∀m,b.getD m false=true->(b.setIfInBounds i true).getD m false=true:=by
    intro m hm
    by_cases hmi:m=i
    ·rw[hmi];exact Yr f
    ·rw[Ta hmi];exact hm
   by_cases hji:j=i
   ·subst hji;rw[n]at c;cases c;exact t _ (p e F u)
   ·rw[Ta hji]at q;exact t _ (J.closed j z q c e F u)
  ·intro j q M;unfold Hr;cases c:l[j]? with
   |none=>trivial
   |some z=>
    obtain⟨d',r,_⟩:=Yq O c;simp only[r]
    by_cases hji:j=i
    ·subst hji;rw[n]at c;cases c;rw[H]at r;cases r;rw[Zks a H v (by rw[J.size];exact T)];exact hv
    ·rw[Ta hji]at q;rw[Zj8 a o.dst d' v (by
      intro S;rcases Zmi O c n r S hji with h|⟨e,E,u,A⟩
      ·exact h rfl
      ·have:=J.closed j z q c e E u;rw[A,k]at this;cases this)]
     obtain⟨c1,c2⟩:=hF i j o z b w w' n c J.closed J.lsize k p q M J.wld W;have:=J.facts j q c1;unfold Hr at this;rw[c]at this;simp only[r]at this;exact c2 _ this
  ·rw[cU];exact J.lsize
  ·rw[Array.toList_setIfInBounds,List.count_set (by simpa using f)];have h2:b.toList[i]'(by simpa using f)=false:=by
    rw[cT,cR f]at k;simpa using k
   rw[h2,iP (show(false==false)=true from rfl),iN (by decide)];omega
theorem Pg {G:Nat} {a:Act} {w:World} (g:List Bool) (F:P.follows .mixedOrders=true) (D:Ir l a.tmps.size=true) (E:Dz l=true) (y:Y (cW l.length false) w.drew)
  (q:∀i o,l[i]? =some o->Zmj P l Q sat C Y R a i o)
  (B:∀(i:Nat) (o:Oper) (b:Array Bool) (w w':World),l[i]? =some o->Ix l b->b.size=l.length->b.getD i false=false->(∀e∈o.after.toList,Region.binds .any e=true->b.getD e.on false=true)->Y b w->R b i w w'->Y (b.setIfInBounds i true) w')
  (A:∀(i j:Nat) (o H:Oper) (b:Array Bool) (w w':World),l[i]? =some o->l[j]? =some H->Ix l b->b.size=l.length->b.getD i false=false->(∀e∈o.after.toList,Region.binds .any e=true->b.getD e.on false=true)->b.getD j false=true->C (b.setIfInBounds i true) j->Y b w->R b i w w'->
   C b j/\∀v,(sat.getD j (fun _ _=>True)) v w->(sat.getD j (fun _ _=>True)) v w')
  (z:∀(b:Array Bool) (i:Nat),(∀k,k<l.length->b.getD k false=true)->i<l.length->g.getD i false=true->C b i)
  (h:∀(b:Array Bool) (f:Nat->Value) (w':World),Y b w'->(∀k,k<l.length->b.getD k false=true)->b.size=l.length->Dj sat g f w' 0 l->Q .normal (Ak l a f) w'):
  (Code.region G l.toArray true).wp P Q a w:=by
 refine wp_region_any F (Zc8 D E q B A ?_ _ _ _ _ ⟨rfl,rfl,fun _ _=>rfl,?_,by simpa using y,?_,by simp⟩ ?_)
 ·intro b I w' J c;rw[Za7 J.size J.defers (fun s x=>J.out s fun j o _ r t=>by
   have:(At l).contains s=true:=by
    rw[List.contains_iff_mem];exact List.mem_filterMap.2 ⟨o,List.mem_of_getElem? r,t⟩
   rw[this]at x;cases x)]
  refine h b _ w' J.wld c J.lsize (Sz l 0 ?_);intro i o d r u m;rw[cX]at m|-;have p:=Gw r;have:=J.facts i (c i p) (z _ i c p m);unfold Hr at this;rw[r]at this;simp only[u]at this;exact this
 ·intro i _ n;rw[Zc7]at n;cases n
 ·intro i n _;rw[Zc7]at n;cases n
 ·simp
end
end
def Bj (sat:List Fi)(l:List Oper)(a:Act)(w:World):List Edge->Prop
 |[]=>True
 |e::es=>(if Region.binds .any e=true then Hr sat l a w e.on else True)/\Bj sat l a w es
theorem Nf {c:List Fi} {l:List Oper} {a:Act} {w:World}:∀b:List Edge,(∀e∈b,Region.binds .any e=true->Hr c l a w e.on)->Bj c l a w b:=by
 intro b
 induction b with
 |nil=>intro _;trivial
 |cons e b ih=>
  intro h;refine⟨?_,ih fun x hx=>h x (by simp[hx])⟩
  split
  ·rename_i hb;exact h e (by simp) hb
  ·trivial
def Gf (S:World->World->Prop)(q:Option Nat)(i:Nat)(x y:World):Prop:=bif some i==q then S x y else Below x.heap.size x y
theorem Af {S:World->World->Prop} {q:Option Nat} {i:Nat} {x y:World}(h:(some i==q)=false)(hb:Below x.heap.size x y):Gf S q i x y:=by unfold Gf;rw[h];exact hb
theorem Cc {S:World->World->Prop} {q:Option Nat} {i:Nat} {x y:World}(h:(some i==q)=true)(hs:S x y):Gf S q i x y:=by unfold Gf;rw[h];exact hs
def Ec (l:List Oper)(q:Option Nat)(i:Nat):Bool:=match q with
 |none=>true
 |some j=>i==j||match l[j]? with
  |some oj=>oj.after.toList.any fun e=>Region.binds .any e&&e.on==i
  |none=>false
def Cy (I:World->Prop)(S:World->World->Prop):Option Nat->List Fi->Prop
 |_,[]=>True
 |none,s::sat=>(∀v x y,s v x->I x->S x y->s v y)/\Cy I S none sat
 |some 0,s::sat=>(∀v x y,s v x->I x->Below x.heap.size x y->s v y)/\Cy I S none sat
 |some (q+1),s::sat=>(∀v x y,s v x->I x->S x y->s v y)/\Cy I S (some q) sat
theorem Ae {I:World->Prop} {S:World->World->Prop} {q:Option Nat}:Cy I S q []:=by cases q with
 |none=>trivial
 |some q=>cases q<;>trivial
theorem Ag {I:World->Prop} {S:World->World->Prop} {s:Fi} {sat:List Fi}(h:∀v x y,s v x->I x->S x y->s v y)(t:Cy I S none sat):Cy I S none (s::sat):=⟨h,t⟩
theorem Cw {I:World->Prop} {S:World->World->Prop} {s:Fi} {sat:List Fi}(h:∀v x y,s v x->I x->Below x.heap.size x y->s v y)(t:Cy I S none sat):Cy I S (some 0) (s::sat):=⟨h,t⟩
theorem Dk {I:World->Prop} {S:World->World->Prop} {q:Nat} {s:Fi} {sat:List Fi}(h:∀v x y,s v x->I x->S x y->s v y)(t:Cy I S (some q) sat):Cy I S (some (q+1)) (s::sat):=⟨h,t⟩
theorem Id {I:World->Prop} {S:World->World->Prop}:∀(a:List Fi) (q:Option Nat),Cy I S q a->
  (∀i v x y,some i≠q->(a.getD i (fun _ _=>True)) v x->I x->S x y->(a.getD i (fun _ _=>True)) v y)/\
  (∀i v x y,some i=q->(a.getD i (fun _ _=>True)) v x->I x->Below x.heap.size x y->(a.getD i (fun _ _=>True)) v y):=by
 intro a
 induction a with
 |nil=>intro q _;exact⟨fun i v x y _ _ _ _=>by simp,fun i v x y _ _ _ _=>by simp⟩
 |cons s a ih=>
  intro q h
  match q,h with
  |none,h=>
   refine⟨fun i v x y b f c d=> ?_,fun i v x y b=>by cases b⟩;cases i with
   |zero=>exact h.1 v x y f c d
   |succ i=>exact(ih none h.2).1 i v x y (by simp) f c d
  |some 0,h=>
   refine⟨fun i v x y b f c d=> ?_,fun i v x y b f c d=> ?_⟩
   ·cases i with
    |zero=>exact absurd rfl b
    |succ i=>exact(ih none h.2).1 i v x y (by simp) f c d
   ·cases i with
    |zero=>exact h.1 v x y f c d
    |succ i=>cases b
  |some (q+1),h=>
   refine⟨fun i v x y b f c d=> ?_,fun i v x y b f c d=> ?_⟩
   ·cases i with
    |zero=>exact h.1 v x y f c d
    |succ i=>exact(ih (some q) h.2).1 i v x y (fun e=>b (by simp at e;rw[e])) f c d
   ·cases i with
    |zero=>cases b
    |succ i=>exact(ih (some q) h.2).2 i v x y (by simp at b;rw[b]) f c d
def Zc9 (P:Program)(l:List Oper)(Q:Exit->Act->World->Prop)(sat:List Fi)(I:World->Prop)(S:World->World->Prop)(q:Option Nat)(a0:Act)(W:World)(i:Nat)(o:Oper):Prop:=
 ∀(a:Act) (w:World),I w->(Ec l q i=true->Below W.heap.size W w)->(∀s,Cn l i s=true->a.tmps[s]?.getD undef=a0.tmps[s]?.getD undef)->Bj sat l a w o.after.toList->
  ∀K:Act->World->Prop,(∀v w',(sat.getD i (fun _ _=>True)) (Cg o a v) w'->Gf S q i w w'->K (a.put o.dst v) w')->
   if Region.wanted o (yielded l.toArray a.tmps)=true then Oper.wp P o a w K Q else K (a.put o.dst undef) w
def OwedAll7 (P:Program)(l:List Oper)(Q:Exit->Act->World->Prop)(sat:List Fi)(I:World->Prop)(S:World->World->Prop)(q:Option Nat)(a0:Act)(W:World):Nat->List Oper->Prop
 |_,[]=>True
 |i,o::os=>Zc9 P l Q sat I S q a0 W i o/\OwedAll7 P l Q sat I S q a0 W (i+1) os
theorem OwedAll7.nil {P:Program} {l:List Oper} {Q:Exit->Act->World->Prop} {sat:List Fi} {I:World->Prop} {S:World->World->Prop} {q:Option Nat} {a0:Act} {W:World} {i:Nat}:OwedAll7 P l Q sat I S q a0 W i []:=trivial
theorem OwedAll7.cons {P:Program} {l:List Oper} {Q:Exit->Act->World->Prop} {a:List Fi} {I:World->Prop} {S:World->World->Prop} {q:Option Nat} {b:Act} {W:World} {i:Nat} {o:Oper} {os:List Oper}(h:Zc9 P l Q a I S q b W i o)(t:OwedAll7 P l Q a I S q b W (i+1) os):OwedAll7 P l Q a I S q b W i (o::os):=⟨h,t⟩
theorem Tb {P:Program} {l:List Oper} {Q:Exit->Act->World->Prop} {a:List Fi} {I:World->Prop} {S:World->World->Prop} {q:Option Nat} {c:Act} {W:World}:∀(os:List Oper) (k:Nat),OwedAll7 P l Q a I S q c W k os->∀i o,os[i]? =some o->Zc9 P l Q a I S q c W (k+i) o:=by
 intro os
 induction os with
 |nil=>intro k _ i o h;simp at h
 |cons x os ih=>
  intro k h i o b;cases i with
  |zero=>simp at b;subst b;exact h.1
  |succ i=>
   have:=ih (k+1) h.2 i o (by simpa using b);rw[show k+(i+1)=k+1+i by omega];exact this
theorem Qw {I:World->Prop} {S:World->World->Prop} {q:Option Nat} {i:Nat} {x y:World}(h12:∀x y,I x->Below x.heap.size x y->S x y)(hI:I x)(h:Gf S q i x y):S x y:=by
 unfold Gf at h;cases hq:some i==q with
 |true=>rw[hq]at h;exact h
 |false=>rw[hq]at h;exact h12 _ _ hI h
theorem Qx {S:World->World->Prop} {q:Option Nat} {i:Nat} {x y:World}(hq:some i≠q)(h:Gf S q i x y):Below x.heap.size x y:=by
 unfold Gf at h;rw[qN.2 hq]at h;exact h
theorem Ys {l:List Oper} {a:Array Bool} {i j:Nat}(f:Ix l a)(c:a.getD i false=false)(h:Ec l (some j) i=true):a.getD j false=false:=by
 unfold Ec at h;simp only[cL,beq_iff_eq]at h;rcases h with rfl|h
 ·exact c
 ·cases hoj:l[j]? with
  |none=>rw[hoj]at h;cases h
  |some oj=>
   rw[hoj]at h;simp only[cH,cK,beq_iff_eq]at h;obtain⟨e,g,d,b⟩:=h;cases hl:a.getD j false with
   |false=>rfl
   |true=>
    have:=f j oj hl hoj e g d;rw[b,c]at this;cases this
theorem Qy {listed:Array Bool} {i j:Nat}(hi:listed.getD i false=false)(h:(listed.setIfInBounds i true).getD j false=false):listed.getD j false=false:=by
 by_cases hji:j=i
 ·rw[hji];exact hi
 ·rwa [Ta hji]at h
theorem Qz {listed:Array Bool} {i j:Nat}(hl:i<listed.size)(h:(listed.setIfInBounds i true).getD j false=false):i≠j:=by
 intro e;rw[<-e,Yr hl]at h;cases h
theorem Bp {P:Program} {id:Nat} {l:List Oper} {Q:Exit->Act->World->Prop} {a:Act} {w:World} (d:List Fi) (n:List Bool) (I:World->Prop) (S:World->World->Prop) (q:Option Nat) (G:P.follows .mixedOrders=true) (hk:Cy I S q d) (O:I w.drew) (p:∀x y,I x->Below x.heap.size x y->S x y) (D:∀x y,I x->S x y->I y) (V:Ir l a.tmps.size=true) (W:Dz l=true)
  (z:OwedAll7 P l Q d I S q a w 0 l)
  (s:∀(f:Nat->Value) (w':World),I w'->Dj d n f w' 0 l->Q .normal (Ak l a f) w'):
  (Code.region id l.toArray true).wp P Q a w:=by
 refine Pg (C:=fun _ _=>True) (Y:=fun b x=>I x/\((∀j,q=some j->b.getD j false=false)->Below w.heap.size w x)) (R:=fun _ i x y=>Gf S q i x y) n G V W ⟨O,fun _=>⟨rfl,rfl,rfl,lR,fun _ _=>rfl⟩⟩ ?_ ?_ ?_ (fun _ _ _ _ _=>trivial) (fun _ f w' g _ _ X=>s f w' g.1 X)
 ·intro i o Z b N x J c h m K T;have L:=Tb l 0 z i o Z;rw[cX]at L;exact L N x J.wld.1 (fun H=>J.wld.2 fun j F=>Ys J.closed c (by rw[<-F];exact H)) m (Nf _ fun e G U=>J.facts _ (h e G U) trivial) K T
 ·intro i o b x y u E B c _ g r;refine⟨D _ _ g.1 (Qw p g.1 r),fun k=> ?_⟩;have A:=g.2 fun j F=>Qy c (k j F);exact A.trans ((Qx (fun e=>Qz (by rw[B];exact Gw u) (k i e.symm) rfl) r).mono A.size)
 ·intro i j o oj b x y u aA E B c h t _ g r;refine⟨trivial,fun v M=> ?_⟩
  by_cases hjq:some j=q
  ·refine(Id d q hk).2 j _ _ _ hjq M g.1 (Qx ?_ r);rw[<-hjq];intro e;cases e;rw[c]at t;cases t
  ·exact(Id d q hk).1 j _ _ _ hjq M g.1 (Qw p g.1 r)
theorem Zhj {P:Program} {l:List Oper} {Q:Exit->Act->World->Prop} {b:List Fi} {I:World->Prop} {S:World->World->Prop} {q:Option Nat} {c:Act} {W:World} {i:Nat} {o:Oper}
  (h:∀(a:Act) (w:World),I w->(Ec l q i=true->Below W.heap.size W w)->(∀s,Cn l i s=true->a.tmps[s]?.getD undef=c.tmps[s]?.getD undef)->Bj b l a w o.after.toList->
   Region.wanted o (yielded l.toArray a.tmps)=true/\∀K:Act->World->Prop,(∀v w',(b.getD i (fun _ _=>True)) (Cg o a v) w'->Gf S q i w w'->K (a.put o.dst v) w')->Oper.wp P o a w K Q):Zc9 P l Q b I S q c W i o:=by
 intro a w d g f e K j;rw[iP (h a w d g f e).1];exact(h a w d g f e).2 K j
theorem Vs {o:Oper} {ops:Array Oper} {tmps:Array Value} {j:Nat} {b:Bool} {c:Oper} {s:Tmp} {v:Value}(d:o.guard=some (j,b))(e:ops[j]? =some c)(g:c.dst=some s)(a:tmps[s]?.getD undef=v)(f:v≠ .bool b):Region.wanted o (yielded ops tmps)=false:=by
 have i:yielded ops tmps j≠some b:=by
  unfold yielded;rw[e,cP,g,cP];cases ht:tmps[s]? with
  |none=>simp
  |some x=>
   rw[ht]at a;have hx:x=v:=a;subst hx;intro h;cases x<;>simp_all
 unfold Region.wanted;rw[d];simp[i]
theorem Zda {P:Program} {l:List Oper} {Q:Exit->Act->World->Prop} {b:List Fi} {I:World->Prop} {S:World->World->Prop} {q:Option Nat} {c:Act} {W:World} {i:Nat} {o:Oper} {d:Tmp} (f:o.dst=some d) (k:b.getD i (fun _ _=>True)=fun v _=>v=undef) (j:(some i==q)=false)
  (h:∀(a:Act) (w:World),Bj b l a w o.after.toList->Region.wanted o (yielded l.toArray a.tmps)=false):Zc9 P l Q b I S q c W i o:=by
 intro a w m _ n g K e;rw[iN (by rw[h a w g];simp)];exact e undef w (by rw[k];unfold Cg;rw[f]) (Af j bR)
section
def Vt (l:List Oper)(fin tl:List Bool)(q:Nat):Bool:=
 decide (q<l.length)&& !tl.getD q false&&(aC l.length).all fun i=>i==q||(if tl.getD i false then(match l[i]? with|some o=>(o.after.toList.any fun e=>Region.binds .any e&&e.on==q)&&o.after.toList.all fun e=> !Za8 e||e.on==q||tl.getD e.on false|none=>false)else(!fin.getD i false&&(aC l.length).any fun j=>decide (i<j)&& !tl.getD j false&&match l[j]? with|some o=>o.after.toList.any fun e=>Region.binds .any e&&e.on==i|none=>false))
theorem Yt {l:List Oper} {f d:List Bool} {q:Nat}(h:Vt l f d q=true):q<l.length/\d.getD q false=false/\(∀i,i<l.length->i≠q->d.getD i false=false->f.getD i false=false/\∃j o,i<j/\j<l.length/\d.getD j false=false/\l[j]? =some o/\∃e∈o.after.toList,Region.binds .any e=true/\e.on=i)/\
  (∀i o,l[i]? =some o->d.getD i false=true->(∃e∈o.after.toList,Region.binds .any e=true/\e.on=q)/\∀e∈o.after.toList,Za8 e=true->e.on=q\/d.getD e.on false=true):=by
 unfold Vt at h;rw[cK,cK,dI,cM]at h;refine⟨h.1.1,h.1.2,fun i p s a=> ?_,fun i o c a=> ?_⟩
 ·have h2:=List.all_eq_true.1 h.2 i (List.mem_range.2 p);rw[a,cL,beq_iff_eq]at h2;rcases h2 with h2|h2
  ·exact absurd h2 s
  ·simp only[Bool.false_eq_true,if_false,cK,cM]at h2;obtain⟨h2,h3⟩:=h2;refine⟨h2,?_⟩;obtain⟨j,w,h3⟩:=List.any_eq_true.1 h3;simp only[cK,dI,cM]at h3;obtain⟨⟨r,t⟩,h3⟩:=h3;cases c:l[j]? with
   |none=>rw[c]at h3;cases h3
   |some o=>
    rw[c]at h3;simp only[cH,cK,beq_iff_eq]at h3;obtain⟨e,m,k,b⟩:=h3;exact⟨j,o,r,List.mem_range.1 w,t,c,e,m,k,b⟩
 ·have p:i<l.length:=by
   rcases aJ i l.length with h|h
   ·exact h
   ·rw[aH h]at c;cases c
  have h2:=List.all_eq_true.1 h.2 i (List.mem_range.2 p);rw[a,cL,beq_iff_eq,c]at h2;rcases h2 with h2|h2
  ·subst h2;rw[h.1.2]at a;cases a
  ·simp only[if_true,cK,cH,beq_iff_eq,List.all_eq_true,cL,cM]at h2;obtain⟨⟨e,m,k,b⟩,h3⟩:=h2;refine⟨⟨e,m,k,b⟩,fun v n u=> ?_⟩;rcases h3 v n with(g|g)|g
   ·rw[g]at u;cases u
   ·exact .inl g
   ·exact .inr g
theorem Vu {l:List Oper} {b f:List Bool} {q:Nat}(h:Vt l b f q=true) {a:Array Bool}(m:∀j o,a.getD j false=true->l[j]? =some o->∀e∈o.after.toList,Region.binds .any e=true->a.getD e.on false=true)(u:a.getD q false=true):
  ∀n i,l.length-i<=n->i<l.length->f.getD i false=false->a.getD i false=true:=by
 intro n
 induction n with
 |zero=>intro i g h2;omega
 |succ n ih=>
  intro i g h2 h3
  by_cases hiq:i=q
  ·subst hiq;exact u
  ·obtain⟨_,j,o,r,s,d,t,e,p,k,c⟩:=(Yt h).2.2.1 i h2 hiq h3;have:=m j o (ih j (by omega) s d) t e p k;rw[c]at this;exact this
def Vv (P:Program)(l:List Oper)(Q:Exit->Act->World->Prop)(sat:List Fi)(I:World->Prop)(S:World->World->Prop)(q:Option Nat)(z:Nat)(tl:List Bool)(a0:Act)(W:World)(i:Nat)(o:Oper):Prop:=
 ∀(a:Act) (w:World),(tl.getD i false=false->I w/\(Ec l q i=true->Below W.heap.size W w)/\Bj sat l a w o.after.toList)->(∀s,Cn l i s=true->a.tmps[s]?.getD undef=a0.tmps[s]?.getD undef)->Fl sat l a w o.after.toList->
  ∀K:Act->World->Prop,(∀v w',(sat.getD i (fun _ _=>True)) (Cg o a v) w'->(i≠z->bif tl.getD i false then Below w.heap.size w w' else Gf S q i w w')->K (a.put o.dst v) w')->
   if Region.wanted o (yielded l.toArray a.tmps)=true then Oper.wp P o a w K Q else K (a.put o.dst undef) w
def OwedAll8 (P:Program)(l:List Oper)(Q:Exit->Act->World->Prop)(sat:List Fi)(I:World->Prop)(S:World->World->Prop)(q:Option Nat)(z:Nat)(tl:List Bool)(a0:Act)(W:World):Nat->List Oper->Prop
 |_,[]=>True
 |i,o::os=>Vv P l Q sat I S q z tl a0 W i o/\OwedAll8 P l Q sat I S q z tl a0 W (i+1) os
section
variable {P:Program} {l:List Oper} {Q:Exit->Act->World->Prop} {sat:List Fi} {I:World->Prop} {S:World->World->Prop} {q:Option Nat} {z:Nat} {tl:List Bool} {a0:Act} {W:World} {i:Nat} {o:Oper}
theorem OwedAll8.nil:OwedAll8 P l Q sat I S q z tl a0 W i []:=trivial
theorem OwedAll8.cons {os:List Oper}(h:Vv P l Q sat I S q z tl a0 W i o)(t:OwedAll8 P l Q sat I S q z tl a0 W (i+1) os):OwedAll8 P l Q sat I S q z tl a0 W i (o::os):=⟨h,t⟩
theorem Tc:∀(os:List Oper) (k:Nat),OwedAll8 P l Q sat I S q z tl a0 W k os->∀i o,os[i]? =some o->Vv P l Q sat I S q z tl a0 W (k+i) o:=by
 intro os
 induction os with
 |nil=>intro k _ i o h;simp at h
 |cons x os ih=>
  intro k h i o a;cases i with
  |zero=>simp at a;subst a;exact h.1
  |succ i=>
   have:=ih (k+1) h.2 i o (by simpa using a);rw[show k+(i+1)=k+1+i by omega];exact this
theorem Gx {id:Nat} {a:Act} {w:World} (m:List Fi) (H:List Bool) (I:World->Prop) (S:World->World->Prop) (q:Option Nat) (z:Nat) (n:List Bool) (U:P.follows .mixedOrders=true)
  (hk:∀j,j≠z->n.getD j false=false->(∀v x y,some j≠q->(m.getD j (fun _ _=>True)) v x->I x->S x y->(m.getD j (fun _ _=>True)) v y)/\∀v x y,some j=q->(m.getD j (fun _ _=>True)) v x->I x->Below x.heap.size x y->(m.getD j (fun _ _=>True)) v y)
  (aI:∀i j,n.getD i false=true->j=z\/n.getD j false=true->∀v x y,(m.getD j (fun _ _=>True)) v x->Below x.heap.size x y->(m.getD j (fun _ _=>True)) v y)
  (h0:I w.drew) (W:∀x y,I x->Below x.heap.size x y->S x y) (aG:∀x y,I x->S x y->I y) (hd:Ir l a.tmps.size=true) (M:Dz l=true) (aA:Vt l H n z=true)
  (aC:OwedAll8 P l Q m I S q z n a w 0 l)
  (X:∀(f:Nat->Value) (w':World),Dj m H f w' 0 l->Q .normal (Ak l a f) w'):
  (Code.region id l.toArray true).wp P Q a w:=by
 have t:=Yt aA
 -- ahead of z nothing of the tail is done
 have O:∀(i:Nat) (o:Oper) (b:Array Bool),l[i]? =some o->Ix l b->b.getD i false=false->n.getD i false=false->b.getD z false=false:=by
  intro i o b V hc d c
  by_cases k:i=z
  ·rw[<-k];exact d
  ·cases u:b.getD z false with
   |false=>rfl
   |true=>
    have:=Vu aA hc u (l.length-i) i lR (Gw V) c;rw[d]at this;cases this
 refine Pg (C:=fun b i=>i=z\/n.getD i false=true\/b.getD z false=false) (Y:=fun b x=>b.getD z false=false->I x/\((∀j,q=some j->b.getD j false=false)->Below w.heap.size w x))
  (R:=fun _ i x y=>i≠z->bif n.getD i false then Below x.heap.size x y else Gf S q i x y) H U hd M (fun _=>⟨h0,fun _=>⟨rfl,rfl,rfl,lR,fun _ _=>rfl⟩⟩) ?_ ?_ ?_ ?_ (fun _ f w' _ _ _ hf=>X f w' hf)
 ·intro i o V b a' x J d g N K hK;have hO:=Tc l 0 aC i o V;rw[cX]at hO;refine hO a' x (fun c=> ?_) N (Vq _ fun e U u=>J.facts _ (g e U (Vp u)) ?_) K hK
  ·have E:=O i o b V J.closed d c;exact⟨(J.wld E).1,fun aJ=>(J.wld E).2 fun j hj=>Ys J.closed d (by rw[<-hj];exact aJ),Nf _ fun e U u=>J.facts _ (g e U u) (.inr (.inr E))⟩
  ·cases c:n.getD i false with
   |false=>exact .inr (.inr (O i o b V J.closed d c))
   |true=>
    rcases(t.2.2.2 i o V c).2 e U u with h|h
    ·exact .inl h
    ·exact .inr (.inl h)
 ·intro i o b x y r L F d g hY p aE;have E:=Qy d aE;have p:=p (Qz (by rw[F];exact Gw r) aE);have c:n.getD i false=false:=by
   cases c:n.getD i false with
   |false=>rfl
   |true=>
    obtain⟨e,M,u,A⟩:=(t.2.2.2 i o r c).1;have:=g e M u;rw[A,E]at this;cases this
  rw[c]at p;obtain⟨T,hB⟩:=hY E;refine⟨aG _ _ T (Qw W T p),fun G=> ?_⟩;have aD:=hB fun j hj=>Qy d (G j hj);exact aD.trans ((Qx (fun e=>Qz (by rw[F];exact Gw r) (G i e.symm) rfl) p).mono aD.size)
 ·intro i j o oj b x y r aB L F d g D hC hY p;cases c:n.getD i false with
  |true=>
   obtain⟨e,M,u,A⟩:=(t.2.2.2 i o r c).1;have aF:=g e M u;rw[A]at aF;have k:i≠z:=by
    intro e;rw[e,t.2.1]at c;cases c
   have p:=p k;rw[c]at p;have s:j=z\/n.getD j false=true:=by
    rcases hC with h|h|h
    ·exact .inl h
    ·exact .inr h
    ·have:=Qy d h;rw[aF]at this;cases this
   exact⟨s.elim .inl fun h=> .inr (.inl h),fun v hv=>aI i j c s v _ _ hv p⟩
  |false=>
   have E:=O i o b r L d c;have s:j≠z:=by
    intro e;rw[e,E]at D;cases D
   have B:n.getD j false=false:=by
    cases B:n.getD j false with
    |false=>rfl
    |true=>
     obtain⟨e,M,u,A⟩:=(t.2.2.2 j oj aB B).1;have:=L j oj D aB e M u;rw[A,E]at this;cases this
   have k:i≠z:=by
    rcases hC with h|h|h
    ·exact absurd h s
    ·rw[B]at h;cases h
    ·exact Qz (by rw[F];exact Gw r) h
   have p:=p k;rw[c]at p;obtain⟨T,_⟩:=hY E;refine⟨.inr (.inr E),fun v hv=> ?_⟩
   by_cases hjq:some j=q
   ·refine(hk j s B).2 v _ _ hjq hv T (Qx ?_ p);rw[<-hjq];intro e;cases e;rw[d]at D;cases D
   ·exact(hk j s B).1 v _ _ hjq hv T (Qw W T p)
 ·intro b i _ aH Z
  by_cases k:i=z
  ·exact .inl k
  ·cases c:n.getD i false with
   |true=>exact .inr (.inl rfl)
   |false=>rw[(t.2.2.1 i aH k c).1]at Z;cases Z
theorem Au {C:Nat} {a:Act} {w:World} (c:List Fi) (d:List Bool) (I:World->Prop) (S:World->World->Prop) (q:Option Nat) (z:Nat) (B:P.follows .mixedOrders=true) (hk:Cy I S q (c.set z fun _ _=>True)) (s:I w.drew) (m:∀x y,I x->Below x.heap.size x y->S x y) (n:∀x y,I x->S x y->I y) (t:Ir l a.tmps.size=true) (u:Dz l=true) (o:Vt l d [] z=true)
  (k:OwedAll8 P l Q c I S q z [] a w 0 l)
  (g:∀(f:Nat->Value) (w':World),Dj c d f w' 0 l->Q .normal (Ak l a f) w'):
  (Code.region C l.toArray true).wp P Q a w:=by
 refine Gx c d I S q z [] B (fun j A _=> ?_) (fun i j h=>by simp at h) s m n t u o k g;have b:(c.set z fun _ _=>True).getD j (fun _ _=>True)=c.getD j (fun _ _=>True):=by
  rw[aE,cI (fun e=>A e.symm),<-aE]
 have h:=Id _ q hk;exact⟨fun v x y p r=>b▸h.1 j v x y (fun e=>p e) (b▸r),fun v x y p r=>b▸h.2 j v x y p (b▸r)⟩
theorem Mf (h:∀(a:Act) (w:World),I w->(Ec l q i=true->Below W.heap.size W w)->(∀s,Cn l i s=true->a.tmps[s]?.getD undef=a0.tmps[s]?.getD undef)->Bj sat l a w o.after.toList->
      Region.wanted o (yielded l.toArray a.tmps)=true/\∀K:Act->World->Prop,(∀v w',(sat.getD i (fun _ _=>True)) (Cg o a v) w'->(i≠z->Gf S q i w w')->K (a.put o.dst v) w')->Oper.wp P o a w K Q):Vv P l Q sat I S q z [] a0 W i o:=by
 intro a w e c _ K d;obtain⟨b,h2,h3⟩:=e rfl;rw[iP (h a w b h2 c h3).1];exact(h a w b h2 c h3).2 K d
theorem Zhk (b:tl.getD i false=false) (h:∀(a:Act) (w:World),I w->(Ec l q i=true->Below W.heap.size W w)->(∀s,Cn l i s=true->a.tmps[s]?.getD undef=a0.tmps[s]?.getD undef)->Bj sat l a w o.after.toList->
      Region.wanted o (yielded l.toArray a.tmps)=true/\∀K:Act->World->Prop,(∀v w',(sat.getD i (fun _ _=>True)) (Cg o a v) w'->(i≠z->Gf S q i w w')->K (a.put o.dst v) w')->Oper.wp P o a w K Q):Vv P l Q sat I S q z tl a0 W i o:=by
 intro a w g e _ K f;obtain⟨d,h2,h3⟩:=g b;rw[iP (h a w d h2 e h3).1];exact(h a w d h2 e h3).2 K fun v w' k j=>f v w' k fun c=>by rw[b];exact j c
theorem Zhl (b:tl.getD i false=true) (h:∀(a:Act) (w:World),(∀s,Cn l i s=true->a.tmps[s]?.getD undef=a0.tmps[s]?.getD undef)->Fl sat l a w o.after.toList->
      Region.wanted o (yielded l.toArray a.tmps)=true/\∀K:Act->World->Prop,(∀v w',(sat.getD i (fun _ _=>True)) (Cg o a v) w'->Below w.heap.size w w'->K (a.put o.dst v) w')->Oper.wp P o a w K Q):Vv P l Q sat I S q z tl a0 W i o:=by
 intro a w _ d c K e;rw[iP (h a w d c).1];exact(h a w d c).2 K fun v w' g f=>e v w' g fun _=>by rw[b];exact f
end
end
section
abbrev eF (x:Value):Fi:=fun v _=>v=x
theorem eqn {v x:Value}(h:v=x):v=x:=h
def isB (b:Bool):Value->Bool
 | .bool c=>c==b
 |_=>false
theorem Zmk {b:Bool} {v:Value}(h:isB b v=false):v≠ .bool b:=by
 intro e;rw[e]at h;simp[isB]at h
section
variable {P:Program} {l:List Oper} {Q:Exit->Act->World->Prop} {sat:List Fi} {I:World->Prop} {S:World->World->Prop} {q:Option Nat} {a0:Act} {W:World} {i:Nat} {o:Oper} {os:List Oper}
def dn:Option Nat->Option Nat
 |some (q+1)=>some q
 |_=>none
theorem kX {s:Fi}(h:∀v x y,s v x->I x->S x y->s v y)(h2:∀v x y,s v x->I x->Below x.heap.size x y->s v y)(t:Cy I S (dn q) sat):Cy I S q (s::sat):=by
 match q,t with
 |none,t=>exact⟨h,t⟩
 |some 0,t=>exact⟨h2,t⟩
 |some (q+1),t=>exact⟨h,t⟩
theorem kE {x:Value}(t:Cy I S (dn q) sat):Cy I S q (eF x::sat):=kX (fun _ _ _ h _ _=>h) (fun _ _ _ h _ _=>h) t
theorem gO (h:∀(a:Act) (w:World),I w->(Ec l q i=true->Below W.heap.size W w)->(∀s,Cn l i s=true->a.tmps[s]?.getD undef=a0.tmps[s]?.getD undef)->Bj sat l a w o.after.toList->
      Region.wanted o (yielded l.toArray a.tmps)=true/\∀K:Act->World->Prop,(∀v w',(sat.getD i (fun _ _=>True)) (Cg o a v) w'->Gf S q i w w'->K (a.put o.dst v) w')->Oper.wp P o a w K Q)
  (t:OwedAll7 P l Q sat I S q a0 W (i+1) os):OwedAll7 P l Q sat I S q a0 W i (o::os):=.cons (Zhj h) t
theorem gP (h:∀(a:Act) (w:World),I w->(Ec l q i=true->Below W.heap.size W w)->(∀s,Cn l i s=true->a.tmps[s]?.getD undef=a0.tmps[s]?.getD undef)->Bj sat l a w o.after.toList->
      Region.wanted o (yielded l.toArray a.tmps)=true/\∀K:Act->World->Prop,(∀v,(sat.getD i (fun _ _=>True)) (Cg o a v) w->K (a.put o.dst v) w)->Hid (Oper.wp P o a w K Q))
  (e:(some i==q)=false) (t:OwedAll7 P l Q sat I S q a0 W (i+1) os):OwedAll7 P l Q sat I S q a0 W i (o::os):=
 gO (fun a w b h2 h3 c=>⟨(h a w b h2 h3 c).1,fun K d=>((h a w b h2 h3 c).2 K fun v f=>d v w f (Af e bR)).out⟩) t
theorem fO {j:Nat} {b:Bool} {e:Oper} {s:Tmp} {v:Value} {d:Tmp} (f:o.dst=some d) (n:sat.getD i (fun _ _=>True)=fun v _=>v=undef) (m:(some i==q)=false) (h:o.guard=some (j,b)) (k:l.toArray[j]? =some e) (p:e.dst=some s)
  (r:∀(a:Act) (w:World),Bj sat l a w o.after.toList->a.tmps[s]?.getD undef=v) (c:isB b v=false)
  (t:OwedAll7 P l Q sat I S q a0 W (i+1) os):OwedAll7 P l Q sat I S q a0 W i (o::os):=
 .cons (Zda f n m fun a w g=>Vs h k p (r a w g) (Zmk c)) t
theorem gOw (c:Ec l q i=true) (h:∀(a:Act) (w:World),I w->Below W.heap.size W w->(∀s,Cn l i s=true->a.tmps[s]?.getD undef=a0.tmps[s]?.getD undef)->Bj sat l a w o.after.toList->
      Region.wanted o (yielded l.toArray a.tmps)=true/\∀K:Act->World->Prop,(∀v w',(sat.getD i (fun _ _=>True)) (Cg o a v) w'->Gf S q i w w'->K (a.put o.dst v) w')->Oper.wp P o a w K Q)
  (t:OwedAll7 P l Q sat I S q a0 W (i+1) os):OwedAll7 P l Q sat I S q a0 W i (o::os):=gO (fun a w b h2=>h a w b (h2 c)) t
theorem gPw (d:Ec l q i=true) (h:∀(a:Act) (w:World),I w->Below W.heap.size W w->(∀s,Cn l i s=true->a.tmps[s]?.getD undef=a0.tmps[s]?.getD undef)->Bj sat l a w o.after.toList->
      Region.wanted o (yielded l.toArray a.tmps)=true/\∀K:Act->World->Prop,(∀v,(sat.getD i (fun _ _=>True)) (Cg o a v) w->K (a.put o.dst v) w)->Hid (Oper.wp P o a w K Q))
  (c:(some i==q)=false) (t:OwedAll7 P l Q sat I S q a0 W (i+1) os):OwedAll7 P l Q sat I S q a0 W i (o::os):=gP (fun a w b h2=>h a w b (h2 d)) c t
theorem Cx {k:Nat} {a:Act} {w:World} (b:List Fi) (i:P.follows .mixedOrders=true) (e:Ir l a.tmps.size=true) (g:Dz l=true) (hk:Cy (fun x=>Below w.heap.size w x) (fun x y=>Below x.heap.size x y) none b)
  (d:OwedAll7 P l Q b (fun x=>Below w.heap.size w x) (fun x y=>Below x.heap.size x y) none a w 0 l)
  (c:∀(f:Nat->Value) (w':World),Below w.heap.size w w'->Dj b (cJ l.length true) f w' 0 l->Q .normal (Ak l a f) w'):
  (Code.region k l.toArray true).wp P Q a w:=
 Bp b _ _ _ none i hk ⟨rfl,rfl,rfl,lR,fun _ _=>rfl⟩ (fun _ _ _ h=>h) (fun _ _ hx j=>hx.trans (j.mono hx.size)) e g d c
theorem bX {s:Fi}(h:∀v x y,s v x->Below x.heap.size x y->s v y)(t:Cy I (fun x y=>Below x.heap.size x y) none sat):Cy I (fun x y=>Below x.heap.size x y) none (s::sat):=⟨fun v x y hv _ hs=>h v x y hv hs,t⟩
theorem gB (h:∀(a:Act) (w:World),Below W.heap.size W w->(∀s,Cn l i s=true->a.tmps[s]?.getD undef=a0.tmps[s]?.getD undef)->Bj sat l a w o.after.toList->
      Region.wanted o (yielded l.toArray a.tmps)=true/\∀K:Act->World->Prop,(∀v w',(sat.getD i (fun _ _=>True)) (Cg o a v) w'->Below w.heap.size w w'->K (a.put o.dst v) w')->Oper.wp P o a w K Q)
  (t:OwedAll7 P l Q sat (fun x=>Below W.heap.size W x) S none a0 W (i+1) os):OwedAll7 P l Q sat (fun x=>Below W.heap.size W x) S none a0 W i (o::os):=
 gO (fun a w b _ h3 c=>⟨(h a w b h3 c).1,fun K d=>(h a w b h3 c).2 K fun v w' f e=>d v w' f (Af rfl e)⟩) t
theorem gQ (h:∀(a:Act) (w:World),Below W.heap.size W w->(∀s,Cn l i s=true->a.tmps[s]?.getD undef=a0.tmps[s]?.getD undef)->Bj sat l a w o.after.toList->
      Region.wanted o (yielded l.toArray a.tmps)=true/\∀K:Act->World->Prop,(∀v,(sat.getD i (fun _ _=>True)) (Cg o a v) w->K (a.put o.dst v) w)->Hid (Oper.wp P o a w K Q))
  (t:OwedAll7 P l Q sat (fun x=>Below W.heap.size W x) S none a0 W (i+1) os):OwedAll7 P l Q sat (fun x=>Below W.heap.size W x) S none a0 W i (o::os):=
 gP (fun a w b _ h3 c=>h a w b h3 c) rfl t
variable {z:Nat}
theorem gO8 (h:∀(a:Act) (w:World),I w->(Ec l q i=true->Below W.heap.size W w)->(∀s,Cn l i s=true->a.tmps[s]?.getD undef=a0.tmps[s]?.getD undef)->Bj sat l a w o.after.toList->
      Region.wanted o (yielded l.toArray a.tmps)=true/\∀K:Act->World->Prop,(∀v w',(sat.getD i (fun _ _=>True)) (Cg o a v) w'->(i≠z->Gf S q i w w')->K (a.put o.dst v) w')->Oper.wp P o a w K Q)
  (t:OwedAll8 P l Q sat I S q z [] a0 W (i+1) os):OwedAll8 P l Q sat I S q z [] a0 W i (o::os):=.cons (Mf h) t
theorem gP8 (h:∀(a:Act) (w:World),I w->(Ec l q i=true->Below W.heap.size W w)->(∀s,Cn l i s=true->a.tmps[s]?.getD undef=a0.tmps[s]?.getD undef)->Bj sat l a w o.after.toList->
      Region.wanted o (yielded l.toArray a.tmps)=true/\∀K:Act->World->Prop,(∀v,(sat.getD i (fun _ _=>True)) (Cg o a v) w->K (a.put o.dst v) w)->Hid (Oper.wp P o a w K Q))
  (e:(some i==q)=false) (t:OwedAll8 P l Q sat I S q z [] a0 W (i+1) os):OwedAll8 P l Q sat I S q z [] a0 W i (o::os):=
 gO8 (fun a w b h2 h3 c=>⟨(h a w b h2 h3 c).1,fun K d=>((h a w b h2 h3 c).2 K fun v f=>d v w f fun _=>Af e bR).out⟩) t
theorem Oq (c:Ec l q i=true) (h:∀(a:Act) (w:World),I w->Below W.heap.size W w->(∀s,Cn l i s=true->a.tmps[s]?.getD undef=a0.tmps[s]?.getD undef)->Bj sat l a w o.after.toList->
      Region.wanted o (yielded l.toArray a.tmps)=true/\∀K:Act->World->Prop,(∀v w',(sat.getD i (fun _ _=>True)) (Cg o a v) w'->(i≠z->Gf S q i w w')->K (a.put o.dst v) w')->Oper.wp P o a w K Q)
  (t:OwedAll8 P l Q sat I S q z [] a0 W (i+1) os):OwedAll8 P l Q sat I S q z [] a0 W i (o::os):=gO8 (fun a w b h2=>h a w b (h2 c)) t
theorem On (d:Ec l q i=true) (h:∀(a:Act) (w:World),I w->Below W.heap.size W w->(∀s,Cn l i s=true->a.tmps[s]?.getD undef=a0.tmps[s]?.getD undef)->Bj sat l a w o.after.toList->
      Region.wanted o (yielded l.toArray a.tmps)=true/\∀K:Act->World->Prop,(∀v,(sat.getD i (fun _ _=>True)) (Cg o a v) w->K (a.put o.dst v) w)->Hid (Oper.wp P o a w K Q))
  (c:(some i==q)=false) (t:OwedAll8 P l Q sat I S q z [] a0 W (i+1) os):OwedAll8 P l Q sat I S q z [] a0 W i (o::os):=gP8 (fun a w b h2=>h a w b (h2 d)) c t
variable {tl:List Bool}
theorem Gy {J:Nat} {a:Act} {w:World} (b:List Fi) (I:World->Prop) (S:World->World->Prop) (q:Option Nat) (z:Nat) (G:P.follows .mixedOrders=true) (E:Ir l a.tmps.size=true) (F:Dz l=true)
  (s:Vt l (cJ z false++[true,true]) (cJ (z+1) false++[true]) z=true) (hk:Cy I S q ((b.set z fun _ _=>True).set (z+1) fun _ _=>True))
  (H:∀v x y,(b.getD z (fun _ _=>True)) v x->Below x.heap.size x y->(b.getD z (fun _ _=>True)) v y) (A:∀v x y,(b.getD (z+1) (fun _ _=>True)) v x->Below x.heap.size x y->(b.getD (z+1) (fun _ _=>True)) v y)
  (D:I w.drew) (o:∀x y,I x->Below x.heap.size x y->S x y) (p:∀x y,I x->S x y->I y)
  (m:OwedAll8 P l Q b I S q z (cJ (z+1) false++[true]) a w 0 l)
  (k:∀(f:Nat->Value) (w':World),Dj b (cJ z false++[true,true]) f w' 0 l->Q .normal (Ak l a f) w'):
  (Code.region J l.toArray true).wp P Q a w:=by
 have u:∀j,(cJ (z+1) false++[true]).getD j false=true->j=z+1:=by
  intro j h;rw[aE,List.getElem?_append]at h
  split at h
  ·rename_i d
   rw[List.getElem?_replicate]at h
   split at h<;>simp at h
  ·rename_i d
   simp only[List.length_replicate]at d h;cases hx:j-(z+1)with
   |zero=>omega
   |succ n=>rw[hx]at h;simp at h
 refine Gx b _ I S q z _ G (fun j d C=> ?_) (fun i j _ d v x y g B=> ?_) D o p E F s m k
 ·have r:j≠z+1:=by
   rintro rfl;rw[aE,List.getElem?_append_right (by simp)]at C;simp at C
  have c:((b.set z fun _ _=>True).set (z+1) fun _ _=>True).getD j (fun _ _=>True)=b.getD j (fun _ _=>True):=by
   rw[aE,cI (fun e=>r e.symm),cI (fun e=>d e.symm),<-aE]
  have h:=Id _ q hk;exact⟨fun v x y t g=>c▸h.1 j v x y (fun e=>t e) (c▸g),fun v x y t g=>c▸h.2 j v x y t (c▸g)⟩
 ·rcases d with rfl|d
  ·exact H v x y g B
  ·rw[u j d]at g|-;exact A v x y g B
theorem gO9 (b:tl.getD i false=false) (h:∀(a:Act) (w:World),I w->(Ec l q i=true->Below W.heap.size W w)->(∀s,Cn l i s=true->a.tmps[s]?.getD undef=a0.tmps[s]?.getD undef)->Bj sat l a w o.after.toList->
      Region.wanted o (yielded l.toArray a.tmps)=true/\∀K:Act->World->Prop,(∀v w',(sat.getD i (fun _ _=>True)) (Cg o a v) w'->(i≠z->Gf S q i w w')->K (a.put o.dst v) w')->Oper.wp P o a w K Q)
  (t:OwedAll8 P l Q sat I S q z tl a0 W (i+1) os):OwedAll8 P l Q sat I S q z tl a0 W i (o::os):=.cons (Zhk b h) t
theorem gP9 (b:tl.getD i false=false) (h:∀(a:Act) (w:World),I w->(Ec l q i=true->Below W.heap.size W w)->(∀s,Cn l i s=true->a.tmps[s]?.getD undef=a0.tmps[s]?.getD undef)->Bj sat l a w o.after.toList->
      Region.wanted o (yielded l.toArray a.tmps)=true/\∀K:Act->World->Prop,(∀v,(sat.getD i (fun _ _=>True)) (Cg o a v) w->K (a.put o.dst v) w)->Hid (Oper.wp P o a w K Q))
  (f:(some i==q)=false) (t:OwedAll8 P l Q sat I S q z tl a0 W (i+1) os):OwedAll8 P l Q sat I S q z tl a0 W i (o::os):=
 gO9 b (fun a w c h2 h3 d=>⟨(h a w c h2 h3 d).1,fun K e=>((h a w c h2 h3 d).2 K fun v g=>e v w g fun _=>Af f bR).out⟩) t
theorem gT9 (b:tl.getD i false=true) (h:∀(a:Act) (w:World),(∀s,Cn l i s=true->a.tmps[s]?.getD undef=a0.tmps[s]?.getD undef)->Fl sat l a w o.after.toList->
      Region.wanted o (yielded l.toArray a.tmps)=true/\∀K:Act->World->Prop,(∀v w',(sat.getD i (fun _ _=>True)) (Cg o a v) w'->Below w.heap.size w w'->K (a.put o.dst v) w')->Oper.wp P o a w K Q)
  (t:OwedAll8 P l Q sat I S q z tl a0 W (i+1) os):OwedAll8 P l Q sat I S q z tl a0 W i (o::os):=.cons (Zhl b h) t
end
end
