import Derived.Test.YtfofaiommeckbaaGreatZSliceProves00
import Derived.RegionTactic
open List renaming range → aF, mem_filter → cF, getElem?_cons_succ → cB, getElem?_eq_none → aK, any_eq_true → cG, getD_eq_getElem?_getD → aH, getElem?_set_ne → cH, replicate → cI
open Bool renaming and_eq_true → cJ, or_eq_true → cK, not_eq_true' → cL
open Option renaming map_some → cM, getD_some → cN, bind_some → cO
open Array renaming all_eq_true_iff_forall_mem → cP, getElem?_eq_getElem → cQ, getElem?_toList → cR, getElem?_eq_none → aD, getD_eq_getD_getElem? → cS, size_setIfInBounds → cT, getElem?_setIfInBounds → cU, replicate → cV
open Nat renaming zero_add → cW, lt_or_ge → aB
set_option linter.unusedVariables false
set_option maxRecDepth 100000
set_option maxHeartbeats 40000000
namespace Go.Proofs.YtfofaiommeckbaaGreat
open Go.RowKit
abbrev Fw:=Value→World→Prop
def Az (l:List Oper):List Tmp:=l.filterMap (·.dst)
def Cy (l:List Oper)(i:Nat)(s:Tmp):Bool:=
 (aF l.length).all fun j=>match l[j]? with
  |some o=>o.dst !=some s||j==i||o.after.toList.any fun e=>Region.binds .any e&&e.on==i
  |none=>true
def Za8 (sat:List Fw):Prop:=∀(i:Nat) v w w',(sat.getD i (fun _ _=>True)) v w→Below w.heap.size w w'→(sat.getD i (fun _ _=>True)) v w'
theorem Tt:Za8 []:=fun i v w w' h _=>by simp
theorem Ef {s:Fw} {sat:List Fw}(h:∀v w w',s v w→Below w.heap.size w w'→s v w')(hs:Za8 sat):Za8 (s::sat):=by
 intro i v w w' hv hb;cases i with
 |zero=>exact h v w w' hv hb
 |succ i=>exact hs i v w w' hv hb
theorem We (a:Act)(d s:Tmp)(v:Value)(h:d≠s):(a.put (some d) v).tmps[s]?.getD undef=a.tmps[s]?.getD undef:=by
 show(a.tmps.setIfInBounds d v)[s]?.getD undef=_;simp[h]
theorem Wf (a:Act)(d:Tmp)(v:Value)(h:d<a.tmps.size):(a.put (some d) v).tmps[d]?.getD undef=v:=by
 show(a.tmps.setIfInBounds d v)[d]?.getD undef=v;simp[h]
theorem Za9 {ops:Array Oper} {a:Array Bool} {i:Nat}(h:i∈Region.ready .any ops a):∃o,ops[i]? =some o∧∀e∈o.after.toList,Region.binds .any e=true→a.getD e.on false=true:=by
 rw[Region.ready,cF]at h;obtain⟨_,h⟩:=h;rw[cJ]at h;cases ho:ops[i]? with
 |none=>rw[ho]at h;simp at h
 |some o=>
  refine⟨o,rfl,?_⟩;intro e c b;have h2:=h.2;rw[ho]at h2;simp only[cM,cN]at h2;rw[cP]at h2;have:=h2 e (by simpa using c);rw[b]at this;simpa using this
def Ex (ds:List Tmp)(f:Nat→Value):Nat→List Value→List Value
 |_,[]=>[]
 |s,x::xs=>(bif ds.contains s then f s else x)::Ex ds f (s+1) xs
def Am (l:List Oper)(a:Act)(f:Nat→Value):Act:= {tmps:=(Ex (Az l) f 0 a.tmps.toList).toArray,defers:=a.defers}
theorem Zhe (a:List Tmp)(f:Nat→Value):∀(xs:List Value) (k i:Nat),(Ex a f k xs)[i]? =(xs[i]?).map fun x=>bif a.contains (k+i)then f (k+i)else x:=by
 intro xs
 induction xs with
 |nil=>intro k i;simp[Ex]
 |cons x xs ih=>
  intro k i;cases i with
  |zero=>simp[Ex]
  |succ i=>
   rw[Ex,cB,cB,ih,show k+1+i=k+(i+1) by omega]
theorem Zba {l:List Oper} {a b:Act}(j:b.tmps.size=a.tmps.size)(g:b.defers=a.defers)(f:∀s,(Az l).contains s=false→b.tmps[s]?.getD undef=a.tmps[s]?.getD undef):
  b=Am l a (fun s=>b.tmps[s]?.getD undef):=by
 obtain⟨c,k⟩:=b;obtain⟨t,d⟩:=a;simp only at j g f;subst g;unfold Am
 congr 1
 apply Array.ext_getElem?;intro i;have e:∀xs:List Value,((Ex (Az l) (fun s=>c[s]?.getD undef) 0 xs).toArray)[i]? =(xs[i]?).map fun x=>bif (Az l).contains i then c[i]?.getD undef else x:=by
  intro xs;rw[List.getElem?_toArray,Zhe,cW]
 show c[i]? =((Ex (Az l) (fun s=>c[s]?.getD undef) 0 t.toList).toArray)[i]?;rw[e];rcases aB i t.size with h|h
 ·rw[cQ (by omega),cR,cQ h,cM]
  congr 1
  cases hc:(Az l).contains i with
  |true=>simp
  |false=>
   have:=f i hc;rw[cQ (by omega),cQ h]at this;exact this
 ·rw[aD (by omega),cR,aD h,Option.map_none]
theorem Ba {o:Oper} {ops:Array Oper} {tmps:Array Value} {j:Nat} {b:Bool} {c:Oper} {s:Tmp}(g:o.guard=some (j,b))(d:ops[j]? =some c)(e:c.dst=some s)(a:tmps[s]?.getD undef=.bool b):Region.wanted o (yielded ops tmps)=true:=by
 cases ht:tmps[s]? with
 |none=>rw[ht]at a;cases a
 |some x=>
  rw[ht]at a;have hx:x=.bool b:=a;have f:yielded ops tmps j=some b:=by
   unfold yielded;rw[d,cO,e,cO,ht,hx]
  unfold Region.wanted;rw[g];simp[f]
def Zbb (e:Edge):Bool:=Region.binds .any e&&match e.ground with| .data=>true|_=>false
theorem Wg {e:Edge}(h:Zbb e=true):Region.binds .any e=true:=by
 unfold Zbb at h;rw[cJ]at h;exact h.1
def Lk (o:Oper):Option Tmp:=match o.dst with
 |some d=>some d
 |none=>match o.op with
  | .store _ (.tmp p) _=>some p
  | .mapUpdate _ (.tmp p) _ _=>some p
  |_=>none
theorem Zkn {o:Oper} {d:Tmp}(h:o.dst=some d):Lk o=some d:=by unfold Lk;rw[h]
def Id (sat:List Fw)(l:List Oper)(a:Act)(w:World)(i:Nat):Prop:=
 match l[i]? with
 |some o=>match Lk o with
  |some d=>(sat.getD i (fun _ _=>True)) (a.tmps[d]?.getD undef) w
  |none=>True
 |none=>True
def Gb (sat:List Fw)(l:List Oper)(a:Act)(w:World):List Edge→Prop
 |[]=>True
 |e::es=>(if Zbb e=true then Id sat l a w e.on else True)∧Gb sat l a w es
theorem Wh {b:List Fw} {l:List Oper} {a:Act} {w:World}:∀c:List Edge,(∀e∈c,Zbb e=true→Id b l a w e.on)→Gb b l a w c:=by
 intro c
 induction c with
 |nil=>intro _;trivial
 |cons e c ih=>
  intro h;refine⟨?_,ih fun x hx=>h x (by simp[hx])⟩
  split
  ·rename_i hb;exact h e (by simp) hb
  ·trivial
def Jm (l:List Oper)(n:Nat):Bool:=
 ((aF l.length).all fun i=>match l[i]? with
  |some o=>(match Lk o with|some d=>decide (d<n)|none=>false)&&(aF l.length).all fun j=>match l[j]? with
   |some o'=>i==j||o'.dst.isNone||o'.dst !=Lk o||(o.dst.isNone&&o.after.toList.any fun e=>Region.binds .any e&&e.on==j)
   |none=>true
  |none=>true)
theorem Yu {l:List Oper} {n:Nat}(h:Jm l n=true) {i:Nat} {o:Oper}(a:l[i]? =some o):∃d,Lk o=some d∧d<n:=by
 have b:i<l.length:=by
  rcases aB i l.length with h|h
  ·exact h
  ·rw[aK h]at a;cases a
 have:=List.all_eq_true.1 h i (List.mem_range.2 b);rw[a]at this;simp only[cJ]at this;have h1:=this.1;cases hd:Lk o with
 |none=>rw[hd]at h1;cases h1
 |some d=>rw[hd]at h1;exact⟨d,rfl,by simpa using h1⟩
theorem Zmf {l:List Oper} {n:Nat}(h:Jm l n=true) {i j:Nat} {o q:Oper} {d p:Tmp}(m:l[i]? =some o)(f:l[j]? =some q)(s:Lk o=some d)(a:q.dst=some p)(g:i≠j):p≠d∨∃e∈o.after.toList,Region.binds .any e=true∧e.on=j:=by
 have c:i<l.length:=by
  rcases aB i l.length with h|h
  ·exact h
  ·rw[aK h]at m;cases m
 have k:j<l.length:=by
  rcases aB j l.length with h|h
  ·exact h
  ·rw[aK h]at f;cases f
 have:=List.all_eq_true.1 h i (List.mem_range.2 c);rw[m]at this;simp only[cJ]at this;have h2:=List.all_eq_true.1 this.2 j (List.mem_range.2 k);rw[f]at h2;simp only[cK,beq_iff_eq,bne_iff_ne,cJ,cG]at h2;rcases h2 with((h2|h2)|h2)|⟨_,e,r,t,b⟩
 ·exact absurd h2 g
 ·rw[a]at h2;cases h2
 ·left
  intro e;rw[s,a,e]at h2;exact h2 rfl
 ·exact .inr ⟨e,r,t,b⟩
def Cj (o:Oper)(a:Act)(v:Value):Value:=match o.dst with
 |some _=>v
 |none=>match Lk o with
  |some p=>a.tmps[p]?.getD undef
  |none=>undef
def En (l:List Oper):Bool:=(aF l.length).all fun i=>match l[i]? with|some o=>o.after.toList.all fun e=> !Region.binds .any e||decide (e.on<i)|none=>true
theorem Zc7 {l:List Oper}(h:En l=true) {i:Nat} {o:Oper}(a:l[i]? =some o):∀e∈o.after.toList,Region.binds .any e=true→e.on<i:=by
 have b:i<l.length:=by
  rcases aB i l.length with h|h
  ·exact h
  ·rw[aK h]at a;cases a
 have:=List.all_eq_true.1 h i (List.mem_range.2 b);rw[a]at this;intro e d c;have h2:=List.all_eq_true.1 this e d;rw[c]at h2;simpa using h2
theorem Wi {l:List Oper}(h:En l=true) {a:Array Bool}(t:a.size=l.length) {i:Nat}(r:i<l.length)(q:a.getD i false=false):Region.ready .any l.toArray a≠[]:=by
 have:∃j,j<l.length∧a.getD j false=false∧∀k,k<j→a.getD k false=true:=by
  induction i using Nat.strongRecOn with
  |ind i ih=>
   by_cases hall:∀k,k<i→a.getD k false=true
   ·exact⟨i,r,q,hall⟩
   ·have:∃k,k<i∧a.getD k false=false:=by
     refine Classical.byContradiction fun s=>hall fun k hk=> ?_;cases c:a.getD k false with
     |true=>rfl
     |false=>exact absurd ⟨k,hk,c⟩ s
    obtain⟨k,hk,c⟩:=this;exact ih k hk (by omega) c
 obtain⟨j,m,b,f⟩:=this;obtain⟨o,n⟩:∃o,l[j]? =some o:=⟨l[j],List.getElem?_eq_getElem m⟩;have g:j∈Region.ready .any l.toArray a:=by
  rw[Region.ready,cF];refine⟨by simpa using m,?_⟩;rw[cJ];constructor
  ·have:a.getD j true=false:=by
    rw[cS]at b⊢;rw[cQ (by omega)]at b⊢;exact b
   rw[this];rfl
  ·have d:l.toArray[j]? =some o:=(by simpa using n);rw[d,cM,cN,cP];intro e p;cases c:Region.binds .any e with
   |false=>rfl
   |true=>
    rw[cK]
    right
    exact f _ (Zc7 h n e (by simpa using p) c)
 intro e;rw[e]at g;cases g
theorem Zhf (a:Act)(d:Option Tmp)(v:Value):(a.put d v).tmps.size=a.tmps.size:=by
 cases d with
 |none=>rfl
 |some d=>show(a.tmps.setIfInBounds d v).size=_;rw[cT]
theorem Zbc (a:Act)(d:Option Tmp)(v:Value):(a.put d v).defers=a.defers:=by cases d<;>rfl
theorem Zj2 (a:Act)(d:Option Tmp)(s:Tmp)(v:Value)(h:d≠some s):(a.put d v).tmps[s]?.getD undef=a.tmps[s]?.getD undef:=by
 cases d with
 |none=>rfl
 |some d=>exact We a d s v (fun e=>h (by rw[e]))
theorem Zko (a:Act) {o:Oper} {d:Tmp}(h:Lk o=some d)(v:Value)(hd:d<a.tmps.size):(a.put o.dst v).tmps[d]?.getD undef=Cj o a v:=by
 unfold Cj;cases ho:o.dst with
 |none=>simp only[h];rfl
 |some d'=>
  have:=Zkn ho;rw[h]at this;cases this;exact Wf a d v hd
def Du (sat:List Fw)(fin:List Bool)(f:Nat→Value)(w:World):Nat→List Oper→Prop
 |_,[]=>True
 |i,o::os=>(bif fin.getD i false then(match Lk o with|some d=>(sat.getD i (fun _ _=>True)) (f d) w|none=>True)else True)∧Du sat fin f w (i+1) os
theorem Tu {c:List Fw} {b:List Bool} {f:Nat→Value} {w:World}:∀(os:List Oper) (k:Nat),(∀i o d,os[i]? =some o→Lk o=some d→b.getD (k+i) false=true→(c.getD (k+i) (fun _ _=>True)) (f d) w)→Du c b f w k os:=by
 intro os
 induction os with
 |nil=>intro k _;trivial
 |cons o os ih=>
  intro k h;refine⟨?_,ih (k+1) fun i j d g e a=> ?_⟩
  ·cases a:b.getD k false with
   |false=>trivial
   |true=>
    cases e:Lk o with
    |none=>trivial
    |some d=>exact h 0 o d rfl e a
  ·have e1:k+1+i=k+(i+1):=(by omega);rw[e1]at a⊢;exact h (i+1) j d (by simpa using g) e a
section
def Ju (l:List Oper)(listed:Array Bool):Prop:=∀j o,listed.getD j false=true→l[j]? =some o→∀e∈o.after.toList,Region.binds .any e=true→listed.getD e.on false=true
structure OnceX (l:List Oper) (sat:List Fw) (C:Array Bool→Nat→Prop) (Y:Array Bool→World→Prop) (a0:Act) (listed:Array Bool) (a:Act) (w:World):Prop where
 size:a.tmps.size=a0.tmps.size
 defers:a.defers=a0.defers
 out:∀s,(∀j o,listed.getD j false=true→l[j]? =some o→o.dst≠some s)→a.tmps[s]?.getD undef=a0.tmps[s]?.getD undef
 closed:Ju l listed
 wld:Y listed w
 facts:∀i,listed.getD i false=true→C listed i→Id sat l a w i
 lsize:listed.size=l.length
theorem Yv {listed:Array Bool} {i:Nat}(h:i<listed.size):(listed.setIfInBounds i true).getD i false=true:=by
 rw[cS,cU,if_pos rfl,if_pos h];rfl
theorem Tv {listed:Array Bool} {i j:Nat}(h:j≠i):(listed.setIfInBounds i true).getD j false=listed.getD j false:=by
 rw[cS,cU,if_neg (fun e=>h e.symm),←cS]
theorem Zc8 {n i:Nat}:(cV n false).getD i false=false:=by
 rw[cS,Array.getElem?_replicate];split<;>simp
theorem Hk {l:List Oper} {i:Nat} {o:Oper}(h:l[i]? =some o):i<l.length:=by
 rcases aB i l.length with k|k
 ·exact k
 ·rw[aK k]at h;cases h
section
variable {P:Program} {l:List Oper} {Q:Exit→Act→World→Prop} {sat:List Fw} {C:Array Bool→Nat→Prop} {Y:Array Bool→World→Prop} {R:Array Bool→Nat→World→World→Prop} {a0:Act}
def Zmg (P:Program)(l:List Oper)(Q:Exit→Act→World→Prop)(sat:List Fw)(C:Array Bool→Nat→Prop)(Y:Array Bool→World→Prop)(R:Array Bool→Nat→World→World→Prop)(a0:Act)(i:Nat)(o:Oper):Prop:=
 ∀(listed:Array Bool) (a:Act) (w:World),OnceX l sat C Y a0 listed a w→listed.getD i false=false→(∀e∈o.after.toList,Region.binds .any e=true→listed.getD e.on false=true)→(∀s,Cy l i s=true→a.tmps[s]?.getD undef=a0.tmps[s]?.getD undef)→
  ∀K:Act→World→Prop,(∀v w',(sat.getD i (fun _ _=>True)) (Cj o a v) w'→R listed i w w'→K (a.put o.dst v) w')→
   if Region.wanted o (yielded l.toArray a.tmps)=true then Oper.wp P o a w K Q else K (a.put o.dst undef) w
theorem Zc9 (M:Jm l a0.tmps.size=true) (F:En l=true)
  (E:∀i o,l[i]? =some o→Zmg P l Q sat C Y R a0 i o)
  (W:∀(i:Nat) (o:Oper) (b:Array Bool) (w w':World),l[i]? =some o→Ju l b→b.size=l.length→b.getD i false=false→(∀e∈o.after.toList,Region.binds .any e=true→b.getD e.on false=true)→Y b w→R b i w w'→Y (b.setIfInBounds i true) w')
  (hF:∀(i j:Nat) (o X:Oper) (b:Array Bool) (w w':World),l[i]? =some o→l[j]? =some X→Ju l b→b.size=l.length→b.getD i false=false→(∀e∈o.after.toList,Region.binds .any e=true→b.getD e.on false=true)→b.getD j false=true→C (b.setIfInBounds i true) j→Y b w→R b i w w'→
   C b j∧∀v,(sat.getD j (fun _ _=>True)) v w→(sat.getD j (fun _ _=>True)) v w')
  (G:∀(b:Array Bool) (a:Act) (w:World),OnceX l sat C Y a0 b a w→(∀i,i<l.length→b.getD i false=true)→Q .normal a w):
  ∀(n:Nat) (b:Array Bool) (a:Act) (w:World),OnceX l sat C Y a0 b a w→b.toList.count false≤n→wpAny P .any l.toArray Q n b a w:=by
 intro n;have y:∀(b:Array Bool) (a:Act) (w:World),OnceX l sat C Y a0 b a w→Region.ready .any l.toArray b=[]→Q .normal a w:=by
  intro b a w J K;refine G _ a w J fun i x=> ?_;cases z:b.getD i false with
  |true=>rfl
  |false=>exact absurd K (Wi F J.lsize x z)
 have h0:∀(b:Array Bool) (i:Nat),i∈Region.ready .any l.toArray b→i<b.size∧b.getD i false=false∧false∈b.toList:=by
  intro b i x;have h1:=(mem_ready.1 x).1;have f:i<b.size:=by
   rcases aB i b.size with h|h
   ·exact h
   ·rw[cS,aD h]at h1;simp at h1
  rw[cS,cQ f]at h1;refine⟨f,?_,?_⟩
  ·rw[cS,cQ f];exact h1
  ·rw[←show b[i]=false from h1];simp
 induction n with
 |zero=>
  intro b a w J hc;have K:Region.ready .any l.toArray b=[]:=by
   refine Classical.byContradiction fun Z=> ?_;obtain⟨i,x⟩:=List.exists_mem_of_ne_nil _ Z;have:=List.count_pos_iff.2 (h0 b i x).2.2;omega
  exact⟨K,y b a w J K⟩
 |succ n ih=>
  intro b a w J hc;refine⟨y b a w J,?_⟩;intro i x;obtain⟨o,V,p⟩:=Za9 x;obtain⟨f,g,-⟩:=h0 b i x;have k:l[i]? =some o:=(by simpa using V);obtain⟨d,D,N⟩:=Yu M k;refine wpOp_step V ?_;intro K' L;have A:∀s,Cy l i s=true→a.tmps[s]?.getD undef=a0.tmps[s]?.getD undef:=by
   intro s I;refine J.out s fun j u q c O=> ?_;have:=List.all_eq_true.1 I j (List.mem_range.2 (Hk c));rw[c]at this;simp only[cK,bne_iff_ne,beq_iff_eq,cG,cJ]at this;rcases this with(h|h)|⟨e,F,z,B⟩
   ·exact h O
   ·subst h;rw[g]at q;cases q
   ·have:=J.closed j u q c e F z;rw[B,g]at this;cases this
  refine E i o k b a w J g p A K' ?_;intro v w' hv U;refine L _ _ (ih _ _ _ ⟨?_,?_,?_,?_,W i o b w w' k J.closed J.lsize g p J.wld U,?_,?_⟩ ?_)
  ·rw[Zhf];exact J.size
  ·rw[Zbc];exact J.defers
  ·intro s I;rw[Zj2 a o.dst s v (I i o (Yv f) k)];refine J.out s fun j u q c=>I j u ?_ c
   by_cases hji:j=i
   ·rw[hji];exact Yv f
   ·rw[Tv hji];exact q
  ·intro j u q c e H z;have r:∀m,b.getD m false=true→(b.setIfInBounds i true).getD m false=true:=by
    intro m hm
    by_cases hmi:m=i
    ·rw[hmi];exact Yv f
    ·rw[Tv hmi];exact hm
   by_cases hji:j=i
   ·subst hji;rw[k]at c;cases c;exact r _ (p e H z)
   ·rw[Tv hji]at q;exact r _ (J.closed j u q c e H z)
  ·intro j q S;unfold Id;cases c:l[j]? with
   |none=>trivial
   |some u=>
    obtain⟨d',t,_⟩:=Yu M c;simp only[t]
    by_cases hji:j=i
    ·subst hji;rw[k]at c;cases c;rw[D]at t;cases t;rw[Zko a D v (by rw[J.size];exact N)];exact hv
    ·rw[Tv hji]at q;rw[Zj2 a o.dst d' v (by
      intro T;rcases Zmf M c k t T hji with h|⟨e,F,z,B⟩
      ·exact h rfl
      ·have:=J.closed j u q c e F z;rw[B,g]at this;cases this)]
     obtain⟨c1,c2⟩:=hF i j o u b w w' k c J.closed J.lsize g p q S J.wld U;have:=J.facts j q c1;unfold Id at this;rw[c]at this;simp only[t]at this;exact c2 _ this
  ·rw[cT];exact J.lsize
  ·rw[Array.toList_setIfInBounds,List.count_set (by simpa using f)];have h2:b.toList[i]'(by simpa using f)=false:=by
    rw[cS,cQ f]at g;simpa using g
   rw[h2,if_pos (show(false==false)=true from rfl),if_neg (by decide)];omega
theorem Pt {F:Nat} {a:Act} {w:World} (m:List Bool) (D:P.follows .mixedOrders=true) (A:Jm l a.tmps.size=true) (E:En l=true) (h0:Y (cV l.length false) w.drew)
  (n:∀i o,l[i]? =some o→Zmg P l Q sat C Y R a i o)
  (y:∀(i:Nat) (o:Oper) (b:Array Bool) (w w':World),l[i]? =some o→Ju l b→b.size=l.length→b.getD i false=false→(∀e∈o.after.toList,Region.binds .any e=true→b.getD e.on false=true)→Y b w→R b i w w'→Y (b.setIfInBounds i true) w')
  (B:∀(i j:Nat) (o z:Oper) (b:Array Bool) (w w':World),l[i]? =some o→l[j]? =some z→Ju l b→b.size=l.length→b.getD i false=false→(∀e∈o.after.toList,Region.binds .any e=true→b.getD e.on false=true)→b.getD j false=true→C (b.setIfInBounds i true) j→Y b w→R b i w w'→
   C b j∧∀v,(sat.getD j (fun _ _=>True)) v w→(sat.getD j (fun _ _=>True)) v w')
  (G:∀(b:Array Bool) (i:Nat),(∀k,k<l.length→b.getD k false=true)→i<l.length→m.getD i false=true→C b i)
  (q:∀(b:Array Bool) (f:Nat→Value) (w':World),Y b w'→(∀k,k<l.length→b.getD k false=true)→b.size=l.length→Du sat m f w' 0 l→Q .normal (Am l a f) w'):
  (Code.region F l.toArray true).wp P Q a w:=by
 refine wp_region_any D (Zc9 A E n y B ?_ _ _ _ _ ⟨rfl,rfl,fun _ _=>rfl,?_,by simpa using h0,?_,by simp⟩ ?_)
 ·intro b H w' J c;rw[Zba J.size J.defers (fun s x=>J.out s fun j o _ r t=>by
   have:(Az l).contains s=true:=by
    rw[List.contains_iff_mem];exact List.mem_filterMap.2 ⟨o,List.mem_of_getElem? r,t⟩
   rw[this]at x;cases x)]
  refine q b _ w' J.wld c J.lsize (Tu l 0 ?_);intro i o d r u g;rw[cW]at g⊢;have h:=Hk r;have:=J.facts i (c i h) (G _ i c h g);unfold Id at this;rw[r]at this;simp only[u]at this;exact this
 ·intro i _ p;rw[Zc8]at p;cases p
 ·intro i p _;rw[Zc8]at p;cases p
 ·simp
end
end
def Bp (sat:List Fw)(l:List Oper)(a:Act)(w:World):List Edge→Prop
 |[]=>True
 |e::es=>(if Region.binds .any e=true then Id sat l a w e.on else True)∧Bp sat l a w es
theorem Nz {b:List Fw} {l:List Oper} {a:Act} {w:World}:∀c:List Edge,(∀e∈c,Region.binds .any e=true→Id b l a w e.on)→Bp b l a w c:=by
 intro c
 induction c with
 |nil=>intro _;trivial
 |cons e c ih=>
  intro h;refine⟨?_,ih fun x hx=>h x (by simp[hx])⟩
  split
  ·rename_i hb;exact h e (by simp) hb
  ·trivial
def Gs (S:World→World→Prop)(q:Option Nat)(i:Nat)(x y:World):Prop:=bif some i==q then S x y else Below x.heap.size x y
theorem Af {S:World→World→Prop} {q:Option Nat} {i:Nat} {x y:World}(h:(some i==q)=false)(hb:Below x.heap.size x y):Gs S q i x y:=by unfold Gs;rw[h];exact hb
theorem Bv {S:World→World→Prop} {q:Option Nat} {i:Nat} {x y:World}(h:(some i==q)=true)(hs:S x y):Gs S q i x y:=by unfold Gs;rw[h];exact hs
def Er (l:List Oper)(q:Option Nat)(i:Nat):Bool:=match q with
 |none=>true
 |some j=>i==j||match l[j]? with
  |some oj=>oj.after.toList.any fun e=>Region.binds .any e&&e.on==i
  |none=>false
def Di (I:World→Prop)(S:World→World→Prop):Option Nat→List Fw→Prop
 |_,[]=>True
 |none,s::sat=>(∀v x y,s v x→I x→S x y→s v y)∧Di I S none sat
 |some 0,s::sat=>(∀v x y,s v x→I x→Below x.heap.size x y→s v y)∧Di I S none sat
 |some (q+1),s::sat=>(∀v x y,s v x→I x→S x y→s v y)∧Di I S (some q) sat
theorem Ah {I:World→Prop} {S:World→World→Prop} {q:Option Nat}:Di I S q []:=by cases q with
 |none=>trivial
 |some q=>cases q<;>trivial
theorem Ai {I:World→Prop} {S:World→World→Prop} {s:Fw} {sat:List Fw}(h:∀v x y,s v x→I x→S x y→s v y)(t:Di I S none sat):Di I S none (s::sat):=⟨h,t⟩
theorem Cl {I:World→Prop} {S:World→World→Prop} {s:Fw} {sat:List Fw}(h:∀v x y,s v x→I x→Below x.heap.size x y→s v y)(t:Di I S none sat):Di I S (some 0) (s::sat):=⟨h,t⟩
theorem Cm {I:World→Prop} {S:World→World→Prop} {q:Nat} {s:Fw} {sat:List Fw}(h:∀v x y,s v x→I x→S x y→s v y)(t:Di I S (some q) sat):Di I S (some (q+1)) (s::sat):=⟨h,t⟩
theorem It {I:World→Prop} {S:World→World→Prop}:∀(a:List Fw) (q:Option Nat),Di I S q a→
  (∀i v x y,some i≠q→(a.getD i (fun _ _=>True)) v x→I x→S x y→(a.getD i (fun _ _=>True)) v y)∧
  (∀i v x y,some i=q→(a.getD i (fun _ _=>True)) v x→I x→Below x.heap.size x y→(a.getD i (fun _ _=>True)) v y):=by
 intro a
 induction a with
 |nil=>intro q _;exact⟨fun i v x y _ _ _ _=>by simp,fun i v x y _ _ _ _=>by simp⟩
 |cons s a ih=>
  intro q h
  match q,h with
  |none,h=>
   refine⟨fun i v x y b d f c=> ?_,fun i v x y b=>by cases b⟩;cases i with
   |zero=>exact h.1 v x y d f c
   |succ i=>exact(ih none h.2).1 i v x y (by simp) d f c
  |some 0,h=>
   refine⟨fun i v x y b d f c=> ?_,fun i v x y b d f c=> ?_⟩
   ·cases i with
    |zero=>exact absurd rfl b
    |succ i=>exact(ih none h.2).1 i v x y (by simp) d f c
   ·cases i with
    |zero=>exact h.1 v x y d f c
    |succ i=>cases b
  |some (q+1),h=>
   refine⟨fun i v x y b d f c=> ?_,fun i v x y b d f c=> ?_⟩
   ·cases i with
    |zero=>exact h.1 v x y d f c
    |succ i=>exact(ih (some q) h.2).1 i v x y (fun e=>b (by simp at e;rw[e])) d f c
   ·cases i with
    |zero=>cases b
    |succ i=>exact(ih (some q) h.2).2 i v x y (by simp at b;rw[b]) d f c
def Zda (P:Program)(l:List Oper)(Q:Exit→Act→World→Prop)(sat:List Fw)(I:World→Prop)(S:World→World→Prop)(q:Option Nat)(a0:Act)(W:World)(i:Nat)(o:Oper):Prop:=
 ∀(a:Act) (w:World),I w→(Er l q i=true→Below W.heap.size W w)→(∀s,Cy l i s=true→a.tmps[s]?.getD undef=a0.tmps[s]?.getD undef)→Bp sat l a w o.after.toList→
  ∀K:Act→World→Prop,(∀v w',(sat.getD i (fun _ _=>True)) (Cj o a v) w'→Gs S q i w w'→K (a.put o.dst v) w')→
   if Region.wanted o (yielded l.toArray a.tmps)=true then Oper.wp P o a w K Q else K (a.put o.dst undef) w
def OwedAll7 (P:Program)(l:List Oper)(Q:Exit→Act→World→Prop)(sat:List Fw)(I:World→Prop)(S:World→World→Prop)(q:Option Nat)(a0:Act)(W:World):Nat→List Oper→Prop
 |_,[]=>True
 |i,o::os=>Zda P l Q sat I S q a0 W i o∧OwedAll7 P l Q sat I S q a0 W (i+1) os
theorem OwedAll7.nil {P:Program} {l:List Oper} {Q:Exit→Act→World→Prop} {sat:List Fw} {I:World→Prop} {S:World→World→Prop} {q:Option Nat} {a0:Act} {W:World} {i:Nat}:OwedAll7 P l Q sat I S q a0 W i []:=trivial
theorem OwedAll7.cons {P:Program} {l:List Oper} {Q:Exit→Act→World→Prop} {a:List Fw} {I:World→Prop} {S:World→World→Prop} {q:Option Nat} {b:Act} {W:World} {i:Nat} {o:Oper} {os:List Oper}(h:Zda P l Q a I S q b W i o)(t:OwedAll7 P l Q a I S q b W (i+1) os):OwedAll7 P l Q a I S q b W i (o::os):=⟨h,t⟩
theorem Tw {P:Program} {l:List Oper} {Q:Exit→Act→World→Prop} {a:List Fw} {I:World→Prop} {S:World→World→Prop} {q:Option Nat} {c:Act} {W:World}:∀(os:List Oper) (k:Nat),OwedAll7 P l Q a I S q c W k os→∀i o,os[i]? =some o→Zda P l Q a I S q c W (k+i) o:=by
 intro os
 induction os with
 |nil=>intro k _ i o h;simp at h
 |cons x os ih=>
  intro k h i o b;cases i with
  |zero=>simp at b;subst b;exact h.1
  |succ i=>
   have:=ih (k+1) h.2 i o (by simpa using b);rw[show k+(i+1)=k+1+i by omega];exact this
theorem Rp {I:World→Prop} {S:World→World→Prop} {q:Option Nat} {i:Nat} {x y:World}(h12:∀x y,I x→Below x.heap.size x y→S x y)(hI:I x)(h:Gs S q i x y):S x y:=by
 unfold Gs at h;cases hq:some i==q with
 |true=>rw[hq]at h;exact h
 |false=>rw[hq]at h;exact h12 _ _ hI h
theorem Rq {S:World→World→Prop} {q:Option Nat} {i:Nat} {x y:World}(hq:some i≠q)(h:Gs S q i x y):Below x.heap.size x y:=by
 unfold Gs at h;rw[beq_eq_false_iff_ne.2 hq]at h;exact h
theorem Yw {l:List Oper} {a:Array Bool} {i j:Nat}(d:Ju l a)(c:a.getD i false=false)(h:Er l (some j) i=true):a.getD j false=false:=by
 unfold Er at h;simp only[cK,beq_iff_eq]at h;rcases h with rfl|h
 ·exact c
 ·cases hoj:l[j]? with
  |none=>rw[hoj]at h;cases h
  |some oj=>
   rw[hoj]at h;simp only[cG,cJ,beq_iff_eq]at h;obtain⟨e,g,f,b⟩:=h;cases hl:a.getD j false with
   |false=>rfl
   |true=>
    have:=d j oj hl hoj e g f;rw[b,c]at this;cases this
theorem Rr {listed:Array Bool} {i j:Nat}(hi:listed.getD i false=false)(h:(listed.setIfInBounds i true).getD j false=false):listed.getD j false=false:=by
 by_cases hji:j=i
 ·rw[hji];exact hi
 ·rwa [Tv hji]at h
theorem Rs {listed:Array Bool} {i j:Nat}(hl:i<listed.size)(h:(listed.setIfInBounds i true).getD j false=false):i≠j:=by
 intro e;rw[←e,Yv hl]at h;cases h
theorem Bt {P:Program} {U:Nat} {l:List Oper} {Q:Exit→Act→World→Prop} {a:Act} {w:World} (d:List Fw) (p:List Bool) (I:World→Prop) (S:World→World→Prop) (q:Option Nat) (F:P.follows .mixedOrders=true) (hk:Di I S q d) (h0:I w.drew) (z:∀x y,I x→Below x.heap.size x y→S x y) (E:∀x y,I x→S x y→I y) (O:Jm l a.tmps.size=true) (T:En l=true)
  (s:OwedAll7 P l Q d I S q a w 0 l)
  (A:∀(f:Nat→Value) (w':World),I w'→Du d p f w' 0 l→Q .normal (Am l a f) w'):
  (Code.region U l.toArray true).wp P Q a w:=by
 refine Pt (C:=fun _ _=>True) (Y:=fun b x=>I x∧((∀j,q=some j→b.getD j false=false)→Below w.heap.size w x)) (R:=fun _ i x y=>Gs S q i x y) p F O T ⟨h0,fun _=>⟨rfl,rfl,rfl,lR,fun _ _=>rfl⟩⟩ ?_ ?_ ?_ (fun _ _ _ _ _=>trivial) (fun _ f w' g _ _ V=>A f w' g.1 V)
 ·intro i o X b Z x J c h m K W;have L:=Tw l 0 s i o X;rw[cW]at L;exact L Z x J.wld.1 (fun H=>J.wld.2 fun j G=>Yw J.closed c (by rw[←G];exact H)) m (Nz _ fun e F hb=>J.facts _ (h e F hb) trivial) K W
 ·intro i o b x y u D n c _ g r;refine⟨E _ _ g.1 (Rp z g.1 r),fun k=> ?_⟩;have t:=g.2 fun j G=>Rr c (k j G);exact t.trans ((Rq (fun e=>Rs (by rw[n];exact Hk u) (k i e.symm) rfl) r).mono t.size)
 ·intro i j o oj b x y u N D n c h B _ g r;refine⟨trivial,fun v M=> ?_⟩
  by_cases hjq:some j=q
  ·refine(It d q hk).2 j _ _ _ hjq M g.1 (Rq ?_ r);rw[←hjq];intro e;cases e;rw[c]at B;cases B
  ·exact(It d q hk).1 j _ _ _ hjq M g.1 (Rp z g.1 r)
theorem Zhg {P:Program} {l:List Oper} {Q:Exit→Act→World→Prop} {b:List Fw} {I:World→Prop} {S:World→World→Prop} {q:Option Nat} {c:Act} {W:World} {i:Nat} {o:Oper}
  (h:∀(a:Act) (w:World),I w→(Er l q i=true→Below W.heap.size W w)→(∀s,Cy l i s=true→a.tmps[s]?.getD undef=c.tmps[s]?.getD undef)→Bp b l a w o.after.toList→
   Region.wanted o (yielded l.toArray a.tmps)=true∧∀K:Act→World→Prop,(∀v w',(b.getD i (fun _ _=>True)) (Cj o a v) w'→Gs S q i w w'→K (a.put o.dst v) w')→Oper.wp P o a w K Q):Zda P l Q b I S q c W i o:=by
 intro a w g f e d K j;rw[if_pos (h a w g f e d).1];exact(h a w g f e d).2 K j
theorem Wj {o:Oper} {ops:Array Oper} {tmps:Array Value} {j:Nat} {b:Bool} {c:Oper} {s:Tmp} {v:Value}(i:o.guard=some (j,b))(d:ops[j]? =some c)(e:c.dst=some s)(a:tmps[s]?.getD undef=v)(f:v≠ .bool b):Region.wanted o (yielded ops tmps)=false:=by
 have g:yielded ops tmps j≠some b:=by
  unfold yielded;rw[d,cO,e,cO];cases ht:tmps[s]? with
  |none=>simp
  |some x=>
   rw[ht]at a;have hx:x=v:=a;subst hx;intro h;cases x<;>simp_all
 unfold Region.wanted;rw[i];simp[g]
theorem Zdb {P:Program} {l:List Oper} {Q:Exit→Act→World→Prop} {b:List Fw} {I:World→Prop} {S:World→World→Prop} {q:Option Nat} {c:Act} {W:World} {i:Nat} {o:Oper} {d:Tmp} (e:o.dst=some d) (g:b.getD i (fun _ _=>True)=fun v _=>v=undef) (k:(some i==q)=false)
  (h:∀(a:Act) (w:World),Bp b l a w o.after.toList→Region.wanted o (yielded l.toArray a.tmps)=false):Zda P l Q b I S q c W i o:=by
 intro a w n _ m f K j;rw[if_neg (by rw[h a w f];simp)];exact j undef w (by rw[g];unfold Cj;rw[e]) (Af k bR)
section
def Wk (l:List Oper)(fin tl:List Bool)(q:Nat):Bool:=
 decide (q<l.length)&& !tl.getD q false&&(aF l.length).all fun i=>i==q||(if tl.getD i false then(match l[i]? with|some o=>(o.after.toList.any fun e=>Region.binds .any e&&e.on==q)&&o.after.toList.all fun e=> !Zbb e||e.on==q||tl.getD e.on false|none=>false)else(!fin.getD i false&&(aF l.length).any fun j=>decide (i<j)&& !tl.getD j false&&match l[j]? with|some o=>o.after.toList.any fun e=>Region.binds .any e&&e.on==i|none=>false))
theorem Yx {l:List Oper} {f d:List Bool} {q:Nat}(h:Wk l f d q=true):q<l.length∧d.getD q false=false∧(∀i,i<l.length→i≠q→d.getD i false=false→f.getD i false=false∧∃j o,i<j∧j<l.length∧d.getD j false=false∧l[j]? =some o∧∃e∈o.after.toList,Region.binds .any e=true∧e.on=i)∧
  (∀i o,l[i]? =some o→d.getD i false=true→(∃e∈o.after.toList,Region.binds .any e=true∧e.on=q)∧∀e∈o.after.toList,Zbb e=true→e.on=q∨d.getD e.on false=true):=by
 unfold Wk at h;rw[cJ,cJ,decide_eq_true_iff,cL]at h;refine⟨h.1.1,h.1.2,fun i p n a=> ?_,fun i o b a=> ?_⟩
 ·have h2:=List.all_eq_true.1 h.2 i (List.mem_range.2 p);rw[a,cK,beq_iff_eq]at h2;rcases h2 with h2|h2
  ·exact absurd h2 n
  ·simp only[Bool.false_eq_true,if_false,cJ,cL]at h2;obtain⟨h2,h3⟩:=h2;refine⟨h2,?_⟩;obtain⟨j,v,h3⟩:=List.any_eq_true.1 h3;simp only[cJ,decide_eq_true_iff,cL]at h3;obtain⟨⟨r,s⟩,h3⟩:=h3;cases b:l[j]? with
   |none=>rw[b]at h3;cases h3
   |some o=>
    rw[b]at h3;simp only[cG,cJ,beq_iff_eq]at h3;obtain⟨e,k,t,c⟩:=h3;exact⟨j,o,r,List.mem_range.1 v,s,b,e,k,t,c⟩
 ·have p:i<l.length:=by
   rcases aB i l.length with h|h
   ·exact h
   ·rw[aK h]at b;cases b
  have h2:=List.all_eq_true.1 h.2 i (List.mem_range.2 p);rw[a,cK,beq_iff_eq,b]at h2;rcases h2 with h2|h2
  ·subst h2;rw[h.1.2]at a;cases a
  ·simp only[if_true,cJ,cG,beq_iff_eq,List.all_eq_true,cK,cL]at h2;obtain⟨⟨e,k,t,c⟩,h3⟩:=h2;refine⟨⟨e,k,t,c⟩,fun w m u=> ?_⟩;rcases h3 w m with(g|g)|g
   ·rw[g]at u;cases u
   ·exact .inl g
   ·exact .inr g
theorem Wl {l:List Oper} {b f:List Bool} {q:Nat}(h:Wk l b f q=true) {a:Array Bool}(m:∀j o,a.getD j false=true→l[j]? =some o→∀e∈o.after.toList,Region.binds .any e=true→a.getD e.on false=true)(s:a.getD q false=true):
  ∀n i,l.length-i≤n→i<l.length→f.getD i false=false→a.getD i false=true:=by
 intro n
 induction n with
 |zero=>intro i h1 h2;omega
 |succ n ih=>
  intro i h1 h2 h3
  by_cases hiq:i=q
  ·subst hiq;exact s
  ·obtain⟨_,j,o,p,k,d,r,e,g,t,c⟩:=(Yx h).2.2.1 i h2 hiq h3;have:=m j o (ih j (by omega) k d) r e g t;rw[c]at this;exact this
def Wm (P:Program)(l:List Oper)(Q:Exit→Act→World→Prop)(sat:List Fw)(I:World→Prop)(S:World→World→Prop)(q:Option Nat)(z:Nat)(tl:List Bool)(a0:Act)(W:World)(i:Nat)(o:Oper):Prop:=
 ∀(a:Act) (w:World),(tl.getD i false=false→I w∧(Er l q i=true→Below W.heap.size W w)∧Bp sat l a w o.after.toList)→(∀s,Cy l i s=true→a.tmps[s]?.getD undef=a0.tmps[s]?.getD undef)→Gb sat l a w o.after.toList→
  ∀K:Act→World→Prop,(∀v w',(sat.getD i (fun _ _=>True)) (Cj o a v) w'→(i≠z→bif tl.getD i false then Below w.heap.size w w' else Gs S q i w w')→K (a.put o.dst v) w')→
   if Region.wanted o (yielded l.toArray a.tmps)=true then Oper.wp P o a w K Q else K (a.put o.dst undef) w
def OwedAll8 (P:Program)(l:List Oper)(Q:Exit→Act→World→Prop)(sat:List Fw)(I:World→Prop)(S:World→World→Prop)(q:Option Nat)(z:Nat)(tl:List Bool)(a0:Act)(W:World):Nat→List Oper→Prop
 |_,[]=>True
 |i,o::os=>Wm P l Q sat I S q z tl a0 W i o∧OwedAll8 P l Q sat I S q z tl a0 W (i+1) os
section
variable {P:Program} {l:List Oper} {Q:Exit→Act→World→Prop} {sat:List Fw} {I:World→Prop} {S:World→World→Prop} {q:Option Nat} {z:Nat} {tl:List Bool} {a0:Act} {W:World} {i:Nat} {o:Oper}
theorem OwedAll8.nil:OwedAll8 P l Q sat I S q z tl a0 W i []:=trivial
theorem OwedAll8.cons {os:List Oper}(h:Wm P l Q sat I S q z tl a0 W i o)(t:OwedAll8 P l Q sat I S q z tl a0 W (i+1) os):OwedAll8 P l Q sat I S q z tl a0 W i (o::os):=⟨h,t⟩
theorem Tx:∀(os:List Oper) (k:Nat),OwedAll8 P l Q sat I S q z tl a0 W k os→∀i o,os[i]? =some o→Wm P l Q sat I S q z tl a0 W (k+i) o:=by
 intro os
 induction os with
 |nil=>intro k _ i o h;simp at h
 |cons x os ih=>
  intro k h i o a;cases i with
  |zero=>simp at a;subst a;exact h.1
  |succ i=>
   have:=ih (k+1) h.2 i o (by simpa using a);rw[show k+(i+1)=k+1+i by omega];exact this
theorem Hl {id:Nat} {a:Act} {w:World} (k:List Fw) (L:List Bool) (I:World→Prop) (S:World→World→Prop) (q:Option Nat) (z:Nat) (n:List Bool) (T:P.follows .mixedOrders=true)
  (hk:∀j,j≠z→n.getD j false=false→(∀v x y,some j≠q→(k.getD j (fun _ _=>True)) v x→I x→S x y→(k.getD j (fun _ _=>True)) v y)∧∀v x y,some j=q→(k.getD j (fun _ _=>True)) v x→I x→Below x.heap.size x y→(k.getD j (fun _ _=>True)) v y)
  (aI:∀i j,n.getD i false=true→j=z∨n.getD j false=true→∀v x y,(k.getD j (fun _ _=>True)) v x→Below x.heap.size x y→(k.getD j (fun _ _=>True)) v y)
  (h0:I w.drew) (aE:∀x y,I x→Below x.heap.size x y→S x y) (aH:∀x y,I x→S x y→I y) (hd:Jm l a.tmps.size=true) (N:En l=true) (aA:Wk l L n z=true)
  (aB:OwedAll8 P l Q k I S q z n a w 0 l)
  (aF:∀(f:Nat→Value) (w':World),Du k L f w' 0 l→Q .normal (Am l a f) w'):
  (Code.region id l.toArray true).wp P Q a w:=by
 have t:=Yx aA
 -- ahead of z nothing of the tail is done
 have O:∀(i:Nat) (o:Oper) (b:Array Bool),l[i]? =some o→Ju l b→b.getD i false=false→n.getD i false=false→b.getD z false=false:=by
  intro i o b U hc d c
  by_cases m:i=z
  ·rw[←m];exact d
  ·cases u:b.getD z false with
   |false=>rfl
   |true=>
    have:=Wl aA hc u (l.length-i) i lR (Hk U) c;rw[d]at this;cases this
 refine Pt (C:=fun b i=>i=z∨n.getD i false=true∨b.getD z false=false) (Y:=fun b x=>b.getD z false=false→I x∧((∀j,q=some j→b.getD j false=false)→Below w.heap.size w x))
  (R:=fun _ i x y=>i≠z→bif n.getD i false then Below x.heap.size x y else Gs S q i x y) L T hd N (fun _=>⟨h0,fun _=>⟨rfl,rfl,rfl,lR,fun _ _=>rfl⟩⟩) ?_ ?_ ?_ ?_ (fun _ f w' _ _ _ hf=>aF f w' hf)
 ·intro i o U b a' x J d g H K hK;have hO:=Tx l 0 aB i o U;rw[cW]at hO;refine hO a' x (fun c=> ?_) H (Wh _ fun e T u=>J.facts _ (g e T (Wg u)) ?_) K hK
  ·have B:=O i o b U J.closed d c;exact⟨(J.wld B).1,fun aJ=>(J.wld B).2 fun j hj=>Yw J.closed d (by rw[←hj];exact aJ),Nz _ fun e T u=>J.facts _ (g e T u) (.inr (.inr B))⟩
  ·cases c:n.getD i false with
   |false=>exact .inr (.inr (O i o b U J.closed d c))
   |true=>
    rcases(t.2.2.2 i o U c).2 e T u with h|h
    ·exact .inl h
    ·exact .inr (.inl h)
 ·intro i o b x y r M F d g hY p W;have B:=Rr d W;have p:=p (Rs (by rw[F];exact Hk r) W);have c:n.getD i false=false:=by
   cases c:n.getD i false with
   |false=>rfl
   |true=>
    obtain⟨e,N,u,D⟩:=(t.2.2.2 i o r c).1;have:=g e N u;rw[D,B]at this;cases this
  rw[c]at p;obtain⟨V,hB⟩:=hY B;refine⟨aH _ _ V (Rp aE V p),fun G=> ?_⟩;have aC:=hB fun j hj=>Rr d (G j hj);exact aC.trans ((Rq (fun e=>Rs (by rw[F];exact Hk r) (G i e.symm) rfl) p).mono aC.size)
 ·intro i j o oj b x y r Z M F d g E hC hY p;cases c:n.getD i false with
  |true=>
   obtain⟨e,N,u,D⟩:=(t.2.2.2 i o r c).1;have aD:=g e N u;rw[D]at aD;have m:i≠z:=by
    intro e;rw[e,t.2.1]at c;cases c
   have p:=p m;rw[c]at p;have s:j=z∨n.getD j false=true:=by
    rcases hC with h|h|h
    ·exact .inl h
    ·exact .inr h
    ·have:=Rr d h;rw[aD]at this;cases this
   exact⟨s.elim .inl fun h=> .inr (.inl h),fun v hv=>aI i j c s v _ _ hv p⟩
  |false=>
   have B:=O i o b r M d c;have s:j≠z:=by
    intro e;rw[e,B]at E;cases E
   have A:n.getD j false=false:=by
    cases A:n.getD j false with
    |false=>rfl
    |true=>
     obtain⟨e,N,u,D⟩:=(t.2.2.2 j oj Z A).1;have:=M j oj E Z e N u;rw[D,B]at this;cases this
   have m:i≠z:=by
    rcases hC with h|h|h
    ·exact absurd h s
    ·rw[A]at h;cases h
    ·exact Rs (by rw[F];exact Hk r) h
   have p:=p m;rw[c]at p;obtain⟨V,_⟩:=hY B;refine⟨.inr (.inr B),fun v hv=> ?_⟩
   by_cases hjq:some j=q
   ·refine(hk j s A).2 v _ _ hjq hv V (Rq ?_ p);rw[←hjq];intro e;cases e;rw[d]at E;cases E
   ·exact(hk j s A).1 v _ _ hjq hv V (Rp aE V p)
 ·intro b i _ aG X
  by_cases m:i=z
  ·exact .inl m
  ·cases c:n.getD i false with
   |true=>exact .inr (.inl rfl)
   |false=>rw[(t.2.2.1 i aG m c).1]at X;cases X
theorem Au {A:Nat} {a:Act} {w:World} (c:List Fw) (d:List Bool) (I:World→Prop) (S:World→World→Prop) (q:Option Nat) (z:Nat) (t:P.follows .mixedOrders=true) (hk:Di I S q (c.set z fun _ _=>True)) (h0:I w.drew) (o:∀x y,I x→Below x.heap.size x y→S x y) (m:∀x y,I x→S x y→I y) (s:Jm l a.tmps.size=true) (u:En l=true) (n:Wk l d [] z=true)
  (g:OwedAll8 P l Q c I S q z [] a w 0 l)
  (k:∀(f:Nat→Value) (w':World),Du c d f w' 0 l→Q .normal (Am l a f) w'):
  (Code.region A l.toArray true).wp P Q a w:=by
 refine Hl c d I S q z [] t (fun j B _=> ?_) (fun i j h=>by simp at h) h0 o m s u n g k;have b:(c.set z fun _ _=>True).getD j (fun _ _=>True)=c.getD j (fun _ _=>True):=by
  rw[aH,cH (fun e=>B e.symm),←aH]
 have h:=It _ q hk;exact⟨fun v x y r p=>b▸h.1 j v x y (fun e=>r e) (b▸p),fun v x y r p=>b▸h.2 j v x y r (b▸p)⟩
theorem Mz (h:∀(a:Act) (w:World),I w→(Er l q i=true→Below W.heap.size W w)→(∀s,Cy l i s=true→a.tmps[s]?.getD undef=a0.tmps[s]?.getD undef)→Bp sat l a w o.after.toList→
      Region.wanted o (yielded l.toArray a.tmps)=true∧∀K:Act→World→Prop,(∀v w',(sat.getD i (fun _ _=>True)) (Cj o a v) w'→(i≠z→Gs S q i w w')→K (a.put o.dst v) w')→Oper.wp P o a w K Q):Wm P l Q sat I S q z [] a0 W i o:=by
 intro a w c b _ K d;obtain⟨h1,h2,h3⟩:=c rfl;rw[if_pos (h a w h1 h2 b h3).1];exact(h a w h1 h2 b h3).2 K d
theorem Zhh (b:tl.getD i false=false) (h:∀(a:Act) (w:World),I w→(Er l q i=true→Below W.heap.size W w)→(∀s,Cy l i s=true→a.tmps[s]?.getD undef=a0.tmps[s]?.getD undef)→Bp sat l a w o.after.toList→
      Region.wanted o (yielded l.toArray a.tmps)=true∧∀K:Act→World→Prop,(∀v w',(sat.getD i (fun _ _=>True)) (Cj o a v) w'→(i≠z→Gs S q i w w')→K (a.put o.dst v) w')→Oper.wp P o a w K Q):Wm P l Q sat I S q z tl a0 W i o:=by
 intro a w g d _ K j;obtain⟨h1,h2,h3⟩:=g b;rw[if_pos (h a w h1 h2 d h3).1];exact(h a w h1 h2 d h3).2 K fun v w' f e=>j v w' f fun c=>by rw[b];exact e c
theorem Zhi (b:tl.getD i false=true) (h:∀(a:Act) (w:World),(∀s,Cy l i s=true→a.tmps[s]?.getD undef=a0.tmps[s]?.getD undef)→Gb sat l a w o.after.toList→
      Region.wanted o (yielded l.toArray a.tmps)=true∧∀K:Act→World→Prop,(∀v w',(sat.getD i (fun _ _=>True)) (Cj o a v) w'→Below w.heap.size w w'→K (a.put o.dst v) w')→Oper.wp P o a w K Q):Wm P l Q sat I S q z tl a0 W i o:=by
 intro a w _ c d K e;rw[if_pos (h a w c d).1];exact(h a w c d).2 K fun v w' g f=>e v w' g fun _=>by rw[b];exact f
end
end
section
abbrev eF (x:Value):Fw:=fun v _=>v=x
theorem eqn {v x:Value}(h:v=x):v=x:=h
def isB (b:Bool):Value→Bool
 | .bool c=>c==b
 |_=>false
theorem Zmh {b:Bool} {v:Value}(h:isB b v=false):v≠ .bool b:=by
 intro e;rw[e]at h;simp[isB]at h
section
variable {P:Program} {l:List Oper} {Q:Exit→Act→World→Prop} {sat:List Fw} {I:World→Prop} {S:World→World→Prop} {q:Option Nat} {a0:Act} {W:World} {i:Nat} {o:Oper} {os:List Oper}
def dn:Option Nat→Option Nat
 |some (q+1)=>some q
 |_=>none
theorem kX {s:Fw}(h:∀v x y,s v x→I x→S x y→s v y)(h2:∀v x y,s v x→I x→Below x.heap.size x y→s v y)(t:Di I S (dn q) sat):Di I S q (s::sat):=by
 match q,t with
 |none,t=>exact⟨h,t⟩
 |some 0,t=>exact⟨h2,t⟩
 |some (q+1),t=>exact⟨h,t⟩
theorem kE {x:Value}(t:Di I S (dn q) sat):Di I S q (eF x::sat):=kX (fun _ _ _ h _ _=>h) (fun _ _ _ h _ _=>h) t
theorem gO (h:∀(a:Act) (w:World),I w→(Er l q i=true→Below W.heap.size W w)→(∀s,Cy l i s=true→a.tmps[s]?.getD undef=a0.tmps[s]?.getD undef)→Bp sat l a w o.after.toList→
      Region.wanted o (yielded l.toArray a.tmps)=true∧∀K:Act→World→Prop,(∀v w',(sat.getD i (fun _ _=>True)) (Cj o a v) w'→Gs S q i w w'→K (a.put o.dst v) w')→Oper.wp P o a w K Q)
  (t:OwedAll7 P l Q sat I S q a0 W (i+1) os):OwedAll7 P l Q sat I S q a0 W i (o::os):=.cons (Zhg h) t
theorem gP (h:∀(a:Act) (w:World),I w→(Er l q i=true→Below W.heap.size W w)→(∀s,Cy l i s=true→a.tmps[s]?.getD undef=a0.tmps[s]?.getD undef)→Bp sat l a w o.after.toList→
      Region.wanted o (yielded l.toArray a.tmps)=true∧∀K:Act→World→Prop,(∀v,(sat.getD i (fun _ _=>True)) (Cj o a v) w→K (a.put o.dst v) w)→Hid (Oper.wp P o a w K Q))
  (c:(some i==q)=false) (t:OwedAll7 P l Q sat I S q a0 W (i+1) os):OwedAll7 P l Q sat I S q a0 W i (o::os):=
 gO (fun a w h1 h2 h3 b=>⟨(h a w h1 h2 h3 b).1,fun K d=>((h a w h1 h2 h3 b).2 K fun v e=>d v w e (Af c bR)).out⟩) t
theorem fO {j:Nat} {b:Bool} {e:Oper} {s:Tmp} {v:Value} {d:Tmp} (f:o.dst=some d) (k:sat.getD i (fun _ _=>True)=fun v _=>v=undef) (p:(some i==q)=false) (m:o.guard=some (j,b)) (h:l.toArray[j]? =some e) (ht:e.dst=some s)
  (n:∀(a:Act) (w:World),Bp sat l a w o.after.toList→a.tmps[s]?.getD undef=v) (c:isB b v=false)
  (t:OwedAll7 P l Q sat I S q a0 W (i+1) os):OwedAll7 P l Q sat I S q a0 W i (o::os):=
 .cons (Zdb f k p fun a w g=>Wj m h ht (n a w g) (Zmh c)) t
theorem gOw (b:Er l q i=true) (h:∀(a:Act) (w:World),I w→Below W.heap.size W w→(∀s,Cy l i s=true→a.tmps[s]?.getD undef=a0.tmps[s]?.getD undef)→Bp sat l a w o.after.toList→
      Region.wanted o (yielded l.toArray a.tmps)=true∧∀K:Act→World→Prop,(∀v w',(sat.getD i (fun _ _=>True)) (Cj o a v) w'→Gs S q i w w'→K (a.put o.dst v) w')→Oper.wp P o a w K Q)
  (t:OwedAll7 P l Q sat I S q a0 W (i+1) os):OwedAll7 P l Q sat I S q a0 W i (o::os):=gO (fun a w h1 h2=>h a w h1 (h2 b)) t
theorem gPw (c:Er l q i=true) (h:∀(a:Act) (w:World),I w→Below W.heap.size W w→(∀s,Cy l i s=true→a.tmps[s]?.getD undef=a0.tmps[s]?.getD undef)→Bp sat l a w o.after.toList→
      Region.wanted o (yielded l.toArray a.tmps)=true∧∀K:Act→World→Prop,(∀v,(sat.getD i (fun _ _=>True)) (Cj o a v) w→K (a.put o.dst v) w)→Hid (Oper.wp P o a w K Q))
  (b:(some i==q)=false) (t:OwedAll7 P l Q sat I S q a0 W (i+1) os):OwedAll7 P l Q sat I S q a0 W i (o::os):=gP (fun a w h1 h2=>h a w h1 (h2 c)) b t
theorem Dv {k:Nat} {a:Act} {w:World} (b:List Fw) (i:P.follows .mixedOrders=true) (e:Jm l a.tmps.size=true) (j:En l=true) (hk:Di (fun x=>Below w.heap.size w x) (fun x y=>Below x.heap.size x y) none b)
  (d:OwedAll7 P l Q b (fun x=>Below w.heap.size w x) (fun x y=>Below x.heap.size x y) none a w 0 l)
  (c:∀(f:Nat→Value) (w':World),Below w.heap.size w w'→Du b (cI l.length true) f w' 0 l→Q .normal (Am l a f) w'):
  (Code.region k l.toArray true).wp P Q a w:=
 Bt b _ _ _ none i hk ⟨rfl,rfl,rfl,lR,fun _ _=>rfl⟩ (fun _ _ _ h=>h) (fun _ _ hx g=>hx.trans (g.mono hx.size)) e j d c
theorem bX {s:Fw}(h:∀v x y,s v x→Below x.heap.size x y→s v y)(t:Di I (fun x y=>Below x.heap.size x y) none sat):Di I (fun x y=>Below x.heap.size x y) none (s::sat):=⟨fun v x y hv _ hs=>h v x y hv hs,t⟩
theorem gB (h:∀(a:Act) (w:World),Below W.heap.size W w→(∀s,Cy l i s=true→a.tmps[s]?.getD undef=a0.tmps[s]?.getD undef)→Bp sat l a w o.after.toList→
      Region.wanted o (yielded l.toArray a.tmps)=true∧∀K:Act→World→Prop,(∀v w',(sat.getD i (fun _ _=>True)) (Cj o a v) w'→Below w.heap.size w w'→K (a.put o.dst v) w')→Oper.wp P o a w K Q)
  (t:OwedAll7 P l Q sat (fun x=>Below W.heap.size W x) S none a0 W (i+1) os):OwedAll7 P l Q sat (fun x=>Below W.heap.size W x) S none a0 W i (o::os):=
 gO (fun a w h1 _ h3 b=>⟨(h a w h1 h3 b).1,fun K c=>(h a w h1 h3 b).2 K fun v w' d e=>c v w' d (Af rfl e)⟩) t
theorem gQ (h:∀(a:Act) (w:World),Below W.heap.size W w→(∀s,Cy l i s=true→a.tmps[s]?.getD undef=a0.tmps[s]?.getD undef)→Bp sat l a w o.after.toList→
      Region.wanted o (yielded l.toArray a.tmps)=true∧∀K:Act→World→Prop,(∀v,(sat.getD i (fun _ _=>True)) (Cj o a v) w→K (a.put o.dst v) w)→Hid (Oper.wp P o a w K Q))
  (t:OwedAll7 P l Q sat (fun x=>Below W.heap.size W x) S none a0 W (i+1) os):OwedAll7 P l Q sat (fun x=>Below W.heap.size W x) S none a0 W i (o::os):=
 gP (fun a w h1 _ h3 b=>h a w h1 h3 b) rfl t
variable {z:Nat}
theorem gO8 (h:∀(a:Act) (w:World),I w→(Er l q i=true→Below W.heap.size W w)→(∀s,Cy l i s=true→a.tmps[s]?.getD undef=a0.tmps[s]?.getD undef)→Bp sat l a w o.after.toList→
      Region.wanted o (yielded l.toArray a.tmps)=true∧∀K:Act→World→Prop,(∀v w',(sat.getD i (fun _ _=>True)) (Cj o a v) w'→(i≠z→Gs S q i w w')→K (a.put o.dst v) w')→Oper.wp P o a w K Q)
  (t:OwedAll8 P l Q sat I S q z [] a0 W (i+1) os):OwedAll8 P l Q sat I S q z [] a0 W i (o::os):=.cons (Mz h) t
theorem gP8 (h:∀(a:Act) (w:World),I w→(Er l q i=true→Below W.heap.size W w)→(∀s,Cy l i s=true→a.tmps[s]?.getD undef=a0.tmps[s]?.getD undef)→Bp sat l a w o.after.toList→
      Region.wanted o (yielded l.toArray a.tmps)=true∧∀K:Act→World→Prop,(∀v,(sat.getD i (fun _ _=>True)) (Cj o a v) w→K (a.put o.dst v) w)→Hid (Oper.wp P o a w K Q))
  (c:(some i==q)=false) (t:OwedAll8 P l Q sat I S q z [] a0 W (i+1) os):OwedAll8 P l Q sat I S q z [] a0 W i (o::os):=
 gO8 (fun a w h1 h2 h3 b=>⟨(h a w h1 h2 h3 b).1,fun K d=>((h a w h1 h2 h3 b).2 K fun v e=>d v w e fun _=>Af c bR).out⟩) t
theorem Md (b:Er l q i=true) (h:∀(a:Act) (w:World),I w→Below W.heap.size W w→(∀s,Cy l i s=true→a.tmps[s]?.getD undef=a0.tmps[s]?.getD undef)→Bp sat l a w o.after.toList→
      Region.wanted o (yielded l.toArray a.tmps)=true∧∀K:Act→World→Prop,(∀v w',(sat.getD i (fun _ _=>True)) (Cj o a v) w'→(i≠z→Gs S q i w w')→K (a.put o.dst v) w')→Oper.wp P o a w K Q)
  (t:OwedAll8 P l Q sat I S q z [] a0 W (i+1) os):OwedAll8 P l Q sat I S q z [] a0 W i (o::os):=gO8 (fun a w h1 h2=>h a w h1 (h2 b)) t
theorem Na (c:Er l q i=true) (h:∀(a:Act) (w:World),I w→Below W.heap.size W w→(∀s,Cy l i s=true→a.tmps[s]?.getD undef=a0.tmps[s]?.getD undef)→Bp sat l a w o.after.toList→
      Region.wanted o (yielded l.toArray a.tmps)=true∧∀K:Act→World→Prop,(∀v,(sat.getD i (fun _ _=>True)) (Cj o a v) w→K (a.put o.dst v) w)→Hid (Oper.wp P o a w K Q))
  (b:(some i==q)=false) (t:OwedAll8 P l Q sat I S q z [] a0 W (i+1) os):OwedAll8 P l Q sat I S q z [] a0 W i (o::os):=gP8 (fun a w h1 h2=>h a w h1 (h2 c)) b t
variable {tl:List Bool}
theorem Hm {F:Nat} {a:Act} {w:World} (b:List Fw) (I:World→Prop) (S:World→World→Prop) (q:Option Nat) (z:Nat) (D:P.follows .mixedOrders=true) (C:Jm l a.tmps.size=true) (E:En l=true)
  (r:Wk l (cI z false++[true,true]) (cI (z+1) false++[true]) z=true) (hk:Di I S q ((b.set z fun _ _=>True).set (z+1) fun _ _=>True))
  (G:∀v x y,(b.getD z (fun _ _=>True)) v x→Below x.heap.size x y→(b.getD z (fun _ _=>True)) v y) (o:∀v x y,(b.getD (z+1) (fun _ _=>True)) v x→Below x.heap.size x y→(b.getD (z+1) (fun _ _=>True)) v y)
  (h0:I w.drew) (u:∀x y,I x→Below x.heap.size x y→S x y) (s:∀x y,I x→S x y→I y)
  (k:OwedAll8 P l Q b I S q z (cI (z+1) false++[true]) a w 0 l)
  (m:∀(f:Nat→Value) (w':World),Du b (cI z false++[true,true]) f w' 0 l→Q .normal (Am l a f) w'):
  (Code.region F l.toArray true).wp P Q a w:=by
 have p:∀j,(cI (z+1) false++[true]).getD j false=true→j=z+1:=by
  intro j h;rw[aH,List.getElem?_append]at h
  split at h
  ·rename_i d
   rw[List.getElem?_replicate]at h
   split at h<;>simp at h
  ·rename_i d
   simp only[List.length_replicate]at d h;cases hx:j-(z+1)with
   |zero=>omega
   |succ n=>rw[hx]at h;simp at h
 refine Hl b _ I S q z _ D (fun j d ht=> ?_) (fun i j _ d v x y g B=> ?_) h0 u s C E r k m
 ·have t:j≠z+1:=by
   rintro rfl;rw[aH,List.getElem?_append_right (by simp)]at ht;simp at ht
  have c:((b.set z fun _ _=>True).set (z+1) fun _ _=>True).getD j (fun _ _=>True)=b.getD j (fun _ _=>True):=by
   rw[aH,cH (fun e=>t e.symm),cH (fun e=>d e.symm),←aH]
  have h:=It _ q hk;exact⟨fun v x y A g=>c▸h.1 j v x y (fun e=>A e) (c▸g),fun v x y A g=>c▸h.2 j v x y A (c▸g)⟩
 ·rcases d with rfl|d
  ·exact G v x y g B
  ·rw[p j d]at g⊢;exact o v x y g B
theorem gO9 (b:tl.getD i false=false) (h:∀(a:Act) (w:World),I w→(Er l q i=true→Below W.heap.size W w)→(∀s,Cy l i s=true→a.tmps[s]?.getD undef=a0.tmps[s]?.getD undef)→Bp sat l a w o.after.toList→
      Region.wanted o (yielded l.toArray a.tmps)=true∧∀K:Act→World→Prop,(∀v w',(sat.getD i (fun _ _=>True)) (Cj o a v) w'→(i≠z→Gs S q i w w')→K (a.put o.dst v) w')→Oper.wp P o a w K Q)
  (t:OwedAll8 P l Q sat I S q z tl a0 W (i+1) os):OwedAll8 P l Q sat I S q z tl a0 W i (o::os):=.cons (Zhh b h) t
theorem gP9 (b:tl.getD i false=false) (h:∀(a:Act) (w:World),I w→(Er l q i=true→Below W.heap.size W w)→(∀s,Cy l i s=true→a.tmps[s]?.getD undef=a0.tmps[s]?.getD undef)→Bp sat l a w o.after.toList→
      Region.wanted o (yielded l.toArray a.tmps)=true∧∀K:Act→World→Prop,(∀v,(sat.getD i (fun _ _=>True)) (Cj o a v) w→K (a.put o.dst v) w)→Hid (Oper.wp P o a w K Q))
  (d:(some i==q)=false) (t:OwedAll8 P l Q sat I S q z tl a0 W (i+1) os):OwedAll8 P l Q sat I S q z tl a0 W i (o::os):=
 gO9 b (fun a w h1 h2 h3 c=>⟨(h a w h1 h2 h3 c).1,fun K e=>((h a w h1 h2 h3 c).2 K fun v f=>e v w f fun _=>Af d bR).out⟩) t
theorem gT9 (b:tl.getD i false=true) (h:∀(a:Act) (w:World),(∀s,Cy l i s=true→a.tmps[s]?.getD undef=a0.tmps[s]?.getD undef)→Gb sat l a w o.after.toList→
      Region.wanted o (yielded l.toArray a.tmps)=true∧∀K:Act→World→Prop,(∀v w',(sat.getD i (fun _ _=>True)) (Cj o a v) w'→Below w.heap.size w w'→K (a.put o.dst v) w')→Oper.wp P o a w K Q)
  (t:OwedAll8 P l Q sat I S q z tl a0 W (i+1) os):OwedAll8 P l Q sat I S q z tl a0 W i (o::os):=.cons (Zhi b h) t
end
end
end Go.Proofs.YtfofaiommeckbaaGreat
