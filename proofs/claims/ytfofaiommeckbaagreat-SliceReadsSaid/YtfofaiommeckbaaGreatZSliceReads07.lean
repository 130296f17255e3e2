/- A region that draws its order, whose operations make memory and change none: each operation is shown once, whatever ran ahead of it. -/
import Derived.Test.YtfofaiommeckbaaGreatZSliceReadsB
import Derived.Test.YtfofaiommeckbaaGreatZSliceReads00
import Derived.RegionTactic
open List renaming range → aF, mem_filter → bP, getElem?_cons_succ → bM, getElem?_eq_none → aK, any_eq_true → bQ, getD_eq_getElem?_getD → aH
open Bool renaming and_eq_true → bS, or_eq_true → bT, not_eq_true' → bU
open Option renaming map_some → bV, getD_some → bW, bind_some → bY
open Array renaming all_eq_true_iff_forall_mem → bZ, getElem?_eq_getElem → cA, getElem?_toList → cB, getElem?_eq_none → aD, getD_eq_getD_getElem? → cC, size_setIfInBounds → cD, getElem?_setIfInBounds → cE, replicate → cF
open Nat renaming zero_add → cG, lt_or_ge → aB
set_option linter.unusedVariables false
set_option maxRecDepth 100000
set_option maxHeartbeats 40000000
namespace Go.Proofs.YtfofaiommeckbaaGreat
open Go.RowKit
abbrev Fm:=Value→World→Prop
def Zk1 (sat:List Fm)(l:List Oper)(a:Act)(w:World)(i:Nat):Prop:=
 match l[i]? with
 |some o=>match o.dst with
  |some d=>(sat.getD i (fun _ _=>True)) (a.tmps[d]?.getD undef) w
  |none=>True
 |none=>True
def Bl (l:List Oper):List Tmp:=l.filterMap (·.dst)
def Dv (l:List Oper)(i:Nat)(s:Tmp):Bool:=
 (aF l.length).all fun j=>match l[j]? with
  |some o=>o.dst !=some s||j==i||o.after.toList.any fun e=>Region.binds .any e&&e.on==i
  |none=>true
theorem Ty (a:Act)(d s:Tmp)(v:Value)(h:d≠s):(a.put (some d) v).tmps[s]?.getD undef=a.tmps[s]?.getD undef:=by
 show(a.tmps.setIfInBounds d v)[s]?.getD undef=_;simp[h]
theorem Tz (a:Act)(d:Tmp)(v:Value)(h:d<a.tmps.size):(a.put (some d) v).tmps[d]?.getD undef=v:=by
 show(a.tmps.setIfInBounds d v)[d]?.getD undef=v;simp[h]
theorem Yo {ops:Array Oper} {listed:Array Bool} {i:Nat}(h:i∈Region.ready .any ops listed):∃o,ops[i]? =some o∧∀e∈o.after.toList,Region.binds .any e=true→listed.getD e.on false=true:=by
 rw[Region.ready,bP]at h;obtain⟨_,h⟩:=h;rw[bS]at h;cases ho:ops[i]? with
 |none=>rw[ho]at h;simp at h
 |some o=>
  refine⟨o,rfl,?_⟩;intro e he hb;have h2:=h.2;rw[ho]at h2;simp only[bV,bW]at h2;rw[bZ]at h2;have:=h2 e (by simpa using he);rw[hb]at this;simpa using this
def Ga (ds:List Tmp)(f:Nat→Value):Nat→List Value→List Value
 |_,[]=>[]
 |s,x::xs=>(bif ds.contains s then f s else x)::Ga ds f (s+1) xs
def Aw (l:List Oper)(a:Act)(f:Nat→Value):Act:= {tmps:=(Ga (Bl l) f 0 a.tmps.toList).toArray,defers:=a.defers}
theorem Zer (ds:List Tmp)(f:Nat→Value):∀(xs:List Value) (k i:Nat),(Ga ds f k xs)[i]? =(xs[i]?).map fun x=>bif ds.contains (k+i)then f (k+i)else x:=by
 intro xs
 induction xs with
 |nil=>intro k i;simp[Ga]
 |cons x xs ih=>
  intro k i;cases i with
  |zero=>simp[Ga]
  |succ i=>
   rw[Ga,bM,bM,ih,show k+1+i=k+(i+1) by omega]
theorem Yp {l:List Oper} {a a':Act}(hs:a'.tmps.size=a.tmps.size)(hd:a'.defers=a.defers)(ho:∀s,(Bl l).contains s=false→a'.tmps[s]?.getD undef=a.tmps[s]?.getD undef):
  a'=Aw l a (fun s=>a'.tmps[s]?.getD undef):=by
 obtain⟨t',d'⟩:=a';obtain⟨t,d⟩:=a;simp only at hs hd ho;subst hd;unfold Aw
 congr 1
 apply Array.ext_getElem?;intro i;have key:∀xs:List Value,((Ga (Bl l) (fun s=>t'[s]?.getD undef) 0 xs).toArray)[i]? =(xs[i]?).map fun x=>bif (Bl l).contains i then t'[i]?.getD undef else x:=by
  intro xs;rw[List.getElem?_toArray,Zer,cG]
 show t'[i]? =((Ga (Bl l) (fun s=>t'[s]?.getD undef) 0 t.toList).toArray)[i]?;rw[key];rcases aB i t.size with h|h
 ·rw[cA (by omega),cB,cA h,bV]
  congr 1
  cases hc:(Bl l).contains i with
  |true=>simp
  |false=>
   have:=ho i hc;rw[cA (by omega),cA h]at this;exact this
 ·rw[aD (by omega),cB,aD h,Option.map_none]
theorem Bj {o:Oper} {ops:Array Oper} {tmps:Array Value} {j:Nat} {b:Bool} {oj:Oper} {s:Tmp}(hg:o.guard=some (j,b))(hj:ops[j]? =some oj)(hs:oj.dst=some s)(hv:tmps[s]?.getD undef=.bool b):Region.wanted o (yielded ops tmps)=true:=by
 cases ht:tmps[s]? with
 |none=>rw[ht]at hv;cases hv
 |some x=>
  rw[ht]at hv;have hx:x=.bool b:=hv;have hy:yielded ops tmps j=some b:=by
   unfold yielded;rw[hj,bY,hs,bY,ht,hx]
  unfold Region.wanted;rw[hg];simp[hy]
def Ua (e:Edge):Bool:=Region.binds .any e&&match e.ground with| .data=>true|_=>false
theorem Ub {e:Edge}(h:Ua e=true):Region.binds .any e=true:=by
 unfold Ua at h;rw[bS]at h;exact h.1
def Zk2 (l:List Oper)(j i:Nat):Bool:=
 (aF l.length).all fun c=>c==j||match l[c]? with
  |some o=> !(o.after.toList.any fun e=>Ua e&&e.on==i)||(match l[j]? with|some oj=>oj.after.toList.any fun e=>Region.binds .any e&&e.on==c|none=>false)
  |none=>true
def Ka (o:Oper):Option Tmp:=match o.dst with
 |some d=>some d
 |none=>match o.op with
  | .store _ (.tmp p) _=>some p
  | .mapUpdate _ (.tmp p) _ _=>some p
  |_=>none
theorem Zhz {o:Oper} {d:Tmp}(h:o.dst=some d):Ka o=some d:=by unfold Ka;rw[h]
def Hc (sat:List Fm)(l:List Oper)(a:Act)(w:World)(i:Nat):Prop:=
 match l[i]? with
 |some o=>match Ka o with
  |some d=>(sat.getD i (fun _ _=>True)) (a.tmps[d]?.getD undef) w
  |none=>True
 |none=>True
def Lp (sat:List Fm)(l:List Oper)(a:Act)(w:World):List Edge→Prop
 |[]=>True
 |e::es=>(if Ua e=true then Hc sat l a w e.on else True)∧Lp sat l a w es
theorem Uc {sat:List Fm} {l:List Oper} {a:Act} {w:World}:∀es:List Edge,(∀e∈es,Ua e=true→Hc sat l a w e.on)→Lp sat l a w es:=by
 intro es
 induction es with
 |nil=>intro _;trivial
 |cons e es ih=>
  intro h;refine⟨?_,ih fun x hx=>h x (by simp[hx])⟩
  split
  ·rename_i hb;exact h e (by simp) hb
  ·trivial
def Ku (l:List Oper)(n:Nat):Bool:=
 ((aF l.length).all fun i=>match l[i]? with
  |some o=>(match Ka o with|some d=>decide (d<n)|none=>false)&&(aF l.length).all fun j=>match l[j]? with
   |some o'=>i==j||o'.dst.isNone||o'.dst !=Ka o||(o.dst.isNone&&o.after.toList.any fun e=>Region.binds .any e&&e.on==j)
   |none=>true
  |none=>true)
theorem Wk {l:List Oper} {n:Nat}(h:Ku l n=true) {i:Nat} {o:Oper}(hi:l[i]? =some o):∃d,Ka o=some d∧d<n:=by
 have hil:i<l.length:=by
  rcases aB i l.length with h|h
  ·exact h
  ·rw[aK h]at hi;cases hi
 have:=List.all_eq_true.1 h i (List.mem_range.2 hil);rw[hi]at this;simp only[bS]at this;have h1:=this.1;cases hd:Ka o with
 |none=>rw[hd]at h1;cases h1
 |some d=>rw[hd]at h1;exact⟨d,rfl,by simpa using h1⟩
theorem Zji {l:List Oper} {n:Nat}(h:Ku l n=true) {i j:Nat} {o o':Oper} {d d':Tmp}(hi:l[i]? =some o)(hj:l[j]? =some o')(ho:Ka o=some d)(ho':o'.dst=some d')(hne:i≠j):d'≠d∨∃e∈o.after.toList,Region.binds .any e=true∧e.on=j:=by
 have hil:i<l.length:=by
  rcases aB i l.length with h|h
  ·exact h
  ·rw[aK h]at hi;cases hi
 have hjl:j<l.length:=by
  rcases aB j l.length with h|h
  ·exact h
  ·rw[aK h]at hj;cases hj
 have:=List.all_eq_true.1 h i (List.mem_range.2 hil);rw[hi]at this;simp only[bS]at this;have h2:=List.all_eq_true.1 this.2 j (List.mem_range.2 hjl);rw[hj]at h2;simp only[bT,beq_iff_eq,bne_iff_ne,bS,bQ]at h2;rcases h2 with((h2|h2)|h2)|⟨_,e,he,hb,hej⟩
 ·exact absurd h2 hne
 ·rw[ho']at h2;cases h2
 ·left
  intro e;rw[ho,ho',e]at h2;exact h2 rfl
 ·exact .inr ⟨e,he,hb,hej⟩
def Dh (o:Oper)(a:Act)(v:Value):Value:=match o.dst with
 |some _=>v
 |none=>match Ka o with
  |some p=>a.tmps[p]?.getD undef
  |none=>undef
def Zkm (P:Program)(l:List Oper)(Q:Exit→Act→World→Prop)(sat:List Fm)(st:List Bool)(a0:Act)(W:World)(i:Nat)(o:Oper):Prop:=
 ∀(a:Act) (w:World),Below W.heap.size W w→(∀s,Dv l i s=true→a.tmps[s]?.getD undef=a0.tmps[s]?.getD undef)→Lp sat l a w o.after.toList→
  ∀K:Act→World→Prop,(∀v w',(sat.getD i (fun _ _=>True)) (Dh o a v) w'→Below (bif st.getD i true then w.heap.size else W.heap.size) w w'→K (a.put o.dst v) w')→
   if Region.wanted o (yielded l.toArray a.tmps)=true then Oper.wp P o a w K Q else K (a.put o.dst undef) w
def Zes (P:Program)(l:List Oper)(Q:Exit→Act→World→Prop)(sat:List Fm)(st:List Bool)(a0:Act)(W:World):Nat→List Oper→Prop
 |_,[]=>True
 |i,o::os=>Zkm P l Q sat st a0 W i o∧Zes P l Q sat st a0 W (i+1) os
def Fb (l:List Oper):Bool:=(aF l.length).all fun i=>match l[i]? with|some o=>o.after.toList.all fun e=> !Region.binds .any e||decide (e.on<i)|none=>true
theorem Zav {l:List Oper}(h:Fb l=true) {i:Nat} {o:Oper}(hi:l[i]? =some o):∀e∈o.after.toList,Region.binds .any e=true→e.on<i:=by
 have hil:i<l.length:=by
  rcases aB i l.length with h|h
  ·exact h
  ·rw[aK h]at hi;cases hi
 have:=List.all_eq_true.1 h i (List.mem_range.2 hil);rw[hi]at this;intro e he hb;have h2:=List.all_eq_true.1 this e he;rw[hb]at h2;simpa using h2
theorem Ud {l:List Oper}(h:Fb l=true) {listed:Array Bool}(hs:listed.size=l.length) {i:Nat}(hi:i<l.length)(hf:listed.getD i false=false):Region.ready .any l.toArray listed≠[]:=by
 have:∃j,j<l.length∧listed.getD j false=false∧∀k,k<j→listed.getD k false=true:=by
  induction i using Nat.strongRecOn with
  |ind i ih=>
   by_cases hall:∀k,k<i→listed.getD k false=true
   ·exact⟨i,hi,hf,hall⟩
   ·have:∃k,k<i∧listed.getD k false=false:=by
     refine Classical.byContradiction fun hn=>hall fun k hk=> ?_;cases hb:listed.getD k false with
     |true=>rfl
     |false=>exact absurd ⟨k,hk,hb⟩ hn
    obtain⟨k,hk,hb⟩:=this;exact ih k hk (by omega) hb
 obtain⟨j,hj,hjf,hjl⟩:=this;obtain⟨o,ho⟩:∃o,l[j]? =some o:=⟨l[j],List.getElem?_eq_getElem hj⟩;have hm:j∈Region.ready .any l.toArray listed:=by
  rw[Region.ready,bP];refine⟨by simpa using hj,?_⟩;rw[bS];constructor
  ·have:listed.getD j true=false:=by
    rw[cC]at hjf⊢;rw[cA (by omega)]at hjf⊢;exact hjf
   rw[this];rfl
  ·have ho':l.toArray[j]? =some o:=(by simpa using ho);rw[ho',bV,bW,bZ];intro e he;cases hb:Region.binds .any e with
   |false=>rfl
   |true=>
    rw[bT]
    right
    exact hjl _ (Zav h ho e (by simpa using he) hb)
 intro e;rw[e]at hm;cases hm
theorem Zet (a:Act)(d:Option Tmp)(v:Value):(a.put d v).tmps.size=a.tmps.size:=by
 cases d with
 |none=>rfl
 |some d=>show(a.tmps.setIfInBounds d v).size=_;rw[cD]
theorem Yq (a:Act)(d:Option Tmp)(v:Value):(a.put d v).defers=a.defers:=by cases d<;>rfl
theorem Zg9 (a:Act)(d:Option Tmp)(s:Tmp)(v:Value)(h:d≠some s):(a.put d v).tmps[s]?.getD undef=a.tmps[s]?.getD undef:=by
 cases d with
 |none=>rfl
 |some d=>exact Ty a d s v (fun e=>h (by rw[e]))
theorem Zh0 (a:Act) {o:Oper} {d:Tmp}(h:Ka o=some d)(v:Value)(hd:d<a.tmps.size):(a.put o.dst v).tmps[d]?.getD undef=Dh o a v:=by
 unfold Dh;cases ho:o.dst with
 |none=>simp only[h];rfl
 |some d'=>
  have:=Zhz ho;rw[h]at this;cases this;exact Tz a d v hd
def En (sat:List Fm)(fin:List Bool)(f:Nat→Value)(w:World):Nat→List Oper→Prop
 |_,[]=>True
 |i,o::os=>(bif fin.getD i false then(match Ka o with|some d=>(sat.getD i (fun _ _=>True)) (f d) w|none=>True)else True)∧En sat fin f w (i+1) os
theorem Ry {sat:List Fm} {fin:List Bool} {f:Nat→Value} {w:World}:∀(os:List Oper) (k:Nat),(∀i o d,os[i]? =some o→Ka o=some d→fin.getD (k+i) false=true→(sat.getD (k+i) (fun _ _=>True)) (f d) w)→En sat fin f w k os:=by
 intro os
 induction os with
 |nil=>intro k _;trivial
 |cons o os ih=>
  intro k h;refine⟨?_,ih (k+1) fun i o' d ho hd hfi=> ?_⟩
  ·cases hfi:fin.getD k false with
   |false=>trivial
   |true=>
    cases hd:Ka o with
    |none=>trivial
    |some d=>exact h 0 o d rfl hd hfi
  ·have e1:k+1+i=k+(i+1):=(by omega);rw[e1]at hfi⊢;exact h (i+1) o' d (by simpa using ho) hd hfi
section
def Im (l:List Oper)(listed:Array Bool):Prop:=∀j o,listed.getD j false=true→l[j]? =some o→∀e∈o.after.toList,Region.binds .any e=true→listed.getD e.on false=true
structure OnceX (l:List Oper) (sat:List Fm) (C:Array Bool→Nat→Prop) (Y:Array Bool→World→Prop) (a0:Act) (listed:Array Bool) (a:Act) (w:World):Prop where
 size:a.tmps.size=a0.tmps.size
 defers:a.defers=a0.defers
 out:∀s,(∀j o,listed.getD j false=true→l[j]? =some o→o.dst≠some s)→a.tmps[s]?.getD undef=a0.tmps[s]?.getD undef
 closed:Im l listed
 wld:Y listed w
 facts:∀i,listed.getD i false=true→C listed i→Hc sat l a w i
 lsize:listed.size=l.length
theorem Wl {listed:Array Bool} {i:Nat}(h:i<listed.size):(listed.setIfInBounds i true).getD i false=true:=by
 rw[cC,cE,if_pos rfl,if_pos h];rfl
theorem Rz {listed:Array Bool} {i j:Nat}(h:j≠i):(listed.setIfInBounds i true).getD j false=listed.getD j false:=by
 rw[cC,cE,if_neg (fun e=>h e.symm),←cC]
theorem Zaw {n i:Nat}:(cF n false).getD i false=false:=by
 rw[cC,Array.getElem?_replicate];split<;>simp
theorem Gb {l:List Oper} {i:Nat} {o:Oper}(h:l[i]? =some o):i<l.length:=by
 rcases aB i l.length with k|k
 ·exact k
 ·rw[aK k]at h;cases h
section
variable {P:Program} {l:List Oper} {Q:Exit→Act→World→Prop} {sat:List Fm} {C:Array Bool→Nat→Prop} {Y:Array Bool→World→Prop} {R:Array Bool→Nat→World→World→Prop} {a0:Act}
def Zjj (P:Program)(l:List Oper)(Q:Exit→Act→World→Prop)(sat:List Fm)(C:Array Bool→Nat→Prop)(Y:Array Bool→World→Prop)(R:Array Bool→Nat→World→World→Prop)(a0:Act)(i:Nat)(o:Oper):Prop:=
 ∀(listed:Array Bool) (a:Act) (w:World),OnceX l sat C Y a0 listed a w→listed.getD i false=false→(∀e∈o.after.toList,Region.binds .any e=true→listed.getD e.on false=true)→(∀s,Dv l i s=true→a.tmps[s]?.getD undef=a0.tmps[s]?.getD undef)→
  ∀K:Act→World→Prop,(∀v w',(sat.getD i (fun _ _=>True)) (Dh o a v) w'→R listed i w w'→K (a.put o.dst v) w')→
   if Region.wanted o (yielded l.toArray a.tmps)=true then Oper.wp P o a w K Q else K (a.put o.dst undef) w
theorem Zax (hd:Ku l a0.tmps.size=true) (he:Fb l=true)
  (hops:∀i o,l[i]? =some o→Zjj P l Q sat C Y R a0 i o)
  (hY:∀(i:Nat) (o:Oper) (listed:Array Bool) (w w':World),l[i]? =some o→Im l listed→listed.size=l.length→listed.getD i false=false→(∀e∈o.after.toList,Region.binds .any e=true→listed.getD e.on false=true)→Y listed w→R listed i w w'→Y (listed.setIfInBounds i true) w')
  (hF:∀(i j:Nat) (o oj:Oper) (listed:Array Bool) (w w':World),l[i]? =some o→l[j]? =some oj→Im l listed→listed.size=l.length→listed.getD i false=false→(∀e∈o.after.toList,Region.binds .any e=true→listed.getD e.on false=true)→listed.getD j false=true→C (listed.setIfInBounds i true) j→Y listed w→R listed i w w'→
   C listed j∧∀v,(sat.getD j (fun _ _=>True)) v w→(sat.getD j (fun _ _=>True)) v w')
  (hend:∀(listed:Array Bool) (a:Act) (w:World),OnceX l sat C Y a0 listed a w→(∀i,i<l.length→listed.getD i false=true)→Q .normal a w):
  ∀(fuel:Nat) (listed:Array Bool) (a:Act) (w:World),OnceX l sat C Y a0 listed a w→listed.toList.count false≤fuel→wpAny P .any l.toArray Q fuel listed a w:=by
 intro fuel;have hfin:∀(listed:Array Bool) (a:Act) (w:World),OnceX l sat C Y a0 listed a w→Region.ready .any l.toArray listed=[]→Q .normal a w:=by
  intro listed a w J hr;refine hend _ a w J fun i hi=> ?_;cases hb:listed.getD i false with
  |true=>rfl
  |false=>exact absurd hr (Ud he J.lsize hi hb)
 have h0:∀(listed:Array Bool) (i:Nat),i∈Region.ready .any l.toArray listed→i<listed.size∧listed.getD i false=false∧false∈listed.toList:=by
  intro listed i hi;have h1:=(mem_ready.1 hi).1;have hlt:i<listed.size:=by
   rcases aB i listed.size with h|h
   ·exact h
   ·rw[cC,aD h]at h1;simp at h1
  rw[cC,cA hlt]at h1;refine⟨hlt,?_,?_⟩
  ·rw[cC,cA hlt];exact h1
  ·rw[←show listed[i]=false from h1];simp
 induction fuel with
 |zero=>
  intro listed a w J hc;have hr:Region.ready .any l.toArray listed=[]:=by
   refine Classical.byContradiction fun hn=> ?_;obtain⟨i,hi⟩:=List.exists_mem_of_ne_nil _ hn;have:=List.count_pos_iff.2 (h0 listed i hi).2.2;omega
  exact⟨hr,hfin listed a w J hr⟩
 |succ fuel ih=>
  intro listed a w J hc;refine⟨hfin listed a w J,?_⟩;intro i hi;obtain⟨o,ho,hdep⟩:=Yo hi;obtain⟨hlt,h1f,-⟩:=h0 listed i hi;have hol:l[i]? =some o:=(by simpa using ho);obtain⟨d,hob,hdn⟩:=Wk hd hol;refine wpOp_step ho ?_;intro K' hK';have hfree:∀s,Dv l i s=true→a.tmps[s]?.getD undef=a0.tmps[s]?.getD undef:=by
   intro s hs;refine J.out s fun j o' hj hoj hds=> ?_;have:=List.all_eq_true.1 hs j (List.mem_range.2 (Gb hoj));rw[hoj]at this;simp only[bT,bne_iff_ne,beq_iff_eq,bQ,bS]at this;rcases this with(h|h)|⟨e,he,hb,hei⟩
   ·exact h hds
   ·subst h;rw[h1f]at hj;cases hj
   ·have:=J.closed j o' hj hoj e he hb;rw[hei,h1f]at this;cases this
  refine hops i o hol listed a w J h1f hdep hfree K' ?_;intro v w' hv hR;refine hK' _ _ (ih _ _ _ ⟨?_,?_,?_,?_,hY i o listed w w' hol J.closed J.lsize h1f hdep J.wld hR,?_,?_⟩ ?_)
  ·rw[Zet];exact J.size
  ·rw[Yq];exact J.defers
  ·intro s hs;rw[Zg9 a o.dst s v (hs i o (Wl hlt) hol)];refine J.out s fun j o' hj hoj=>hs j o' ?_ hoj
   by_cases hji:j=i
   ·rw[hji];exact Wl hlt
   ·rw[Rz hji];exact hj
  ·intro j o' hj hoj e hem hb;have hstep:∀m,listed.getD m false=true→(listed.setIfInBounds i true).getD m false=true:=by
    intro m hm
    by_cases hmi:m=i
    ·rw[hmi];exact Wl hlt
    ·rw[Rz hmi];exact hm
   by_cases hji:j=i
   ·subst hji;rw[hol]at hoj;cases hoj;exact hstep _ (hdep e hem hb)
   ·rw[Rz hji]at hj;exact hstep _ (J.closed j o' hj hoj e hem hb)
  ·intro j hj hCj;unfold Hc;cases hoj:l[j]? with
   |none=>trivial
   |some o'=>
    obtain⟨d',hd',_⟩:=Wk hd hoj;simp only[hd']
    by_cases hji:j=i
    ·subst hji;rw[hol]at hoj;cases hoj;rw[hob]at hd';cases hd';rw[Zh0 a hob v (by rw[J.size];exact hdn)];exact hv
    ·rw[Rz hji]at hj;rw[Zg9 a o.dst d' v (by
      intro hdd;rcases Zji hd hoj hol hd' hdd hji with h|⟨e,he,hb,hei⟩
      ·exact h rfl
      ·have:=J.closed j o' hj hoj e he hb;rw[hei,h1f]at this;cases this)]
     obtain⟨c1,c2⟩:=hF i j o o' listed w w' hol hoj J.closed J.lsize h1f hdep hj hCj J.wld hR;have:=J.facts j hj c1;unfold Hc at this;rw[hoj]at this;simp only[hd']at this;exact c2 _ this
  ·rw[cD];exact J.lsize
  ·rw[Array.toList_setIfInBounds,List.count_set (by simpa using hlt)];have h2:listed.toList[i]'(by simpa using hlt)=false:=by
    rw[cC,cA hlt]at h1f;simpa using h1f
   rw[h2,if_pos (show(false==false)=true from rfl),if_neg (by decide)];omega
theorem Ol {id:Nat} {a:Act} {w:World} (fin:List Bool) (hm:P.follows .mixedOrders=true) (hd:Ku l a.tmps.size=true) (he:Fb l=true) (h0:Y (cF l.length false) w.drew)
  (hops:∀i o,l[i]? =some o→Zjj P l Q sat C Y R a i o)
  (hY:∀(i:Nat) (o:Oper) (listed:Array Bool) (w w':World),l[i]? =some o→Im l listed→listed.size=l.length→listed.getD i false=false→(∀e∈o.after.toList,Region.binds .any e=true→listed.getD e.on false=true)→Y listed w→R listed i w w'→Y (listed.setIfInBounds i true) w')
  (hF:∀(i j:Nat) (o oj:Oper) (listed:Array Bool) (w w':World),l[i]? =some o→l[j]? =some oj→Im l listed→listed.size=l.length→listed.getD i false=false→(∀e∈o.after.toList,Region.binds .any e=true→listed.getD e.on false=true)→listed.getD j false=true→C (listed.setIfInBounds i true) j→Y listed w→R listed i w w'→
   C listed j∧∀v,(sat.getD j (fun _ _=>True)) v w→(sat.getD j (fun _ _=>True)) v w')
  (hC:∀(listed:Array Bool) (i:Nat),(∀k,k<l.length→listed.getD k false=true)→i<l.length→fin.getD i false=true→C listed i)
  (hend:∀(listed:Array Bool) (f:Nat→Value) (w':World),Y listed w'→(∀k,k<l.length→listed.getD k false=true)→listed.size=l.length→En sat fin f w' 0 l→Q .normal (Aw l a f) w'):
  (Code.region id l.toArray true).wp P Q a w:=by
 refine wp_region_any hm (Zax hd he hops hY hF ?_ _ _ _ _ ⟨rfl,rfl,fun _ _=>rfl,?_,by simpa using h0,?_,by simp⟩ ?_)
 ·intro listed a' w' J hall;rw[Yp J.size J.defers (fun s hs=>J.out s fun j o _ ho hd'=>by
   have:(Bl l).contains s=true:=by
    rw[List.contains_iff_mem];exact List.mem_filterMap.2 ⟨o,List.mem_of_getElem? ho,hd'⟩
   rw[this]at hs;cases hs)]
  refine hend listed _ w' J.wld hall J.lsize (Ry l 0 ?_);intro i o d ho hdd hfi;rw[cG]at hfi⊢;have hil:=Gb ho;have:=J.facts i (hall i hil) (hC _ i hall hil hfi);unfold Hc at this;rw[ho]at this;simp only[hdd]at this;exact this
 ·intro i _ hi;rw[Zaw]at hi;cases hi
 ·intro i hi _;rw[Zaw]at hi;cases hi
 ·simp
end
end
def Bs (sat:List Fm)(l:List Oper)(a:Act)(w:World):List Edge→Prop
 |[]=>True
 |e::es=>(if Region.binds .any e=true then Hc sat l a w e.on else True)∧Bs sat l a w es
theorem Ml {sat:List Fm} {l:List Oper} {a:Act} {w:World}:∀es:List Edge,(∀e∈es,Region.binds .any e=true→Hc sat l a w e.on)→Bs sat l a w es:=by
 intro es
 induction es with
 |nil=>intro _;trivial
 |cons e es ih=>
  intro h;refine⟨?_,ih fun x hx=>h x (by simp[hx])⟩
  split
  ·rename_i hb;exact h e (by simp) hb
  ·trivial
def Gt (S:World→World→Prop)(q:Option Nat)(i:Nat)(x y:World):Prop:=bif some i==q then S x y else Below x.heap.size x y
theorem Ab {S:World→World→Prop} {q:Option Nat} {i:Nat} {x y:World}(h:(some i==q)=false)(hb:Below x.heap.size x y):Gt S q i x y:=by unfold Gt;rw[h];exact hb
theorem Cc {S:World→World→Prop} {q:Option Nat} {i:Nat} {x y:World}(h:(some i==q)=true)(hs:S x y):Gt S q i x y:=by unfold Gt;rw[h];exact hs
def Fc (l:List Oper)(q:Option Nat)(i:Nat):Bool:=match q with
 |none=>true
 |some j=>i==j||match l[j]? with
  |some oj=>oj.after.toList.any fun e=>Region.binds .any e&&e.on==i
  |none=>false
def De (I:World→Prop)(S:World→World→Prop):Option Nat→List Fm→Prop
 |_,[]=>True
 |none,s::sat=>(∀v x y,s v x→I x→S x y→s v y)∧De I S none sat
 |some 0,s::sat=>(∀v x y,s v x→I x→Below x.heap.size x y→s v y)∧De I S none sat
 |some (q+1),s::sat=>(∀v x y,s v x→I x→S x y→s v y)∧De I S (some q) sat
theorem Aj {I:World→Prop} {S:World→World→Prop} {q:Option Nat}:De I S q []:=by cases q with
 |none=>trivial
 |some q=>cases q<;>trivial
theorem Ad {I:World→Prop} {S:World→World→Prop} {s:Fm} {sat:List Fm}(h:∀v x y,s v x→I x→S x y→s v y)(t:De I S none sat):De I S none (s::sat):=⟨h,t⟩
theorem Cs {I:World→Prop} {S:World→World→Prop} {s:Fm} {sat:List Fm}(h:∀v x y,s v x→I x→Below x.heap.size x y→s v y)(t:De I S none sat):De I S (some 0) (s::sat):=⟨h,t⟩
theorem Au {I:World→Prop} {S:World→World→Prop} {q:Nat} {s:Fm} {sat:List Fm}(h:∀v x y,s v x→I x→S x y→s v y)(t:De I S (some q) sat):De I S (some (q+1)) (s::sat):=⟨h,t⟩
theorem Kb {I:World→Prop} {S:World→World→Prop}:∀(sat:List Fm) (q:Option Nat),De I S q sat→
  (∀i v x y,some i≠q→(sat.getD i (fun _ _=>True)) v x→I x→S x y→(sat.getD i (fun _ _=>True)) v y)∧
  (∀i v x y,some i=q→(sat.getD i (fun _ _=>True)) v x→I x→Below x.heap.size x y→(sat.getD i (fun _ _=>True)) v y):=by
 intro sat
 induction sat with
 |nil=>intro q _;exact⟨fun i v x y _ _ _ _=>by simp,fun i v x y _ _ _ _=>by simp⟩
 |cons s sat ih=>
  intro q h
  match q,h with
  |none,h=>
   refine⟨fun i v x y hq hv hi hs=> ?_,fun i v x y hq=>by cases hq⟩;cases i with
   |zero=>exact h.1 v x y hv hi hs
   |succ i=>exact(ih none h.2).1 i v x y (by simp) hv hi hs
  |some 0,h=>
   refine⟨fun i v x y hq hv hi hs=> ?_,fun i v x y hq hv hi hs=> ?_⟩
   ·cases i with
    |zero=>exact absurd rfl hq
    |succ i=>exact(ih none h.2).1 i v x y (by simp) hv hi hs
   ·cases i with
    |zero=>exact h.1 v x y hv hi hs
    |succ i=>cases hq
  |some (q+1),h=>
   refine⟨fun i v x y hq hv hi hs=> ?_,fun i v x y hq hv hi hs=> ?_⟩
   ·cases i with
    |zero=>exact h.1 v x y hv hi hs
    |succ i=>exact(ih (some q) h.2).1 i v x y (fun e=>hq (by simp at e;rw[e])) hv hi hs
   ·cases i with
    |zero=>cases hq
    |succ i=>exact(ih (some q) h.2).2 i v x y (by simp at hq;rw[hq]) hv hi hs
def Zay (P:Program)(l:List Oper)(Q:Exit→Act→World→Prop)(sat:List Fm)(I:World→Prop)(S:World→World→Prop)(q:Option Nat)(a0:Act)(W:World)(i:Nat)(o:Oper):Prop:=
 ∀(a:Act) (w:World),I w→(Fc l q i=true→Below W.heap.size W w)→(∀s,Dv l i s=true→a.tmps[s]?.getD undef=a0.tmps[s]?.getD undef)→Bs sat l a w o.after.toList→
  ∀K:Act→World→Prop,(∀v w',(sat.getD i (fun _ _=>True)) (Dh o a v) w'→Gt S q i w w'→K (a.put o.dst v) w')→
   if Region.wanted o (yielded l.toArray a.tmps)=true then Oper.wp P o a w K Q else K (a.put o.dst undef) w
def OwedAll7 (P:Program)(l:List Oper)(Q:Exit→Act→World→Prop)(sat:List Fm)(I:World→Prop)(S:World→World→Prop)(q:Option Nat)(a0:Act)(W:World):Nat→List Oper→Prop
 |_,[]=>True
 |i,o::os=>Zay P l Q sat I S q a0 W i o∧OwedAll7 P l Q sat I S q a0 W (i+1) os
theorem OwedAll7.nil {P:Program} {l:List Oper} {Q:Exit→Act→World→Prop} {sat:List Fm} {I:World→Prop} {S:World→World→Prop} {q:Option Nat} {a0:Act} {W:World} {i:Nat}:OwedAll7 P l Q sat I S q a0 W i []:=trivial
theorem OwedAll7.cons {P:Program} {l:List Oper} {Q:Exit→Act→World→Prop} {sat:List Fm} {I:World→Prop} {S:World→World→Prop} {q:Option Nat} {a0:Act} {W:World} {i:Nat} {o:Oper} {os:List Oper}(h:Zay P l Q sat I S q a0 W i o)(t:OwedAll7 P l Q sat I S q a0 W (i+1) os):OwedAll7 P l Q sat I S q a0 W i (o::os):=⟨h,t⟩
theorem Sa {P:Program} {l:List Oper} {Q:Exit→Act→World→Prop} {sat:List Fm} {I:World→Prop} {S:World→World→Prop} {q:Option Nat} {a0:Act} {W:World}:∀(os:List Oper) (k:Nat),OwedAll7 P l Q sat I S q a0 W k os→∀i o,os[i]? =some o→Zay P l Q sat I S q a0 W (k+i) o:=by
 intro os
 induction os with
 |nil=>intro k _ i o h;simp at h
 |cons x os ih=>
  intro k h i o ho;cases i with
  |zero=>simp at ho;subst ho;exact h.1
  |succ i=>
   have:=ih (k+1) h.2 i o (by simpa using ho);rw[show k+(i+1)=k+1+i by omega];exact this
theorem Pw {I:World→Prop} {S:World→World→Prop} {q:Option Nat} {i:Nat} {x y:World}(h12:∀x y,I x→Below x.heap.size x y→S x y)(hI:I x)(h:Gt S q i x y):S x y:=by
 unfold Gt at h;cases hq:some i==q with
 |true=>rw[hq]at h;exact h
 |false=>rw[hq]at h;exact h12 _ _ hI h
theorem Px {S:World→World→Prop} {q:Option Nat} {i:Nat} {x y:World}(hq:some i≠q)(h:Gt S q i x y):Below x.heap.size x y:=by
 unfold Gt at h;rw[beq_eq_false_iff_ne.2 hq]at h;exact h
theorem Wm {l:List Oper} {listed:Array Bool} {i j:Nat}(hc:Im l listed)(hi:listed.getD i false=false)(h:Fc l (some j) i=true):listed.getD j false=false:=by
 unfold Fc at h;simp only[bT,beq_iff_eq]at h;rcases h with rfl|h
 ·exact hi
 ·cases hoj:l[j]? with
  |none=>rw[hoj]at h;cases h
  |some oj=>
   rw[hoj]at h;simp only[bQ,bS,beq_iff_eq]at h;obtain⟨e,he,hb,hei⟩:=h;cases hl:listed.getD j false with
   |false=>rfl
   |true=>
    have:=hc j oj hl hoj e he hb;rw[hei,hi]at this;cases this
theorem Py {listed:Array Bool} {i j:Nat}(hi:listed.getD i false=false)(h:(listed.setIfInBounds i true).getD j false=false):listed.getD j false=false:=by
 by_cases hji:j=i
 ·rw[hji];exact hi
 ·rwa [Rz hji]at h
theorem Pz {listed:Array Bool} {i j:Nat}(hl:i<listed.size)(h:(listed.setIfInBounds i true).getD j false=false):i≠j:=by
 intro e;rw[←e,Wl hl]at h;cases h
theorem Ax {P:Program} {id:Nat} {l:List Oper} {Q:Exit→Act→World→Prop} {a:Act} {w:World} (sat:List Fm) (fin:List Bool) (I:World→Prop) (S:World→World→Prop) (q:Option Nat) (hm:P.follows .mixedOrders=true) (hk:De I S q sat) (h0:I w.drew) (h12:∀x y,I x→Below x.heap.size x y→S x y) (hIS:∀x y,I x→S x y→I y) (hd:Ku l a.tmps.size=true) (he:Fb l=true)
  (hops:OwedAll7 P l Q sat I S q a w 0 l)
  (hend:∀(f:Nat→Value) (w':World),I w'→En sat fin f w' 0 l→Q .normal (Aw l a f) w'):
  (Code.region id l.toArray true).wp P Q a w:=by
 refine Ol (C:=fun _ _=>True) (Y:=fun listed x=>I x∧((∀j,q=some j→listed.getD j false=false)→Below w.heap.size w x)) (R:=fun _ i x y=>Gt S q i x y) fin hm hd he ⟨h0,fun _=>⟨rfl,rfl,rfl,lR,fun _ _=>rfl⟩⟩ ?_ ?_ ?_ (fun _ _ _ _ _=>trivial) (fun _ f w' hY _ _ hf=>hend f w' hY.1 hf)
 ·intro i o ho listed a' x J hni hdep hfree K hK;have hO:=Sa l 0 hops i o ho;rw[cG]at hO;exact hO a' x J.wld.1 (fun hqi=>J.wld.2 fun j hj=>Wm J.closed hni (by rw[←hj];exact hqi)) hfree (Ml _ fun e hm hb=>J.facts _ (hdep e hm hb) trivial) K hK
 ·intro i o listed x y hol hcl hsz hni _ hY hR;refine⟨hIS _ _ hY.1 (Pw h12 hY.1 hR),fun hpre=> ?_⟩;have hpr:=hY.2 fun j hj=>Py hni (hpre j hj);exact hpr.trans ((Px (fun e=>Pz (by rw[hsz];exact Gb hol) (hpre i e.symm) rfl) hR).mono hpr.size)
 ·intro i j o oj listed x y hol hoj hcl hsz hni hdep hlj _ hY hR;refine⟨trivial,fun v hv=> ?_⟩
  by_cases hjq:some j=q
  ·refine(Kb sat q hk).2 j _ _ _ hjq hv hY.1 (Px ?_ hR);rw[←hjq];intro e;cases e;rw[hni]at hlj;cases hlj
  ·exact(Kb sat q hk).1 j _ _ _ hjq hv hY.1 (Pw h12 hY.1 hR)
theorem Ae {P:Program} {l:List Oper} {Q:Exit→Act→World→Prop} {sat:List Fm} {I:World→Prop} {S:World→World→Prop} {q:Option Nat} {a0:Act} {W:World} {i:Nat} {o:Oper}
  (h:∀(a:Act) (w:World),I w→(Fc l q i=true→Below W.heap.size W w)→(∀s,Dv l i s=true→a.tmps[s]?.getD undef=a0.tmps[s]?.getD undef)→Bs sat l a w o.after.toList→
   Region.wanted o (yielded l.toArray a.tmps)=true∧∀K:Act→World→Prop,(∀v w',(sat.getD i (fun _ _=>True)) (Dh o a v) w'→Gt S q i w w'→K (a.put o.dst v) w')→Oper.wp P o a w K Q):Zay P l Q sat I S q a0 W i o:=by
 intro a w hb hq ho hf K hK;rw[if_pos (h a w hb hq ho hf).1];exact(h a w hb hq ho hf).2 K hK
theorem Ue {o:Oper} {ops:Array Oper} {tmps:Array Value} {j:Nat} {b:Bool} {oj:Oper} {s:Tmp} {v:Value}(hg:o.guard=some (j,b))(hj:ops[j]? =some oj)(hs:oj.dst=some s)(hv:tmps[s]?.getD undef=v)(hne:v≠ .bool b):Region.wanted o (yielded ops tmps)=false:=by
 have hy:yielded ops tmps j≠some b:=by
  unfold yielded;rw[hj,bY,hs,bY];cases ht:tmps[s]? with
  |none=>simp
  |some x=>
   rw[ht]at hv;have hx:x=v:=hv;subst hx;intro h;cases x<;>simp_all
 unfold Region.wanted;rw[hg];simp[hy]
theorem Zaz {P:Program} {l:List Oper} {Q:Exit→Act→World→Prop} {sat:List Fm} {I:World→Prop} {S:World→World→Prop} {q:Option Nat} {a0:Act} {W:World} {i:Nat} {o:Oper} {d:Tmp} (hd:o.dst=some d) (hs:sat.getD i (fun _ _=>True)=fun v _=>v=undef) (hq:(some i==q)=false)
  (h:∀(a:Act) (w:World),Bs sat l a w o.after.toList→Region.wanted o (yielded l.toArray a.tmps)=false):Zay P l Q sat I S q a0 W i o:=by
 intro a w hb _ ho hf K hK;rw[if_neg (by rw[h a w hf];simp)];exact hK undef w (by rw[hs];unfold Dh;rw[hd]) (Ab hq bR)
section
def Za0 (l:List Oper)(fin tl:List Bool)(q:Nat):Bool:=
 decide (q<l.length)&& !tl.getD q false&&(aF l.length).all fun i=>i==q||(if tl.getD i false then(match l[i]? with|some o=>(o.after.toList.any fun e=>Region.binds .any e&&e.on==q)&&o.after.toList.all fun e=> !Ua e||e.on==q||tl.getD e.on false|none=>false)else(!fin.getD i false&&(aF l.length).any fun j=>decide (i<j)&& !tl.getD j false&&match l[j]? with|some o=>o.after.toList.any fun e=>Region.binds .any e&&e.on==i|none=>false))
theorem Wn {l:List Oper} {fin tl:List Bool} {q:Nat}(h:Za0 l fin tl q=true):q<l.length∧tl.getD q false=false∧(∀i,i<l.length→i≠q→tl.getD i false=false→fin.getD i false=false∧∃j o,i<j∧j<l.length∧tl.getD j false=false∧l[j]? =some o∧∃e∈o.after.toList,Region.binds .any e=true∧e.on=i)∧
  (∀i o,l[i]? =some o→tl.getD i false=true→(∃e∈o.after.toList,Region.binds .any e=true∧e.on=q)∧∀e∈o.after.toList,Ua e=true→e.on=q∨tl.getD e.on false=true):=by
 unfold Za0 at h;rw[bS,bS,decide_eq_true_iff,bU]at h;refine⟨h.1.1,h.1.2,fun i hi hne htl=> ?_,fun i o ho htl=> ?_⟩
 ·have h2:=List.all_eq_true.1 h.2 i (List.mem_range.2 hi);rw[htl,bT,beq_iff_eq]at h2;rcases h2 with h2|h2
  ·exact absurd h2 hne
  ·simp only[Bool.false_eq_true,if_false,bS,bU]at h2;obtain⟨h2,h3⟩:=h2;refine⟨h2,?_⟩;obtain⟨j,hj,h3⟩:=List.any_eq_true.1 h3;simp only[bS,decide_eq_true_iff,bU]at h3;obtain⟨⟨hij,htj⟩,h3⟩:=h3;cases ho:l[j]? with
   |none=>rw[ho]at h3;cases h3
   |some o=>
    rw[ho]at h3;simp only[bQ,bS,beq_iff_eq]at h3;obtain⟨e,he,hb,hei⟩:=h3;exact⟨j,o,hij,List.mem_range.1 hj,htj,ho,e,he,hb,hei⟩
 ·have hi:i<l.length:=by
   rcases aB i l.length with h|h
   ·exact h
   ·rw[aK h]at ho;cases ho
  have h2:=List.all_eq_true.1 h.2 i (List.mem_range.2 hi);rw[htl,bT,beq_iff_eq,ho]at h2;rcases h2 with h2|h2
  ·subst h2;rw[h.1.2]at htl;cases htl
  ·simp only[if_true,bS,bQ,beq_iff_eq,List.all_eq_true,bT,bU]at h2;obtain⟨⟨e,he,hb,hei⟩,h3⟩:=h2;refine⟨⟨e,he,hb,hei⟩,fun e' he' hn=> ?_⟩;rcases h3 e' he' with(h4|h4)|h4
   ·rw[h4]at hn;cases hn
   ·exact .inl h4
   ·exact .inr h4
theorem Uf {l:List Oper} {fin tl:List Bool} {q:Nat}(h:Za0 l fin tl q=true) {listed:Array Bool}(hc:∀j o,listed.getD j false=true→l[j]? =some o→∀e∈o.after.toList,Region.binds .any e=true→listed.getD e.on false=true)(hq:listed.getD q false=true):
  ∀n i,l.length-i≤n→i<l.length→tl.getD i false=false→listed.getD i false=true:=by
 intro n
 induction n with
 |zero=>intro i h1 h2;omega
 |succ n ih=>
  intro i h1 h2 h3
  by_cases hiq:i=q
  ·subst hiq;exact hq
  ·obtain⟨_,j,o,hij,hj,htj,ho,e,he,hb,hei⟩:=(Wn h).2.2.1 i h2 hiq h3;have:=hc j o (ih j (by omega) hj htj) ho e he hb;rw[hei]at this;exact this
def Zeu (P:Program)(l:List Oper)(Q:Exit→Act→World→Prop)(sat:List Fm)(I:World→Prop)(S:World→World→Prop)(q:Option Nat)(z:Nat)(tl:List Bool)(a0:Act)(W:World)(i:Nat)(o:Oper):Prop:=
 ∀(a:Act) (w:World),(tl.getD i false=false→I w∧(Fc l q i=true→Below W.heap.size W w)∧Bs sat l a w o.after.toList)→(∀s,Dv l i s=true→a.tmps[s]?.getD undef=a0.tmps[s]?.getD undef)→Lp sat l a w o.after.toList→
  ∀K:Act→World→Prop,(∀v w',(sat.getD i (fun _ _=>True)) (Dh o a v) w'→(i≠z→bif tl.getD i false then Below w.heap.size w w' else Gt S q i w w')→K (a.put o.dst v) w')→
   if Region.wanted o (yielded l.toArray a.tmps)=true then Oper.wp P o a w K Q else K (a.put o.dst undef) w
def OwedAll8 (P:Program)(l:List Oper)(Q:Exit→Act→World→Prop)(sat:List Fm)(I:World→Prop)(S:World→World→Prop)(q:Option Nat)(z:Nat)(tl:List Bool)(a0:Act)(W:World):Nat→List Oper→Prop
 |_,[]=>True
 |i,o::os=>Zeu P l Q sat I S q z tl a0 W i o∧OwedAll8 P l Q sat I S q z tl a0 W (i+1) os
section
variable {P:Program} {l:List Oper} {Q:Exit→Act→World→Prop} {sat:List Fm} {I:World→Prop} {S:World→World→Prop} {q:Option Nat} {z:Nat} {tl:List Bool} {a0:Act} {W:World} {i:Nat} {o:Oper}
theorem OwedAll8.nil:OwedAll8 P l Q sat I S q z tl a0 W i []:=trivial
theorem OwedAll8.cons {os:List Oper}(h:Zeu P l Q sat I S q z tl a0 W i o)(t:OwedAll8 P l Q sat I S q z tl a0 W (i+1) os):OwedAll8 P l Q sat I S q z tl a0 W i (o::os):=⟨h,t⟩
theorem Sb:∀(os:List Oper) (k:Nat),OwedAll8 P l Q sat I S q z tl a0 W k os→∀i o,os[i]? =some o→Zeu P l Q sat I S q z tl a0 W (k+i) o:=by
 intro os
 induction os with
 |nil=>intro k _ i o h;simp at h
 |cons x os ih=>
  intro k h i o ho;cases i with
  |zero=>simp at ho;subst ho;exact h.1
  |succ i=>
   have:=ih (k+1) h.2 i o (by simpa using ho);rw[show k+(i+1)=k+1+i by omega];exact this
theorem Qa {id:Nat} {a:Act} {w:World} (sat:List Fm) (fin:List Bool) (I:World→Prop) (S:World→World→Prop) (q:Option Nat) (z:Nat) (tl:List Bool) (hm:P.follows .mixedOrders=true)
  (hk:∀j,j≠z→tl.getD j false=false→(∀v x y,some j≠q→(sat.getD j (fun _ _=>True)) v x→I x→S x y→(sat.getD j (fun _ _=>True)) v y)∧∀v x y,some j=q→(sat.getD j (fun _ _=>True)) v x→I x→Below x.heap.size x y→(sat.getD j (fun _ _=>True)) v y)
  (hkt:∀i j,tl.getD i false=true→j=z∨tl.getD j false=true→∀v x y,(sat.getD j (fun _ _=>True)) v x→Below x.heap.size x y→(sat.getD j (fun _ _=>True)) v y)
  (h0:I w.drew) (h12:∀x y,I x→Below x.heap.size x y→S x y) (hIS:∀x y,I x→S x y→I y) (hd:Ku l a.tmps.size=true) (he:Fb l=true) (hla:Za0 l fin tl z=true)
  (hops:OwedAll8 P l Q sat I S q z tl a w 0 l)
  (hend:∀(f:Nat→Value) (w':World),En sat fin f w' 0 l→Q .normal (Aw l a f) w'):
  (Code.region id l.toArray true).wp P Q a w:=by
 have hto:=Wn hla
 -- ahead of z nothing of the tail is done
 have hzi:∀(i:Nat) (o:Oper) (listed:Array Bool),l[i]? =some o→Im l listed→listed.getD i false=false→tl.getD i false=false→listed.getD z false=false:=by
  intro i o listed ho hc hni htl
  by_cases hiz:i=z
  ·rw[←hiz];exact hni
  ·cases hb:listed.getD z false with
   |false=>rfl
   |true=>
    have:=Uf hla hc hb (l.length-i) i lR (Gb ho) htl;rw[hni]at this;cases this
 refine Ol (C:=fun listed i=>i=z∨tl.getD i false=true∨listed.getD z false=false) (Y:=fun listed x=>listed.getD z false=false→I x∧((∀j,q=some j→listed.getD j false=false)→Below w.heap.size w x))
  (R:=fun _ i x y=>i≠z→bif tl.getD i false then Below x.heap.size x y else Gt S q i x y) fin hm hd he (fun _=>⟨h0,fun _=>⟨rfl,rfl,rfl,lR,fun _ _=>rfl⟩⟩) ?_ ?_ ?_ ?_ (fun _ f w' _ _ _ hf=>hend f w' hf)
 ·intro i o ho listed a' x J hni hdep hfree K hK;have hO:=Sb l 0 hops i o ho;rw[cG]at hO;refine hO a' x (fun htl=> ?_) hfree (Uc _ fun e hm hb=>J.facts _ (hdep e hm (Ub hb)) ?_) K hK
  ·have hz:=hzi i o listed ho J.closed hni htl;exact⟨(J.wld hz).1,fun hqi=>(J.wld hz).2 fun j hj=>Wm J.closed hni (by rw[←hj];exact hqi),Ml _ fun e hm hb=>J.facts _ (hdep e hm hb) (.inr (.inr hz))⟩
  ·cases htl:tl.getD i false with
   |false=>exact .inr (.inr (hzi i o listed ho J.closed hni htl))
   |true=>
    rcases(hto.2.2.2 i o ho htl).2 e hm hb with h|h
    ·exact .inl h
    ·exact .inr (.inl h)
 ·intro i o listed x y hol hcl hsz hni hdep hY hR hz2;have hz:=Py hni hz2;have hR:=hR (Pz (by rw[hsz];exact Gb hol) hz2);have htl:tl.getD i false=false:=by
   cases htl:tl.getD i false with
   |false=>rfl
   |true=>
    obtain⟨e,he,hb,hei⟩:=(hto.2.2.2 i o hol htl).1;have:=hdep e he hb;rw[hei,hz]at this;cases this
  rw[htl]at hR;obtain⟨hI,hB⟩:=hY hz;refine⟨hIS _ _ hI (Pw h12 hI hR),fun hpre=> ?_⟩;have hpr:=hB fun j hj=>Py hni (hpre j hj);exact hpr.trans ((Px (fun e=>Pz (by rw[hsz];exact Gb hol) (hpre i e.symm) rfl) hR).mono hpr.size)
 ·intro i j o oj listed x y hol hoj hcl hsz hni hdep hlj hC hY hR;cases htl:tl.getD i false with
  |true=>
   obtain⟨e,he,hb,hei⟩:=(hto.2.2.2 i o hol htl).1;have hzl:=hdep e he hb;rw[hei]at hzl;have hiz:i≠z:=by
    intro e;rw[e,hto.2.1]at htl;cases htl
   have hR:=hR hiz;rw[htl]at hR;have hjz:j=z∨tl.getD j false=true:=by
    rcases hC with h|h|h
    ·exact .inl h
    ·exact .inr h
    ·have:=Py hni h;rw[hzl]at this;cases this
   exact⟨hjz.elim .inl fun h=> .inr (.inl h),fun v hv=>hkt i j htl hjz v _ _ hv hR⟩
  |false=>
   have hz:=hzi i o listed hol hcl hni htl;have hjz:j≠z:=by
    intro e;rw[e,hz]at hlj;cases hlj
   have hjt:tl.getD j false=false:=by
    cases hjt:tl.getD j false with
    |false=>rfl
    |true=>
     obtain⟨e,he,hb,hei⟩:=(hto.2.2.2 j oj hoj hjt).1;have:=hcl j oj hlj hoj e he hb;rw[hei,hz]at this;cases this
   have hiz:i≠z:=by
    rcases hC with h|h|h
    ·exact absurd h hjz
    ·rw[hjt]at h;cases h
    ·exact Pz (by rw[hsz];exact Gb hol) h
   have hR:=hR hiz;rw[htl]at hR;obtain⟨hI,_⟩:=hY hz;refine⟨.inr (.inr hz),fun v hv=> ?_⟩
   by_cases hjq:some j=q
   ·refine(hk j hjz hjt).2 v _ _ hjq hv hI (Px ?_ hR);rw[←hjq];intro e;cases e;rw[hni]at hlj;cases hlj
   ·exact(hk j hjz hjt).1 v _ _ hjq hv hI (Pw h12 hI hR)
 ·intro listed i _ hil hfi
  by_cases hiz:i=z
  ·exact .inl hiz
  ·cases htl:tl.getD i false with
   |true=>exact .inr (.inl rfl)
   |false=>rw[(hto.2.2.1 i hil hiz htl).1]at hfi;cases hfi
theorem Ay {id:Nat} {a:Act} {w:World} (sat:List Fm) (fin:List Bool) (I:World→Prop) (S:World→World→Prop) (q:Option Nat) (z:Nat) (hm:P.follows .mixedOrders=true) (hk:De I S q (sat.set z fun _ _=>True)) (h0:I w.drew) (h12:∀x y,I x→Below x.heap.size x y→S x y) (hIS:∀x y,I x→S x y→I y) (hd:Ku l a.tmps.size=true) (he:Fb l=true) (hla:Za0 l fin [] z=true)
  (hops:OwedAll8 P l Q sat I S q z [] a w 0 l)
  (hend:∀(f:Nat→Value) (w':World),En sat fin f w' 0 l→Q .normal (Aw l a f) w'):
  (Code.region id l.toArray true).wp P Q a w:=by
 refine Qa sat fin I S q z [] hm (fun j hj _=> ?_) (fun i j h=>by simp at h) h0 h12 hIS hd he hla hops hend;have hset:(sat.set z fun _ _=>True).getD j (fun _ _=>True)=sat.getD j (fun _ _=>True):=by
  rw[aH,List.getElem?_set_ne (fun e=>hj e.symm),←aH]
 have h:=Kb _ q hk;exact⟨fun v x y hq hv=>hset▸h.1 j v x y (fun e=>hq e) (hset▸hv),fun v x y hq hv=>hset▸h.2 j v x y hq (hset▸hv)⟩
theorem Lq (h:∀(a:Act) (w:World),I w→(Fc l q i=true→Below W.heap.size W w)→(∀s,Dv l i s=true→a.tmps[s]?.getD undef=a0.tmps[s]?.getD undef)→Bs sat l a w o.after.toList→
      Region.wanted o (yielded l.toArray a.tmps)=true∧∀K:Act→World→Prop,(∀v w',(sat.getD i (fun _ _=>True)) (Dh o a v) w'→(i≠z→Gt S q i w w')→K (a.put o.dst v) w')→Oper.wp P o a w K Q):Zeu P l Q sat I S q z [] a0 W i o:=by
 intro a w hb ho _ K hK;obtain⟨h1,h2,h3⟩:=hb rfl;rw[if_pos (h a w h1 h2 ho h3).1];exact(h a w h1 h2 ho h3).2 K hK
end
end
section
abbrev eF (x:Value):Fm:=fun v _=>v=x
theorem eqn {v x:Value}(h:v=x):v=x:=h
def isB (b:Bool):Value→Bool
 | .bool c=>c==b
 |_=>false
theorem Zjk {b:Bool} {v:Value}(h:isB b v=false):v≠ .bool b:=by
 intro e;rw[e]at h;simp[isB]at h
section
variable {P:Program} {l:List Oper} {Q:Exit→Act→World→Prop} {sat:List Fm} {I:World→Prop} {S:World→World→Prop} {q:Option Nat} {a0:Act} {W:World} {i:Nat} {o:Oper} {os:List Oper}
def dn:Option Nat→Option Nat
 |some (q+1)=>some q
 |_=>none
theorem kX {s:Fm}(h:∀v x y,s v x→I x→S x y→s v y)(h2:∀v x y,s v x→I x→Below x.heap.size x y→s v y)(t:De I S (dn q) sat):De I S q (s::sat):=by
 match q,t with
 |none,t=>exact⟨h,t⟩
 |some 0,t=>exact⟨h2,t⟩
 |some (q+1),t=>exact⟨h,t⟩
theorem kE {x:Value}(t:De I S (dn q) sat):De I S q (eF x::sat):=kX (fun _ _ _ h _ _=>h) (fun _ _ _ h _ _=>h) t
theorem gO (h:∀(a:Act) (w:World),I w→(Fc l q i=true→Below W.heap.size W w)→(∀s,Dv l i s=true→a.tmps[s]?.getD undef=a0.tmps[s]?.getD undef)→Bs sat l a w o.after.toList→
      Region.wanted o (yielded l.toArray a.tmps)=true∧∀K:Act→World→Prop,(∀v w',(sat.getD i (fun _ _=>True)) (Dh o a v) w'→Gt S q i w w'→K (a.put o.dst v) w')→Oper.wp P o a w K Q)
  (t:OwedAll7 P l Q sat I S q a0 W (i+1) os):OwedAll7 P l Q sat I S q a0 W i (o::os):=.cons (Ae h) t
theorem gP (h:∀(a:Act) (w:World),I w→(Fc l q i=true→Below W.heap.size W w)→(∀s,Dv l i s=true→a.tmps[s]?.getD undef=a0.tmps[s]?.getD undef)→Bs sat l a w o.after.toList→
      Region.wanted o (yielded l.toArray a.tmps)=true∧∀K:Act→World→Prop,(∀v,(sat.getD i (fun _ _=>True)) (Dh o a v) w→K (a.put o.dst v) w)→Hid (Oper.wp P o a w K Q))
  (hn:(some i==q)=false) (t:OwedAll7 P l Q sat I S q a0 W (i+1) os):OwedAll7 P l Q sat I S q a0 W i (o::os):=
 gO (fun a w h1 h2 h3 h4=>⟨(h a w h1 h2 h3 h4).1,fun K hK=>((h a w h1 h2 h3 h4).2 K fun v hv=>hK v w hv (Ab hn bR)).out⟩) t
theorem fO {j:Nat} {b:Bool} {oj:Oper} {s:Tmp} {v:Value} {d:Tmp} (hd:o.dst=some d) (hs:sat.getD i (fun _ _=>True)=fun v _=>v=undef) (hn:(some i==q)=false) (hg:o.guard=some (j,b)) (hj:l.toArray[j]? =some oj) (ht:oj.dst=some s)
  (hv:∀(a:Act) (w:World),Bs sat l a w o.after.toList→a.tmps[s]?.getD undef=v) (hne:isB b v=false)
  (t:OwedAll7 P l Q sat I S q a0 W (i+1) os):OwedAll7 P l Q sat I S q a0 W i (o::os):=
 .cons (Zaz hd hs hn fun a w hf=>Ue hg hj ht (hv a w hf) (Zjk hne)) t
theorem gOw (hw:Fc l q i=true) (h:∀(a:Act) (w:World),I w→Below W.heap.size W w→(∀s,Dv l i s=true→a.tmps[s]?.getD undef=a0.tmps[s]?.getD undef)→Bs sat l a w o.after.toList→
      Region.wanted o (yielded l.toArray a.tmps)=true∧∀K:Act→World→Prop,(∀v w',(sat.getD i (fun _ _=>True)) (Dh o a v) w'→Gt S q i w w'→K (a.put o.dst v) w')→Oper.wp P o a w K Q)
  (t:OwedAll7 P l Q sat I S q a0 W (i+1) os):OwedAll7 P l Q sat I S q a0 W i (o::os):=gO (fun a w h1 h2=>h a w h1 (h2 hw)) t
theorem gPw (hw:Fc l q i=true) (h:∀(a:Act) (w:World),I w→Below W.heap.size W w→(∀s,Dv l i s=true→a.tmps[s]?.getD undef=a0.tmps[s]?.getD undef)→Bs sat l a w o.after.toList→
      Region.wanted o (yielded l.toArray a.tmps)=true∧∀K:Act→World→Prop,(∀v,(sat.getD i (fun _ _=>True)) (Dh o a v) w→K (a.put o.dst v) w)→Hid (Oper.wp P o a w K Q))
  (hn:(some i==q)=false) (t:OwedAll7 P l Q sat I S q a0 W (i+1) os):OwedAll7 P l Q sat I S q a0 W i (o::os):=gP (fun a w h1 h2=>h a w h1 (h2 hw)) hn t
theorem Jd {id:Nat} {a:Act} {w:World} (sat:List Fm) (hm:P.follows .mixedOrders=true) (hd:Ku l a.tmps.size=true) (he:Fb l=true) (hk:De (fun x=>Below w.heap.size w x) (fun x y=>Below x.heap.size x y) none sat)
  (hops:OwedAll7 P l Q sat (fun x=>Below w.heap.size w x) (fun x y=>Below x.heap.size x y) none a w 0 l)
  (hend:∀(f:Nat→Value) (w':World),Below w.heap.size w w'→En sat (List.replicate l.length true) f w' 0 l→Q .normal (Aw l a f) w'):
  (Code.region id l.toArray true).wp P Q a w:=
 Ax sat _ _ _ none hm hk ⟨rfl,rfl,rfl,lR,fun _ _=>rfl⟩ (fun _ _ _ h=>h) (fun _ _ hx hs=>hx.trans (hs.mono hx.size)) hd he hops hend
theorem bX {s:Fm}(h:∀v x y,s v x→Below x.heap.size x y→s v y)(t:De I (fun x y=>Below x.heap.size x y) none sat):De I (fun x y=>Below x.heap.size x y) none (s::sat):=⟨fun v x y hv _ hs=>h v x y hv hs,t⟩
theorem gB (h:∀(a:Act) (w:World),Below W.heap.size W w→(∀s,Dv l i s=true→a.tmps[s]?.getD undef=a0.tmps[s]?.getD undef)→Bs sat l a w o.after.toList→
      Region.wanted o (yielded l.toArray a.tmps)=true∧∀K:Act→World→Prop,(∀v w',(sat.getD i (fun _ _=>True)) (Dh o a v) w'→Below w.heap.size w w'→K (a.put o.dst v) w')→Oper.wp P o a w K Q)
  (t:OwedAll7 P l Q sat (fun x=>Below W.heap.size W x) S none a0 W (i+1) os):OwedAll7 P l Q sat (fun x=>Below W.heap.size W x) S none a0 W i (o::os):=
 gO (fun a w h1 _ h3 h4=>⟨(h a w h1 h3 h4).1,fun K hK=>(h a w h1 h3 h4).2 K fun v w' hv hb=>hK v w' hv (Ab rfl hb)⟩) t
theorem gQ (h:∀(a:Act) (w:World),Below W.heap.size W w→(∀s,Dv l i s=true→a.tmps[s]?.getD undef=a0.tmps[s]?.getD undef)→Bs sat l a w o.after.toList→
      Region.wanted o (yielded l.toArray a.tmps)=true∧∀K:Act→World→Prop,(∀v,(sat.getD i (fun _ _=>True)) (Dh o a v) w→K (a.put o.dst v) w)→Hid (Oper.wp P o a w K Q))
  (t:OwedAll7 P l Q sat (fun x=>Below W.heap.size W x) S none a0 W (i+1) os):OwedAll7 P l Q sat (fun x=>Below W.heap.size W x) S none a0 W i (o::os):=
 gP (fun a w h1 _ h3 h4=>h a w h1 h3 h4) rfl t
variable {z:Nat}
theorem gO8 (h:∀(a:Act) (w:World),I w→(Fc l q i=true→Below W.heap.size W w)→(∀s,Dv l i s=true→a.tmps[s]?.getD undef=a0.tmps[s]?.getD undef)→Bs sat l a w o.after.toList→
      Region.wanted o (yielded l.toArray a.tmps)=true∧∀K:Act→World→Prop,(∀v w',(sat.getD i (fun _ _=>True)) (Dh o a v) w'→(i≠z→Gt S q i w w')→K (a.put o.dst v) w')→Oper.wp P o a w K Q)
  (t:OwedAll8 P l Q sat I S q z [] a0 W (i+1) os):OwedAll8 P l Q sat I S q z [] a0 W i (o::os):=.cons (Lq h) t
theorem gP8 (h:∀(a:Act) (w:World),I w→(Fc l q i=true→Below W.heap.size W w)→(∀s,Dv l i s=true→a.tmps[s]?.getD undef=a0.tmps[s]?.getD undef)→Bs sat l a w o.after.toList→
      Region.wanted o (yielded l.toArray a.tmps)=true∧∀K:Act→World→Prop,(∀v,(sat.getD i (fun _ _=>True)) (Dh o a v) w→K (a.put o.dst v) w)→Hid (Oper.wp P o a w K Q))
  (hn:(some i==q)=false) (t:OwedAll8 P l Q sat I S q z [] a0 W (i+1) os):OwedAll8 P l Q sat I S q z [] a0 W i (o::os):=
 gO8 (fun a w h1 h2 h3 h4=>⟨(h a w h1 h2 h3 h4).1,fun K hK=>((h a w h1 h2 h3 h4).2 K fun v hv=>hK v w hv fun _=>Ab hn bR).out⟩) t
theorem Oc (hw:Fc l q i=true) (h:∀(a:Act) (w:World),I w→Below W.heap.size W w→(∀s,Dv l i s=true→a.tmps[s]?.getD undef=a0.tmps[s]?.getD undef)→Bs sat l a w o.after.toList→
      Region.wanted o (yielded l.toArray a.tmps)=true∧∀K:Act→World→Prop,(∀v w',(sat.getD i (fun _ _=>True)) (Dh o a v) w'→(i≠z→Gt S q i w w')→K (a.put o.dst v) w')→Oper.wp P o a w K Q)
  (t:OwedAll8 P l Q sat I S q z [] a0 W (i+1) os):OwedAll8 P l Q sat I S q z [] a0 W i (o::os):=gO8 (fun a w h1 h2=>h a w h1 (h2 hw)) t
theorem Nz (hw:Fc l q i=true) (h:∀(a:Act) (w:World),I w→Below W.heap.size W w→(∀s,Dv l i s=true→a.tmps[s]?.getD undef=a0.tmps[s]?.getD undef)→Bs sat l a w o.after.toList→
      Region.wanted o (yielded l.toArray a.tmps)=true∧∀K:Act→World→Prop,(∀v,(sat.getD i (fun _ _=>True)) (Dh o a v) w→K (a.put o.dst v) w)→Hid (Oper.wp P o a w K Q))
  (hn:(some i==q)=false) (t:OwedAll8 P l Q sat I S q z [] a0 W (i+1) os):OwedAll8 P l Q sat I S q z [] a0 W i (o::os):=gP8 (fun a w h1 h2=>h a w h1 (h2 hw)) hn t
variable {tl:List Bool}
end
end
end Go.Proofs.YtfofaiommeckbaaGreat
