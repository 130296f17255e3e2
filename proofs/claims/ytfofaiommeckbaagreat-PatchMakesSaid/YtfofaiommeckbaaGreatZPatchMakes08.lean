/- A region that draws its order, whose operations make memory and change none: each operation is shown once, whatever ran ahead of it. -/
import Derived.Test.YtfofaiommeckbaaGreatZPatchMakesB
import Derived.Test.YtfofaiommeckbaaGreatZPatchMakes00
import Derived.RegionTactic
open List renaming range → aF, mem_filter → bS, getElem?_cons_succ → bP, getElem?_eq_none → aK, any_eq_true → bT, getElem?_eq_getElem → aI, all_eq_true → bU, getD_eq_getElem?_getD → aH, getElem?_set_ne → bV, replicate → bW, getElem?_append → bY, getElem?_replicate → bZ, length_replicate → cA, getElem?_append_right → cB
open Bool renaming and_eq_true → cC, or_eq_true → cD, not_eq_true' → cE, false_eq_true → cF
open Option renaming map_some → cG, getD_some → cH, bind_some → cI
open Array renaming all_eq_true_iff_forall_mem → cJ, getElem?_eq_getElem → cK, getElem?_toList → cL, getElem?_eq_none → aD, getD_eq_getD_getElem? → cM, size_setIfInBounds → cN, getElem?_setIfInBounds → cO, replicate → cP
open Nat renaming zero_add → cQ, lt_or_ge → aB
set_option linter.unusedVariables false
set_option maxRecDepth 100000
set_option maxHeartbeats 40000000
namespace Go.Proofs.YtfofaiommeckbaaGreat
open Go.RowKit
abbrev Eg:=Value→World→Prop
def Zg2 (sat:List Eg)(l:List Oper)(a:Act)(w:World)(i:Nat):Prop:=
 match l[i]? with
 |some o=>match o.dst with
  |some d=>(sat.getD i (fun _ _=>True)) (a.tmps[d]?.getD undef) w
  |none=>True
 |none=>True
def Au (l:List Oper):List Tmp:=l.filterMap (·.dst)
def Cd (l:List Oper)(i:Nat)(s:Tmp):Bool:=
 (aF l.length).all fun j=>match l[j]? with
  |some o=>o.dst !=some s||j==i||o.after.toList.any fun e=>Region.binds .any e&&e.on==i
  |none=>true
def Wk (sat:List Eg):Prop:=∀(i:Nat) v w w',(sat.getD i (fun _ _=>True)) v w→Below w.heap.size w w'→(sat.getD i (fun _ _=>True)) v w'
theorem Qf:Wk []:=fun i v w w' h _=>by simp
theorem Ds {s:Eg} {sat:List Eg}(h:∀v w w',s v w→Below w.heap.size w w'→s v w')(hs:Wk sat):Wk (s::sat):=by
 intro i v w w' hv hb;cases i with
 |zero=>exact h v w w' hv hb
 |succ i=>exact hs i v w w' hv hb
theorem Sk (a:Act)(d s:Tmp)(v:Value)(h:d≠s):(a.put (some d) v).tmps[s]?.getD undef=a.tmps[s]?.getD undef:=by
 show(a.tmps.setIfInBounds d v)[s]?.getD undef=_;simp[h]
theorem Sl (a:Act)(d:Tmp)(v:Value)(h:d<a.tmps.size):(a.put (some d) v).tmps[d]?.getD undef=v:=by
 show(a.tmps.setIfInBounds d v)[d]?.getD undef=v;simp[h]
theorem Wl {ops:Array Oper} {listed:Array Bool} {i:Nat}(h:i∈Region.ready .any ops listed):∃o,ops[i]? =some o∧∀e∈o.after.toList,Region.binds .any e=true→listed.getD e.on false=true:=by
 rw[Region.ready,bS]at h;obtain⟨_,h⟩:=h;rw[cC]at h;cases ho:ops[i]? with
 |none=>rw[ho]at h;simp at h
 |some o=>
  refine⟨o,rfl,?_⟩;intro e he hb;have h2:=h.2;rw[ho]at h2;simp only[cG,cH]at h2;rw[cJ]at h2;have:=h2 e (by simpa using he);rw[hb]at this;simpa using this
def En (ds:List Tmp)(f:Nat→Value):Nat→List Value→List Value
 |_,[]=>[]
 |s,x::xs=>(bif ds.contains s then f s else x)::En ds f (s+1) xs
def Al (l:List Oper)(a:Act)(f:Nat→Value):Act:= {tmps:=(En (Au l) f 0 a.tmps.toList).toArray,defers:=a.defers}
theorem Zb1 (ds:List Tmp)(f:Nat→Value):∀(xs:List Value) (k i:Nat),(En ds f k xs)[i]? =(xs[i]?).map fun x=>bif ds.contains (k+i)then f (k+i)else x:=by
 intro xs
 induction xs with
 |nil=>intro k i;simp[En]
 |cons x xs ih=>
  intro k i;cases i with
  |zero=>simp[En]
  |succ i=>
   rw[En,bP,bP,ih,show k+1+i=k+(i+1) by omega]
theorem Wm {l:List Oper} {a a':Act}(hs:a'.tmps.size=a.tmps.size)(hd:a'.defers=a.defers)(ho:∀s,(Au l).contains s=false→a'.tmps[s]?.getD undef=a.tmps[s]?.getD undef):
  a'=Al l a (fun s=>a'.tmps[s]?.getD undef):=by
 obtain⟨t',d'⟩:=a';obtain⟨t,d⟩:=a;simp only at hs hd ho;subst hd;unfold Al
 congr 1
 apply Array.ext_getElem?;intro i;have key:∀xs:List Value,((En (Au l) (fun s=>t'[s]?.getD undef) 0 xs).toArray)[i]? =(xs[i]?).map fun x=>bif (Au l).contains i then t'[i]?.getD undef else x:=by
  intro xs;rw[List.getElem?_toArray,Zb1,cQ]
 show t'[i]? =((En (Au l) (fun s=>t'[s]?.getD undef) 0 t.toList).toArray)[i]?;rw[key];rcases aB i t.size with h|h
 ·rw[cK (by omega),cL,cK h,cG]
  congr 1
  cases hc:(Au l).contains i with
  |true=>simp
  |false=>
   have:=ho i hc;rw[cK (by omega),cK h]at this;exact this
 ·rw[aD (by omega),cL,aD h,Option.map_none]
theorem Ak {o:Oper} {ops:Array Oper} {tmps:Array Value} {j:Nat} {b:Bool} {oj:Oper} {s:Tmp}(hg:o.guard=some (j,b))(hj:ops[j]? =some oj)(hs:oj.dst=some s)(hv:tmps[s]?.getD undef=.bool b):Region.wanted o (yielded ops tmps)=true:=by
 cases ht:tmps[s]? with
 |none=>rw[ht]at hv;cases hv
 |some x=>
  rw[ht]at hv;have hx:x=.bool b:=hv;have hy:yielded ops tmps j=some b:=by
   unfold yielded;rw[hj,cI,hs,cI,ht,hx]
  unfold Region.wanted;rw[hg];simp[hy]
def Ok (e:Edge):Bool:=Region.binds .any e&&match e.ground with| .data=>true|_=>false
theorem Li {e:Edge}(h:Ok e=true):Region.binds .any e=true:=by
 unfold Ok at h;rw[cC]at h;exact h.1
def Zg3 (l:List Oper)(j i:Nat):Bool:=
 (aF l.length).all fun c=>c==j||match l[c]? with
  |some o=> !(o.after.toList.any fun e=>Ok e&&e.on==i)||(match l[j]? with|some oj=>oj.after.toList.any fun e=>Region.binds .any e&&e.on==c|none=>false)
  |none=>true
def Jd (o:Oper):Option Tmp:=match o.dst with
 |some d=>some d
 |none=>match o.op with
  | .store _ (.tmp p) _=>some p
  | .mapUpdate _ (.tmp p) _ _=>some p
  |_=>none
theorem Zek {o:Oper} {d:Tmp}(h:o.dst=some d):Jd o=some d:=by unfold Jd;rw[h]
def Gq (sat:List Eg)(l:List Oper)(a:Act)(w:World)(i:Nat):Prop:=
 match l[i]? with
 |some o=>match Jd o with
  |some d=>(sat.getD i (fun _ _=>True)) (a.tmps[d]?.getD undef) w
  |none=>True
 |none=>True
def Ei (sat:List Eg)(l:List Oper)(a:Act)(w:World):List Edge→Prop
 |[]=>True
 |e::es=>(if Ok e=true then Gq sat l a w e.on else True)∧Ei sat l a w es
theorem Lj {sat:List Eg} {l:List Oper} {a:Act} {w:World}:∀es:List Edge,(∀e∈es,Ok e=true→Gq sat l a w e.on)→Ei sat l a w es:=by
 intro es
 induction es with
 |nil=>intro _;trivial
 |cons e es ih=>
  intro h;refine⟨?_,ih fun x hx=>h x (by simp[hx])⟩
  split
  ·rename_i hb;exact h e (by simp) hb
  ·trivial
def Gi (l:List Oper)(n:Nat):Bool:=
 ((aF l.length).all fun i=>match l[i]? with
  |some o=>(match Jd o with|some d=>decide (d<n)|none=>false)&&(aF l.length).all fun j=>match l[j]? with
   |some o'=>i==j||o'.dst.isNone||o'.dst !=Jd o||(o.dst.isNone&&o.after.toList.any fun e=>Region.binds .any e&&e.on==j)
   |none=>true
  |none=>true)
theorem Un {l:List Oper} {n:Nat}(h:Gi l n=true) {i:Nat} {o:Oper}(hi:l[i]? =some o):∃d,Jd o=some d∧d<n:=by
 have hil:i<l.length:=by
  rcases aB i l.length with h|h
  ·exact h
  ·rw[aK h]at hi;cases hi
 have:=List.all_eq_true.1 h i (List.mem_range.2 hil);rw[hi]at this;simp only[cC]at this;have h1:=this.1;cases hd:Jd o with
 |none=>rw[hd]at h1;cases h1
 |some d=>rw[hd]at h1;exact⟨d,rfl,by simpa using h1⟩
theorem Zf1 {l:List Oper} {n:Nat}(h:Gi l n=true) {i j:Nat} {o o':Oper} {d d':Tmp}(hi:l[i]? =some o)(hj:l[j]? =some o')(ho:Jd o=some d)(ho':o'.dst=some d')(hne:i≠j):d'≠d∨∃e∈o.after.toList,Region.binds .any e=true∧e.on=j:=by
 have hil:i<l.length:=by
  rcases aB i l.length with h|h
  ·exact h
  ·rw[aK h]at hi;cases hi
 have hjl:j<l.length:=by
  rcases aB j l.length with h|h
  ·exact h
  ·rw[aK h]at hj;cases hj
 have:=List.all_eq_true.1 h i (List.mem_range.2 hil);rw[hi]at this;simp only[cC]at this;have h2:=List.all_eq_true.1 this.2 j (List.mem_range.2 hjl);rw[hj]at h2;simp only[cD,beq_iff_eq,bne_iff_ne,cC,bT]at h2;rcases h2 with((h2|h2)|h2)|⟨_,e,he,hb,hej⟩
 ·exact absurd h2 hne
 ·rw[ho']at h2;cases h2
 ·left
  intro e;rw[ho,ho',e]at h2;exact h2 rfl
 ·exact .inr ⟨e,he,hb,hej⟩
def Bs (o:Oper)(a:Act)(v:Value):Value:=match o.dst with
 |some _=>v
 |none=>match Jd o with
  |some p=>a.tmps[p]?.getD undef
  |none=>undef
def Zgv (P:Program)(l:List Oper)(Q:Exit→Act→World→Prop)(sat:List Eg)(st:List Bool)(a0:Act)(W:World)(i:Nat)(o:Oper):Prop:=
 ∀(a:Act) (w:World),Below W.heap.size W w→(∀s,Cd l i s=true→a.tmps[s]?.getD undef=a0.tmps[s]?.getD undef)→Ei sat l a w o.after.toList→
  ∀K:Act→World→Prop,(∀v w',(sat.getD i (fun _ _=>True)) (Bs o a v) w'→Below (bif st.getD i true then w.heap.size else W.heap.size) w w'→K (a.put o.dst v) w')→
   if Region.wanted o (yielded l.toArray a.tmps)=true then Oper.wp P o a w K Q else K (a.put o.dst undef) w
def Zb2 (P:Program)(l:List Oper)(Q:Exit→Act→World→Prop)(sat:List Eg)(st:List Bool)(a0:Act)(W:World):Nat→List Oper→Prop
 |_,[]=>True
 |i,o::os=>Zgv P l Q sat st a0 W i o∧Zb2 P l Q sat st a0 W (i+1) os
def Dc (l:List Oper):Bool:=(aF l.length).all fun i=>match l[i]? with|some o=>o.after.toList.all fun e=> !Region.binds .any e||decide (e.on<i)|none=>true
theorem Yh {l:List Oper}(h:Dc l=true) {i:Nat} {o:Oper}(hi:l[i]? =some o):∀e∈o.after.toList,Region.binds .any e=true→e.on<i:=by
 have hil:i<l.length:=by
  rcases aB i l.length with h|h
  ·exact h
  ·rw[aK h]at hi;cases hi
 have:=List.all_eq_true.1 h i (List.mem_range.2 hil);rw[hi]at this;intro e he hb;have h2:=List.all_eq_true.1 this e he;rw[hb]at h2;simpa using h2
theorem Sm {l:List Oper}(h:Dc l=true) {listed:Array Bool}(hs:listed.size=l.length) {i:Nat}(hi:i<l.length)(hf:listed.getD i false=false):Region.ready .any l.toArray listed≠[]:=by
 have:∃j,j<l.length∧listed.getD j false=false∧∀k,k<j→listed.getD k false=true:=by
  induction i using Nat.strongRecOn with
  |ind i ih=>
   by_cases hall:∀k,k<i→listed.getD k false=true
   ·exact⟨i,hi,hf,hall⟩
   ·have:∃k,k<i∧listed.getD k false=false:=by
     refine Classical.byContradiction fun hn=>hall fun k hk=> ?_;cases hb:listed.getD k false with
     |true=>rfl
     |false=>exact absurd ⟨k,hk,hb⟩ hn
    obtain⟨k,hk,hb⟩:=this;exact ih k hk (by omega) hb
 obtain⟨j,hj,hjf,hjl⟩:=this;obtain⟨o,ho⟩:∃o,l[j]? =some o:=⟨l[j],aI hj⟩;have hm:j∈Region.ready .any l.toArray listed:=by
  rw[Region.ready,bS];refine⟨by simpa using hj,?_⟩;rw[cC];constructor
  ·have:listed.getD j true=false:=by
    rw[cM]at hjf⊢;rw[cK (by omega)]at hjf⊢;exact hjf
   rw[this];rfl
  ·have ho':l.toArray[j]? =some o:=(by simpa using ho);rw[ho',cG,cH,cJ];intro e he;cases hb:Region.binds .any e with
   |false=>rfl
   |true=>
    rw[cD]
    right
    exact hjl _ (Yh h ho e (by simpa using he) hb)
 intro e;rw[e]at hm;cases hm
theorem Zb3 (a:Act)(d:Option Tmp)(v:Value):(a.put d v).tmps.size=a.tmps.size:=by
 cases d with
 |none=>rfl
 |some d=>show(a.tmps.setIfInBounds d v).size=_;rw[cN]
theorem Wn (a:Act)(d:Option Tmp)(v:Value):(a.put d v).defers=a.defers:=by cases d<;>rfl
theorem Zdv (a:Act)(d:Option Tmp)(s:Tmp)(v:Value)(h:d≠some s):(a.put d v).tmps[s]?.getD undef=a.tmps[s]?.getD undef:=by
 cases d with
 |none=>rfl
 |some d=>exact Sk a d s v (fun e=>h (by rw[e]))
theorem Zel (a:Act) {o:Oper} {d:Tmp}(h:Jd o=some d)(v:Value)(hd:d<a.tmps.size):(a.put o.dst v).tmps[d]?.getD undef=Bs o a v:=by
 unfold Bs;cases ho:o.dst with
 |none=>simp only[h];rfl
 |some d'=>
  have:=Zek ho;rw[h]at this;cases this;exact Sl a d v hd
def Co (sat:List Eg)(fin:List Bool)(f:Nat→Value)(w:World):Nat→List Oper→Prop
 |_,[]=>True
 |i,o::os=>(bif fin.getD i false then(match Jd o with|some d=>(sat.getD i (fun _ _=>True)) (f d) w|none=>True)else True)∧Co sat fin f w (i+1) os
theorem Qg {sat:List Eg} {fin:List Bool} {f:Nat→Value} {w:World}:∀(os:List Oper) (k:Nat),(∀i o d,os[i]? =some o→Jd o=some d→fin.getD (k+i) false=true→(sat.getD (k+i) (fun _ _=>True)) (f d) w)→Co sat fin f w k os:=by
 intro os
 induction os with
 |nil=>intro k _;trivial
 |cons o os ih=>
  intro k h;refine⟨?_,ih (k+1) fun i o' d ho hd hfi=> ?_⟩
  ·cases hfi:fin.getD k false with
   |false=>trivial
   |true=>
    cases hd:Jd o with
    |none=>trivial
    |some d=>exact h 0 o d rfl hd hfi
  ·have e1:k+1+i=k+(i+1):=(by omega);rw[e1]at hfi⊢;exact h (i+1) o' d (by simpa using ho) hd hfi
section
def Gr (l:List Oper)(listed:Array Bool):Prop:=∀j o,listed.getD j false=true→l[j]? =some o→∀e∈o.after.toList,Region.binds .any e=true→listed.getD e.on false=true
structure OnceX (l:List Oper) (sat:List Eg) (C:Array Bool→Nat→Prop) (Y:Array Bool→World→Prop) (a0:Act) (listed:Array Bool) (a:Act) (w:World):Prop where
 size:a.tmps.size=a0.tmps.size
 defers:a.defers=a0.defers
 out:∀s,(∀j o,listed.getD j false=true→l[j]? =some o→o.dst≠some s)→a.tmps[s]?.getD undef=a0.tmps[s]?.getD undef
 closed:Gr l listed
 wld:Y listed w
 facts:∀i,listed.getD i false=true→C listed i→Gq sat l a w i
 lsize:listed.size=l.length
theorem Uo {listed:Array Bool} {i:Nat}(h:i<listed.size):(listed.setIfInBounds i true).getD i false=true:=by
 rw[cM,cO,if_pos rfl,if_pos h];rfl
theorem Qh {listed:Array Bool} {i j:Nat}(h:j≠i):(listed.setIfInBounds i true).getD j false=listed.getD j false:=by
 rw[cM,cO,if_neg (fun e=>h e.symm),←cM]
theorem Yi {n i:Nat}:(cP n false).getD i false=false:=by
 rw[cM,Array.getElem?_replicate];split<;>simp
theorem Dj {l:List Oper} {i:Nat} {o:Oper}(h:l[i]? =some o):i<l.length:=by
 rcases aB i l.length with k|k
 ·exact k
 ·rw[aK k]at h;cases h
section
variable {P:Program} {l:List Oper} {Q:Exit→Act→World→Prop} {sat:List Eg} {C:Array Bool→Nat→Prop} {Y:Array Bool→World→Prop} {R:Array Bool→Nat→World→World→Prop} {a0:Act}
def Zf2 (P:Program)(l:List Oper)(Q:Exit→Act→World→Prop)(sat:List Eg)(C:Array Bool→Nat→Prop)(Y:Array Bool→World→Prop)(R:Array Bool→Nat→World→World→Prop)(a0:Act)(i:Nat)(o:Oper):Prop:=
 ∀(listed:Array Bool) (a:Act) (w:World),OnceX l sat C Y a0 listed a w→listed.getD i false=false→(∀e∈o.after.toList,Region.binds .any e=true→listed.getD e.on false=true)→(∀s,Cd l i s=true→a.tmps[s]?.getD undef=a0.tmps[s]?.getD undef)→
  ∀K:Act→World→Prop,(∀v w',(sat.getD i (fun _ _=>True)) (Bs o a v) w'→R listed i w w'→K (a.put o.dst v) w')→
   if Region.wanted o (yielded l.toArray a.tmps)=true then Oper.wp P o a w K Q else K (a.put o.dst undef) w
theorem Yj (hd:Gi l a0.tmps.size=true) (he:Dc l=true)
  (hops:∀i o,l[i]? =some o→Zf2 P l Q sat C Y R a0 i o)
  (hY:∀(i:Nat) (o:Oper) (listed:Array Bool) (w w':World),l[i]? =some o→Gr l listed→listed.size=l.length→listed.getD i false=false→(∀e∈o.after.toList,Region.binds .any e=true→listed.getD e.on false=true)→Y listed w→R listed i w w'→Y (listed.setIfInBounds i true) w')
  (hF:∀(i j:Nat) (o oj:Oper) (listed:Array Bool) (w w':World),l[i]? =some o→l[j]? =some oj→Gr l listed→listed.size=l.length→listed.getD i false=false→(∀e∈o.after.toList,Region.binds .any e=true→listed.getD e.on false=true)→listed.getD j false=true→C (listed.setIfInBounds i true) j→Y listed w→R listed i w w'→
   C listed j∧∀v,(sat.getD j (fun _ _=>True)) v w→(sat.getD j (fun _ _=>True)) v w')
  (hend:∀(listed:Array Bool) (a:Act) (w:World),OnceX l sat C Y a0 listed a w→(∀i,i<l.length→listed.getD i false=true)→Q .normal a w):
  ∀(fuel:Nat) (listed:Array Bool) (a:Act) (w:World),OnceX l sat C Y a0 listed a w→listed.toList.count false≤fuel→wpAny P .any l.toArray Q fuel listed a w:=by
 intro fuel;have hfin:∀(listed:Array Bool) (a:Act) (w:World),OnceX l sat C Y a0 listed a w→Region.ready .any l.toArray listed=[]→Q .normal a w:=by
  intro listed a w J hr;refine hend _ a w J fun i hi=> ?_;cases hb:listed.getD i false with
  |true=>rfl
  |false=>exact absurd hr (Sm he J.lsize hi hb)
 have h0:∀(listed:Array Bool) (i:Nat),i∈Region.ready .any l.toArray listed→i<listed.size∧listed.getD i false=false∧false∈listed.toList:=by
  intro listed i hi;have h1:=(mem_ready.1 hi).1;have hlt:i<listed.size:=by
   rcases aB i listed.size with h|h
   ·exact h
   ·rw[cM,aD h]at h1;simp at h1
  rw[cM,cK hlt]at h1;refine⟨hlt,?_,?_⟩
  ·rw[cM,cK hlt];exact h1
  ·rw[←show listed[i]=false from h1];simp
 induction fuel with
 |zero=>
  intro listed a w J hc;have hr:Region.ready .any l.toArray listed=[]:=by
   refine Classical.byContradiction fun hn=> ?_;obtain⟨i,hi⟩:=List.exists_mem_of_ne_nil _ hn;have:=List.count_pos_iff.2 (h0 listed i hi).2.2;omega
  exact⟨hr,hfin listed a w J hr⟩
 |succ fuel ih=>
  intro listed a w J hc;refine⟨hfin listed a w J,?_⟩;intro i hi;obtain⟨o,ho,hdep⟩:=Wl hi;obtain⟨hlt,h1f,-⟩:=h0 listed i hi;have hol:l[i]? =some o:=(by simpa using ho);obtain⟨d,hob,hdn⟩:=Un hd hol;refine wpOp_step ho ?_;intro K' hK';have hfree:∀s,Cd l i s=true→a.tmps[s]?.getD undef=a0.tmps[s]?.getD undef:=by
   intro s hs;refine J.out s fun j o' hj hoj hds=> ?_;have:=List.all_eq_true.1 hs j (List.mem_range.2 (Dj hoj));rw[hoj]at this;simp only[cD,bne_iff_ne,beq_iff_eq,bT,cC]at this;rcases this with(h|h)|⟨e,he,hb,hei⟩
   ·exact h hds
   ·subst h;rw[h1f]at hj;cases hj
   ·have:=J.closed j o' hj hoj e he hb;rw[hei,h1f]at this;cases this
  refine hops i o hol listed a w J h1f hdep hfree K' ?_;intro v w' hv hR;refine hK' _ _ (ih _ _ _ ⟨?_,?_,?_,?_,hY i o listed w w' hol J.closed J.lsize h1f hdep J.wld hR,?_,?_⟩ ?_)
  ·rw[Zb3];exact J.size
  ·rw[Wn];exact J.defers
  ·intro s hs;rw[Zdv a o.dst s v (hs i o (Uo hlt) hol)];refine J.out s fun j o' hj hoj=>hs j o' ?_ hoj
   by_cases hji:j=i
   ·rw[hji];exact Uo hlt
   ·rw[Qh hji];exact hj
  ·intro j o' hj hoj e hem hb;have hstep:∀m,listed.getD m false=true→(listed.setIfInBounds i true).getD m false=true:=by
    intro m hm
    by_cases hmi:m=i
    ·rw[hmi];exact Uo hlt
    ·rw[Qh hmi];exact hm
   by_cases hji:j=i
   ·subst hji;rw[hol]at hoj;cases hoj;exact hstep _ (hdep e hem hb)
   ·rw[Qh hji]at hj;exact hstep _ (J.closed j o' hj hoj e hem hb)
  ·intro j hj hCj;unfold Gq;cases hoj:l[j]? with
   |none=>trivial
   |some o'=>
    obtain⟨d',hd',_⟩:=Un hd hoj;simp only[hd']
    by_cases hji:j=i
    ·subst hji;rw[hol]at hoj;cases hoj;rw[hob]at hd';cases hd';rw[Zel a hob v (by rw[J.size];exact hdn)];exact hv
    ·rw[Qh hji]at hj;rw[Zdv a o.dst d' v (by
      intro hdd;rcases Zf1 hd hoj hol hd' hdd hji with h|⟨e,he,hb,hei⟩
      ·exact h rfl
      ·have:=J.closed j o' hj hoj e he hb;rw[hei,h1f]at this;cases this)]
     obtain⟨c1,c2⟩:=hF i j o o' listed w w' hol hoj J.closed J.lsize h1f hdep hj hCj J.wld hR;have:=J.facts j hj c1;unfold Gq at this;rw[hoj]at this;simp only[hd']at this;exact c2 _ this
  ·rw[cN];exact J.lsize
  ·rw[Array.toList_setIfInBounds,List.count_set (by simpa using hlt)];have h2:listed.toList[i]'(by simpa using hlt)=false:=by
    rw[cM,cK hlt]at h1f;simpa using h1f
   rw[h2,if_pos (show(false==false)=true from rfl),if_neg (by decide)];omega
theorem Je {id:Nat} {a:Act} {w:World} (fin:List Bool) (hm:P.follows .mixedOrders=true) (hd:Gi l a.tmps.size=true) (he:Dc l=true) (h0:Y (cP l.length false) w.drew)
  (hops:∀i o,l[i]? =some o→Zf2 P l Q sat C Y R a i o)
  (hY:∀(i:Nat) (o:Oper) (listed:Array Bool) (w w':World),l[i]? =some o→Gr l listed→listed.size=l.length→listed.getD i false=false→(∀e∈o.after.toList,Region.binds .any e=true→listed.getD e.on false=true)→Y listed w→R listed i w w'→Y (listed.setIfInBounds i true) w')
  (hF:∀(i j:Nat) (o oj:Oper) (listed:Array Bool) (w w':World),l[i]? =some o→l[j]? =some oj→Gr l listed→listed.size=l.length→listed.getD i false=false→(∀e∈o.after.toList,Region.binds .any e=true→listed.getD e.on false=true)→listed.getD j false=true→C (listed.setIfInBounds i true) j→Y listed w→R listed i w w'→
   C listed j∧∀v,(sat.getD j (fun _ _=>True)) v w→(sat.getD j (fun _ _=>True)) v w')
  (hC:∀(listed:Array Bool) (i:Nat),(∀k,k<l.length→listed.getD k false=true)→i<l.length→fin.getD i false=true→C listed i)
  (hend:∀(listed:Array Bool) (f:Nat→Value) (w':World),Y listed w'→(∀k,k<l.length→listed.getD k false=true)→listed.size=l.length→Co sat fin f w' 0 l→Q .normal (Al l a f) w'):
  (Code.region id l.toArray true).wp P Q a w:=by
 refine wp_region_any hm (Yj hd he hops hY hF ?_ _ _ _ _ ⟨rfl,rfl,fun _ _=>rfl,?_,by simpa using h0,?_,by simp⟩ ?_)
 ·intro listed a' w' J hall;rw[Wm J.size J.defers (fun s hs=>J.out s fun j o _ ho hd'=>by
   have:(Au l).contains s=true:=by
    rw[List.contains_iff_mem];exact List.mem_filterMap.2 ⟨o,List.mem_of_getElem? ho,hd'⟩
   rw[this]at hs;cases hs)]
  refine hend listed _ w' J.wld hall J.lsize (Qg l 0 ?_);intro i o d ho hdd hfi;rw[cQ]at hfi⊢;have hil:=Dj ho;have:=J.facts i (hall i hil) (hC _ i hall hil hfi);unfold Gq at this;rw[ho]at this;simp only[hdd]at this;exact this
 ·intro i _ hi;rw[Yi]at hi;cases hi
 ·intro i hi _;rw[Yi]at hi;cases hi
 ·simp
end
end
def Bc (sat:List Eg)(l:List Oper)(a:Act)(w:World):List Edge→Prop
 |[]=>True
 |e::es=>(if Region.binds .any e=true then Gq sat l a w e.on else True)∧Bc sat l a w es
theorem Hv {sat:List Eg} {l:List Oper} {a:Act} {w:World}:∀es:List Edge,(∀e∈es,Region.binds .any e=true→Gq sat l a w e.on)→Bc sat l a w es:=by
 intro es
 induction es with
 |nil=>intro _;trivial
 |cons e es ih=>
  intro h;refine⟨?_,ih fun x hx=>h x (by simp[hx])⟩
  split
  ·rename_i hb;exact h e (by simp) hb
  ·trivial
def Fh (S:World→World→Prop)(q:Option Nat)(i:Nat)(x y:World):Prop:=bif some i==q then S x y else Below x.heap.size x y
theorem Ae {S:World→World→Prop} {q:Option Nat} {i:Nat} {x y:World}(h:(some i==q)=false)(hb:Below x.heap.size x y):Fh S q i x y:=by unfold Fh;rw[h];exact hb
theorem Cp {S:World→World→Prop} {q:Option Nat} {i:Nat} {x y:World}(h:(some i==q)=true)(hs:S x y):Fh S q i x y:=by unfold Fh;rw[h];exact hs
def Ee (l:List Oper)(q:Option Nat)(i:Nat):Bool:=match q with
 |none=>true
 |some j=>i==j||match l[j]? with
  |some oj=>oj.after.toList.any fun e=>Region.binds .any e&&e.on==i
  |none=>false
def Cu (I:World→Prop)(S:World→World→Prop):Option Nat→List Eg→Prop
 |_,[]=>True
 |none,s::sat=>(∀v x y,s v x→I x→S x y→s v y)∧Cu I S none sat
 |some 0,s::sat=>(∀v x y,s v x→I x→Below x.heap.size x y→s v y)∧Cu I S none sat
 |some (q+1),s::sat=>(∀v x y,s v x→I x→S x y→s v y)∧Cu I S (some q) sat
theorem Ai {I:World→Prop} {S:World→World→Prop} {q:Option Nat}:Cu I S q []:=by cases q with
 |none=>trivial
 |some q=>cases q<;>trivial
theorem Ag {I:World→Prop} {S:World→World→Prop} {s:Eg} {sat:List Eg}(h:∀v x y,s v x→I x→S x y→s v y)(t:Cu I S none sat):Cu I S none (s::sat):=⟨h,t⟩
theorem Dk {I:World→Prop} {S:World→World→Prop} {s:Eg} {sat:List Eg}(h:∀v x y,s v x→I x→Below x.heap.size x y→s v y)(t:Cu I S none sat):Cu I S (some 0) (s::sat):=⟨h,t⟩
theorem Cn {I:World→Prop} {S:World→World→Prop} {q:Nat} {s:Eg} {sat:List Eg}(h:∀v x y,s v x→I x→S x y→s v y)(t:Cu I S (some q) sat):Cu I S (some (q+1)) (s::sat):=⟨h,t⟩
theorem Fl {I:World→Prop} {S:World→World→Prop}:∀(sat:List Eg) (q:Option Nat),Cu I S q sat→
  (∀i v x y,some i≠q→(sat.getD i (fun _ _=>True)) v x→I x→S x y→(sat.getD i (fun _ _=>True)) v y)∧
  (∀i v x y,some i=q→(sat.getD i (fun _ _=>True)) v x→I x→Below x.heap.size x y→(sat.getD i (fun _ _=>True)) v y):=by
 intro sat
 induction sat with
 |nil=>intro q _;exact⟨fun i v x y _ _ _ _=>by simp,fun i v x y _ _ _ _=>by simp⟩
 |cons s sat ih=>
  intro q h
  match q,h with
  |none,h=>
   refine⟨fun i v x y hq hv hi hs=> ?_,fun i v x y hq=>by cases hq⟩;cases i with
   |zero=>exact h.1 v x y hv hi hs
   |succ i=>exact(ih none h.2).1 i v x y (by simp) hv hi hs
  |some 0,h=>
   refine⟨fun i v x y hq hv hi hs=> ?_,fun i v x y hq hv hi hs=> ?_⟩
   ·cases i with
    |zero=>exact absurd rfl hq
    |succ i=>exact(ih none h.2).1 i v x y (by simp) hv hi hs
   ·cases i with
    |zero=>exact h.1 v x y hv hi hs
    |succ i=>cases hq
  |some (q+1),h=>
   refine⟨fun i v x y hq hv hi hs=> ?_,fun i v x y hq hv hi hs=> ?_⟩
   ·cases i with
    |zero=>exact h.1 v x y hv hi hs
    |succ i=>exact(ih (some q) h.2).1 i v x y (fun e=>hq (by simp at e;rw[e])) hv hi hs
   ·cases i with
    |zero=>cases hq
    |succ i=>exact(ih (some q) h.2).2 i v x y (by simp at hq;rw[hq]) hv hi hs
def Yk (P:Program)(l:List Oper)(Q:Exit→Act→World→Prop)(sat:List Eg)(I:World→Prop)(S:World→World→Prop)(q:Option Nat)(a0:Act)(W:World)(i:Nat)(o:Oper):Prop:=
 ∀(a:Act) (w:World),I w→(Ee l q i=true→Below W.heap.size W w)→(∀s,Cd l i s=true→a.tmps[s]?.getD undef=a0.tmps[s]?.getD undef)→Bc sat l a w o.after.toList→
  ∀K:Act→World→Prop,(∀v w',(sat.getD i (fun _ _=>True)) (Bs o a v) w'→Fh S q i w w'→K (a.put o.dst v) w')→
   if Region.wanted o (yielded l.toArray a.tmps)=true then Oper.wp P o a w K Q else K (a.put o.dst undef) w
def OwedAll7 (P:Program)(l:List Oper)(Q:Exit→Act→World→Prop)(sat:List Eg)(I:World→Prop)(S:World→World→Prop)(q:Option Nat)(a0:Act)(W:World):Nat→List Oper→Prop
 |_,[]=>True
 |i,o::os=>Yk P l Q sat I S q a0 W i o∧OwedAll7 P l Q sat I S q a0 W (i+1) os
theorem OwedAll7.nil {P:Program} {l:List Oper} {Q:Exit→Act→World→Prop} {sat:List Eg} {I:World→Prop} {S:World→World→Prop} {q:Option Nat} {a0:Act} {W:World} {i:Nat}:OwedAll7 P l Q sat I S q a0 W i []:=trivial
theorem OwedAll7.cons {P:Program} {l:List Oper} {Q:Exit→Act→World→Prop} {sat:List Eg} {I:World→Prop} {S:World→World→Prop} {q:Option Nat} {a0:Act} {W:World} {i:Nat} {o:Oper} {os:List Oper}(h:Yk P l Q sat I S q a0 W i o)(t:OwedAll7 P l Q sat I S q a0 W (i+1) os):OwedAll7 P l Q sat I S q a0 W i (o::os):=⟨h,t⟩
theorem Qi {P:Program} {l:List Oper} {Q:Exit→Act→World→Prop} {sat:List Eg} {I:World→Prop} {S:World→World→Prop} {q:Option Nat} {a0:Act} {W:World}:∀(os:List Oper) (k:Nat),OwedAll7 P l Q sat I S q a0 W k os→∀i o,os[i]? =some o→Yk P l Q sat I S q a0 W (k+i) o:=by
 intro os
 induction os with
 |nil=>intro k _ i o h;simp at h
 |cons x os ih=>
  intro k h i o ho;cases i with
  |zero=>simp at ho;subst ho;exact h.1
  |succ i=>
   have:=ih (k+1) h.2 i o (by simpa using ho);rw[show k+(i+1)=k+1+i by omega];exact this
theorem Jf {I:World→Prop} {S:World→World→Prop} {q:Option Nat} {i:Nat} {x y:World}(h12:∀x y,I x→Below x.heap.size x y→S x y)(hI:I x)(h:Fh S q i x y):S x y:=by
 unfold Fh at h;cases hq:some i==q with
 |true=>rw[hq]at h;exact h
 |false=>rw[hq]at h;exact h12 _ _ hI h
theorem Jg {S:World→World→Prop} {q:Option Nat} {i:Nat} {x y:World}(hq:some i≠q)(h:Fh S q i x y):Below x.heap.size x y:=by
 unfold Fh at h;rw[beq_eq_false_iff_ne.2 hq]at h;exact h
theorem Ol {l:List Oper} {listed:Array Bool} {i j:Nat}(hc:Gr l listed)(hi:listed.getD i false=false)(h:Ee l (some j) i=true):listed.getD j false=false:=by
 unfold Ee at h;simp only[cD,beq_iff_eq]at h;rcases h with rfl|h
 ·exact hi
 ·cases hoj:l[j]? with
  |none=>rw[hoj]at h;cases h
  |some oj=>
   rw[hoj]at h;simp only[bT,cC,beq_iff_eq]at h;obtain⟨e,he,hb,hei⟩:=h;cases hl:listed.getD j false with
   |false=>rfl
   |true=>
    have:=hc j oj hl hoj e he hb;rw[hei,hi]at this;cases this
theorem Hw {listed:Array Bool} {i j:Nat}(hi:listed.getD i false=false)(h:(listed.setIfInBounds i true).getD j false=false):listed.getD j false=false:=by
 by_cases hji:j=i
 ·rw[hji];exact hi
 ·rwa [Qh hji]at h
theorem Hx {listed:Array Bool} {i j:Nat}(hl:i<listed.size)(h:(listed.setIfInBounds i true).getD j false=false):i≠j:=by
 intro e;rw[←e,Uo hl]at h;cases h
theorem Bh {P:Program} {id:Nat} {l:List Oper} {Q:Exit→Act→World→Prop} {a:Act} {w:World} (sat:List Eg) (fin:List Bool) (I:World→Prop) (S:World→World→Prop) (q:Option Nat) (hm:P.follows .mixedOrders=true) (hk:Cu I S q sat) (h0:I w.drew) (h12:∀x y,I x→Below x.heap.size x y→S x y) (hIS:∀x y,I x→S x y→I y) (hd:Gi l a.tmps.size=true) (he:Dc l=true)
  (hops:OwedAll7 P l Q sat I S q a w 0 l)
  (hend:∀(f:Nat→Value) (w':World),I w'→Co sat fin f w' 0 l→Q .normal (Al l a f) w'):
  (Code.region id l.toArray true).wp P Q a w:=by
 refine Je (C:=fun _ _=>True) (Y:=fun listed x=>I x∧((∀j,q=some j→listed.getD j false=false)→Below w.heap.size w x)) (R:=fun _ i x y=>Fh S q i x y) fin hm hd he ⟨h0,fun _=>⟨rfl,rfl,rfl,lR,fun _ _=>rfl⟩⟩ ?_ ?_ ?_ (fun _ _ _ _ _=>trivial) (fun _ f w' hY _ _ hf=>hend f w' hY.1 hf)
 ·intro i o ho listed a' x J hni hdep hfree K hK;have hO:=Qi l 0 hops i o ho;rw[cQ]at hO;exact hO a' x J.wld.1 (fun hqi=>J.wld.2 fun j hj=>Ol J.closed hni (by rw[←hj];exact hqi)) hfree (Hv _ fun e hm hb=>J.facts _ (hdep e hm hb) trivial) K hK
 ·intro i o listed x y hol hcl hsz hni _ hY hR;refine⟨hIS _ _ hY.1 (Jf h12 hY.1 hR),fun hpre=> ?_⟩;have hpr:=hY.2 fun j hj=>Hw hni (hpre j hj);exact hpr.trans ((Jg (fun e=>Hx (by rw[hsz];exact Dj hol) (hpre i e.symm) rfl) hR).mono hpr.size)
 ·intro i j o oj listed x y hol hoj hcl hsz hni hdep hlj _ hY hR;refine⟨trivial,fun v hv=> ?_⟩
  by_cases hjq:some j=q
  ·refine(Fl sat q hk).2 j _ _ _ hjq hv hY.1 (Jg ?_ hR);rw[←hjq];intro e;cases e;rw[hni]at hlj;cases hlj
  ·exact(Fl sat q hk).1 j _ _ _ hjq hv hY.1 (Jf h12 hY.1 hR)
theorem Ao {P:Program} {l:List Oper} {Q:Exit→Act→World→Prop} {sat:List Eg} {I:World→Prop} {S:World→World→Prop} {q:Option Nat} {a0:Act} {W:World} {i:Nat} {o:Oper}
  (h:∀(a:Act) (w:World),I w→(Ee l q i=true→Below W.heap.size W w)→(∀s,Cd l i s=true→a.tmps[s]?.getD undef=a0.tmps[s]?.getD undef)→Bc sat l a w o.after.toList→
   Region.wanted o (yielded l.toArray a.tmps)=true∧∀K:Act→World→Prop,(∀v w',(sat.getD i (fun _ _=>True)) (Bs o a v) w'→Fh S q i w w'→K (a.put o.dst v) w')→Oper.wp P o a w K Q):Yk P l Q sat I S q a0 W i o:=by
 intro a w hb hq ho hf K hK;rw[if_pos (h a w hb hq ho hf).1];exact(h a w hb hq ho hf).2 K hK
theorem Bk {o:Oper} {ops:Array Oper} {tmps:Array Value} {j:Nat} {b:Bool} {oj:Oper} {s:Tmp} {v:Value}(hg:o.guard=some (j,b))(hj:ops[j]? =some oj)(hs:oj.dst=some s)(hv:tmps[s]?.getD undef=v)(hne:v≠ .bool b):Region.wanted o (yielded ops tmps)=false:=by
 have hy:yielded ops tmps j≠some b:=by
  unfold yielded;rw[hj,cI,hs,cI];cases ht:tmps[s]? with
  |none=>simp
  |some x=>
   rw[ht]at hv;have hx:x=v:=hv;subst hx;intro h;cases x<;>simp_all
 unfold Region.wanted;rw[hg];simp[hy]
theorem Cq {P:Program} {l:List Oper} {Q:Exit→Act→World→Prop} {sat:List Eg} {I:World→Prop} {S:World→World→Prop} {q:Option Nat} {a0:Act} {W:World} {i:Nat} {o:Oper} {d:Tmp} (hd:o.dst=some d) (hs:sat.getD i (fun _ _=>True)=fun v _=>v=undef) (hq:(some i==q)=false)
  (h:∀(a:Act) (w:World),Bc sat l a w o.after.toList→Region.wanted o (yielded l.toArray a.tmps)=false):Yk P l Q sat I S q a0 W i o:=by
 intro a w hb _ ho hf K hK;rw[if_neg (by rw[h a w hf];simp)];exact hK undef w (by rw[hs];unfold Bs;rw[hd]) (Ae hq bR)
section
def Sn (l:List Oper)(fin tl:List Bool)(q:Nat):Bool:=
 decide (q<l.length)&& !tl.getD q false&&(aF l.length).all fun i=>i==q||(if tl.getD i false then(match l[i]? with|some o=>(o.after.toList.any fun e=>Region.binds .any e&&e.on==q)&&o.after.toList.all fun e=> !Ok e||e.on==q||tl.getD e.on false|none=>false)else(!fin.getD i false&&(aF l.length).any fun j=>decide (i<j)&& !tl.getD j false&&match l[j]? with|some o=>o.after.toList.any fun e=>Region.binds .any e&&e.on==i|none=>false))
theorem Up {l:List Oper} {fin tl:List Bool} {q:Nat}(h:Sn l fin tl q=true):q<l.length∧tl.getD q false=false∧(∀i,i<l.length→i≠q→tl.getD i false=false→fin.getD i false=false∧∃j o,i<j∧j<l.length∧tl.getD j false=false∧l[j]? =some o∧∃e∈o.after.toList,Region.binds .any e=true∧e.on=i)∧
  (∀i o,l[i]? =some o→tl.getD i false=true→(∃e∈o.after.toList,Region.binds .any e=true∧e.on=q)∧∀e∈o.after.toList,Ok e=true→e.on=q∨tl.getD e.on false=true):=by
 unfold Sn at h;rw[cC,cC,decide_eq_true_iff,cE]at h;refine⟨h.1.1,h.1.2,fun i hi hne htl=> ?_,fun i o ho htl=> ?_⟩
 ·have h2:=List.all_eq_true.1 h.2 i (List.mem_range.2 hi);rw[htl,cD,beq_iff_eq]at h2;rcases h2 with h2|h2
  ·exact absurd h2 hne
  ·simp only[cF,if_false,cC,cE]at h2;obtain⟨h2,h3⟩:=h2;refine⟨h2,?_⟩;obtain⟨j,hj,h3⟩:=List.any_eq_true.1 h3;simp only[cC,decide_eq_true_iff,cE]at h3;obtain⟨⟨hij,htj⟩,h3⟩:=h3;cases ho:l[j]? with
   |none=>rw[ho]at h3;cases h3
   |some o=>
    rw[ho]at h3;simp only[bT,cC,beq_iff_eq]at h3;obtain⟨e,he,hb,hei⟩:=h3;exact⟨j,o,hij,List.mem_range.1 hj,htj,ho,e,he,hb,hei⟩
 ·have hi:i<l.length:=by
   rcases aB i l.length with h|h
   ·exact h
   ·rw[aK h]at ho;cases ho
  have h2:=List.all_eq_true.1 h.2 i (List.mem_range.2 hi);rw[htl,cD,beq_iff_eq,ho]at h2;rcases h2 with h2|h2
  ·subst h2;rw[h.1.2]at htl;cases htl
  ·simp only[if_true,cC,bT,beq_iff_eq,bU,cD,cE]at h2;obtain⟨⟨e,he,hb,hei⟩,h3⟩:=h2;refine⟨⟨e,he,hb,hei⟩,fun e' he' hn=> ?_⟩;rcases h3 e' he' with(h4|h4)|h4
   ·rw[h4]at hn;cases hn
   ·exact .inl h4
   ·exact .inr h4
theorem So {l:List Oper} {fin tl:List Bool} {q:Nat}(h:Sn l fin tl q=true) {listed:Array Bool}(hc:∀j o,listed.getD j false=true→l[j]? =some o→∀e∈o.after.toList,Region.binds .any e=true→listed.getD e.on false=true)(hq:listed.getD q false=true):
  ∀n i,l.length-i≤n→i<l.length→tl.getD i false=false→listed.getD i false=true:=by
 intro n
 induction n with
 |zero=>intro i h1 h2;omega
 |succ n ih=>
  intro i h1 h2 h3
  by_cases hiq:i=q
  ·subst hiq;exact hq
  ·obtain⟨_,j,o,hij,hj,htj,ho,e,he,hb,hei⟩:=(Up h).2.2.1 i h2 hiq h3;have:=hc j o (ih j (by omega) hj htj) ho e he hb;rw[hei]at this;exact this
def Sp (P:Program)(l:List Oper)(Q:Exit→Act→World→Prop)(sat:List Eg)(I:World→Prop)(S:World→World→Prop)(q:Option Nat)(z:Nat)(tl:List Bool)(a0:Act)(W:World)(i:Nat)(o:Oper):Prop:=
 ∀(a:Act) (w:World),(tl.getD i false=false→I w∧(Ee l q i=true→Below W.heap.size W w)∧Bc sat l a w o.after.toList)→(∀s,Cd l i s=true→a.tmps[s]?.getD undef=a0.tmps[s]?.getD undef)→Ei sat l a w o.after.toList→
  ∀K:Act→World→Prop,(∀v w',(sat.getD i (fun _ _=>True)) (Bs o a v) w'→(i≠z→bif tl.getD i false then Below w.heap.size w w' else Fh S q i w w')→K (a.put o.dst v) w')→
   if Region.wanted o (yielded l.toArray a.tmps)=true then Oper.wp P o a w K Q else K (a.put o.dst undef) w
def OwedAll8 (P:Program)(l:List Oper)(Q:Exit→Act→World→Prop)(sat:List Eg)(I:World→Prop)(S:World→World→Prop)(q:Option Nat)(z:Nat)(tl:List Bool)(a0:Act)(W:World):Nat→List Oper→Prop
 |_,[]=>True
 |i,o::os=>Sp P l Q sat I S q z tl a0 W i o∧OwedAll8 P l Q sat I S q z tl a0 W (i+1) os
section
variable {P:Program} {l:List Oper} {Q:Exit→Act→World→Prop} {sat:List Eg} {I:World→Prop} {S:World→World→Prop} {q:Option Nat} {z:Nat} {tl:List Bool} {a0:Act} {W:World} {i:Nat} {o:Oper}
theorem OwedAll8.nil:OwedAll8 P l Q sat I S q z tl a0 W i []:=trivial
theorem OwedAll8.cons {os:List Oper}(h:Sp P l Q sat I S q z tl a0 W i o)(t:OwedAll8 P l Q sat I S q z tl a0 W (i+1) os):OwedAll8 P l Q sat I S q z tl a0 W i (o::os):=⟨h,t⟩
theorem Jw:∀(os:List Oper) (k:Nat),OwedAll8 P l Q sat I S q z tl a0 W k os→∀i o,os[i]? =some o→Sp P l Q sat I S q z tl a0 W (k+i) o:=by
 intro os
 induction os with
 |nil=>intro k _ i o h;simp at h
 |cons x os ih=>
  intro k h i o ho;cases i with
  |zero=>simp at ho;subst ho;exact h.1
  |succ i=>
   have:=ih (k+1) h.2 i o (by simpa using ho);rw[show k+(i+1)=k+1+i by omega];exact this
theorem Fy {id:Nat} {a:Act} {w:World} (sat:List Eg) (fin:List Bool) (I:World→Prop) (S:World→World→Prop) (q:Option Nat) (z:Nat) (tl:List Bool) (hm:P.follows .mixedOrders=true)
  (hk:∀j,j≠z→tl.getD j false=false→(∀v x y,some j≠q→(sat.getD j (fun _ _=>True)) v x→I x→S x y→(sat.getD j (fun _ _=>True)) v y)∧∀v x y,some j=q→(sat.getD j (fun _ _=>True)) v x→I x→Below x.heap.size x y→(sat.getD j (fun _ _=>True)) v y)
  (hkt:∀i j,tl.getD i false=true→j=z∨tl.getD j false=true→∀v x y,(sat.getD j (fun _ _=>True)) v x→Below x.heap.size x y→(sat.getD j (fun _ _=>True)) v y)
  (h0:I w.drew) (h12:∀x y,I x→Below x.heap.size x y→S x y) (hIS:∀x y,I x→S x y→I y) (hd:Gi l a.tmps.size=true) (he:Dc l=true) (hla:Sn l fin tl z=true)
  (hops:OwedAll8 P l Q sat I S q z tl a w 0 l)
  (hend:∀(f:Nat→Value) (w':World),Co sat fin f w' 0 l→Q .normal (Al l a f) w'):
  (Code.region id l.toArray true).wp P Q a w:=by
 have hto:=Up hla
 -- ahead of z nothing of the tail is done
 have hzi:∀(i:Nat) (o:Oper) (listed:Array Bool),l[i]? =some o→Gr l listed→listed.getD i false=false→tl.getD i false=false→listed.getD z false=false:=by
  intro i o listed ho hc hni htl
  by_cases hiz:i=z
  ·rw[←hiz];exact hni
  ·cases hb:listed.getD z false with
   |false=>rfl
   |true=>
    have:=So hla hc hb (l.length-i) i lR (Dj ho) htl;rw[hni]at this;cases this
 refine Je (C:=fun listed i=>i=z∨tl.getD i false=true∨listed.getD z false=false) (Y:=fun listed x=>listed.getD z false=false→I x∧((∀j,q=some j→listed.getD j false=false)→Below w.heap.size w x))
  (R:=fun _ i x y=>i≠z→bif tl.getD i false then Below x.heap.size x y else Fh S q i x y) fin hm hd he (fun _=>⟨h0,fun _=>⟨rfl,rfl,rfl,lR,fun _ _=>rfl⟩⟩) ?_ ?_ ?_ ?_ (fun _ f w' _ _ _ hf=>hend f w' hf)
 ·intro i o ho listed a' x J hni hdep hfree K hK;have hO:=Jw l 0 hops i o ho;rw[cQ]at hO;refine hO a' x (fun htl=> ?_) hfree (Lj _ fun e hm hb=>J.facts _ (hdep e hm (Li hb)) ?_) K hK
  ·have hz:=hzi i o listed ho J.closed hni htl;exact⟨(J.wld hz).1,fun hqi=>(J.wld hz).2 fun j hj=>Ol J.closed hni (by rw[←hj];exact hqi),Hv _ fun e hm hb=>J.facts _ (hdep e hm hb) (.inr (.inr hz))⟩
  ·cases htl:tl.getD i false with
   |false=>exact .inr (.inr (hzi i o listed ho J.closed hni htl))
   |true=>
    rcases(hto.2.2.2 i o ho htl).2 e hm hb with h|h
    ·exact .inl h
    ·exact .inr (.inl h)
 ·intro i o listed x y hol hcl hsz hni hdep hY hR hz2;have hz:=Hw hni hz2;have hR:=hR (Hx (by rw[hsz];exact Dj hol) hz2);have htl:tl.getD i false=false:=by
   cases htl:tl.getD i false with
   |false=>rfl
   |true=>
    obtain⟨e,he,hb,hei⟩:=(hto.2.2.2 i o hol htl).1;have:=hdep e he hb;rw[hei,hz]at this;cases this
  rw[htl]at hR;obtain⟨hI,hB⟩:=hY hz;refine⟨hIS _ _ hI (Jf h12 hI hR),fun hpre=> ?_⟩;have hpr:=hB fun j hj=>Hw hni (hpre j hj);exact hpr.trans ((Jg (fun e=>Hx (by rw[hsz];exact Dj hol) (hpre i e.symm) rfl) hR).mono hpr.size)
 ·intro i j o oj listed x y hol hoj hcl hsz hni hdep hlj hC hY hR;cases htl:tl.getD i false with
  |true=>
   obtain⟨e,he,hb,hei⟩:=(hto.2.2.2 i o hol htl).1;have hzl:=hdep e he hb;rw[hei]at hzl;have hiz:i≠z:=by
    intro e;rw[e,hto.2.1]at htl;cases htl
   have hR:=hR hiz;rw[htl]at hR;have hjz:j=z∨tl.getD j false=true:=by
    rcases hC with h|h|h
    ·exact .inl h
    ·exact .inr h
    ·have:=Hw hni h;rw[hzl]at this;cases this
   exact⟨hjz.elim .inl fun h=> .inr (.inl h),fun v hv=>hkt i j htl hjz v _ _ hv hR⟩
  |false=>
   have hz:=hzi i o listed hol hcl hni htl;have hjz:j≠z:=by
    intro e;rw[e,hz]at hlj;cases hlj
   have hjt:tl.getD j false=false:=by
    cases hjt:tl.getD j false with
    |false=>rfl
    |true=>
     obtain⟨e,he,hb,hei⟩:=(hto.2.2.2 j oj hoj hjt).1;have:=hcl j oj hlj hoj e he hb;rw[hei,hz]at this;cases this
   have hiz:i≠z:=by
    rcases hC with h|h|h
    ·exact absurd h hjz
    ·rw[hjt]at h;cases h
    ·exact Hx (by rw[hsz];exact Dj hol) h
   have hR:=hR hiz;rw[htl]at hR;obtain⟨hI,_⟩:=hY hz;refine⟨.inr (.inr hz),fun v hv=> ?_⟩
   by_cases hjq:some j=q
   ·refine(hk j hjz hjt).2 v _ _ hjq hv hI (Jg ?_ hR);rw[←hjq];intro e;cases e;rw[hni]at hlj;cases hlj
   ·exact(hk j hjz hjt).1 v _ _ hjq hv hI (Jf h12 hI hR)
 ·intro listed i _ hil hfi
  by_cases hiz:i=z
  ·exact .inl hiz
  ·cases htl:tl.getD i false with
   |true=>exact .inr (.inl rfl)
   |false=>rw[(hto.2.2.1 i hil hiz htl).1]at hfi;cases hfi
theorem Ay {id:Nat} {a:Act} {w:World} (sat:List Eg) (fin:List Bool) (I:World→Prop) (S:World→World→Prop) (q:Option Nat) (z:Nat) (hm:P.follows .mixedOrders=true) (hk:Cu I S q (sat.set z fun _ _=>True)) (h0:I w.drew) (h12:∀x y,I x→Below x.heap.size x y→S x y) (hIS:∀x y,I x→S x y→I y) (hd:Gi l a.tmps.size=true) (he:Dc l=true) (hla:Sn l fin [] z=true)
  (hops:OwedAll8 P l Q sat I S q z [] a w 0 l)
  (hend:∀(f:Nat→Value) (w':World),Co sat fin f w' 0 l→Q .normal (Al l a f) w'):
  (Code.region id l.toArray true).wp P Q a w:=by
 refine Fy sat fin I S q z [] hm (fun j hj _=> ?_) (fun i j h=>by simp at h) h0 h12 hIS hd he hla hops hend;have hset:(sat.set z fun _ _=>True).getD j (fun _ _=>True)=sat.getD j (fun _ _=>True):=by
  rw[aH,bV (fun e=>hj e.symm),←aH]
 have h:=Fl _ q hk;exact⟨fun v x y hq hv=>hset▸h.1 j v x y (fun e=>hq e) (hset▸hv),fun v x y hq hv=>hset▸h.2 j v x y hq (hset▸hv)⟩
theorem Zb4 (h:∀(a:Act) (w:World),I w→(Ee l q i=true→Below W.heap.size W w)→(∀s,Cd l i s=true→a.tmps[s]?.getD undef=a0.tmps[s]?.getD undef)→Bc sat l a w o.after.toList→
      Region.wanted o (yielded l.toArray a.tmps)=true∧∀K:Act→World→Prop,(∀v w',(sat.getD i (fun _ _=>True)) (Bs o a v) w'→(i≠z→Fh S q i w w')→K (a.put o.dst v) w')→Oper.wp P o a w K Q):Sp P l Q sat I S q z [] a0 W i o:=by
 intro a w hb ho _ K hK;obtain⟨h1,h2,h3⟩:=hb rfl;rw[if_pos (h a w h1 h2 ho h3).1];exact(h a w h1 h2 ho h3).2 K hK
theorem Zb5 (htl:tl.getD i false=false) (h:∀(a:Act) (w:World),I w→(Ee l q i=true→Below W.heap.size W w)→(∀s,Cd l i s=true→a.tmps[s]?.getD undef=a0.tmps[s]?.getD undef)→Bc sat l a w o.after.toList→
      Region.wanted o (yielded l.toArray a.tmps)=true∧∀K:Act→World→Prop,(∀v w',(sat.getD i (fun _ _=>True)) (Bs o a v) w'→(i≠z→Fh S q i w w')→K (a.put o.dst v) w')→Oper.wp P o a w K Q):Sp P l Q sat I S q z tl a0 W i o:=by
 intro a w hb ho _ K hK;obtain⟨h1,h2,h3⟩:=hb htl;rw[if_pos (h a w h1 h2 ho h3).1];exact(h a w h1 h2 ho h3).2 K fun v w' hv hs=>hK v w' hv fun hiz=>by rw[htl];exact hs hiz
theorem Zb6 (htl:tl.getD i false=true) (h:∀(a:Act) (w:World),(∀s,Cd l i s=true→a.tmps[s]?.getD undef=a0.tmps[s]?.getD undef)→Ei sat l a w o.after.toList→
      Region.wanted o (yielded l.toArray a.tmps)=true∧∀K:Act→World→Prop,(∀v w',(sat.getD i (fun _ _=>True)) (Bs o a v) w'→Below w.heap.size w w'→K (a.put o.dst v) w')→Oper.wp P o a w K Q):Sp P l Q sat I S q z tl a0 W i o:=by
 intro a w _ ho hf K hK;rw[if_pos (h a w ho hf).1];exact(h a w ho hf).2 K fun v w' hv hs=>hK v w' hv fun _=>by rw[htl];exact hs
end
end
section
abbrev eF (x:Value):Eg:=fun v _=>v=x
theorem eqn {v x:Value}(h:v=x):v=x:=h
def isB (b:Bool):Value→Bool
 | .bool c=>c==b
 |_=>false
theorem Zf3 {b:Bool} {v:Value}(h:isB b v=false):v≠ .bool b:=by
 intro e;rw[e]at h;simp[isB]at h
section
variable {P:Program} {l:List Oper} {Q:Exit→Act→World→Prop} {sat:List Eg} {I:World→Prop} {S:World→World→Prop} {q:Option Nat} {a0:Act} {W:World} {i:Nat} {o:Oper} {os:List Oper}
def dn:Option Nat→Option Nat
 |some (q+1)=>some q
 |_=>none
theorem kX {s:Eg}(h:∀v x y,s v x→I x→S x y→s v y)(h2:∀v x y,s v x→I x→Below x.heap.size x y→s v y)(t:Cu I S (dn q) sat):Cu I S q (s::sat):=by
 match q,t with
 |none,t=>exact⟨h,t⟩
 |some 0,t=>exact⟨h2,t⟩
 |some (q+1),t=>exact⟨h,t⟩
theorem kE {x:Value}(t:Cu I S (dn q) sat):Cu I S q (eF x::sat):=kX (fun _ _ _ h _ _=>h) (fun _ _ _ h _ _=>h) t
theorem gO (h:∀(a:Act) (w:World),I w→(Ee l q i=true→Below W.heap.size W w)→(∀s,Cd l i s=true→a.tmps[s]?.getD undef=a0.tmps[s]?.getD undef)→Bc sat l a w o.after.toList→
      Region.wanted o (yielded l.toArray a.tmps)=true∧∀K:Act→World→Prop,(∀v w',(sat.getD i (fun _ _=>True)) (Bs o a v) w'→Fh S q i w w'→K (a.put o.dst v) w')→Oper.wp P o a w K Q)
  (t:OwedAll7 P l Q sat I S q a0 W (i+1) os):OwedAll7 P l Q sat I S q a0 W i (o::os):=.cons (Ao h) t
theorem gP (h:∀(a:Act) (w:World),I w→(Ee l q i=true→Below W.heap.size W w)→(∀s,Cd l i s=true→a.tmps[s]?.getD undef=a0.tmps[s]?.getD undef)→Bc sat l a w o.after.toList→
      Region.wanted o (yielded l.toArray a.tmps)=true∧∀K:Act→World→Prop,(∀v,(sat.getD i (fun _ _=>True)) (Bs o a v) w→K (a.put o.dst v) w)→Hid (Oper.wp P o a w K Q))
  (hn:(some i==q)=false) (t:OwedAll7 P l Q sat I S q a0 W (i+1) os):OwedAll7 P l Q sat I S q a0 W i (o::os):=
 gO (fun a w h1 h2 h3 h4=>⟨(h a w h1 h2 h3 h4).1,fun K hK=>((h a w h1 h2 h3 h4).2 K fun v hv=>hK v w hv (Ae hn bR)).out⟩) t
theorem fO {j:Nat} {b:Bool} {oj:Oper} {s:Tmp} {v:Value} {d:Tmp} (hd:o.dst=some d) (hs:sat.getD i (fun _ _=>True)=fun v _=>v=undef) (hn:(some i==q)=false) (hg:o.guard=some (j,b)) (hj:l.toArray[j]? =some oj) (ht:oj.dst=some s)
  (hv:∀(a:Act) (w:World),Bc sat l a w o.after.toList→a.tmps[s]?.getD undef=v) (hne:isB b v=false)
  (t:OwedAll7 P l Q sat I S q a0 W (i+1) os):OwedAll7 P l Q sat I S q a0 W i (o::os):=
 .cons (Cq hd hs hn fun a w hf=>Bk hg hj ht (hv a w hf) (Zf3 hne)) t
theorem gOw (hw:Ee l q i=true) (h:∀(a:Act) (w:World),I w→Below W.heap.size W w→(∀s,Cd l i s=true→a.tmps[s]?.getD undef=a0.tmps[s]?.getD undef)→Bc sat l a w o.after.toList→
      Region.wanted o (yielded l.toArray a.tmps)=true∧∀K:Act→World→Prop,(∀v w',(sat.getD i (fun _ _=>True)) (Bs o a v) w'→Fh S q i w w'→K (a.put o.dst v) w')→Oper.wp P o a w K Q)
  (t:OwedAll7 P l Q sat I S q a0 W (i+1) os):OwedAll7 P l Q sat I S q a0 W i (o::os):=gO (fun a w h1 h2=>h a w h1 (h2 hw)) t
theorem gPw (hw:Ee l q i=true) (h:∀(a:Act) (w:World),I w→Below W.heap.size W w→(∀s,Cd l i s=true→a.tmps[s]?.getD undef=a0.tmps[s]?.getD undef)→Bc sat l a w o.after.toList→
      Region.wanted o (yielded l.toArray a.tmps)=true∧∀K:Act→World→Prop,(∀v,(sat.getD i (fun _ _=>True)) (Bs o a v) w→K (a.put o.dst v) w)→Hid (Oper.wp P o a w K Q))
  (hn:(some i==q)=false) (t:OwedAll7 P l Q sat I S q a0 W (i+1) os):OwedAll7 P l Q sat I S q a0 W i (o::os):=gP (fun a w h1 h2=>h a w h1 (h2 hw)) hn t
theorem Dg {id:Nat} {a:Act} {w:World} (sat:List Eg) (hm:P.follows .mixedOrders=true) (hd:Gi l a.tmps.size=true) (he:Dc l=true) (hk:Cu (fun x=>Below w.heap.size w x) (fun x y=>Below x.heap.size x y) none sat)
  (hops:OwedAll7 P l Q sat (fun x=>Below w.heap.size w x) (fun x y=>Below x.heap.size x y) none a w 0 l)
  (hend:∀(f:Nat→Value) (w':World),Below w.heap.size w w'→Co sat (bW l.length true) f w' 0 l→Q .normal (Al l a f) w'):
  (Code.region id l.toArray true).wp P Q a w:=
 Bh sat _ _ _ none hm hk ⟨rfl,rfl,rfl,lR,fun _ _=>rfl⟩ (fun _ _ _ h=>h) (fun _ _ hx hs=>hx.trans (hs.mono hx.size)) hd he hops hend
theorem bX {s:Eg}(h:∀v x y,s v x→Below x.heap.size x y→s v y)(t:Cu I (fun x y=>Below x.heap.size x y) none sat):Cu I (fun x y=>Below x.heap.size x y) none (s::sat):=⟨fun v x y hv _ hs=>h v x y hv hs,t⟩
theorem gB (h:∀(a:Act) (w:World),Below W.heap.size W w→(∀s,Cd l i s=true→a.tmps[s]?.getD undef=a0.tmps[s]?.getD undef)→Bc sat l a w o.after.toList→
      Region.wanted o (yielded l.toArray a.tmps)=true∧∀K:Act→World→Prop,(∀v w',(sat.getD i (fun _ _=>True)) (Bs o a v) w'→Below w.heap.size w w'→K (a.put o.dst v) w')→Oper.wp P o a w K Q)
  (t:OwedAll7 P l Q sat (fun x=>Below W.heap.size W x) S none a0 W (i+1) os):OwedAll7 P l Q sat (fun x=>Below W.heap.size W x) S none a0 W i (o::os):=
 gO (fun a w h1 _ h3 h4=>⟨(h a w h1 h3 h4).1,fun K hK=>(h a w h1 h3 h4).2 K fun v w' hv hb=>hK v w' hv (Ae rfl hb)⟩) t
theorem gQ (h:∀(a:Act) (w:World),Below W.heap.size W w→(∀s,Cd l i s=true→a.tmps[s]?.getD undef=a0.tmps[s]?.getD undef)→Bc sat l a w o.after.toList→
      Region.wanted o (yielded l.toArray a.tmps)=true∧∀K:Act→World→Prop,(∀v,(sat.getD i (fun _ _=>True)) (Bs o a v) w→K (a.put o.dst v) w)→Hid (Oper.wp P o a w K Q))
  (t:OwedAll7 P l Q sat (fun x=>Below W.heap.size W x) S none a0 W (i+1) os):OwedAll7 P l Q sat (fun x=>Below W.heap.size W x) S none a0 W i (o::os):=
 gP (fun a w h1 _ h3 h4=>h a w h1 h3 h4) rfl t
variable {z:Nat}
theorem gO8 (h:∀(a:Act) (w:World),I w→(Ee l q i=true→Below W.heap.size W w)→(∀s,Cd l i s=true→a.tmps[s]?.getD undef=a0.tmps[s]?.getD undef)→Bc sat l a w o.after.toList→
      Region.wanted o (yielded l.toArray a.tmps)=true∧∀K:Act→World→Prop,(∀v w',(sat.getD i (fun _ _=>True)) (Bs o a v) w'→(i≠z→Fh S q i w w')→K (a.put o.dst v) w')→Oper.wp P o a w K Q)
  (t:OwedAll8 P l Q sat I S q z [] a0 W (i+1) os):OwedAll8 P l Q sat I S q z [] a0 W i (o::os):=.cons (Zb4 h) t
theorem gP8 (h:∀(a:Act) (w:World),I w→(Ee l q i=true→Below W.heap.size W w)→(∀s,Cd l i s=true→a.tmps[s]?.getD undef=a0.tmps[s]?.getD undef)→Bc sat l a w o.after.toList→
      Region.wanted o (yielded l.toArray a.tmps)=true∧∀K:Act→World→Prop,(∀v,(sat.getD i (fun _ _=>True)) (Bs o a v) w→K (a.put o.dst v) w)→Hid (Oper.wp P o a w K Q))
  (hn:(some i==q)=false) (t:OwedAll8 P l Q sat I S q z [] a0 W (i+1) os):OwedAll8 P l Q sat I S q z [] a0 W i (o::os):=
 gO8 (fun a w h1 h2 h3 h4=>⟨(h a w h1 h2 h3 h4).1,fun K hK=>((h a w h1 h2 h3 h4).2 K fun v hv=>hK v w hv fun _=>Ae hn bR).out⟩) t
theorem Nf (hw:Ee l q i=true) (h:∀(a:Act) (w:World),I w→Below W.heap.size W w→(∀s,Cd l i s=true→a.tmps[s]?.getD undef=a0.tmps[s]?.getD undef)→Bc sat l a w o.after.toList→
      Region.wanted o (yielded l.toArray a.tmps)=true∧∀K:Act→World→Prop,(∀v w',(sat.getD i (fun _ _=>True)) (Bs o a v) w'→(i≠z→Fh S q i w w')→K (a.put o.dst v) w')→Oper.wp P o a w K Q)
  (t:OwedAll8 P l Q sat I S q z [] a0 W (i+1) os):OwedAll8 P l Q sat I S q z [] a0 W i (o::os):=gO8 (fun a w h1 h2=>h a w h1 (h2 hw)) t
theorem Yl (hw:Ee l q i=true) (h:∀(a:Act) (w:World),I w→Below W.heap.size W w→(∀s,Cd l i s=true→a.tmps[s]?.getD undef=a0.tmps[s]?.getD undef)→Bc sat l a w o.after.toList→
      Region.wanted o (yielded l.toArray a.tmps)=true∧∀K:Act→World→Prop,(∀v,(sat.getD i (fun _ _=>True)) (Bs o a v) w→K (a.put o.dst v) w)→Hid (Oper.wp P o a w K Q))
  (hn:(some i==q)=false) (t:OwedAll8 P l Q sat I S q z [] a0 W (i+1) os):OwedAll8 P l Q sat I S q z [] a0 W i (o::os):=gP8 (fun a w h1 h2=>h a w h1 (h2 hw)) hn t
variable {tl:List Bool}
theorem Om {id:Nat} {a:Act} {w:World} (sat:List Eg) (I:World→Prop) (S:World→World→Prop) (q:Option Nat) (z:Nat) (hm:P.follows .mixedOrders=true) (hd:Gi l a.tmps.size=true) (he:Dc l=true)
  (hla:Sn l (bW z false++[true,true]) (bW (z+1) false++[true]) z=true) (hk:Cu I S q ((sat.set z fun _ _=>True).set (z+1) fun _ _=>True))
  (hz:∀v x y,(sat.getD z (fun _ _=>True)) v x→Below x.heap.size x y→(sat.getD z (fun _ _=>True)) v y) (hz1:∀v x y,(sat.getD (z+1) (fun _ _=>True)) v x→Below x.heap.size x y→(sat.getD (z+1) (fun _ _=>True)) v y)
  (h0:I w.drew) (h12:∀x y,I x→Below x.heap.size x y→S x y) (hIS:∀x y,I x→S x y→I y)
  (hops:OwedAll8 P l Q sat I S q z (bW (z+1) false++[true]) a w 0 l)
  (hend:∀(f:Nat→Value) (w':World),Co sat (bW z false++[true,true]) f w' 0 l→Q .normal (Al l a f) w'):
  (Code.region id l.toArray true).wp P Q a w:=by
 have htl:∀j,(bW (z+1) false++[true]).getD j false=true→j=z+1:=by
  intro j h;rw[aH,bY]at h
  split at h
  ·rename_i hj
   rw[bZ]at h
   split at h<;>simp at h
  ·rename_i hj
   simp only[cA]at hj h;cases hx:j-(z+1)with
   |zero=>omega
   |succ n=>rw[hx]at h;simp at h
 refine Fy sat _ I S q z _ hm (fun j hj ht=> ?_) (fun i j _ hj v x y hv hb=> ?_) h0 h12 hIS hd he hla hops hend
 ·have hj1:j≠z+1:=by
   rintro rfl;rw[aH,cB (by simp)]at ht;simp at ht
  have hset:((sat.set z fun _ _=>True).set (z+1) fun _ _=>True).getD j (fun _ _=>True)=sat.getD j (fun _ _=>True):=by
   rw[aH,bV (fun e=>hj1 e.symm),bV (fun e=>hj e.symm),←aH]
  have h:=Fl _ q hk;exact⟨fun v x y hq hv=>hset▸h.1 j v x y (fun e=>hq e) (hset▸hv),fun v x y hq hv=>hset▸h.2 j v x y hq (hset▸hv)⟩
 ·rcases hj with rfl|hj
  ·exact hz v x y hv hb
  ·rw[htl j hj]at hv⊢;exact hz1 v x y hv hb
theorem gO9 (htl:tl.getD i false=false) (h:∀(a:Act) (w:World),I w→(Ee l q i=true→Below W.heap.size W w)→(∀s,Cd l i s=true→a.tmps[s]?.getD undef=a0.tmps[s]?.getD undef)→Bc sat l a w o.after.toList→
      Region.wanted o (yielded l.toArray a.tmps)=true∧∀K:Act→World→Prop,(∀v w',(sat.getD i (fun _ _=>True)) (Bs o a v) w'→(i≠z→Fh S q i w w')→K (a.put o.dst v) w')→Oper.wp P o a w K Q)
  (t:OwedAll8 P l Q sat I S q z tl a0 W (i+1) os):OwedAll8 P l Q sat I S q z tl a0 W i (o::os):=.cons (Zb5 htl h) t
theorem gP9 (htl:tl.getD i false=false) (h:∀(a:Act) (w:World),I w→(Ee l q i=true→Below W.heap.size W w)→(∀s,Cd l i s=true→a.tmps[s]?.getD undef=a0.tmps[s]?.getD undef)→Bc sat l a w o.after.toList→
      Region.wanted o (yielded l.toArray a.tmps)=true∧∀K:Act→World→Prop,(∀v,(sat.getD i (fun _ _=>True)) (Bs o a v) w→K (a.put o.dst v) w)→Hid (Oper.wp P o a w K Q))
  (hn:(some i==q)=false) (t:OwedAll8 P l Q sat I S q z tl a0 W (i+1) os):OwedAll8 P l Q sat I S q z tl a0 W i (o::os):=
 gO9 htl (fun a w h1 h2 h3 h4=>⟨(h a w h1 h2 h3 h4).1,fun K hK=>((h a w h1 h2 h3 h4).2 K fun v hv=>hK v w hv fun _=>Ae hn bR).out⟩) t
theorem gT9 (htl:tl.getD i false=true) (h:∀(a:Act) (w:World),(∀s,Cd l i s=true→a.tmps[s]?.getD undef=a0.tmps[s]?.getD undef)→Ei sat l a w o.after.toList→
      Region.wanted o (yielded l.toArray a.tmps)=true∧∀K:Act→World→Prop,(∀v w',(sat.getD i (fun _ _=>True)) (Bs o a v) w'→Below w.heap.size w w'→K (a.put o.dst v) w')→Oper.wp P o a w K Q)
  (t:OwedAll8 P l Q sat I S q z tl a0 W (i+1) os):OwedAll8 P l Q sat I S q z tl a0 W i (o::os):=.cons (Zb6 htl h) t
end
end
section
def Wo (l:List Oper)(fin tl:List Bool)(q:Nat):Bool:=
 decide (q<l.length)&& !tl.getD q false&&(aF l.length).all fun i=>i==q||(if tl.getD i false then(match l[i]? with|some o=>(o.after.toList.any fun e=>Region.binds .any e&&(e.on==q||(decide (e.on<i)&&tl.getD e.on false)))&&o.after.toList.all fun e=> !Ok e||e.on==q||tl.getD e.on false|none=>false)else(!fin.getD i false&&(aF l.length).any fun j=>decide (i<j)&& !tl.getD j false&&match l[j]? with|some o=>o.after.toList.any fun e=>Region.binds .any e&&e.on==i|none=>false))
theorem Ii {l:List Oper} {fin tl:List Bool} {q:Nat}(h:Wo l fin tl q=true):q<l.length∧tl.getD q false=false∧(∀i,i<l.length→i≠q→tl.getD i false=false→fin.getD i false=false∧∃j o,i<j∧j<l.length∧tl.getD j false=false∧l[j]? =some o∧∃e∈o.after.toList,Region.binds .any e=true∧e.on=i)∧
  (∀i o,l[i]? =some o→tl.getD i false=true→(∃e∈o.after.toList,Region.binds .any e=true∧(e.on=q∨e.on<i∧tl.getD e.on false=true))∧∀e∈o.after.toList,Ok e=true→e.on=q∨tl.getD e.on false=true):=by
 unfold Wo at h;rw[cC,cC,decide_eq_true_iff,cE]at h;refine⟨h.1.1,h.1.2,fun i hi hne htl=> ?_,fun i o ho htl=> ?_⟩
 ·have h2:=List.all_eq_true.1 h.2 i (List.mem_range.2 hi);rw[htl,cD,beq_iff_eq]at h2;rcases h2 with h2|h2
  ·exact absurd h2 hne
  ·simp only[cF,if_false,cC,cE]at h2;obtain⟨h2,h3⟩:=h2;refine⟨h2,?_⟩;obtain⟨j,hj,h3⟩:=List.any_eq_true.1 h3;simp only[cC,decide_eq_true_iff,cE]at h3;obtain⟨⟨hij,htj⟩,h3⟩:=h3;cases ho:l[j]? with
   |none=>rw[ho]at h3;cases h3
   |some o=>
    rw[ho]at h3;simp only[bT,cC,beq_iff_eq]at h3;obtain⟨e,he,hb,hei⟩:=h3;exact⟨j,o,hij,List.mem_range.1 hj,htj,ho,e,he,hb,hei⟩
 ·have hi:i<l.length:=by
   rcases aB i l.length with h|h
   ·exact h
   ·rw[aK h]at ho;cases ho
  have h2:=List.all_eq_true.1 h.2 i (List.mem_range.2 hi);rw[htl,cD,beq_iff_eq,ho]at h2;rcases h2 with h2|h2
  ·subst h2;rw[h.1.2]at htl;cases htl
  ·simp only[if_true,cC,bT,beq_iff_eq,bU,cD,cE,decide_eq_true_eq]at h2;obtain⟨⟨e,he,hb,hei⟩,h3⟩:=h2;refine⟨⟨e,he,hb,hei⟩,fun e' he' hn=> ?_⟩;rcases h3 e' he' with(h4|h4)|h4
   ·rw[h4]at hn;cases hn
   ·exact .inl h4
   ·exact .inr h4
theorem Qj {l:List Oper} {fin tl:List Bool} {q:Nat}(h:Wo l fin tl q=true) {listed:Array Bool}(hc:∀j o,listed.getD j false=true→l[j]? =some o→∀e∈o.after.toList,Region.binds .any e=true→listed.getD e.on false=true)(hq:listed.getD q false=true):
  ∀n i,l.length-i≤n→i<l.length→tl.getD i false=false→listed.getD i false=true:=by
 intro n
 induction n with
 |zero=>intro i h1 h2;omega
 |succ n ih=>
  intro i h1 h2 h3
  by_cases hiq:i=q
  ·subst hiq;exact hq
  ·obtain⟨_,j,o,hij,hj,htj,ho,e,he,hb,hei⟩:=(Ii h).2.2.1 i h2 hiq h3;have:=hc j o (ih j (by omega) hj htj) ho e he hb;rw[hei]at this;exact this
theorem Sq {l:List Oper} {fin tl:List Bool} {q:Nat}(h:Wo l fin tl q=true) {listed:Array Bool}(hc:∀j o,listed.getD j false=true→l[j]? =some o→∀e∈o.after.toList,Region.binds .any e=true→listed.getD e.on false=true):
  ∀n i o,i≤n→l[i]? =some o→tl.getD i false=true→(∀e∈o.after.toList,Region.binds .any e=true→listed.getD e.on false=true)→listed.getD q false=true:=by
 intro n
 induction n with
 |zero=>
  intro i o hi ho ht hd;obtain⟨e,he,hb,hq|⟨hlt,-⟩⟩:=((Ii h).2.2.2 i o ho ht).1
  ·rw[←hq];exact hd e he hb
  ·omega
 |succ n ih=>
  intro i o hi ho ht hd;obtain⟨e,he,hb,hq|⟨hlt,htl⟩⟩:=((Ii h).2.2.2 i o ho ht).1
  ·rw[←hq];exact hd e he hb
  ·have hl:=hd e he hb;cases ho2:l[e.on]? with
   |none=>
    have hi2:i<l.length:=by
     rcases aB i l.length with h|h
     ·exact h
     ·rw[aK h]at ho;cases ho
    rw[aI (by omega)]at ho2;cases ho2
   |some o2=>exact ih e.on o2 (by omega) ho2 htl (hc e.on o2 hl ho2)
section
variable {P:Program} {l:List Oper} {Q:Exit→Act→World→Prop} {sat:List Eg} {I:World→Prop} {S:World→World→Prop} {q:Option Nat} {z:Nat} {tl:List Bool} {a0:Act} {W:World} {i:Nat} {o:Oper}
theorem Mv {id:Nat} {a:Act} {w:World} (sat:List Eg) (fin:List Bool) (I:World→Prop) (S:World→World→Prop) (q:Option Nat) (z:Nat) (tl:List Bool) (hm:P.follows .mixedOrders=true)
  (hk:∀j,j≠z→tl.getD j false=false→(∀v x y,some j≠q→(sat.getD j (fun _ _=>True)) v x→I x→S x y→(sat.getD j (fun _ _=>True)) v y)∧∀v x y,some j=q→(sat.getD j (fun _ _=>True)) v x→I x→Below x.heap.size x y→(sat.getD j (fun _ _=>True)) v y)
  (hkt:∀i j,tl.getD i false=true→j=z∨tl.getD j false=true→∀v x y,(sat.getD j (fun _ _=>True)) v x→Below x.heap.size x y→(sat.getD j (fun _ _=>True)) v y)
  (h0:I w.drew) (h12:∀x y,I x→Below x.heap.size x y→S x y) (hIS:∀x y,I x→S x y→I y) (hd:Gi l a.tmps.size=true) (he:Dc l=true) (hla:Wo l fin tl z=true)
  (hops:OwedAll8 P l Q sat I S q z tl a w 0 l)
  (hend:∀(f:Nat→Value) (w':World),Co sat fin f w' 0 l→Q .normal (Al l a f) w'):
  (Code.region id l.toArray true).wp P Q a w:=by
 have hto:=Ii hla
 -- ahead of z nothing of the tail is done
 have hzi:∀(i:Nat) (o:Oper) (listed:Array Bool),l[i]? =some o→Gr l listed→listed.getD i false=false→tl.getD i false=false→listed.getD z false=false:=by
  intro i o listed ho hc hni htl
  by_cases hiz:i=z
  ·rw[←hiz];exact hni
  ·cases hb:listed.getD z false with
   |false=>rfl
   |true=>
    have:=Qj hla hc hb (l.length-i) i lR (Dj ho) htl;rw[hni]at this;cases this
 refine Je (C:=fun listed i=>i=z∨tl.getD i false=true∨listed.getD z false=false) (Y:=fun listed x=>listed.getD z false=false→I x∧((∀j,q=some j→listed.getD j false=false)→Below w.heap.size w x))
  (R:=fun _ i x y=>i≠z→bif tl.getD i false then Below x.heap.size x y else Fh S q i x y) fin hm hd he (fun _=>⟨h0,fun _=>⟨rfl,rfl,rfl,lR,fun _ _=>rfl⟩⟩) ?_ ?_ ?_ ?_ (fun _ f w' _ _ _ hf=>hend f w' hf)
 ·intro i o ho listed a' x J hni hdep hfree K hK;have hO:=Jw l 0 hops i o ho;rw[cQ]at hO;refine hO a' x (fun htl=> ?_) hfree (Lj _ fun e hm hb=>J.facts _ (hdep e hm (Li hb)) ?_) K hK
  ·have hz:=hzi i o listed ho J.closed hni htl;exact⟨(J.wld hz).1,fun hqi=>(J.wld hz).2 fun j hj=>Ol J.closed hni (by rw[←hj];exact hqi),Hv _ fun e hm hb=>J.facts _ (hdep e hm hb) (.inr (.inr hz))⟩
  ·cases htl:tl.getD i false with
   |false=>exact .inr (.inr (hzi i o listed ho J.closed hni htl))
   |true=>
    rcases(hto.2.2.2 i o ho htl).2 e hm hb with h|h
    ·exact .inl h
    ·exact .inr (.inl h)
 ·intro i o listed x y hol hcl hsz hni hdep hY hR hz2;have hz:=Hw hni hz2;have hR:=hR (Hx (by rw[hsz];exact Dj hol) hz2);have htl:tl.getD i false=false:=by
   cases htl:tl.getD i false with
   |false=>rfl
   |true=>
    have:=Sq hla hcl i i o lR hol htl hdep;rw[hz]at this;cases this
  rw[htl]at hR;obtain⟨hI,hB⟩:=hY hz;refine⟨hIS _ _ hI (Jf h12 hI hR),fun hpre=> ?_⟩;have hpr:=hB fun j hj=>Hw hni (hpre j hj);exact hpr.trans ((Jg (fun e=>Hx (by rw[hsz];exact Dj hol) (hpre i e.symm) rfl) hR).mono hpr.size)
 ·intro i j o oj listed x y hol hoj hcl hsz hni hdep hlj hC hY hR;cases htl:tl.getD i false with
  |true=>
   have hzl:=Sq hla hcl i i o lR hol htl hdep;have hiz:i≠z:=by
    intro e;rw[e,hto.2.1]at htl;cases htl
   have hR:=hR hiz;rw[htl]at hR;have hjz:j=z∨tl.getD j false=true:=by
    rcases hC with h|h|h
    ·exact .inl h
    ·exact .inr h
    ·have:=Hw hni h;rw[hzl]at this;cases this
   exact⟨hjz.elim .inl fun h=> .inr (.inl h),fun v hv=>hkt i j htl hjz v _ _ hv hR⟩
  |false=>
   have hz:=hzi i o listed hol hcl hni htl;have hjz:j≠z:=by
    intro e;rw[e,hz]at hlj;cases hlj
   have hjt:tl.getD j false=false:=by
    cases hjt:tl.getD j false with
    |false=>rfl
    |true=>
     have:=Sq hla hcl j j oj lR hoj hjt (hcl j oj hlj hoj);rw[hz]at this;cases this
   have hiz:i≠z:=by
    rcases hC with h|h|h
    ·exact absurd h hjz
    ·rw[hjt]at h;cases h
    ·exact Hx (by rw[hsz];exact Dj hol) h
   have hR:=hR hiz;rw[htl]at hR;obtain⟨hI,_⟩:=hY hz;refine⟨.inr (.inr hz),fun v hv=> ?_⟩
   by_cases hjq:some j=q
   ·refine(hk j hjz hjt).2 v _ _ hjq hv hI (Jg ?_ hR);rw[←hjq];intro e;cases e;rw[hni]at hlj;cases hlj
   ·exact(hk j hjz hjt).1 v _ _ hjq hv hI (Jf h12 hI hR)
 ·intro listed i _ hil hfi
  by_cases hiz:i=z
  ·exact .inl hiz
  ·cases htl:tl.getD i false with
   |true=>exact .inr (.inl rfl)
   |false=>rw[(hto.2.2.1 i hil hiz htl).1]at hfi;cases hfi
theorem On {id:Nat} {a:Act} {w:World} (sat:List Eg) (I:World→Prop) (S:World→World→Prop) (q:Option Nat) (z:Nat) (hm:P.follows .mixedOrders=true) (hd:Gi l a.tmps.size=true) (he:Dc l=true)
  (hla:Wo l (bW z false++[true,true,true]) (bW (z+1) false++[true,true]) z=true) (hk:Cu I S q (((sat.set z fun _ _=>True).set (z+1) fun _ _=>True).set (z+2) fun _ _=>True))
  (hz:∀i,i=z∨i=z+1∨i=z+2→∀v x y,(sat.getD i (fun _ _=>True)) v x→Below x.heap.size x y→(sat.getD i (fun _ _=>True)) v y)
  (h0:I w.drew) (h12:∀x y,I x→Below x.heap.size x y→S x y) (hIS:∀x y,I x→S x y→I y)
  (hops:OwedAll8 P l Q sat I S q z (bW (z+1) false++[true,true]) a w 0 l)
  (hend:∀(f:Nat→Value) (w':World),Co sat (bW z false++[true,true,true]) f w' 0 l→Q .normal (Al l a f) w'):
  (Code.region id l.toArray true).wp P Q a w:=by
 have htl:∀j,(bW (z+1) false++[true,true]).getD j false=true→j=z+1∨j=z+2:=by
  intro j h;rw[aH,bY]at h
  split at h
  ·rename_i hj
   rw[bZ]at h
   split at h<;>simp at h
  ·rename_i hj
   simp only[cA]at hj h;rcases hx:j-(z+1)with _|_|n
   ·omega
   ·omega
   ·rw[hx]at h;simp at h
 have htl2:∀j,j=z+1∨j=z+2→(bW (z+1) false++[true,true]).getD j false=true:=by
  rintro j (rfl|rfl)
  ·rw[aH,cB (by simp)];simp
  ·rw[aH,cB (by simp)];simp
 refine Mv sat _ I S q z _ hm (fun j hj ht=> ?_) (fun i j _ hj v x y hv hb=> ?_) h0 h12 hIS hd he hla hops hend
 ·have hj1:j≠z+1∧j≠z+2:=⟨fun e=>(by rw[htl2 j (.inl e)]at ht;cases ht),fun e=>(by rw[htl2 j (.inr e)]at ht;cases ht)⟩;have hset:(((sat.set z fun _ _=>True).set (z+1) fun _ _=>True).set (z+2) fun _ _=>True).getD j (fun _ _=>True)=sat.getD j (fun _ _=>True):=by
   rw[aH,bV (fun e=>hj1.2 e.symm),bV (fun e=>hj1.1 e.symm),bV (fun e=>hj e.symm),←aH]
  have h:=Fl _ q hk;exact⟨fun v x y hq hv=>hset▸h.1 j v x y (fun e=>hq e) (hset▸hv),fun v x y hq hv=>hset▸h.2 j v x y hq (hset▸hv)⟩
 ·rcases hj with rfl|hj
  ·exact hz _ (.inl rfl) v x y hv hb
  ·exact hz j (.inr (htl j hj)) v x y hv hb
end
end
end Go.Proofs.YtfofaiommeckbaaGreat
