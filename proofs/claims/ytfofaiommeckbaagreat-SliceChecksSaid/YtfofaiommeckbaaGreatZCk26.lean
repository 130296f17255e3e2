import Derived.Test.YtfofaiommeckbaaGreatZCk24
open Go.Obj renaming cells -> rJ
open Go.Ending renaming returned -> rK
open Go.Value renaming slice -> rC, int -> rD
open Go.IntKind renaming i64 -> rF, u8 -> rG
open Option renaming none -> rI
open Go.Proofs.Tryz
open List renaming drop_of_length_le -> iM, drop_drop -> iG, mem_of_getElem? -> iO, length_drop -> dZ, flatMap_cons -> iQ, getD_eq_getElem?_getD -> aS, length_map -> gH, getElem?_eq_getElem -> bB, getElem_mem -> bC, drop_length -> iR, map_append -> iS, length_append -> bA, flatMap_append -> gK, mem_cons -> aZ, not_mem_nil -> dC
set_option linter.unusedVariables false
set_option maxRecDepth 100000
set_option maxHeartbeats 40000000
namespace Go.Proofs.YtfofaiommeckbaaGreat
open Go.RowKit WireM
def Zlj (L:List Nat)(p:Nat):Nat×NodeD×Nat:=((Au (L.drop p) 0).1,(Au (L.drop p) 0).2.1,if(Au (L.drop p) 0).1=0 then L.length-(Au (L.drop p) 0).2.2.1.length else 0)
theorem Gy {L:List Nat} {p er re:Nat} {d:NodeD} {R:List Nat}(h:Au (L.drop p) 0=(er,d,R,re)):Zlj L p=(er,d,if er=0 then L.length-R.length else 0):=by unfold Zlj;rw[h]
theorem Xn (v:Value)(L:List Nat)(p:Nat)(w:World)(h:Rd w v (bvs L))(s:∀n∈L,n<256)(u:L.length<=1000000000)(A:p<=L.length):
  Calls prog 128 #[v,rD rF (p:Nat)] w (Zmk w (Zlj L p)):=by
 rcases hM:L.drop p with _|⟨k,M⟩
 ·have H:L.length<=p:=List.drop_eq_nil_iff.1 hM;have d:Au (L.drop p) 0=(4,Am,[],4):=(by rw[hM];unfold Au;rw[show Eg [] 0 1=([],[],4)from De []];rfl);refine Me v L [] [] [] p 0 0 0 0 0 noLeafD [] (Zlj L p) w h u A ?_ (by decide) ?_ ?_ (by simp) (by simp) rfl ?_ ?_ ?_ ?_ ?_ ?_ ?_ ?_
  ·intro hx;exact absurd hx (by omega)
  ·intro hx;exact absurd hx (by omega)
  ·intro hx;exact absurd hx (by omega)
  ·intro _;exact Gy d
  ·intro hx;exact absurd hx (by omega)
  ·intro hx;exact absurd hx (by omega)
  ·intro hx;exact absurd hx (by omega)
  ·intro hx;exact absurd hx (by omega)
  ·intro hx;exact absurd hx (by omega)
  ·intro hx;exact absurd hx (by omega)
  ·intro hx;exact absurd hx (by omega)
 ·have m:p<L.length:=by
   rcases Nat.lt_or_ge p L.length with h1|h1
   ·exact h1
   ·rw[iM h1]at hM;cases hM
  have f:L.drop (p+1)=M:=(by rw[<-iG,hM];rfl);have o:L[p]? =some k:=by
   have:(L.drop p)[0]? =some k:=(by rw[hM];rfl);rw[List.getElem?_drop]at this;simpa using this
  have l:k<256:=s k (iO o);have y:Sub M L:=(by rw[<-f];exact Sub.drop L (p+1));have d:Au (L.drop p) 0=(if k=0 then(0,Am,M,0)else
    if k=1 then(if(Br M 0).1=0 then(0,⟨1,(Br M 0).2.1,noParD⟩,(Br M 0).2.2)else((Br M 0).1,Am,(Br M 0).2.2))else
    if k=2 then(if(Ei M 0).1=0 then(0,⟨2,noLeafD,(Ei M 0).2.1⟩,(Ei M 0).2.2)else((Ei M 0).1,Am,(Ei M 0).2.2))else(3,Am,M,0)):=by
   rw[hM];unfold Au;rw[show Eg (k::M) 0 1=([k],M,0)from De (k::M)];simp only[Ze4];rw[iN (by decide)]
  obtain⟨i,h1⟩:∃r,Bg M 0=r:=⟨_,rfl⟩;obtain⟨j,h2⟩:∃r,Bg i.2.1 i.2.2=r:=⟨_,rfl⟩;obtain⟨a,h3⟩:∃r,Bg j.2.1 j.2.2=r:=⟨_,rfl⟩;obtain⟨J,K⟩:=Oy M i j a h1 h2 h3;have g:Ei M 0=(if a.2.2≠0 then(a.2.2,noParD,a.2)else
    if a.1.length%4=0/\rpB i.1.length j.1.length (Ze3 a.1.length a.1)=true then(0,⟨i.1,j.1,Ze3 a.1.length a.1⟩,a.2)else(3,noParD,a.2)):=by
   subst h1;subst h2;subst h3;rfl
  have q:Sub a.1 L:=by
   have B:=Az M 0;have C:=Az i.2.1 i.2.2;have D:=Az j.2.1 j.2.2;rw[h1]at B;rw[h2]at C;rw[h3]at D;exact D.1.trans (C.2.1.trans (B.2.1.trans y))
  have E:=Zt (p:=p+1) (k:=3) (xs:=[i.1,j.1,a.1]) (R:=a.2.1) (er:=a.2.2) h s u m (Nat.le_refl 3) (by rw[f];exact J) (by rw[f];exact K) rfl;have x:=fun W (G:Below w.heap.size w W)=>Xj v L (p+1) W (h.below G lR) s u m;unfold Zld at x;rw[f]at x;refine Me v L i.1 j.1 a.1 p k (L.length-a.2.1.length) a.2.2 (Br M 0).1 _ (Br M 0).2.1 (Ze3 a.1.length a.1) (Zlj L p) w h u A ?_ l (fun _ _=>x) (fun _ _=>E) (fun n I=>s n (q.2 n I)) (by have:=q.1;omega) (Xi _ _ (by omega)) ?_ ?_ ?_ ?_ ?_ ?_ ?_ ?_
  ·intro _;simp[bvs,o]
  ·intro hx;exact absurd m (by omega)
  ·intro _ c;rw[iP c]at d;rw[Gy d,iP rfl,<-f,dZ,show L.length-(L.length-(p+1))=p+1 by omega]
  ·intro _ c e;rw[iN (by omega),iP c,iP e]at d;rw[Gy d,iP rfl,iP e]
  ·intro _ c e;rw[iN (by omega),iP c,iN e]at d;rw[Gy d,iN e]
  ·intro _ F c1 c2;rw[iN F,iN c1,iN c2]at d;exact Gy d
  ·intro _ c e;rw[iP e]at g;rw[g,iN (by omega),iN (by omega),iP c,iN e]at d;rw[Gy d,iN e]
  ·intro _ c e e2;rw[iN (by omega),iN (fun t=>e2 t.1)]at g;rw[g,iN (by omega),iN (by omega),iP c,iN (show¬(3:Nat)=0 by decide)]at d;exact Gy d
  ·intro _ c e e2 b z;rw[iN (by omega)]at g;cases b with
   |true=>
    rw[iP ⟨e2,z⟩]at g;rw[g,iN (by omega),iN (by omega),iP c,iP rfl]at d;rw[Gy d];rfl
   |false=>
    rw[iN (fun t=>by rw[z]at t;exact absurd t.2 (by decide))]at g;rw[g,iN (by omega),iN (by omega),iP c,iN (show¬(3:Nat)=0 by decide)]at d;rw[Gy d];rfl
open WalkM
theorem Pa {P:Program} {w:World} {ops:Array Oper} {rest:List Oper} {o:Oper} {a:Act} {Q:Exit->Act->World->Prop} (p:o.guard=none) (s x:Operand) (t:TypeId)
  (K:o.op=.call {callee:=.builtin .append,args:=#[s,x],argTypes:=#[t,t]})
  (B:Nat) (e:TypeId) (z:Value) (k b:Nat) (F:ElemK P t e z k b) (v:Value) (n:Nat) (xs:List Value) (G:a.eval s=v) (d:OwnK w B e k v n xs)
  (r:Value) (B' m:Nat) (l:List Value) (hx:a.eval x=r) (A:OwnK w B' e k r m l) (h1:∀u∈l,u.oneCell'=true) (R:n+m<137438953472) (I:B<=w.heap.size)
  (h:∀D w',OwnK w' B e k D (n+m) (xs++l)->Below B w w'->wpList P ops Q rest (a.put o.dst D) w'):wpList P ops Q (o::rest) a w:=by
 obtain⟨i,J,T,H,E⟩:=Jd F.inf;have low:=F.low;have q:∀(y:Addr) (c:Nat),r=.slice (some y) m c->(∀(j:Nat) u,l[j]? =some u->w.cell? (y.add j)=some u)->wpList P ops Q (o::rest) a w:=by
  intro y c er f;refine wpList_append_own w p s x t K B e i z k b F.ty J T H E F.one F.pos v n xs G d y m c l (hx.trans er) A.len f h1 ?_ ?_ I ?_
  ·unfold maxLen;omega
  ·have:(n+m)*b<=(n+m)*512:=Nat.mul_le_mul_left _ low;omega
  ·intro D w' h2 h3 _;exact h D w' h2 ((Below.refl B w).grown h3 I fun j O=>(World.ownsRow.lt d j O).1)
 rcases Nat.eq_zero_or_pos m with h0|S
 ·have L:l=[]:=List.eq_nil_of_length_eq_zero (by rw[A.len,h0,Nat.zero_mul]);rcases A.2 with⟨rfl,_⟩|⟨g,cap,M,rfl,U,V,R,W,G,ht⟩
  ·refine wpList_append_own_none p s x t K B e i k F.ty J v n xs G d hx ?_;exact h v w (by rw[L,h0,List.append_nil];exact d) bR
  ·exact q _ _ rfl (fun j u C=>by rw[L]at C;simp at C)
 ·obtain⟨g,cap,rfl,-,-,-,-,N,-⟩:=A.out S;exact q _ _ rfl (fun j u C=>by rw[Addr.add_lit,Nat.zero_add];exact N j u C)
theorem Ls {α β:Type}:∀(T:List α) (f: α->List β) (g:Nat->List β),(∀i t,T[i]? =some t->g i=f t)->(List.range T.length).flatMap g=T.flatMap f
 |[],_,_,_=>rfl
 |a::T,f,g,h=>by
  rw[List.length_cons,List.range_succ_eq_map,iQ,iQ,h 0 a rfl,List.flatMap_map,Ls T f (fun i=>g (i+1)) (fun i t ht=>h (i+1) t ht)]
def SpT (w:World)(B:Nat)(v:Value)(l:List (Int×NodeD)):Prop:=
 ∃T:List ((Int×NodeD)×Array Value),T.map (·.1)=l/\OwnK w B 87 11 v l.length (T.flatMap fun t=> rD rF t.1.1::t.2.toList)/\∀t∈T,NodeC w t.1.2 t.2/\LateNew B t.2
def StT (w:World)(B:Nat)(v:Value)(l:List (Int×List Nat)):Prop:=
 ∃T:List ((Int×List Nat)×Value),T.map (·.1)=l/\OwnK w B 89 2 v l.length (T.flatMap fun t=>[rD rF t.1.1,t.2])/\∀t∈T,Rd w t.2 (bvs t.1.2)
theorem SpT.nil (w:World)(B:Nat):SpT w B (rC rI 0 0) []:=⟨[],rfl,OwnK.nil _ _ _ _,fun t ht=>by simp at ht⟩
theorem StT.nil (w:World)(B:Nat):StT w B (rC rI 0 0) []:=⟨[],rfl,OwnK.nil _ _ _ _,fun t ht=>by simp at ht⟩
theorem SpT.below {w w':World} {B B':Nat} {v:Value} {l:List (Int×NodeD)}(h:SpT w B v l)(hb:Below B' w w')(hB:w.heap.size<=B'):SpT w' B v l:=by
 obtain⟨T,h1,h2,h3⟩:=h;exact⟨T,h1,h2.below hb hB,fun t ht=>⟨(h3 t ht).1.below hb hB,(h3 t ht).2⟩⟩
theorem StT.below {w w':World} {B B':Nat} {v:Value} {l:List (Int×List Nat)}(h:StT w B v l)(hb:Below B' w w')(hB:w.heap.size<=B'):StT w' B v l:=by
 obtain⟨T,h1,h2,h3⟩:=h;exact⟨T,h1,h2.below hb hB,fun t ht=>(h3 t ht).below hb hB⟩
theorem SpT.mono {w:World} {B B':Nat} {v:Value} {l:List (Int×NodeD)}(h:SpT w B v l)(hB:B'<=B):SpT w B' v l:=by
 obtain⟨T,h1,h2,h3⟩:=h;exact⟨T,h1,h2.mono hB,fun t ht=>⟨(h3 t ht).1,(h3 t ht).2.mono hB⟩⟩
theorem StT.mono {w:World} {B B':Nat} {v:Value} {l:List (Int×List Nat)}(h:StT w B v l)(hB:B'<=B):StT w B' v l:=by
 obtain⟨T,h1,h2,h3⟩:=h;exact⟨T,h1,h2.mono hB,h3⟩
theorem Zfq {T:List ((Int×NodeD)×Array Value)} {i:Nat} {t:(Int×NodeD)×Array Value}(h:T[i]? =some t):spt (T.map (·.1)) i=t.1:=by simp[spt,aS,h]
theorem Zfr {T:List ((Int×List Nat)×Value)} {i:Nat} {t:(Int×List Nat)×Value}(h:T[i]? =some t):stb (T.map (·.1)) i=t.1:=by simp[stb,aS,h]
theorem SpT.spots {w:World} {B:Nat} {v:Value} {l:List (Int×NodeD)}(h:SpT w B v l):SpotsR w v l:=by
 obtain⟨T,rfl,h2,h3⟩:=h;refine Zh (B:=B) (C:=fun i=>match T[i]? with|some t=>t.2|none=>#[rD rG 0,rC rI 0 0,rC rI 0 0,rC rI 0 0,rD rG 0,rC rI 0 0,rC rI 0 0,rC rI 0 0,rC rI 0 0,rC rI 0 0]) (fun i=> ?_) (fun i a=> ?_) ?_
 ·rcases ht:T[i]? with _|t
  ·rfl
  ·exact(h3 t (iO ht)).1.size
 ·rw[gH]at a;have ht:=bB a;rw[Zfq ht];simp only[ht];exact(h3 _ (bC a)).1
 ·rw[gH]at h2|-;rw[Ls T (fun t=> rD rF t.1.1::t.2.toList) _ fun i t ht=>by unfold Ez;rw[Zfq ht];simp only[ht]];exact h2
theorem StT.stubs {w:World} {B:Nat} {v:Value} {l:List (Int×List Nat)}(h:StT w B v l):StubsR w v l:=by
 obtain⟨T,rfl,h2,h3⟩:=h;refine Zi (B:=B) (U:=fun i=>match T[i]? with|some t=>t.2|none=> rC rI 0 0) (fun i a=> ?_) ?_
 ·rw[gH]at a;have ht:=bB a;rw[Zfr ht];simp only[ht];exact h3 _ (bC a)
 ·rw[gH]at h2|-;rw[Ls T (fun t=>[rD rF t.1.1,t.2]) _ fun i t ht=>by unfold Ht;rw[Zfr ht];simp only[ht]];exact h2
def Ziz (L:List Nat)(r:RdR)(w:World)(e:Ending)(w':World):Prop:=
 ∃o s nx,e=rK (.tuple #[o,s,rD rF nx,rD rF (r.er:Nat)])/\(r.er=0->nx=((L.length-r.rest.length:Nat):Int))/\SpT w' w.heap.size o r.op/\StT w' w.heap.size s r.sh/\Below w.heap.size w w'
def Suf (R M:List Nat):Prop:=∃n,R=M.drop n
theorem Suf.refl (M:List Nat):Suf M M:=⟨0,rfl⟩
theorem Suf.trans {A B C:List Nat}(h:Suf A B)(k:Suf B C):Suf A C:=by
 obtain⟨n,rfl⟩:=h;obtain⟨m,rfl⟩:=k;exact⟨m+n,by rw[iG]⟩
theorem Suf.drop (M:List Nat)(n:Nat):Suf (M.drop n) M:=⟨n,rfl⟩
theorem Suf.nil (M:List Nat):Suf [] M:=⟨M.length,by rw[iR]⟩
theorem Suf.cons (b:Nat)(M:List Nat):Suf M (b::M):=⟨1,rfl⟩
theorem Suf.at {R M:List Nat}(h:Suf R M):R.length<=M.length/\M.drop (M.length-R.length)=R:=by
 obtain⟨n,rfl⟩:=h;rw[dZ];refine⟨by omega,?_⟩
 by_cases c:n<=M.length
 ·rw[show M.length-(M.length-n)=n by omega]
 ·rw[show M.length-(M.length-n)=M.length by omega,iR,iM (by omega)]
theorem Zv (L:List Nat)(er:Nat)(n:Int):Suf (Cc L er n).2.1 L:=by
 unfold Cc
 split
 ·exact Suf.refl _
 ·split
  ·exact Suf.refl _
  ·split
   ·exact Suf.refl _
   ·exact Suf.drop _ _
theorem Zlk (L:List Nat)(er:Nat)(n:Int):Suf (Eg L er n).2.1 L:=Zv _ _ _
theorem Zb0 (L:List Nat)(er:Nat):Suf (Bl L er).2.1 L:=by
 unfold Bl
 split
 ·exact Suf.refl _
 ·split
  ·exact Suf.refl _
  ·rename_i b M
   have hs:Suf M (b::M):=Suf.cons b M;unfold Sy
   split
   ·exact hs
   ·split
    ·exact hs
    ·split<;>exact(Suf.drop _ _).trans hs
theorem Hz (L:List Nat)(er:Nat):Suf (Bg L er).2.1 L:=by
 have h:=Zb0 L er;unfold Bg
 split
 ·rename_i M e hm
  rw[hm]at h;exact h
 ·rename_i n M e hm
  rw[hm]at h;exact(Zv M e (n:Int)).trans h
theorem Zfs (L:List Nat):Suf (Br L 0).2.2.1 L:=by
 unfold Br;simp only;have b:=Hz L 0;generalize Bg L 0=r1 at b|-;have c:=(Hz r1.2.1 r1.2.2).trans b;generalize Bg r1.2.1 r1.2.2=r2 at c|-;have d:=(Hz r2.2.1 r2.2.2).trans c;generalize Bg r2.2.1 r2.2.2=r3 at d|-;have a:=(Zlk r3.2.1 r3.2.2 1).trans d;generalize Eg r3.2.1 r3.2.2 1=r4 at a|-;have e:Suf (if Du r4.1=3 then Bg r4.2.1 r4.2.2 else([],r4.2)).2.1 L:=by
  split
  ·exact(Hz _ _).trans a
  ·exact a
 generalize(if Du r4.1=3 then Bg r4.2.1 r4.2.2 else([],r4.2))=r5 at e|-;have f:=(Hz r5.2.1 r5.2.2).trans e
 split
 ·exact a
 ·split
  ·exact a
  ·split
   ·exact f
   ·split<;>exact f
theorem Zi0 (L:List Nat):Suf (Ei L 0).2.2.1 L:=by
 unfold Ei;simp only;have b:=Hz L 0;generalize Bg L 0=r1 at b|-;have c:=(Hz r1.2.1 r1.2.2).trans b;generalize Bg r1.2.1 r1.2.2=r2 at c|-;have a:=(Hz r2.2.1 r2.2.2).trans c;generalize Bg r2.2.1 r2.2.2=r3 at a|-
 split
 ·exact a
 ·split<;>exact a
theorem Vj (L:List Nat):Suf (Au L 0).2.2.1 L:=by
 cases L with
 |nil=>unfold Au;rw[show Eg [] 0 1=([],[],4)from De []];exact Suf.refl _
 |cons k M=>
  have a:=Suf.cons k M;unfold Au;rw[show Eg (k::M) 0 1=([k],M,0)from De (k::M)];simp only;rw[iN (by decide)];have b:=(Zfs M).trans a;have c:=(Zi0 M).trans a
  split
  ·exact a
  ·split
   ·split<;>exact b
   ·split
    ·split<;>exact c
    ·exact a
theorem Zft {x:Nat} {L:List Nat} {K:NodeD->List Nat->RdR}(c:∀d R,Suf R L->Suf (K d R).rest L):Suf (Sz x L K).rest L:=by
 unfold Sz;cases L with
 |nil=>exact Suf.refl _
 |cons b M=>
  have a:=Suf.cons b M;simp only
  split
  ·exact Suf.nil _
  ·split
   ·split
    ·exact Suf.nil _
    ·exact(Suf.drop M 32).trans a
   ·unfold Kt
    split
    ·exact Suf.nil _
    ·split
     ·exact Suf.nil _
     ·exact c _ _ ((Vj M).trans a)
theorem Zjz:∀k x (L:List Nat),Suf (rdP k x L).rest L:=by
 intro k
 induction k with
 |zero=>intro x L;unfold rdP;exact Zft fun d R h=>h
 |succ k ih=>
  intro x L;unfold rdP;refine Zft fun d R h=> ?_;unfold Ml
  split
  ·exact Suf.nil _
  ·split
   ·exact Suf.nil _
   ·exact(ih _ _).trans ((ih _ _).trans h)
theorem Bp {fn:Func} {t u v x:Tmp}(h:fn.results=#[.tmp t,.tmp u,.tmp v,.tmp x])(tmps:Array Value)(P:Program)(w:World):
  (results fn tmps).run P w=.ok (.tuple #[tmps.getD t undef,tmps.getD u undef,tmps.getD v undef,tmps.getD x undef]) w:=by
 simp[results,h]
theorem NodeC.cells10 {w:World} {d:NodeD} {c:Array Value}(h:NodeC w d c):∃f1 f2 f3 f4 f5 f6 f7 f8 f9,c=#[rD rG (d.kind:Nat),f1,f2,f3,f4,f5,f6,f7,f8,f9]:=by
 obtain⟨a1,c1,a2,c2,a3,c3,a4,c4,a5,c5,b1,e1,b2,e2,b3,e3,rfl,_⟩:=h;exact⟨_,_,_,_,_,_,_,_,_,rfl⟩
theorem OwnK.one {w:World} {B g k:Nat} {e:TypeId} {cs:Array Value}(h:Blk w g e cs)(hB:B<=g)(hk:cs.size=k):OwnK w B e k (rC (some ⟨g,0,rI⟩) 1 1) 1 cs.toList:=by
 subst hk;refine⟨by simp,.inr ⟨g,1,cs,rfl,hB,h,lR,by unfold maxLen;omega,by simp,?_⟩⟩;rw[List.take_of_length_le (by simp)]
def SpU (wc:World)(D:Nat)(w:World)(B:Nat)(v:Value)(l:List (Int×NodeD)):Prop:=
 ∃T:List ((Int×NodeD)×Array Value),T.map (·.1)=l/\OwnK w B 87 11 v l.length (T.flatMap fun t=> rD rF t.1.1::t.2.toList)/\∀t∈T,NodeC wc t.1.2 t.2/\LateNew D t.2
def StU (wc w:World)(B:Nat)(v:Value)(l:List (Int×List Nat)):Prop:=
 ∃T:List ((Int×List Nat)×Value),T.map (·.1)=l/\OwnK w B 89 2 v l.length (T.flatMap fun t=>[rD rF t.1.1,t.2])/\∀t∈T,Rd wc t.2 (bvs t.1.2)
theorem SpT.u {w:World} {B:Nat} {v:Value} {l:List (Int×NodeD)}(h:SpT w B v l):SpU w B w B v l:=h
theorem StT.u {w:World} {B:Nat} {v:Value} {l:List (Int×List Nat)}(h:StT w B v l):StU w w B v l:=h
theorem SpU.below {wc w w':World} {B B' D:Nat} {v:Value} {l:List (Int×NodeD)}(h:SpU wc D w B v l)(hb:Below B' w w')(hB:w.heap.size<=B'):SpU wc D w' B v l:=by
 obtain⟨T,h1,h2,h3⟩:=h;exact⟨T,h1,h2.below hb hB,h3⟩
theorem StU.below {wc w w':World} {B B':Nat} {v:Value} {l:List (Int×List Nat)}(h:StU wc w B v l)(hb:Below B' w w')(hB:w.heap.size<=B'):StU wc w' B v l:=by
 obtain⟨T,h1,h2,h3⟩:=h;exact⟨T,h1,h2.below hb hB,h3⟩
theorem SpU.t {wc w:World} {B B' D:Nat} {v:Value} {l:List (Int×NodeD)}(h:SpU wc D w B v l)(hb:Below wc.heap.size wc w)(hB:B'<=B)(hD:B'<=D):SpT w B' v l:=by
 obtain⟨T,h1,h2,h3⟩:=h;exact⟨T,h1,h2.mono hB,fun t ht=>⟨(h3 t ht).1.below hb lR,(h3 t ht).2.mono hD⟩⟩
theorem StU.t {wc w:World} {B B':Nat} {v:Value} {l:List (Int×List Nat)}(h:StU wc w B v l)(hb:Below wc.heap.size wc w)(hB:B'<=B):StT w B' v l:=by
 obtain⟨T,h1,h2,h3⟩:=h;exact⟨T,h1,h2.mono hB,fun t ht=>(h3 t ht).below hb lR⟩
theorem Zmm {w:World} {e:TypeId} {k:Nat}:OwnK (w.alloc (rJ #[] e)) w.heap.size e k (rC (some ⟨w.heap.size,0,rI⟩) 0 0) 0 []:=
 ⟨by simp,.inr ⟨w.heap.size,0,#[],rfl,lR,heap_alloc_new w _,lR,Nat.zero_le _,by simp,by simp⟩⟩
theorem SpU.lit {wc w:World} {D:Nat}:SpU wc D (w.alloc (rJ #[] 87)) w.heap.size (rC (some ⟨w.heap.size,0,rI⟩) 0 0) []:=⟨[],rfl,Zmm,fun t ht=>by simp at ht⟩
theorem StU.lit {wc w:World}:StU wc (w.alloc (rJ #[] 89)) w.heap.size (rC (some ⟨w.heap.size,0,rI⟩) 0 0) []:=⟨[],rfl,Zmm,fun t ht=>by simp at ht⟩
theorem Ia {wc w:World} {D:Nat} {ops:Array Oper} {rest:List Oper} {o:Oper} {a:Act} {Q:Exit->Act->World->Prop} (e:o.guard=none) (s x:Operand)
  (n:o.op=.call {callee:=.builtin .append,args:=#[s,x],argTypes:=#[22,22]})
  (B:Nat) (v:Value) (l:List (Int×NodeD)) (q:a.eval s=v) (b:SpU wc D w B v l) (r:Value) (B':Nat) (m:List (Int×NodeD)) (hx:a.eval x=r) (p:SpU wc D w B' r m) (k:l.length+m.length<137438953472) (i:B<=w.heap.size)
  (h:∀d w',SpU wc D w' B d (l++m)->Below B w w'->wpList prog ops Q rest (a.put o.dst d) w'):wpList prog ops Q (o::rest) a w:=by
 obtain⟨T,h1,h2,h3⟩:=b;obtain⟨g,z,A,f⟩:=p;refine Pa e s x 22 n B 87 _ 11 _ Zjr v _ _ q h2 r B' _ _ hx A (fun u c=> ?_) k i fun d w' y j=>h d w' ⟨T++g,by rw[iS,h1,z],by rw[bA,gK];exact y,fun t ht=>(List.mem_append.1 ht).elim (h3 t) (f t)⟩ j;obtain⟨t,ht,c⟩:=List.mem_flatMap.1 c;rcases List.mem_cons.1 c with rfl|c
 ·rfl
 ·exact List.all_eq_true.1 (f t ht).1.oneL u c
theorem Mg {wc w:World} {ops:Array Oper} {rest:List Oper} {o:Oper} {a:Act} {Q:Exit->Act->World->Prop} (g:o.guard=none) (s x:Operand)
  (q:o.op=.call {callee:=.builtin .append,args:=#[s,x],argTypes:=#[23,23]})
  (B:Nat) (v:Value) (l:List (Int×List Nat)) (z:a.eval s=v) (b:StU wc w B v l) (r:Value) (B':Nat) (m:List (Int×List Nat)) (hx:a.eval x=r) (y:StU wc w B' r m) (p:l.length+m.length<137438953472) (k:B<=w.heap.size)
  (h:∀f w',StU wc w' B f (l++m)->Below B w w'->wpList prog ops Q rest (a.put o.dst f) w'):wpList prog ops Q (o::rest) a w:=by
 obtain⟨T,h1,h2,h3⟩:=b;obtain⟨j,C,D,i⟩:=y;refine Pa g s x 23 q B 89 _ 2 _ Zjs v _ _ z h2 r B' _ _ hx D (fun u d=> ?_) p k fun f w' A n=>h f w' ⟨T++j,by rw[iS,h1,C],by rw[bA,gK];exact A,fun t ht=>(List.mem_append.1 ht).elim (h3 t) (i t)⟩ n;obtain⟨t,ht,d⟩:=List.mem_flatMap.1 d;simp only[aZ,dC,or_false]at d;rcases d with rfl|rfl
 ·rfl
 ·obtain⟨a,c,e,-⟩:=i t ht;rw[e];rfl
theorem Qs (v:Value) (L hx:List Nat) (p x j par I nn xl xr:Nat) (dn:NodeD) (i C r:RdR) (w:World) (h:Rd w v (bvs L)) (hl:L.length<=1000000000) (hp:p<=L.length) (dO:x<=131070) (aH:x%2=par)
  (hk:p<L.length->(bvs L)[p]? =some (rD rG (j:Nat))) (hf:j<256) (bT:hx=(L.drop (p+1)).take 32)
  (CT:p<L.length->j=1->∀W,Below w.heap.size w W->Calls prog 128 #[v,rD rF ((p+1:Nat):Int)] W (Zmk W (I,dn,nn)))
  (CK:par=1->∀W,Calls prog 100 #[rD rF (x:Nat)] W fun e W'=>e=rK (.tuple #[rD rF (xl:Nat),rD rF (xr:Nat)])/\Below W.heap.size W W')
  (CL:p<L.length->j=1->I=0->par=1->∀W,Below w.heap.size w W->Calls prog 70 #[v,rD rF (nn:Nat),rD rF (xl:Nat)] W (Ziz L i W))
  (CR:p<L.length->j=1->I=0->par=1->i.er=0->∀W,Below w.heap.size w W->Calls prog 70 #[v,rD rF ((L.length-i.rest.length:Nat):Int),rD rF (xr:Nat)] W (Ziz L C W))
  (dA:dn.kind<256) (BL:i.er=0->i.op.length<=1000000000/\i.sh.length<=1000000000) (BR:C.er=0->C.op.length<=1000000000/\C.sh.length<=1000000000)
  (X4:L.length<=p->r=Iw 4) (X3:p<L.length->1<j->r=Iw 3)
  (XS:p<L.length->j=0->L.length-p-1<32->r=Iw 4) (X0:p<L.length->j=0->¬(L.length-p-1<32)->∃R,r=⟨0,[],[((x:Int),hx)],R⟩/\L.length-R.length=p+33)
  (XE:p<L.length->j=1->I≠0->r=Iw I) (XK:p<L.length->j=1->I=0->(par=0/\dn.kind=2\/par=1/\dn.kind=1)->r=Iw 3)
  (XA:p<L.length->j=1->I=0->par=0->dn.kind≠2->∃R,r=⟨0,[((x:Int),dn)],[],R⟩/\nn=L.length-R.length)
  (XL:p<L.length->j=1->I=0->par=1->dn.kind≠1->i.er≠0->r=Iw i.er) (XR:p<L.length->j=1->I=0->par=1->dn.kind≠1->i.er=0->C.er≠0->r=Iw C.er)
  (XB:p<L.length->j=1->I=0->par=1->dn.kind≠1->i.er=0->C.er=0->r=⟨0,i.op++((x:Int),dn)::C.op,i.sh++C.sh,C.rest⟩):
  Calls prog 70 #[v,rD rF (p:Nat),rD rF (x:Nat)] w (Ziz L r w):=by
 obtain⟨av,cap,rfl,-,-⟩:=id h;rw[bvs_len]at h CT CL CR|-;have aG:=Hd fun(hq:p+33<=L.length)=>Vg (T:=28) h (by kernel_rfl) (fun w=>by kernel_rfl) (k:=p+1) (e:=p+33) (by omega) (by rw[bvs_len];exact hq);obtain⟨B,aD⟩:=eX L.length;rw[<-aD]at h aG hl hp CT CL CR hk X4 X3 XS X0 XE XK XA XL XR XB|-;obtain⟨S,hS⟩:=eX (Ziz L r w);rw[<-hS];have HS:=Hd (show∀(e:Ending) (w':World) {o s:Value} {nx:Int} {k:Nat},e=rK (.tuple #[o,s,rD rF nx,rD rF (k:Nat)])->r.er=k->(k=0->nx=((B-r.rest.length:Nat):Int))->SpT w' w.heap.size o r.op->StT w' w.heap.size s r.sh->Below w.heap.size w w'->S e w' from by
  rintro e w' o s nx k rfl h0 h1 h2 h3 h4;subst h0;rw[hS];exact⟨o,s,nx,rfl,fun h=>by rw[<-aD];exact h1 h,h2,h3,h4⟩)
 have m:=Hd (show∀(e:Ending) (w':World) {nx:Int} {k:Nat},e=rK (.tuple #[rC rI 0 0,rC rI 0 0,rD rF nx,rD rF (k:Nat)])->k≠0->r=Iw k->Below w.heap.size w w'->S e w' from by
  rintro e w' nx k he h0 h1 h2;refine HS.out e w' he (by rw[h1];rfl) (fun h=>absurd h h0) (by rw[h1];exact SpT.nil _ _) (by rw[h1];exact StT.nil _ _) h2)
 have bC:=Hd h;have cD:=Hd CT;have cA:=Hd CK;have cB:=Hd CL;have cC:=Hd CR;have b5:=Hd BL;have b6:=Hd BR;have cV:=Hd X4;have cU:=Hd X3;have c1:=Hd XS;have cT:=Hd X0;have cY:=Hd XE;have bF:=Hd XK;have cW:=Hd XA;have cZ:=Hd XL;have c0:=Hd XR;have cX:=Hd XB;have cP:=Hd hk;have a6:=Hd aD;have cE:=Hd bT;have a9:=Hd aH;have bD:=Hd (show Int.tmod (x:Int) 2=(par:Int) by rw[Int.tmod_eq_emod_of_nonneg (by omega)];omega);clear h hk CT CK CL CR BL BR X4 X3 XS X0 XE XK XA XL XR XB hS aD bT aH
 by_cases h2:p<B
 ·have E:=Hd h2;have bP:decide ((p:Int)>=(B:Int))=false:=dF (by omega);have bQ:decide ((B:Int)<=(p:Int))=false:=dF (by omega);have bS:decide (B<=p)=false:=dF (by omega);obtain⟨vb,vo,rfl,dE,c7⟩:=bC.out.get (cP.out h2)
  by_cases hf1:1<j
  ·have c9:decide ((j:Int)>1)=true:=dT (by omega);have d:=Hd (cU.out h2 hf1);clear hf1 h2;go_in;go_wp2_with fail;refine bodyPost_ret (Bp rfl _ _ _) rfl ?_;exact m.out _ _ rfl (by decide) d.out bR
  ·have c9:decide ((j:Int)>1)=false:=dF (by omega)
   by_cases hf0:j=0
   ·have hq:((j:Int)==0)=true:=(by rw[beq_iff_eq];omega);have H:=Hd hf0;clear hf1 hf0 h2
    by_cases F:B-p-1<32
    ·have d:=Hd (c1.out E.out H.out F);have e1:decide ((B:Int)-(p:Int)-1<32)=true:=dT (by have:=E.out;omega);clear F;go_in;go_wp2_with fail;refine bodyPost_ret (Bp rfl _ _ _) rfl ?_;exact m.out _ _ rfl (by decide) d.out bR
    ·obtain⟨R,hR,hn⟩:=cT.out E.out H.out F;have HR:=Hd hR;have aO:=Hd hn;have O:=Hd (show p+33<=B by have:=E.out;omega);obtain⟨sa,sc,bX,bY⟩:=aG.out O.out;have cQ:=Hd (show∀w',(Instr.sliceAt 28 (rC (some ⟨vb,vo,rI⟩) B cap) (some (rD rF ((p:Int)+1))) (some (rD rF ((p:Int)+33))) none).run prog w'=.ok (rC sa 32 sc) w' from fun w'=>by
      have:=bX w';rw[show p+33-(p+1)=32 by omega]at this;exact this)
     have cR:=Hd (show∀w',Rd w' (rC (some ⟨vb,vo,rI⟩) B cap) (bvs L)->Rd w' (rC sa 32 sc) (bvs hx)from fun w' hw=>by
      have:=bY w' hw;rw[show p+33-(p+1)=32 by omega]at this;rw[cE.out];simpa [bvs,List.map_take,List.map_drop]using this)
     have e1:decide ((B:Int)-(p:Int)-1<32)=false:=dF (by have:=O.out;omega);clear F hR hn bX bY;go_in;go_wp2_with fail;clear e1;refine Dj [eF (rD rF (x:Nat)),eF (rC (some ⟨vb,vo,rI⟩) B cap),eF (rD rF (p:Nat)),eF (rD rF ((p:Int)+1)),eF (rD rF (p:Nat)),eF (rD rF ((p:Int)+33)),eF (rC sa 32 sc),eF (.agg #[rD rF (x:Nat),rC sa 32 sc]),fun v w'=>∃g,v=rC (some ⟨g,0,rI⟩) 1 1/\w.heap.size<=g/\Blk w' g 89 #[rD rF (x:Nat),rC sa 32 sc],eF (rD rF (p:Nat)),eF (rD rF ((p:Int)+33)),eF (rC rI 0 0),fun v w'=>∃g,v=rC (some ⟨g,0,rI⟩) 1 1/\w.heap.size<=g/\Blk w' g 89 #[rD rF (x:Nat),rC sa 32 sc],eF (rD rF ((p:Int)+33)),eF (rD rF 0)] (by kernel_rfl) (by kernel_rfl) (by kernel_rfl) (kE (kE (kE (kE (kE (kE (kE (kE (Ax (fun v x y h hi F=>let⟨g,e,hg,k⟩:=h;⟨g,e,hg,k.below F k.lt⟩) (kE (kE (kE (Ax (fun v x y h hi F=>let⟨g,e,hg,k⟩:=h;⟨g,e,hg,k.below F k.lt⟩) (kE (kE (Ag)))))))))))))))) ?_ ?_
     ·refine gQ ?_ (gQ ?_ (gQ ?_ (gB ?_ (gQ ?_ (gB ?_ (gQ ?_ (gQ ?_ (gB ?_ (gQ ?_ (gB ?_ (gB ?_ (gB ?_ (gQ ?_ (gB ?_ .nil))))))))))))));all_goals
       intro a wx c6 ho hf;refine⟨rfl,?_⟩;intro K hK;try have dL:a.tmps[0]?.getD undef=rC (some ⟨vb,vo,rI⟩) B cap:=ho 0 (by kernel_rfl)
       try have dM:a.tmps[1]?.getD undef=rD rF (p:Nat):=ho 1 (by kernel_rfl)
       try have dN:a.tmps[2]?.getD undef=rD rF (x:Nat):=ho 2 (by kernel_rfl)
       try have dI:=eqn hf.1
       try have dJ:=eqn hf.2.1
       try have dK:=eqn hf.2.2.1
       try have dH:=cQ.out
       try(refine Hd ?_;go_simp;exact hK _ rfl)
      ·have bW:=O.out;have P:IntKind.i64.wrap (((p:Int)+1))=((p:Int)+1):=(by rw[IntKind.wrap_i64];omega);have Q:(p:Int)+1=((p:Int)+1):=(by omega);have bK:IntKind.i64.wrap ((p:Int)+1)=((p:Int)+1):=(by rw[Q];exact P);go_simp;exact hK _ _ rfl bR
      ·have bW:=O.out;have P:IntKind.i64.wrap (((p:Int)+33))=((p:Int)+33):=(by rw[IntKind.wrap_i64];omega);have Q:(p:Int)+33=((p:Int)+33):=(by omega);have bK:IntKind.i64.wrap ((p:Int)+33)=((p:Int)+33):=(by rw[Q];exact P);go_simp;exact hK _ _ rfl bR
      ·go_simp;exact hK _ _ ⟨_,rfl,c6.size,Blk.new _ _ _⟩ (bR.alloc lR _)
      ·have bW:=O.out;have P:IntKind.i64.wrap (((p:Int)+33))=((p:Int)+33):=(by rw[IntKind.wrap_i64];omega);have Q:(p:Int)+33=((p:Int)+33):=(by omega);have bK:IntKind.i64.wrap ((p:Int)+33)=((p:Int)+33):=(by rw[Q];exact P);go_simp;exact hK _ _ rfl bR
      ·
       go_simp;exact hK _ _ rfl bR
      ·have o0:∃g,(a.tmps[51]?.getD undef)=rC (some ⟨g,0,rI⟩) 1 1/\w.heap.size<=g/\Blk wx g 89 #[rD rF (x:Nat),rC sa 32 sc]:=hf.1;obtain⟨v0,aX⟩:=eX (a.tmps[51]?.getD undef);rw[<-aX]at o0;have e0:=aX.symm;clear aX;go_simp;exact hK _ _ o0 bR
      ·
       go_simp;exact hK _ _ rfl bR
     ·rintro f w9 aB A;have aB:Below w.heap.size w w9:=aB;have S6:f 6=rC rI 0 0:=A.2.2.2.2.2.2.2.2.2.2.2.1;have S7:∃g,(f 7)=rC (some ⟨g,0,rI⟩) 1 1/\w.heap.size<=g/\Blk w9 g 89 #[rD rF (x:Nat),rC sa 32 sc]:=A.2.2.2.2.2.2.2.2.2.2.2.2.1;have S8:f 8=rD rF ((p:Int)+33):=A.2.2.2.2.2.2.2.2.2.2.2.2.2.1;have S9:f 9=rD rF 0:=A.2.2.2.2.2.2.2.2.2.2.2.2.2.2.1;clear A;simp only[Ao,Av,Ej,List.filterMap_cons,List.filterMap_nil,List.contains_cons,List.contains_nil,Nat.reduceBEq,Nat.reduceAdd,Bool.or_false,Bool.or_true,cond_true,cond_false];rw[S6];clear S6;obtain⟨u7,b0⟩:=eX (f 7);rw[<-b0]at S7|-;clear b0;rw[S8];clear S8;rw[S9];clear S9
      obtain⟨g,rfl,hg,z⟩:=S7;go_wp2_with fail;refine bodyPost_ret (Bp rfl _ _ _) rfl ?_;refine HS.out _ _ rfl (by rw[HR.out]) (fun _=>by rw[HR.out];have:=aO.out;simp only;omega) (by rw[HR.out];exact SpT.nil _ _) ?_ aB;rw[HR.out];exact⟨[(((x:Int),hx),rC sa 32 sc)],rfl,OwnK.one z hg rfl,fun t ht=>by
       simp only[aZ,dC,or_false]at ht;subst ht;exact cR.out _ (bC.out.below aB lR)⟩
   ·have hq:((j:Int)==0)=false:=(by rw[qN];omega);have H:=Hd (show j=1 by omega);clear hf1 hf0 h2;have a5:=Hd (cD.out E.out H.out);go_in;go_wp2_with fail;rw[show((p:Int)+1)=((p+1:Nat):Int) by omega];refine(a5.out w bR).mono ?_;rintro e w1 ⟨c,nx,rfl,bU,X,V,l⟩;have Y:=X.oneL;obtain⟨f1,f2,f3,f4,f5,f6,f7,f8,f9,rfl⟩:=X.cells10;obtain⟨G,U⟩:=eX dn.kind;rw[<-U]at X Y dA|-;have aA:=Hd U;have cH:=Hd X;have M:=Hd V;have a8:=Hd Y;have aP:=Hd bU;have B1:=Hd l;clear X Y l V U bP bQ bS c7 dE;simp only at aP;clear bU;go_wp2_with (refine Aa rfl 52 (.tmp 10) (.tmp 59) rfl w1.heap.size #[rD rG (G:Nat),f1,f2,f3,f4,f5,f6,f7,f8,f9] rfl rfl 52 #[rD rG 0,rC rI 0 0,rC rI 0 0,rC rI 0 0,rD rG 0,rC rI 0 0,rC rI 0 0,rC rI 0 0,rC rI 0 0,rC rI 0 0] (Blk.new _ _ _) (by kernel_rfl) rfl a8.out ?_);rintro w2 z bO bV aW;have l:Below w1.heap.size w1 w2:=(bR.alloc lR _).trans (bO _ lR);obtain⟨q,hq⟩:=eX w1.heap.size;rw[<-hq]at z|-;have Q2:=Hd z;have B2:=Hd (B1.out.trans (l.mono B1.out.size));have aF:=Hd (cH.out.below l lR);clear z bO bV aW l hq
    by_cases he:I=0
    ·have Z:=Hd he;have c8:((I:Int) !=0)=false:=(by rw[bne_eq_false_iff_eq];omega);have y0:=Q2.out.cell 0;simp only[List.getElem?_toArray,List.getElem?_cons_zero]at y0;clear he
     by_cases hp0:par=0
     ·have aQ:=Hd hp0;clear hp0;have bZ:Int.tmod (x:Int) 2=0:=by rw[bD.out,aQ.out];rfl
      by_cases hk:G=2
      ·have aC:((G:Int)==2)=true:=(by rw[beq_iff_eq];omega);have d:=Hd (bF.out E.out H.out Z.out (.inl ⟨aQ.out,by rw[<-aA.out];exact hk⟩));clear hk;go_wp2_with fail;refine bodyPost_ret (Bp rfl _ _ _) rfl ?_;exact m.out _ _ rfl (by decide) d.out B2.out
      ·have aC:((G:Int)==2)=false:=(by rw[qN];omega);obtain⟨R,hR,hn⟩:=cW.out E.out H.out Z.out aQ.out (by rw[<-aA.out];exact hk);have HR:=Hd hR;have aO:=Hd hn;clear hk hR hn;go_wp2_with (refine Af rfl 52 (.tmp 10) rfl q rfl 52 #[rD rG (G:Nat),f1,f2,f3,f4,f5,f6,f7,f8,f9] (0,0) _ Q2.out underlying52 rfl (by kernel_rfl) ?_);clear y0;go_wp2_with fail;refine bodyPost_ret (Bp rfl _ _ _) rfl ?_;have b:=(Below.refl w2.heap.size w2).alloc lR (rJ #[rD rF (x:Nat),rD rG (G:Nat),f1,f2,f3,f4,f5,f6,f7,f8,f9] 87);refine HS.out _ _ rfl (by rw[HR.out]) (fun _=>by rw[HR.out,aP.out Z.out,aO.out]) ?_ (by rw[HR.out];exact StT.nil _ _) (B2.out.trans (b.mono B2.out.size));rw[HR.out];exact⟨[(((x:Int),dn),#[rD rG (G:Nat),f1,f2,f3,f4,f5,f6,f7,f8,f9])],rfl,OwnK.one (Blk.new _ _ _) B2.out.size rfl,fun t ht=>by
        simp only[aZ,dC,or_false]at ht;subst ht;exact⟨aF.out.below b lR,M.out⟩⟩
     ·have n:=Hd (show par=1 by have:=a9.out;omega);clear hp0;obtain rfl:nx=(nn:Int):=aP.out Z.out;have bZ:Int.tmod (x:Int) 2=1:=by rw[bD.out,n.out];rfl
      by_cases hk:G=1
      ·have aC:((G:Int)==1)=true:=(by rw[beq_iff_eq];omega);have d:=Hd (bF.out E.out H.out Z.out (.inr ⟨n.out,by rw[<-aA.out];exact hk⟩));clear hk;go_wp2_with fail;refine bodyPost_ret (Bp rfl _ _ _) rfl ?_;exact m.out _ _ rfl (by decide) d.out B2.out
      ·have aC:((G:Int)==1)=false:=(by rw[qN];omega);have aN:=Hd (show dn.kind≠1 by rw[<-aA.out];exact hk);have a1:=Hd (cA.out n.out);have a2:=Hd (cB.out E.out H.out Z.out n.out);have a3:=Hd (cC.out E.out H.out Z.out n.out);have bG:=Hd (cZ.out E.out H.out Z.out n.out aN.out);have bH:=Hd (c0.out E.out H.out Z.out n.out aN.out);have bE:=Hd (cX.out E.out H.out Z.out n.out aN.out);clear hk;go_wp2_with (refine Af rfl 52 (.tmp 10) rfl q rfl 52 #[rD rG (G:Nat),f1,f2,f3,f4,f5,f6,f7,f8,f9] (0,0) _ Q2.out underlying52 rfl (by kernel_rfl) ?_);clear y0;obtain⟨w3,aE⟩:=eX (w2.alloc (rJ #[rD rF (x:Nat),rD rG (G:Nat),f1,f2,f3,f4,f5,f6,f7,f8,f9] 87));have cS:=Hd aE;have b:Below w2.heap.size w2 w3:=(by rw[aE];exact(Below.refl w2.heap.size w2).alloc lR _);have B3:=Hd (B2.out.trans (b.mono B2.out.size));obtain⟨ow,how⟩:=eX w2.heap.size;have c2:=Hd (show SpT w3 w.heap.size (rC (some ⟨ow,0,rI⟩) 1 1) [((x:Int),dn)]from⟨[(((x:Int),dn),#[rD rG (G:Nat),f1,f2,f3,f4,f5,f6,f7,f8,f9])],rfl,OwnK.one (cs:=#[rD rF (x:Nat),rD rG (G:Nat),f1,f2,f3,f4,f5,f6,f7,f8,f9]) (by rw[how,aE];exact Blk.new _ _ _) (by rw[how];exact B2.out.size) rfl,fun t ht=>by
        simp only[aZ,dC,or_false]at ht;subst ht;exact⟨aF.out.below b lR,M.out⟩⟩)
       have cL:=Hd how;clear aE b how;go_wp2_with fail;rw[<-cS.out,<-cL.out];refine(a1.out w3).mono ?_;rintro e w4 ⟨rfl,l⟩;have B4:=Hd (B3.out.trans (l.mono B3.out.size));have c3:=Hd (c2.out.below l lR);clear l bZ aC;go_wp2_with fail;refine(a2.out w4 B4.out).mono ?_;rintro e w5 ⟨o,s,n5,rfl,aT,ho,F,l⟩;have B5:=Hd (B4.out.trans (l.mono B4.out.size));have c4:=Hd (c3.out.below l lR);have cI:=Hd (ho.mono B4.out.size);have cM:=Hd (F.mono B4.out.size);obtain⟨el,aR⟩:=eX i.er;rw[<-aR]at aT|-;have aL:=Hd aR;have cF:=Hd aT;clear l ho F aR aT
       by_cases hl:el=0
       ·have HL0:=Hd (show i.er=0 by rw[<-aL.out];exact hl);have dB:((el:Int) !=0)=false:=(by rw[bne_eq_false_iff_eq];omega);have e5:=cF.out hl;have aK:=a3.out HL0.out;obtain⟨nl,aV⟩:=eX (B-i.rest.length);rw[<-a6.out,<-aV]at e5;rw[<-aV]at aK;subst e5;have a4:=Hd aK;clear hl aV aK;go_wp2_with fail;refine(a4.out w5 B5.out).mono ?_;rintro e w6 ⟨o2,s2,n6,rfl,aU,ho,F,l⟩;have B6:=Hd (B5.out.trans (l.mono B5.out.size));have c5:=Hd (c4.out.below l lR).u;have cJ:=Hd (cI.out.below l lR).u;have cN:=Hd (cM.out.below l lR).u;have cK:=Hd (ho.mono B5.out.size).u;have cO:=Hd F.u;obtain⟨er,aS⟩:=eX C.er;rw[<-aS]at aU|-;have aM:=Hd aS;have cG:=Hd aU;clear l ho F aS aU
        by_cases hr:er=0
        ·have bB:=Hd (show C.er=0 by rw[<-aM.out];exact hr);have dD:((er:Int) !=0)=false:=(by rw[bne_eq_false_iff_eq];omega);have a7:=Hd (cG.out hr);have d:=Hd (bE.out HL0.out bB.out);have J:=Hd (b5.out HL0.out);have a0:=Hd (b6.out bB.out);clear hr;have b:=(Below.refl w6.heap.size w6).alloc lR (rJ #[] 87);go_wp2_with (at_builtin;refine Ia rfl (.tmp 125) (.tmp 126) rfl w6.heap.size _ [] rfl (SpU.lit (wc:=w6) (D:=w.heap.size)) o w.heap.size i.op rfl (cJ.out.below b lR) ?n1 ?b1 ?_);case n1=>have:=J.out;show 0+i.op.length<137438953472;omega
         case b1=>simp
         rintro v7 w7 h7 b7;have B7:=Hd (b.trans b7);have H7:=Hd h7;clear b b7 h7;go_wp2_with (at_builtin;refine Ia rfl (.tmp 127) (.tmp 128) rfl w6.heap.size v7 _ rfl H7.out _ w.heap.size [((x:Int),dn)] rfl (c5.out.below B7.out lR) ?n1 ?b1 ?_);case n1=>have:=J.out;show i.op.length+1<137438953472;omega
         case b1=>exact B7.out.size
         rintro v8 w8 h8 b8;have B8:=Hd (B7.out.trans b8);have H8:=Hd h8;clear b8 h8;go_wp2_with (at_builtin;refine Ia rfl (.tmp 129) (.tmp 130) rfl w6.heap.size v8 _ rfl H8.out o2 w.heap.size C.op rfl (cK.out.below B8.out lR) ?n1 ?b1 ?_);case n1=>have:=J.out;have:=a0.out;rw[bA];show i.op.length+1+C.op.length<137438953472;omega
         case b1=>exact B8.out.size
         rintro v9 w9 h9 b9;have B9:=Hd (B8.out.trans b9);have H9:=Hd h9;clear b9 h9;have b:=(Below.refl w9.heap.size w9).alloc lR (rJ #[] 89);have bN:=B9.out.trans (b.mono B9.out.size);go_wp2_with (at_builtin;refine Mg rfl (.tmp 132) (.tmp 133) rfl w9.heap.size _ [] rfl (StU.lit (wc:=w6)) s w.heap.size i.sh rfl (cN.out.below bN lR) ?n1 ?b1 ?_);case n1=>have:=J.out;show 0+i.sh.length<137438953472;omega
         case b1=>simp
         rintro dG dQ bL bI;have aJ:=Hd (b.trans bI);have b2:=Hd (B9.out.trans (aJ.out.mono B9.out.size));have b3:=Hd bL;clear b bN bI bL;go_wp2_with (at_builtin;refine Mg rfl (.tmp 134) (.tmp 135) rfl w9.heap.size dG _ rfl b3.out s2 w5.heap.size C.sh rfl (cO.out.below b2.out lR) ?n1 ?b1 ?_);case n1=>have:=J.out;have:=a0.out;show i.sh.length+C.sh.length<137438953472;omega
         case b1=>exact aJ.out.size
         rintro dP dR bM bJ;have aY:=Hd (aJ.out.trans bJ);have aI:=Hd (B9.out.trans (aY.out.mono B9.out.size));have b4:=Hd bM;clear bJ bM;go_wp2_with fail;refine bodyPost_ret (Bp rfl _ _ _) rfl ?_;refine HS.out _ _ rfl (by rw[d.out]) (fun _=>by rw[d.out,a6.out];exact a7.out) ?_ ?_ (B6.out.trans (aI.out.mono B6.out.size))
         ·rw[d.out];have:=(H9.out.below aY.out lR).t aI.out B6.out.size lR;simpa using this
         ·rw[d.out];have:=b4.out.t aI.out (Nat.le_trans B6.out.size B9.out.size);simpa using this
        ·have N:=Hd hr;have dD:((er:Int) !=0)=true:=(by rw[bne_iff_ne];omega);have d:=Hd (bH.out HL0.out (by rw[<-aM.out];exact hr));rw[<-aM.out]at d;clear hr;go_wp2_with fail;refine bodyPost_ret (Bp rfl _ _ _) rfl ?_;exact m.out _ _ rfl N.out d.out B6.out
       ·have N:=Hd hl;have dB:((el:Int) !=0)=true:=(by rw[bne_iff_ne];omega);have d:=Hd (bG.out (by rw[<-aL.out];exact hl));rw[<-aL.out]at d;clear hl;go_wp2_with fail;refine bodyPost_ret (Bp rfl _ _ _) rfl ?_;exact m.out _ _ rfl N.out d.out B5.out
    ·have N:=Hd he;have c8:((I:Int) !=0)=true:=(by rw[bne_iff_ne];omega);have d:=Hd (cY.out E.out H.out he);clear he;go_wp2_with fail;refine bodyPost_ret (Bp rfl _ _ _) rfl ?_;exact m.out _ _ rfl N.out d.out B2.out
 ·have bP:decide ((p:Int)>=(B:Int))=true:=dT (by omega);have bQ:decide ((B:Int)<=(p:Int))=true:=dT (by omega);have bS:decide (B<=p)=true:=dT (by omega);have d:=Hd (cV.out (by omega));clear h2;go_in;go_wp2_with fail;refine bodyPost_ret (Bp rfl _ _ _) rfl ?_;exact m.out _ _ rfl (by decide) d.out bR
