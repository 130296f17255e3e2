/- Plain: an own copy of a tree of which some nodes are replaced; lists out of functions. -/
import Derived.Test.YtfofaiommeckbaaGreatZPatchMakesB
import Derived.Laws.OwnMore
import Derived.Test.YtfofaiommeckbaaGreatZPatchMakes27
open List renaming flatMap_cons → gK, getD_eq_getElem?_getD → aH, length_map → fJ, getElem?_eq_getElem → aI, getElem_mem → aJ
set_option linter.unusedVariables false
set_option maxRecDepth 100000
set_option maxHeartbeats 40000000
namespace Go.Proofs.YtfofaiommeckbaaGreat
open Go.RowKit WalkM WireM
end Go.Proofs.YtfofaiommeckbaaGreat
namespace Go.Proofs.YtfofaiommeckbaaGreat
open Go.RowKit WireM
theorem Gy {P:Program} {fn:Func} {p q r:Tmp} {ty:TypeId} (h:fn.results=#[.cell p ty,.tmp q,.tmp r]) (tmps:Array Value) (w:World) (g:Nat) (t:TypeId) (cs:Array Value) (d:TypeDesc)
  (hp:tmps.getD p undef=.pointer (some ⟨g,0,none⟩)) (hg:Blk w g t cs)
  (hu:P.underlying ty=some d) (hd:(match d with| .struct _| .array _ _=>true|_=>false)=true) (hi:(P.info? ty).map (·.size)=some cs.size):
  (results fn tmps).run P w=.ok (.tuple #[.agg cs,tmps.getD q undef,tmps.getD r undef]) w:=by
 have hp':tmps[p]?.getD undef=.pointer (some ⟨g,0,none⟩):=(by simpa using hp);simp[results,h,hp',asAddr,run_loadVar_row w g t ty cs (0,0) d hg hu hd hi]
section
theorem Only.then {B:Nat} {a b c:World}(h:Only B a b)(k:Below a.heap.size b c):Only B a c:=
 ⟨k.os.trans h.os,k.tape.trans h.tape,k.output.trans h.output,Nat.le_trans h.size k.size,fun i hi hne=>(k.block i hi).trans (h.block i hi hne)⟩
theorem Blk.only {w w':World} {g C:Nat} {t:TypeId} {cs:Array Value}(h:Blk w g t cs)(ho:Only C w w')(hne:g≠C):Blk w' g t cs:=
 (ho.block g h.lt (fun e=>hne (by simpa using e))).trans h
section
variable {w w':World} {g B q:Nat} {l:List (Value×List Nat)} {v:Value} {L:List Nat} {t:TypeId} {cs:Array Value}
end
end
def LateNew (B:Nat)(c:Array Value):Prop:=∀b off n cp,c[9]? =some (.slice (some ⟨b,off,none⟩) n cp)→B≤b
theorem LateNew.mono {B B':Nat} {c:Array Value}(h:LateNew B c)(hB:B'≤B):LateNew B' c:=fun b off n cp e=>Nat.le_trans hB (h b off n cp e)
open WalkM
theorem Mn {P:Program} {w:World} {ops:Array Oper} {rest:List Oper} {o:Oper} {a:Act} {Q:Exit→Act→World→Prop} (hgd:o.guard=none) (s x:Operand) (t:TypeId)
  (ho:o.op=.call {callee:=.builtin .append,args:=#[s,x],argTypes:=#[t,t]})
  (B:Nat) (e:TypeId) (z:Value) (k bytes:Nat) (F:ElemK P t e z k bytes) (v:Value) (n:Nat) (xs:List Value) (hs:a.eval s=v) (hown:OwnK w B e k v n xs)
  (r:Value) (B' m:Nat) (ys:List Value) (hx:a.eval x=r) (hr:OwnK w B' e k r m ys) (h1:∀u∈ys,u.oneCell'=true) (hn:n+m<137438953472) (hB:B≤w.heap.size)
  (h:∀v' w',OwnK w' B e k v' (n+m) (xs++ys)→Below B w w'→wpList P ops Q rest (a.put o.dst v') w'):wpList P ops Q (o::rest) a w:=by
 obtain⟨i,hi,hz,hsz,hby⟩:=Fx F.inf;have low:=F.low;have key:∀(ad:Addr) (c:Nat),r=.slice (some ad) m c→(∀(j:Nat) u,ys[j]? =some u→w.cell? (ad.add j)=some u)→wpList P ops Q (o::rest) a w:=by
  intro ad c er hnews;refine wpList_append_own w hgd s x t ho B e i z k bytes F.ty hi hz hsz hby F.one F.pos v n xs hs hown ad m c ys (hx.trans er) hr.len hnews h1 ?_ ?_ hB ?_
  ·unfold maxLen;omega
  ·have:(n+m)*bytes≤(n+m)*512:=Nat.mul_le_mul_left _ low;omega
  ·intro v' w' h2 h3 _;exact h v' w' h2 ((Below.refl B w).grown h3 hB fun j hj=>(World.ownsRow.lt hown j hj).1)
 rcases Nat.eq_zero_or_pos m with h0|hp
 ·have hy:ys=[]:=List.eq_nil_of_length_eq_zero (by rw[hr.len,h0,Nat.zero_mul]);rcases hr.2 with⟨rfl,_⟩|⟨g,cap,cur,rfl,hg,hh,hn,hm,hs,ht⟩
  ·refine wpList_append_own_none hgd s x t ho B e i k F.ty hi v n xs hs hown hx ?_;exact h v w (by rw[hy,h0,List.append_nil];exact hown) bR
  ·exact key _ _ rfl (fun j u hu=>by rw[hy]at hu;simp at hu)
 ·obtain⟨g,cap,rfl,-,-,-,-,hc,-⟩:=hr.out hp;exact key _ _ rfl (fun j u hu=>by rw[Addr.add_lit,Nat.zero_add];exact hc j u hu)
theorem Js {α β:Type}:∀(T:List α) (f: α→List β) (g:Nat→List β),(∀i t,T[i]? =some t→g i=f t)→(List.range T.length).flatMap g=T.flatMap f
 |[],_,_,_=>rfl
 |a::T,f,g,h=>by
  rw[List.length_cons,List.range_succ_eq_map,gK,gK,h 0 a rfl,List.flatMap_map,Js T f (fun i=>g (i+1)) (fun i t ht=>h (i+1) t ht)]
def SpT (w:World)(B:Nat)(v:Value)(l:List (Int×NodeD)):Prop:=
 ∃T:List ((Int×NodeD)×Array Value),T.map (·.1)=l∧OwnK w B 87 11 v l.length (T.flatMap fun t=> .int .i64 t.1.1::t.2.toList)∧∀t∈T,NodeC w t.1.2 t.2∧LateNew B t.2
def StT (w:World)(B:Nat)(v:Value)(l:List (Int×List Nat)):Prop:=
 ∃T:List ((Int×List Nat)×Value),T.map (·.1)=l∧OwnK w B 89 2 v l.length (T.flatMap fun t=>[.int .i64 t.1.1,t.2])∧∀t∈T,Rd w t.2 (bvs t.1.2)
theorem Zbi {T:List ((Int×NodeD)×Array Value)} {i:Nat} {t:(Int×NodeD)×Array Value}(h:T[i]? =some t):spt (T.map (·.1)) i=t.1:=by simp[spt,aH,h]
theorem Zbj {T:List ((Int×List Nat)×Value)} {i:Nat} {t:(Int×List Nat)×Value}(h:T[i]? =some t):stb (T.map (·.1)) i=t.1:=by simp[stb,aH,h]
theorem SpT.spots {w:World} {B:Nat} {v:Value} {l:List (Int×NodeD)}(h:SpT w B v l):SpotsR w v l:=by
 obtain⟨T,rfl,h2,h3⟩:=h;refine Pq (B:=B) (C:=fun i=>match T[i]? with|some t=>t.2|none=>#[.int .u8 0,.slice none 0 0,.slice none 0 0,.slice none 0 0,.int .u8 0,.slice none 0 0,.slice none 0 0,.slice none 0 0,.slice none 0 0,.slice none 0 0]) (fun i=> ?_) (fun i hi=> ?_) ?_
 ·rcases ht:T[i]? with _|t
  ·rfl
  ·exact(h3 t (List.mem_of_getElem? ht)).1.size
 ·rw[fJ]at hi;have ht:=aI hi;rw[Zbi ht];simp only[ht];exact(h3 _ (aJ hi)).1
 ·rw[fJ]at h2⊢;rw[Js T (fun t=> .int .i64 t.1.1::t.2.toList) _ fun i t ht=>by unfold Dn;rw[Zbi ht];simp only[ht]];exact h2
theorem StT.stubs {w:World} {B:Nat} {v:Value} {l:List (Int×List Nat)}(h:StT w B v l):StubsR w v l:=by
 obtain⟨T,rfl,h2,h3⟩:=h;refine Vq (B:=B) (U:=fun i=>match T[i]? with|some t=>t.2|none=> .slice none 0 0) (fun i hi=> ?_) ?_
 ·rw[fJ]at hi;have ht:=aI hi;rw[Zbj ht];simp only[ht];exact h3 _ (aJ hi)
 ·rw[fJ]at h2⊢;rw[Js T (fun t=>[.int .i64 t.1.1,t.2]) _ fun i t ht=>by unfold Gv;rw[Zbj ht];simp only[ht]];exact h2
end Go.Proofs.YtfofaiommeckbaaGreat
namespace Go.Proofs.YtfofaiommeckbaaGreat
open Go.RowKit WireM
end Go.Proofs.YtfofaiommeckbaaGreat
