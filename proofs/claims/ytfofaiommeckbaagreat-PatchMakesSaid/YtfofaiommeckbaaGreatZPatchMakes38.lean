/- Plain: what is left of bytes that are read is their end. -/
import Derived.Test.YtfofaiommeckbaaGreatZPatchMakesB
import Derived.Test.YtfofaiommeckbaaGreatZPatchMakes37
open List renaming map_append → gL, length_append → aG, flatMap_append → fI
set_option linter.unusedVariables false
set_option maxRecDepth 100000
set_option maxHeartbeats 40000000
namespace Go.Proofs.YtfofaiommeckbaaGreat
open Go.RowKit WalkM WireM
theorem OwnK.one {w:World} {B g k:Nat} {e:TypeId} {cs:Array Value}(h:Blk w g e cs)(hB:B≤g)(hk:cs.size=k):OwnK w B e k (.slice (some ⟨g,0,none⟩) 1 1) 1 cs.toList:=by
 subst hk;refine⟨by simp,.inr ⟨g,1,cs,rfl,hB,h,lR,by unfold maxLen;omega,by simp,?_⟩⟩;rw[List.take_of_length_le (by simp)]
def SpU (wc:World)(D:Nat)(w:World)(B:Nat)(v:Value)(l:List (Int×NodeD)):Prop:=
 ∃T:List ((Int×NodeD)×Array Value),T.map (·.1)=l∧OwnK w B 87 11 v l.length (T.flatMap fun t=> .int .i64 t.1.1::t.2.toList)∧∀t∈T,NodeC wc t.1.2 t.2∧LateNew D t.2
def StU (wc w:World)(B:Nat)(v:Value)(l:List (Int×List Nat)):Prop:=
 ∃T:List ((Int×List Nat)×Value),T.map (·.1)=l∧OwnK w B 89 2 v l.length (T.flatMap fun t=>[.int .i64 t.1.1,t.2])∧∀t∈T,Rd wc t.2 (bvs t.1.2)
theorem SpU.below {wc w w':World} {B B' D:Nat} {v:Value} {l:List (Int×NodeD)}(h:SpU wc D w B v l)(hb:Below B' w w')(hB:w.heap.size≤B'):SpU wc D w' B v l:=by
 obtain⟨T,h1,h2,h3⟩:=h;exact⟨T,h1,h2.below hb hB,h3⟩
theorem StU.below {wc w w':World} {B B':Nat} {v:Value} {l:List (Int×List Nat)}(h:StU wc w B v l)(hb:Below B' w w')(hB:w.heap.size≤B'):StU wc w' B v l:=by
 obtain⟨T,h1,h2,h3⟩:=h;exact⟨T,h1,h2.below hb hB,h3⟩
theorem SpU.t {wc w:World} {B B' D:Nat} {v:Value} {l:List (Int×NodeD)}(h:SpU wc D w B v l)(hb:Below wc.heap.size wc w)(hB:B'≤B)(hD:B'≤D):SpT w B' v l:=by
 obtain⟨T,h1,h2,h3⟩:=h;exact⟨T,h1,h2.mono hB,fun t ht=>⟨(h3 t ht).1.below hb lR,(h3 t ht).2.mono hD⟩⟩
theorem StU.t {wc w:World} {B B':Nat} {v:Value} {l:List (Int×List Nat)}(h:StU wc w B v l)(hb:Below wc.heap.size wc w)(hB:B'≤B):StT w B' v l:=by
 obtain⟨T,h1,h2,h3⟩:=h;exact⟨T,h1,h2.mono hB,fun t ht=>(h3 t ht).below hb lR⟩
theorem Ru {wc w:World} {D:Nat} {ops:Array Oper} {rest:List Oper} {o:Oper} {a:Act} {Q:Exit→Act→World→Prop} (hgd:o.guard=none) (s x:Operand)
  (ho:o.op=.call {callee:=.builtin .append,args:=#[s,x],argTypes:=#[22,22]})
  (B:Nat) (v:Value) (l:List (Int×NodeD)) (hs:a.eval s=v) (hown:SpU wc D w B v l) (r:Value) (B':Nat) (m:List (Int×NodeD)) (hx:a.eval x=r) (hr:SpU wc D w B' r m) (hn:l.length+m.length<137438953472) (hB:B≤w.heap.size)
  (h:∀v' w',SpU wc D w' B v' (l++m)→Below B w w'→wpList Tryz.prog ops Q rest (a.put o.dst v') w'):wpList Tryz.prog ops Q (o::rest) a w:=by
 obtain⟨T,h1,h2,h3⟩:=hown;obtain⟨T',k1,k2,k3⟩:=hr;refine Mn hgd s x 22 ho B 87 _ 11 _ Vr v _ _ hs h2 r B' _ _ hx k2 (fun u hu=> ?_) hn hB fun v' w' hv hb=>h v' w' ⟨T++T',by rw[gL,h1,k1],by rw[aG,fI];exact hv,fun t ht=>(List.mem_append.1 ht).elim (h3 t) (k3 t)⟩ hb;obtain⟨t,ht,hu⟩:=List.mem_flatMap.1 hu;rcases List.mem_cons.1 hu with rfl|hu
 ·rfl
 ·exact List.all_eq_true.1 (k3 t ht).1.oneL u hu
theorem Rv {wc w:World} {ops:Array Oper} {rest:List Oper} {o:Oper} {a:Act} {Q:Exit→Act→World→Prop} (hgd:o.guard=none) (s x:Operand)
  (ho:o.op=.call {callee:=.builtin .append,args:=#[s,x],argTypes:=#[23,23]})
  (B:Nat) (v:Value) (l:List (Int×List Nat)) (hs:a.eval s=v) (hown:StU wc w B v l) (r:Value) (B':Nat) (m:List (Int×List Nat)) (hx:a.eval x=r) (hr:StU wc w B' r m) (hn:l.length+m.length<137438953472) (hB:B≤w.heap.size)
  (h:∀v' w',StU wc w' B v' (l++m)→Below B w w'→wpList Tryz.prog ops Q rest (a.put o.dst v') w'):wpList Tryz.prog ops Q (o::rest) a w:=by
 obtain⟨T,h1,h2,h3⟩:=hown;obtain⟨T',k1,k2,k3⟩:=hr;refine Mn hgd s x 23 ho B 89 _ 2 _ Zav v _ _ hs h2 r B' _ _ hx k2 (fun u hu=> ?_) hn hB fun v' w' hv hb=>h v' w' ⟨T++T',by rw[gL,h1,k1],by rw[aG,fI];exact hv,fun t ht=>(List.mem_append.1 ht).elim (h3 t) (k3 t)⟩ hb;obtain⟨t,ht,hu⟩:=List.mem_flatMap.1 hu;simp only[List.mem_cons,List.not_mem_nil,or_false]at hu;rcases hu with rfl|rfl
 ·rfl
 ·obtain⟨a,c,e,-⟩:=k3 t ht;rw[e];rfl
end Go.Proofs.YtfofaiommeckbaaGreat
