/- Slices as they come in. -/
import Derived.Test.YtfofaiommeckbaaGreatZSliceReadsB
import Derived.Deep.Slices
import Derived.Deep.Fields
import Derived.ChangeSame
import Derived.Deep.Strs
import Derived.Test.YtfofaiommeckbaaGreatZSliceReads19
import Derived.Test.YtfofaiommeckbaaGreatZSliceReads34
open List renaming getD_eq_getElem?_getD → aH, getElem?_eq_getElem → aI, getElem_mem → aJ
set_option linter.unusedVariables false
set_option maxRecDepth 100000
set_option maxHeartbeats 40000000
namespace Go.Proofs.YtfofaiommeckbaaGreat
open Go.RowKit WireM Go.ChangeShapes Go.WideShapes Go.Deep
section
section
variable {H:Type} {enc:TypeId×Value→H} {P:Program} {w:World} {base:Nat} {spare:Nat→Bool} {held:Bool}
end
end
open Go.ChangeAt
theorem c5:Tryz.prog.cellsOf 5=1:=by kernel_rfl
open WalkM
section
structure SparseD where
 leaves:Int
 own:Int
 op:List (Int×NodeD)
 sh:List (Int×List Nat)
def spt (l:List (Int×NodeD))(i:Nat):Int×NodeD:=l.getD i (0,Ak)
def stb (l:List (Int×List Nat))(i:Nat):Int×List Nat:=l.getD i (0,[])
def SpotsR (w:World)(v:Value)(l:List (Int×NodeD)):Prop:=
 ∃a cap,v=.slice a l.length cap∧l.length≤cap∧cap≤maxLen∧∀i,i<l.length→∃b off c,a=some ⟨b,off,none⟩∧b<w.heap.size∧NodeC w (spt l i).2 c∧w.rangeAt b (off+i*11) (.int .i64 (spt l i).1::c.toList)
def StubsR (w:World)(v:Value)(l:List (Int×List Nat)):Prop:=
 ∃a cap,v=.slice a l.length cap∧l.length≤cap∧cap≤maxLen∧∀i,i<l.length→∃b off u,a=some ⟨b,off,none⟩∧b<w.heap.size∧Rd w u (bvs (stb l i).2)∧w.rangeAt b (off+i*2) [.int .i64 (stb l i).1,u]
def SparseR (w:World)(v:Value)(s:SparseD):Prop:=∃o h,v=.agg #[.int .i64 s.leaves,.int .i64 s.own,o,h]∧SpotsR w o s.op∧StubsR w h s.sh
structure SparseOk (s:SparseD):Prop where
 leaves:inI s.leaves
 own:inI s.own
 op:∀p∈s.op,inI p.1∧NodeOk p.2
 sh:∀p∈s.sh,inI p.1∧∀x∈p.2,x<256
theorem SpotsR.below {w w':World} {B:Nat} {v:Value} {l:List (Int×NodeD)}(h:SpotsR w v l)(hb:Below B w w')(hB:w.heap.size≤B):SpotsR w' v l:=by
 obtain⟨a,cap,e,h1,h2,h3⟩:=h;refine⟨a,cap,e,h1,h2,fun i hi=> ?_⟩;obtain⟨b,off,c,e,hl,hn,hr⟩:=h3 i hi;exact⟨b,off,c,e,Nat.lt_of_lt_of_le hl hb.size,hn.below hb hB,An hr hb (by omega)⟩
theorem StubsR.below {w w':World} {B:Nat} {v:Value} {l:List (Int×List Nat)}(h:StubsR w v l)(hb:Below B w w')(hB:w.heap.size≤B):StubsR w' v l:=by
 obtain⟨a,cap,e,h1,h2,h3⟩:=h;refine⟨a,cap,e,h1,h2,fun i hi=> ?_⟩;obtain⟨b,off,c,e,hl,hn,hr⟩:=h3 i hi;exact⟨b,off,c,e,Nat.lt_of_lt_of_le hl hb.size,hn.below hb hB,An hr hb (by omega)⟩
theorem SparseR.below {w w':World} {B:Nat} {v:Value} {s:SparseD}(h:SparseR w v s)(hb:Below B w w')(hB:w.heap.size≤B):SparseR w' v s:=by
 obtain⟨o,g,e,h1,h2⟩:=h;exact⟨o,g,e,h1.below hb hB,h2.below hb hB⟩
theorem SpotsR.nil (w:World):SpotsR w (.slice none 0 0) []:=⟨none,0,rfl,lR,Nat.zero_le _,fun i hi=>absurd hi (by simp)⟩
theorem StubsR.nil (w:World):StubsR w (.slice none 0 0) []:=⟨none,0,rfl,lR,Nat.zero_le _,fun i hi=>absurd hi (by simp)⟩
theorem SpotsR.sl {w:World} {v:Value} {l:List (Int×NodeD)}(h:SpotsR w v l):∃a c,v=.slice a l.length c∧l.length≤c∧c≤9223372036854775807:=by
 obtain⟨a,cap,e,h1,h2,_⟩:=h;unfold maxLen at h2;exact⟨a,cap,e,h1,h2⟩
theorem StubsR.sl {w:World} {v:Value} {l:List (Int×List Nat)}(h:StubsR w v l):∃a c,v=.slice a l.length c∧l.length≤c∧c≤9223372036854775807:=by
 obtain⟨a,cap,e,h1,h2,_⟩:=h;unfold maxLen at h2;exact⟨a,cap,e,h1,h2⟩
theorem SpotsR.at {w:World} {a:Option Addr} {n c:Nat} {l:List (Int×NodeD)}(h:SpotsR w (.slice a n c) l) {i:Nat}(hi:i<n):∃b off cs,a=some ⟨b,off,none⟩∧b<w.heap.size∧NodeC w (spt l i).2 cs∧w.rangeAt b (off+i*11) (.int .i64 (spt l i).1::cs.toList):=by
 obtain⟨a',cap,e,h1,h2,h3⟩:=h;simp only[Value.slice.injEq]at e;obtain⟨rfl,rfl,rfl⟩:=e;exact h3 i hi
theorem StubsR.at {w:World} {a:Option Addr} {n c:Nat} {l:List (Int×List Nat)}(h:StubsR w (.slice a n c) l) {i:Nat}(hi:i<n):∃b off u,a=some ⟨b,off,none⟩∧b<w.heap.size∧Rd w u (bvs (stb l i).2)∧w.rangeAt b (off+i*2) [.int .i64 (stb l i).1,u]:=by
 obtain⟨a',cap,e,h1,h2,h3⟩:=h;simp only[Value.slice.injEq]at e;obtain⟨rfl,rfl,rfl⟩:=e;exact h3 i hi
theorem Kk {l:List (Int×NodeD)} {i:Nat}(h:i<l.length):spt l i∈l:=by
 rw[spt,aH,aI h];exact aJ h
theorem Qs {l:List (Int×List Nat)} {i:Nat}(h:i<l.length):stb l i∈l:=by
 rw[stb,aH,aI h];exact aJ h
section
variable {H:Type} {enc:TypeId×Value→H} {W:World} {base:Nat} {spare:Nat→Bool} {held:Bool}
end
end
end Go.Proofs.YtfofaiommeckbaaGreat
