/- 'append(s, make([]T, k)...)' on a slice that the call owns. -/
import Derived.Test.YtfofaiommeckbaaGreatZSliceReadsB
import Derived.Test.YtfofaiommeckbaaGreatZSliceReads00
import Derived.Lib.AppendZerosOnto
open Nat renaming mul_one → dZ, mul_le_mul_left → aC
open List renaming length_append → aG, size_toArray → dF, take_left → eA
set_option linter.unusedVariables false
set_option maxRecDepth 100000
set_option maxHeartbeats 40000000
namespace Go.Proofs.YtfofaiommeckbaaGreat
open Go.RowKit
theorem Qn {P:Program} {w:World} (t tn ty e:TypeId) (z:Value) (bytes:Nat) (F:Elem P t e z bytes) (kn:IntKind) (htn:P.underlying tn=some (.int kn)) {B:Nat} (v:Value) (xs:List Value) (hown:Own w B e v xs)
  (k:Nat) (hk:0<k) (hzs:z.cells.size=1) (h1:∀u∈(Builtin.zeroCells z.cells k).toList,u.oneCell'=true) (hn:xs.length+k<1099511627776) (hB:B≤w.heap.size):
  ∃v' w',(Builtin.append_ #[t,tn] ty #[v,.int .i64 (k:Nat)]).run P w=.ok v' w'∧Own w' B e v' (xs++(Builtin.zeroCells z.cells k).toList)∧w.grownBy w' v.ownBlock:=by
 obtain⟨i,hi,hz,hsz,hby⟩:=info_parts F.inf;have low:=F.low;have ht:=F.ty;have hsizeZ:∀k,(Builtin.zeroCells z.cells k).size=k:=fun k=>(by rw[size_zeroCells,hzs,dZ]);have hlz:(Builtin.zeroCells z.cells k).toList.length=k:=(Array.length_toList (xs:=Builtin.zeroCells z.cells k)).trans (hsizeZ k);have hmul:(xs.length+k)*bytes≤(xs.length+k)*64:=aC _ low;have hmul2:k*bytes≤k*64:=aC _ low;have hlen:(xs++(Builtin.zeroCells z.cells k).toList).length=xs.length+k:=(by rw[aG,hlz]);have grown:∀(old:Nat),old<xs.length+k→∀(row:Option Nat),
   Own (w.drew.alloc (.cells (xs.toArray++Builtin.zeroCells z.cells k++Builtin.zeroCells z.cells (grownCap w (xs.length+k) old e-(xs.length+k))) e)) B e
    (.slice (some ⟨w.heap.size,0,none⟩) (xs.length+k) (grownCap w (xs.length+k) old e)) (xs++(Builtin.zeroCells z.cells k).toList)∧
   w.grownBy (w.drew.alloc (.cells (xs.toArray++Builtin.zeroCells z.cells k++Builtin.zeroCells z.cells (grownCap w (xs.length+k) old e-(xs.length+k))) e)) row:=by
  intro old ho row;have hge:=grownCap_ge w (xs.length+k) old e;have hcm:grownCap w (xs.length+k) old e≤maxLen:=grownCap_le_maxLen w (xs.length+k) old e (by unfold maxLen;omega);refine⟨⟨by simp,.inr ⟨w.heap.size,_,_,by rw[hlen],hB,heap_alloc_new w.drew _,by rw[hlen];exact hge,hcm,?_,?_⟩⟩,⟨rfl,rfl,rfl,by simp,fun j hj _=>heap_alloc_old w.drew _ hj⟩⟩
  ·simp only[Array.size_append,dF,hsizeZ];omega
  ·rw[hlen,dZ];simp only[Array.toList_append];rw[←hlen];exact eA
 have hown':=hown;obtain⟨hl,hc⟩:=hown';rcases hc with⟨rfl,h0⟩|⟨g,cp,cur,rfl,hbg,hg,hnc,hcm,hcs,htake⟩
 ·have hx:xs=[]:=List.eq_nil_of_length_eq_zero (by omega);subst hx;have hr:=Lib.run_append_nil_zeros (P:=P) w t tn ty e i z .i64 kn ht htn hi hz k hk (by omega) (by omega) (by rw[hby];omega);have hgr:=grown 0 (by omega) (Value.ownBlock (.slice none 0 0));simp only[List.length_nil,Nat.zero_add,List.nil_append]at hgr⊢;exact⟨_,_,hr,by simpa using hgr.1,by simpa using hgr.2⟩
 ·by_cases hroom:xs.length+k≤cp
  ·have hst:=run_storeCells_at P g xs.length e (Builtin.zeroCells z.cells k).toList 0 cur w hg (by rw[hlz];omega) h1;simp only[Nat.add_zero]at hst;have hw:IntKind.i64.wrap (k:Int)=k:=(by rw[IntKind.wrap_i64];omega);have hneg:¬((k:Int)<0):=(by omega);have h48i:¬(281474976710656<(k:Int)*(i.bytes:Int)):=by
    rw[←Int.natCast_mul,hby];omega
   have hns:¬(k=0):=(by omega);refine⟨.slice (some ⟨g,0,none⟩) (xs.length+k) cp,w.setRow g (cur.toList.take xs.length++(Builtin.zeroCells z.cells k).toList++cur.toList.drop (xs.length+(Builtin.zeroCells z.cells k).toList.length)).toArray,?_,?_,?_⟩
   ·have hst':(storeCells ⟨g,xs.length,none⟩ (Builtin.zeroCells z.cells k).toList).run P w=_:=hst;simp[Builtin.append_,run_underlying ht,run_underlying htn,sizeOf,typeInfo,zeroValue,hi,hz,hsz,asInt,asIntOf,hw,hroom,hneg,h48i,hns,Addr.add_lit,hst']
   ·refine⟨by simp,.inr ⟨g,cp,_,by rw[hlen],hbg,setRow_heap w g cur _ e _ hg,by rw[hlen];exact hroom,hcm,?_,?_⟩⟩
    ·simp only[dF,aG,List.length_take,List.length_drop,Array.length_toList,hsizeZ];omega
    ·rw[hlen,dZ];rw[dZ]at htake;rw[htake,←hlen];exact eA
   ·exact⟨rfl,rfl,rfl,by simp,fun k _ hk=>setRow_other w g k _ (fun e=>hk (by simp[Value.ownBlock,e]))⟩
  ·have holds:∀j u,xs[j]? =some u→w.cell? ((⟨g,0,none⟩:Addr).add j)=some u:=World.ownsRow.cells (g:=g) hown rfl;have hold:=run_firstCells_some (P:=P) w.drew i.size xs.length ⟨g,0,none⟩ xs.length cp xs (by rw[hsz];omega) (by simpa using holds);have hr:=Lib.run_append_grow_zeros (P:=P) w t tn ty e i z .i64 kn ht htn hi hz (some ⟨g,0,none⟩) xs.length cp xs hold k hk (by omega) (by omega) (by omega) (by rw[hby];omega) (growslice_fits (by omega) (by rw[hby];omega));have hgr:=grown cp (by omega) (Value.ownBlock (.slice (some ⟨g,0,none⟩) xs.length cp));exact⟨_,_,hr,hgr.1,hgr.2⟩
end Go.Proofs.YtfofaiommeckbaaGreat
