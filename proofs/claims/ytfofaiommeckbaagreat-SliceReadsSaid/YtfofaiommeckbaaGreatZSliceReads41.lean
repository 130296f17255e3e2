/- Vocabulary: lists of spots and of stubs that a call builds. -/
import Derived.Test.YtfofaiommeckbaaGreatZSliceReadsB
import Derived.Test.YtfofaiommeckbaaGreatZSliceReads39
open List renaming range → aF, range_succ → dD, flatMap_append → fI, eq_nil_of_length_eq_zero → bH, getElem?_eq_none → aK, flatMap_def → fP
open Nat renaming succ_mul → fQ, eq_zero_or_pos → fR, lt_or_ge → aB, zero_le → aA
set_option linter.unusedVariables false
set_option maxRecDepth 100000
set_option maxHeartbeats 40000000
namespace Go.Proofs.YtfofaiommeckbaaGreat
open Go.RowKit WalkM WireM
theorem Zga {α:Type} {f:Nat→List α} {k:Nat}(hf:∀i,(f i).length=k):∀r,((aF r).flatMap f).length=r*k:=by
 intro r
 induction r with
 |zero=>simp
 |succ r ih=>rw[dD,fI,List.length_append,ih];simp[hf,fQ]
theorem Nm {α:Type}(f:Nat→List α)(r:Nat):(aF (r+1)).flatMap f=(aF r).flatMap f++f r:=by
 rw[dD,fI];simp
theorem Xs {α:Type} {f:Nat→List α} {k:Nat}(hf:∀i,(f i).length=k) {i j:Nat}(hj:j<k):∀ {r:Nat},i<r→((aF r).flatMap f)[i*k+j]? =(f i)[j]? :=by
 intro r
 induction r with
 |zero=>intro h;omega
 |succ r ih=>
  intro h;rw[Nm];have hl:=Zga hf r
  by_cases e:i=r
  ·rw[List.getElem?_append_right (by rw[hl,e];omega),hl,e,Nat.add_sub_cancel_left]
  ·have:i*k+j<r*k:=by
    have:=Nat.mul_le_mul_right k (show i+1≤r by omega);rw[fQ]at this;omega
   rw[List.getElem?_append_left (by rw[hl];exact this)];exact ih (by omega)
def Ev (l:List (Int×NodeD))(C:Nat→Array Value)(i:Nat):List Value:=.int .i64 (spt l i).1::(C i).toList
def Hg (l:List (Int×List Nat))(U:Nat→Value)(i:Nat):List Value:=[.int .i64 (stb l i).1,U i]
theorem Xt {w:World} {B:Nat} {v:Value} {l:List (Int×NodeD)} {C:Nat→Array Value}(h10:∀i,(C i).size=10)(hC:∀i,i<l.length→NodeC w (spt l i).2 (C i))(h:OwnK w B 87 11 v l.length ((aF l.length).flatMap (Ev l C))):SpotsR w v l:=by
 rcases fR l.length with h0|hp
 ·have e:l=[]:=bH h0;subst e;rcases h.2 with⟨rfl,_⟩|⟨g,cap,cur,rfl,hg,hh,hn,hm,hs,ht⟩
  ·exact SpotsR.nil w
  ·exact⟨_,cap,rfl,hn,hm,fun i hi=>absurd hi (by simp)⟩
 ·obtain⟨g,cap,rfl,hB,hlt,hn,hm,hc,_⟩:=h.out hp;refine⟨_,cap,rfl,hn,hm,fun i hi=>⟨g,0,C i,rfl,hlt,hC i hi,?_⟩⟩;intro j u hu;have hlen:∀i,(Ev l C i).length=11:=fun i=>(by rw[Ev,List.length_cons,Array.length_toList,h10]);have hj:j<11:=by
   rcases aB j 11 with h|h
   ·exact h
   ·rw[aK (by have:=hlen i;rw[Ev]at this;omega)]at hu;cases hu
  have:=hc (i*11+j) u (by rw[Xs hlen hj hi];exact hu);rw[show 0+i*11+j=i*11+j by omega];exact this
theorem Xu {w:World} {B:Nat} {v:Value} {l:List (Int×List Nat)} {U:Nat→Value}(hC:∀i,i<l.length→Rd w (U i) (bvs (stb l i).2))(h:OwnK w B 89 2 v l.length ((aF l.length).flatMap (Hg l U))):StubsR w v l:=by
 rcases fR l.length with h0|hp
 ·have e:l=[]:=bH h0;subst e;rcases h.2 with⟨rfl,_⟩|⟨g,cap,cur,rfl,hg,hh,hn,hm,hs,ht⟩
  ·exact StubsR.nil w
  ·exact⟨_,cap,rfl,hn,hm,fun i hi=>absurd hi (by simp)⟩
 ·obtain⟨g,cap,rfl,hB,hlt,hn,hm,hc,_⟩:=h.out hp;refine⟨_,cap,rfl,hn,hm,fun i hi=>⟨g,0,U i,rfl,hlt,hC i hi,?_⟩⟩;intro j u hu;have hlen:∀i,(Hg l U i).length=2:=fun i=>rfl;have hj:j<2:=by
   rcases aB j 2 with h|h
   ·exact h
   ·rw[aK (by simp;omega)]at hu;cases hu
  have:=hc (i*2+j) u (by rw[Xs hlen hj hi];exact hu);rw[show 0+i*2+j=i*2+j by omega];exact this
theorem Zho:ElemK Tryz.prog 22 87 (.agg #[.int .i64 0,.int .u8 0,.slice none 0 0,.slice none 0 0,.slice none 0 0,.int .u8 0,.slice none 0 0,.slice none 0 0,.slice none 0 0,.slice none 0 0,.slice none 0 0]) 11 216:=⟨Tryz.underlying22,by kernel_rfl,rfl,by omega,by omega⟩
theorem Zhp:ElemK Tryz.prog 23 89 (.agg #[.int .i64 0,.slice none 0 0]) 2 32:=⟨Tryz.underlying23,by kernel_rfl,rfl,by omega,by omega⟩
structure ButO (w:World) (V:Value) (B:Nat) (X:World):Prop where
 low:Below B w X
 blk:∀i,i<w.heap.size→V.ownBlock≠some i→X.heap[i]? =w.heap[i]?
def StepO (V:Value)(B:Nat)(X Y:World):Prop:=Below B X Y∧∀i,i<X.heap.size→V.ownBlock≠some i→Y.heap[i]? =X.heap[i]?
theorem ButO.start (w:World)(V:Value)(B:Nat):ButO w V B w.drew:=⟨⟨rfl,rfl,rfl,lR,fun _ _=>rfl⟩,fun _ _ _=>rfl⟩
theorem StepO.of {V:Value} {B:Nat} {X Y:World}(h:Below X.heap.size X Y)(hB:B≤X.heap.size):StepO V B X Y:=⟨h.mono hB,fun i hi _=>h.block i hi⟩
theorem ButO.step {w:World} {V:Value} {B:Nat} {X Y:World}(h:ButO w V B X)(k:StepO V B X Y):ButO w V B Y:=⟨h.low.trans k.1,fun i hi hne=>(k.2 i (Nat.lt_of_lt_of_le hi h.low.size) hne).trans (h.blk i hi hne)⟩
theorem OwnK.lt {w:World} {B:Nat} {e:TypeId} {k n:Nat} {v:Value} {xs:List Value}(h:OwnK w B e k v n xs) {g:Nat}(hg:v.ownBlock=some g):g<w.heap.size∧B≤g:=by
 rcases h.2 with⟨rfl,_⟩|⟨g',cp,cur,rfl,hb,hh,_⟩
 ·simp[Value.ownBlock]at hg
 ·simp[Value.ownBlock]at hg;subst hg;refine⟨?_,hb⟩;rcases aB g' w.heap.size with h|h
  ·exact h
  ·rw[Array.getElem?_eq_none h]at hh;cases hh
theorem OwnK.onlyQ {w w':World} {B C:Nat} {e:TypeId} {k n:Nat} {v:Value} {xs:List Value}(h:OwnK w B e k v n xs)(hb:Only C w w')(hC:C<B):OwnK w' B e k v n xs:=
 World.ownsRow.kept h hb (.inr fun e=>by have:=(h.lt e).2;omega)
theorem OwnK.sl {w:World} {B:Nat} {e:TypeId} {k n:Nat} {v:Value} {xs:List Value}(h:OwnK w B e k v n xs):∃a c,v=.slice a n c:=by
 rcases h.2 with⟨rfl,h0⟩|⟨g',cp,cur,rfl,hb,hh,_⟩
 ·exact⟨none,0,by rw[h0]⟩
 ·exact⟨_,_,rfl⟩
theorem Tl {P:Program} {w:World} {o:Oper} {a:Act} {K:Act→World→Prop} {Q:Exit→Act→World→Prop} (s x:Operand) (t:TypeId)
  (ho:o.op=.call {callee:=.builtin .append,args:=#[s,x],argTypes:=#[t,t]})
  (B:Nat) (e:TypeId) (z:Value) (k bytes:Nat) (F:ElemK P t e z k bytes) (v:Value) (n:Nat) (xs:List Value) (hs:a.eval s=v) (hown:OwnK w B e k v n xs)
  (g:Nat) (ys:List Value) (hx:a.eval x=.slice (some ⟨g,0,none⟩) 1 1) (hl:ys.length=k) (hu:∀(j:Nat) u,ys[j]? =some u→w.cell? ⟨g,j,none⟩=some u) (h1:∀u∈ys,u.oneCell'=true) (hn:n<137438953472) (hB:B≤w.heap.size)
  (h:∀v' w',OwnK w' B e k v' (n+1) (xs++ys)→StepO v B w w'→K (a.put o.dst v') w'):o.wp P a w K Q:=by
 obtain⟨i,hi,hz,hsz,hby⟩:=Ik F.inf;have low:=F.low;refine wp_append_own w s x t ho B e i z k bytes F.ty hi hz hsz hby F.one F.pos v n xs hs hown ⟨g,0,none⟩ 1 1 ys hx (by rw[hl,Nat.one_mul]) (fun j u hj=>by rw[Addr.add_lit,Nat.zero_add];exact hu j u hj) h1 ?_ ?_ hB ?_
 ·unfold maxLen;omega
 ·have:(n+1)*bytes≤(n+1)*512:=Nat.mul_le_mul_left _ low;omega
 ·intro v' w' h2 h3 _;refine h v' w' h2 ⟨(Below.refl B w).grown h3 hB fun j hj=>(hown.lt hj).2,fun i hi hne=>h3.block i hi (fun e=>hne e.symm)⟩
theorem StepO.grown {V:Value} {B:Nat} {X Y:World}(h:StepO V B X Y):X.grownBy Y V.ownBlock:=⟨h.1.os,h.1.tape,h.1.output,h.1.size,fun i hi hne=>h.2 i hi fun e=>hne e.symm⟩
theorem StepO.own {V:Value} {B B':Nat} {X Y:World} {T:TypeId} {v:Value} {xs:List Value}(h:StepO V B X Y)(k:Own X B' T v xs)(hV:∀g,V.ownBlock=some g→g<B'):Own Y B' T v xs:=by
 refine Own.grown k h.grown fun g hg e=> ?_;have:=(k.blockLt hg).2;have:=hV g e;omega
structure CutS (w:World) (V:Value) (q:Nat) (X:World):Prop where
 low:Below q w X
 blk:∀i,i<w.heap.size→i≠q→V.ownBlock≠some i→X.heap[i]? =w.heap[i]?
theorem ButO.put {w:World} {V:Value} {q:Nat} {X:World}(h:ButO w V (q+1) X)(hq:q≤X.heap.size)(j:Nat)(u:Value):CutS w V q (X.setCell ⟨q,j,none⟩ u):=by
 refine⟨(h.low.mono (Nat.le_succ q)).trans ((Only.set (a:=X) (B:=q) j u).below lR hq),fun i hi hne hV=> ?_⟩;rw[Below.heap_setCell X ⟨q,j,none⟩ u i hne];exact h.blk i hi hV
theorem OwnK.apartK {w:World} {B B':Nat} {e e':TypeId} {k k' n n':Nat} {v v':Value} {xs ys:List Value}(h:OwnK w B e k v n xs)(h':OwnK w B' e' k' v' n' ys)(he:e≠e'):∀g,v.ownBlock=some g→v'.ownBlock≠some g:=by
 intro g hg hg';rcases h.2 with⟨rfl,_⟩|⟨g1,cp,cur,rfl,hb,hh,_⟩
 ·simp[Value.ownBlock]at hg
 rcases h'.2 with⟨rfl,_⟩|⟨g2,cp2,cur2,rfl,hb2,hh2,_⟩
 ·simp[Value.ownBlock]at hg'
 simp[Value.ownBlock]at hg hg';subst hg hg';have:=hh.symm.trans hh2;simp only[Option.some.injEq,Obj.cells.injEq]at this;exact he this.2.1
theorem CutS.ownK {w X:World} {V:Value} {q B:Nat} {e:TypeId} {k n:Nat} {v:Value} {xs:List Value}(h:CutS w V q X)(o:OwnK w B e k v n xs)(hB:q<B)(hne:∀g,v.ownBlock=some g→V.ownBlock≠some g):OwnK X B e k v n xs:=by
 have hl:= @OwnK.lt _ _ _ _ _ _ _ o;obtain⟨h1,h2|⟨g,cp,cur,rfl,hg,hh,rest⟩⟩:=o
 ·exact⟨h1,.inl h2⟩
 ·refine⟨h1,.inr ⟨g,cp,cur,rfl,hg,?_,rest⟩⟩;rw[h.blk g (hl rfl).1 (by omega) (hne g rfl)];exact hh
theorem Only.storeQ {g:Nat} {w w2:World}(h:∀B,B≤g→Below B w w2)(hot:∀i,i≠g→w2.heap[i]? =w.heap[i]?):Only g w w2:=
 ⟨(h 0 (aA _)).os,(h 0 (aA _)).tape,(h 0 (aA _)).output,(h 0 (aA _)).size,fun i hi hne=>hot i fun e=>hne (by rw[e])⟩
theorem Zgb {U:Nat→Value} {g:Nat→Value→List Value}(r:Nat)(u:Value):((aF (r+1)).flatMap fun k=>g k (if k<r then U k else u))=((aF r).flatMap fun k=>g k (U k))++g r u:=by
 rw[Nm,if_neg (Nat.lt_irrefl r)]
 congr 1
 rw[fP,fP]
 congr 1
 exact List.map_congr_left fun k hk=>by rw[if_pos (List.mem_range.1 hk)]
section
def Zjx (H:Int→Option (List Nat))(x:Nat):List Nat:=(H (x:Int)).getD []
def putS (F:Int→Option NodeD)(H:Int→Option (List Nat)):Nat→Nat→List Nat
 |0,x=>match F (x:Int)with
  |none=>0::Zjx H x
  |some d=>1::Ci d
 |k+1,x=>match F (x:Int)with
  |none=>0::Zjx H x
  |some d=>(1::Ci d)++(putS F H k (x-2^k)++putS F H k (x+2^k))
section
variable {F:Int→Option NodeD} {H:Int→Option (List Nat)} {k x:Nat} {d:NodeD}
end
end
end Go.Proofs.YtfofaiommeckbaaGreat
