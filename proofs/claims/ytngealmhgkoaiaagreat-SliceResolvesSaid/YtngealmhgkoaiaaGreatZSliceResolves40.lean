/- Vocabulary: lists of spots and of stubs that a call builds. -/
import Derived.Test.YtngealmhgkoaiaaGreatZSliceResolvesB
import Derived.Test.YtngealmhgkoaiaaGreatZSliceResolves38
open List renaming range → aF, range_succ → dM, flatMap_append → fZ, eq_nil_of_length_eq_zero → bN, getElem?_eq_none → aK, flatMap_def → gF
open Nat renaming succ_mul → gG, eq_zero_or_pos → gH, lt_or_ge → aB, zero_le → aA
set_option linter.unusedVariables false
set_option maxRecDepth 100000
set_option maxHeartbeats 40000000
namespace Go.Proofs.YtngealmhgkoaiaaGreat
open Go.RowKit WalkM WireM
theorem Ze5 {α:Type} {f:Nat→List α} {k:Nat}(hf:∀i,(f i).length=k):∀r,((aF r).flatMap f).length=r*k:=by
 intro r
 induction r with
 |zero=>simp
 |succ r ih=>rw[dM,fZ,List.length_append,ih];simp[hf,gG]
theorem Mu {α:Type}(f:Nat→List α)(r:Nat):(aF (r+1)).flatMap f=(aF r).flatMap f++f r:=by
 rw[dM,fZ];simp
theorem Wt {α:Type} {f:Nat→List α} {k:Nat}(hf:∀i,(f i).length=k) {i j:Nat}(hj:j<k):∀ {r:Nat},i<r→((aF r).flatMap f)[i*k+j]? =(f i)[j]? :=by
 intro r
 induction r with
 |zero=>intro h;omega
 |succ r ih=>
  intro h;rw[Mu];have hl:=Ze5 hf r
  by_cases e:i=r
  ·rw[List.getElem?_append_right (by rw[hl,e];omega),hl,e,Nat.add_sub_cancel_left]
  ·have:i*k+j<r*k:=by
    have:=Nat.mul_le_mul_right k (show i+1≤r by omega);rw[gG]at this;omega
   rw[List.getElem?_append_left (by rw[hl];exact this)];exact ih (by omega)
def Fu (l:List (Int×NodeD))(C:Nat→Array Value)(i:Nat):List Value:=.int .i64 (spt l i).1::(C i).toList
def Jm (l:List (Int×List Nat))(U:Nat→Value)(i:Nat):List Value:=[.int .i64 (stb l i).1,U i]
theorem Ze6 {w:World} {B:Nat} {v:Value} {l:List (Int×NodeD)} {C:Nat→Array Value}(h10:∀i,(C i).size=10)(hC:∀i,i<l.length→NodeC w (spt l i).2 (C i))(h:OwnK w B 113 11 v l.length ((aF l.length).flatMap (Fu l C))):SpotsR w v l:=by
 rcases gH l.length with h0|hp
 ·have e:l=[]:=bN h0;subst e;rcases h.2 with⟨rfl,_⟩|⟨g,cap,cur,rfl,hg,hh,hn,hm,hs,ht⟩
  ·exact SpotsR.nil w
  ·exact⟨_,cap,rfl,hn,hm,fun i hi=>absurd hi (by simp)⟩
 ·obtain⟨g,cap,rfl,hB,hlt,hn,hm,hc,_⟩:=h.out hp;refine⟨_,cap,rfl,hn,hm,fun i hi=>⟨g,0,C i,rfl,hlt,hC i hi,?_⟩⟩;intro j u hu;have hlen:∀i,(Fu l C i).length=11:=fun i=>(by rw[Fu,List.length_cons,Array.length_toList,h10]);have hj:j<11:=by
   rcases aB j 11 with h|h
   ·exact h
   ·rw[aK (by have:=hlen i;rw[Fu]at this;omega)]at hu;cases hu
  have:=hc (i*11+j) u (by rw[Wt hlen hj hi];exact hu);rw[show 0+i*11+j=i*11+j by omega];exact this
theorem Ze7 {w:World} {B:Nat} {v:Value} {l:List (Int×List Nat)} {U:Nat→Value}(hC:∀i,i<l.length→Rd w (U i) (bvs (stb l i).2))(h:OwnK w B 115 2 v l.length ((aF l.length).flatMap (Jm l U))):StubsR w v l:=by
 rcases gH l.length with h0|hp
 ·have e:l=[]:=bN h0;subst e;rcases h.2 with⟨rfl,_⟩|⟨g,cap,cur,rfl,hg,hh,hn,hm,hs,ht⟩
  ·exact StubsR.nil w
  ·exact⟨_,cap,rfl,hn,hm,fun i hi=>absurd hi (by simp)⟩
 ·obtain⟨g,cap,rfl,hB,hlt,hn,hm,hc,_⟩:=h.out hp;refine⟨_,cap,rfl,hn,hm,fun i hi=>⟨g,0,U i,rfl,hlt,hC i hi,?_⟩⟩;intro j u hu;have hlen:∀i,(Jm l U i).length=2:=fun i=>rfl;have hj:j<2:=by
   rcases aB j 2 with h|h
   ·exact h
   ·rw[aK (by simp;omega)]at hu;cases hu
  have:=hc (i*2+j) u (by rw[Wt hlen hj hi];exact hu);rw[show 0+i*2+j=i*2+j by omega];exact this
theorem Zia:ElemK Tryz.prog 34 113 (.agg #[.int .i64 0,.int .u8 0,.slice none 0 0,.slice none 0 0,.slice none 0 0,.int .u8 0,.slice none 0 0,.slice none 0 0,.slice none 0 0,.slice none 0 0,.slice none 0 0]) 11 216:=⟨Tryz.underlying34,by kernel_rfl,rfl,by omega,by omega⟩
theorem Zib:ElemK Tryz.prog 35 115 (.agg #[.int .i64 0,.slice none 0 0]) 2 32:=⟨Tryz.underlying35,by kernel_rfl,rfl,by omega,by omega⟩
structure ButO (w:World) (V:Value) (B:Nat) (X:World):Prop where
 low:Below B w X
 blk:∀i,i<w.heap.size→V.ownBlock≠some i→X.heap[i]? =w.heap[i]?
def StepO (V:Value)(B:Nat)(X Y:World):Prop:=Below B X Y∧∀i,i<X.heap.size→V.ownBlock≠some i→Y.heap[i]? =X.heap[i]?
theorem ButO.start (w:World)(V:Value)(B:Nat):ButO w V B w.drew:=⟨⟨rfl,rfl,rfl,lR,fun _ _=>rfl⟩,fun _ _ _=>rfl⟩
theorem StepO.of {V:Value} {B:Nat} {X Y:World}(h:Below X.heap.size X Y)(hB:B≤X.heap.size):StepO V B X Y:=⟨h.mono hB,fun i hi _=>h.block i hi⟩
theorem ButO.step {w:World} {V:Value} {B:Nat} {X Y:World}(h:ButO w V B X)(k:StepO V B X Y):ButO w V B Y:=⟨h.low.trans k.1,fun i hi hne=>(k.2 i (Nat.lt_of_lt_of_le hi h.low.size) hne).trans (h.blk i hi hne)⟩
theorem OwnK.lt {w:World} {B:Nat} {e:TypeId} {k n:Nat} {v:Value} {xs:List Value}(h:OwnK w B e k v n xs) {g:Nat}(hg:v.ownBlock=some g):g<w.heap.size∧B≤g:=by
 rcases h.2 with⟨rfl,_⟩|⟨g',cp,cur,rfl,hb,hh,_⟩
 ·simp[Value.ownBlock]at hg
 ·simp[Value.ownBlock]at hg;subst hg;refine⟨?_,hb⟩;rcases aB g' w.heap.size with h|h
  ·exact h
  ·rw[Array.getElem?_eq_none h]at hh;cases hh
theorem OwnK.onlyQ {w w':World} {B C:Nat} {e:TypeId} {k n:Nat} {v:Value} {xs:List Value}(h:OwnK w B e k v n xs)(hb:Only C w w')(hC:C<B):OwnK w' B e k v n xs:=
 World.ownsRow.kept h hb (.inr fun e=>by have:=(h.lt e).2;omega)
theorem OwnK.sl {w:World} {B:Nat} {e:TypeId} {k n:Nat} {v:Value} {xs:List Value}(h:OwnK w B e k v n xs):∃a c,v=.slice a n c:=by
 rcases h.2 with⟨rfl,h0⟩|⟨g',cp,cur,rfl,hb,hh,_⟩
 ·exact⟨none,0,by rw[h0]⟩
 ·exact⟨_,_,rfl⟩
theorem So {P:Program} {w:World} {o:Oper} {a:Act} {K:Act→World→Prop} {Q:Exit→Act→World→Prop} (s x:Operand) (t:TypeId)
  (ho:o.op=.call {callee:=.builtin .append,args:=#[s,x],argTypes:=#[t,t]})
  (B:Nat) (e:TypeId) (z:Value) (k bytes:Nat) (F:ElemK P t e z k bytes) (v:Value) (n:Nat) (xs:List Value) (hs:a.eval s=v) (hown:OwnK w B e k v n xs)
  (g:Nat) (ys:List Value) (hx:a.eval x=.slice (some ⟨g,0,none⟩) 1 1) (hl:ys.length=k) (hu:∀(j:Nat) u,ys[j]? =some u→w.cell? ⟨g,j,none⟩=some u) (h1:∀u∈ys,u.oneCell'=true) (hn:n<137438953472) (hB:B≤w.heap.size)
  (h:∀v' w',OwnK w' B e k v' (n+1) (xs++ys)→StepO v B w w'→K (a.put o.dst v') w'):o.wp P a w K Q:=by
 obtain⟨i,hi,hz,hsz,hby⟩:=Ll F.inf;have low:=F.low;refine wp_append_own w s x t ho B e i z k bytes F.ty hi hz hsz hby F.one F.pos v n xs hs hown ⟨g,0,none⟩ 1 1 ys hx (by rw[hl,Nat.one_mul]) (fun j u hj=>by rw[Addr.add_lit,Nat.zero_add];exact hu j u hj) h1 ?_ ?_ hB ?_
 ·unfold maxLen;omega
 ·have:(n+1)*bytes≤(n+1)*512:=Nat.mul_le_mul_left _ low;omega
 ·intro v' w' h2 h3 _;refine h v' w' h2 ⟨(Below.refl B w).grown h3 hB fun j hj=>(hown.lt hj).2,fun i hi hne=>h3.block i hi (fun e=>hne e.symm)⟩
theorem StepO.grown {V:Value} {B:Nat} {X Y:World}(h:StepO V B X Y):X.grownBy Y V.ownBlock:=⟨h.1.os,h.1.tape,h.1.output,h.1.size,fun i hi hne=>h.2 i hi fun e=>hne e.symm⟩
theorem StepO.own {V:Value} {B B':Nat} {X Y:World} {T:TypeId} {v:Value} {xs:List Value}(h:StepO V B X Y)(k:Own X B' T v xs)(hV:∀g,V.ownBlock=some g→g<B'):Own Y B' T v xs:=by
 refine Own.grown k h.grown fun g hg e=> ?_;have:=(k.blockLt hg).2;have:=hV g e;omega
structure CutS (w:World) (V:Value) (q:Nat) (X:World):Prop where
 low:Below q w X
 blk:∀i,i<w.heap.size→i≠q→V.ownBlock≠some i→X.heap[i]? =w.heap[i]?
theorem ButO.put {w:World} {V:Value} {q:Nat} {X:World}(h:ButO w V (q+1) X)(hq:q≤X.heap.size)(j:Nat)(u:Value):CutS w V q (X.setCell ⟨q,j,none⟩ u):=by
 refine⟨(h.low.mono (Nat.le_succ q)).trans ((Only.set (a:=X) (B:=q) j u).below lR hq),fun i hi hne hV=> ?_⟩;rw[Below.heap_setCell X ⟨q,j,none⟩ u i hne];exact h.blk i hi hV
theorem OwnK.apartK {w:World} {B B':Nat} {e e':TypeId} {k k' n n':Nat} {v v':Value} {xs ys:List Value}(h:OwnK w B e k v n xs)(h':OwnK w B' e' k' v' n' ys)(he:e≠e'):∀g,v.ownBlock=some g→v'.ownBlock≠some g:=by
 intro g hg hg';rcases h.2 with⟨rfl,_⟩|⟨g1,cp,cur,rfl,hb,hh,_⟩
 ·simp[Value.ownBlock]at hg
 rcases h'.2 with⟨rfl,_⟩|⟨g2,cp2,cur2,rfl,hb2,hh2,_⟩
 ·simp[Value.ownBlock]at hg'
 simp[Value.ownBlock]at hg hg';subst hg hg';have:=hh.symm.trans hh2;simp only[Option.some.injEq,Obj.cells.injEq]at this;exact he this.2.1
theorem CutS.ownK {w X:World} {V:Value} {q B:Nat} {e:TypeId} {k n:Nat} {v:Value} {xs:List Value}(h:CutS w V q X)(o:OwnK w B e k v n xs)(hB:q<B)(hne:∀g,v.ownBlock=some g→V.ownBlock≠some g):OwnK X B e k v n xs:=by
 have hl:= @OwnK.lt _ _ _ _ _ _ _ o;obtain⟨h1,h2|⟨g,cp,cur,rfl,hg,hh,rest⟩⟩:=o
 ·exact⟨h1,.inl h2⟩
 ·refine⟨h1,.inr ⟨g,cp,cur,rfl,hg,?_,rest⟩⟩;rw[h.blk g (hl rfl).1 (by omega) (hne g rfl)];exact hh
theorem Only.storeQ {g:Nat} {w w2:World}(h:∀B,B≤g→Below B w w2)(hot:∀i,i≠g→w2.heap[i]? =w.heap[i]?):Only g w w2:=
 ⟨(h 0 (aA _)).os,(h 0 (aA _)).tape,(h 0 (aA _)).output,(h 0 (aA _)).size,fun i hi hne=>hot i fun e=>hne (by rw[e])⟩
theorem Ze8 {U:Nat→Value} {g:Nat→Value→List Value}(r:Nat)(u:Value):((aF (r+1)).flatMap fun k=>g k (if k<r then U k else u))=((aF r).flatMap fun k=>g k (U k))++g r u:=by
 rw[Mu,if_neg (Nat.lt_irrefl r)]
 congr 1
 rw[gF,gF]
 congr 1
 exact List.map_congr_left fun k hk=>by rw[if_pos (List.mem_range.1 hk)]
section
def Jn (H:Int→Option (List Nat))(x:Nat):List Nat:=(H (x:Int)).getD []
section
variable {F:Int→Option NodeD} {H:Int→Option (List Nat)} {k x:Nat} {d:NodeD}
structure PieceOk (F:Int→Option NodeD) (H:Int→Option (List Nat)):Prop where
 ok:∀x d,F x=some d→NodeOk d∧Bu d=true∧Ao d=true
 hash:∀x L,H x=some L→L.length≤32∧∀y∈L,y<256
theorem Sp (h:PieceOk F H)(x:Nat):(Jn H x).length≤32:=by
 unfold Jn;cases e:H (x:Int)with
 |none=>simp
 |some L=>exact(h.hash _ _ e).1
end
end
theorem Fv (x y:Value)(A B:List Nat)(w:World)(hx:Rd w x (bvs A))(hy:Rd w y (bvs B))(hl:A.length+B.length<1000000000):
  Calls Tryz.prog 97 #[x,y] w fun e w'=>∃v',e=.returned v'∧Own w' w.heap.size 5 v' (bvs (A++B))∧Below w.heap.size w w':=by
 have HX:=Hd hx;have HY:=Hd hy;clear hx hy;go_enter Tryz.func97,Tryz.ntmps97;go_wp2_with (at_builtin;refine Ah rfl (.tmp 5) (.tmp 6) 25 rfl w.heap.size 5 _ 1 Ck _ [] rfl (Own.lit0 rfl lR) _ (bvs A) rfl (HX.out.alloc _) (Cg _) ?c2 ?c3 ?_);case c2=>rw[bvs_len];simp;omega
 case c3=>simp
 rintro v2 w2 hown-hb2;have hbt:=((Below.refl w.heap.size w).alloc lR (.cells #[] 5)).trans hb2;have HO:=Hd hown;have HB:=Hd hbt;have HY2:=Hd (HY.out.below hbt lR);clear hown hb2 hbt;go_wp2_with (at_builtin;refine Ah rfl (.tmp 7) (.tmp 8) 25 rfl w.heap.size 5 _ 1 Ck _ _ rfl HO.out _ (bvs B) rfl HY2.out (Cg _) ?c4 ?c5 ?_);case c4=>simp only[bvs_len];omega
 case c5=>exact HB.out.size
 rintro v3 w3 hown-hb3;have HO3:=Hd hown;have HB3:=Hd (HB.out.trans hb3);clear hown hb3;go_wp2_with fail;go_ret;refine⟨_,rfl,?_,HB3.out⟩;rw[Cd];exact HO3.out
theorem Oo (lv ow:Int)(o v:Value)(l:List (Int×List Nat))(x:Int)(w:World)(h:StubsR w v l):
  Calls Tryz.prog 178 #[.agg #[.int .i64 lv,.int .i64 ow,o,v],.int .i64 x] w fun e w'=>∃u,e=.returned u∧Rd w' u (bvs ((Bi l x).getD []))∧Below w.heap.size w w':=by
 obtain⟨a,cp,rfl,hc,hc2⟩:=h.sl;have G:=fun(i:Nat) (hi:i<l.length)=>h.at hi;have F1:=fun(r:Nat) (hr:r<l.length) (hno:∀i,i<r→(stb l i).1≠x) (he:(stb l r).1=x)=>Qh hr hno he;have F2:=On (l:=l) (x:=x);obtain⟨n,hn⟩:=eX l.length;obtain⟨R,hR⟩:=eX (Bi l x);obtain⟨S,hS⟩:∃S:Nat→Int×List Nat,S=stb l:=⟨_,rfl⟩;rw[←hn]at G F1 F2 hc⊢;rw[←hR]at F1 F2⊢;rw[←hS]at G F1 F2;have HG:=Hd G;have HF1:=Hd F1;have HF2:=Hd F2;obtain⟨p,hp⟩:=eX w.heap.size;have HP:=Hd hp;have HBK:=Hd (Blk.new w 37 #[.int .i64 lv,.int .i64 ow,o,.slice a n cp]);have HB:=Hd ((Below.refl w.heap.size w).alloc lR (.cells #[.int .i64 lv,.int .i64 ow,o,.slice a n cp] 37));clear G F1 F2 h hn hR hS hp;go_enter Tryz.func178,Tryz.ntmps178;go_wp2_with fail;generalize hw1:w.alloc (.cells #[.int .i64 lv,.int .i64 ow,o,.slice a n cp] 37)=w1 at HBK HB⊢;clear hw1;have c3:=HBK.out.cell 3;simp only[List.getElem?_toArray,List.getElem?_cons_zero,List.getElem?_cons_succ]at c3
 go_loopg [5] n (fun q iv wr=>∃r:Nat,r+q=n∧iv=.int .i64 (r:Nat)∧(∀i,i<r→(S i).1≠x)∧wr=w1)
 case atStart=>exact⟨0,by omega,rfl,fun k hk=>by omega,rfl⟩
 case round=>
  obtain⟨r,hr,rfl,hno,rfl⟩:=hrel;have HR:=Hd hr;have HNO:=Hd hno;clear hr hno
  by_cases hlt:r<n
  ·have hlt':decide (r<n)=true:=decide_eq_true hlt;have hltI:(r:Int)<(n:Int):=(by omega);obtain⟨b,off,u,rfl,hbl,hru,hra⟩:=HG.out r hlt;have hcell:=(HB.out.cell (p:=⟨b,off+r*2,none⟩) hbl).trans (Bg hra);have hcell2:=Af (Bv hra) HB.out hbl 0 u rfl;obtain⟨y,hy⟩:=eX ((S r).1);rw[←hy]at hcell;have HY:=Hd hy;have HRU:=Hd (hru.below HB.out lR);clear hy hra hru
   by_cases he:y=x
   ·have hq:(y==x)=true:=(by rw[beq_iff_eq];exact he);have HE:=Hd he;clear he;go_wp2_with fail;go_ret;rw[HF1.out r hlt HNO.out (by rw[←HY.out];exact HE.out)];exact⟨_,rfl,HRU.out,HB.out⟩
   ·have hq:(y==x)=false:=(by rw[beq_eq_false_iff_ne];exact he);have HE:=Hd he;clear he;go_wp2_with fail;go_roundg (gk-1);case measure=>have:=HR.out;omega
    case rel=>
     refine⟨r+1,by have:=HR.out;omega,by go_num,fun i hi=> ?_,rfl⟩
     by_cases e:i=r
     ·rw[e,←HY.out];exact HE.out
     ·exact HNO.out i (by omega)
  ·obtain rfl:r=n:=(by have:=HR.out;omega);have hlt':decide (r<r)=false:=decide_eq_false hlt;go_wp2_with fail;go_ret;rw[HF2.out HNO.out];exact⟨_,rfl,(Own.nil _ 0 5).rd,HB.out⟩
end Go.Proofs.YtngealmhgkoaiaaGreat
