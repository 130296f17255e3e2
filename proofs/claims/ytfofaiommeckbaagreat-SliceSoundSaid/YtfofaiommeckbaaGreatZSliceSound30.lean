/- Walks: the document's Whole. -/
import Derived.Test.YtfofaiommeckbaaGreatZSliceSoundB
import Derived.Test.YtfofaiommeckbaaGreatZSliceSound21
import Derived.Test.YtfofaiommeckbaaGreatZSliceSound29
open Nat renaming log2 → aZ, add_sub_cancel → fY, lt_succ_self → dG, le_succ → fZ, succ_mul → gA, eq_zero_or_pos → gC, lt_or_ge → aB, lt_of_lt_of_le → dX, zero_le → aA
open List renaming range → aH, all_eq_true → fV, getElem?_toArray → cC, getElem?_cons_zero → cD, getElem?_cons_succ → cE, range_succ → eZ, flatMap_append → gD, length_append → aI, eq_nil_of_length_eq_zero → bV, length_cons → cB, getElem?_eq_none → aM, flatMap_def → gE
open Int renaming tmod → dN
set_option linter.unusedVariables false
set_option maxRecDepth 100000
set_option maxHeartbeats 40000000
namespace Go.Proofs.YtfofaiommeckbaaGreat
open Go.RowKit WalkM WireM
section
section
variable {FI:Int→Option NodeD} {d:Nat} {x:Int} {late:List Int}
end
theorem NodeC.frame {w:World} {d:NodeD} {c:Array Value}(h:NodeC w d c):∃x1 x2 x3 x4 x5 x6 x7 x8 b e,c=#[.int .u8 (d.kind:Nat),x1,x2,x3,x4,x5,x6,x7,x8,.slice b d.par.late.length e]∧Rd w (.slice b d.par.late.length e) (ivs .i64 d.par.late):=by
 obtain⟨i,c1,r,c2,o,c3,m,c4,j,c5,t,s,k,e2,q,e3,rfl,p,h2,h3,f,g,n,l,a⟩:=h;exact⟨_,_,_,_,_,_,_,_,_,_,rfl,a⟩
end
section
theorem Wk {P:Program} {w:World} {ops:Array Oper} {rest:List Oper} {o:Oper} {a:Act} {Q:Exit→Act→World→Prop} (g:o.guard=none) (s x:Operand) (t:TypeId)
  (j:o.op=.call {callee:=.builtin .append,args:=#[s,x],argTypes:=#[t,t]})
  (B:Nat) (e:TypeId) (z:Value) (b:Nat) (F:Elem P t e z b)
  (v:Value) (xs:List Value) (p:a.eval s=v) (d:Own w B e v xs)
  (r:Value) (c:List Value) (hx:a.eval x=r) (i:Rd w r c) (y:∀u∈c,u.oneCell'=true)
  (m:xs.length+c.length<1099511627776) (k:B≤w.heap.size)
  (h:∀v' w',Own w' B e v' (xs++c)→w.grownBy w' v.ownBlock→Below B w w'→Rj w v v'→wpList P ops Q rest (a.put o.dst v') w'):wpList P ops Q (o::rest) a w:=by
 refine wpList_plain g fun C f=> ?_;exact Rk s x t j B e z b F v xs p d r c hx i y m k fun v' w' l A q n=>f _ _ (h v' w' l A q n)
section
variable {FI:Int→Option NodeD} {d i:Nat}
end
end
def Pr (n:Int)(p:Int×NodeD):Bool:=
 decide (0≤p.1∧p.1≤2*n-2)&&Ao p.2&& !(decide (p.1%2=0)&&decide (p.2.kind=2))&& !(decide (p.1%2=1)&&decide (p.2.kind=1))&&p.2.par.late.all fun u=>Cc (2*u) p.1
def Zea (s:SparseD):Nat:=((Ai s.op (2*s.own)).getD An).kind
def Ar (s:SparseD)(only:Bool):Bool:=
 fits s.leaves.toNat&&decide (0≤s.own∧s.own<s.leaves)&&s.op.all (Pr s.leaves)&&s.sh.all (fun p=>decide (p.2.length=32))&&(decide (Zea s=1)&&Kx (Ai s.op) (aZ s.leaves.toNat) s.own.toNat only (aZ s.leaves.toNat)
  &&decide (s.op.map (·.1)=(Za (Ai s.op) (aZ s.leaves.toNat) s.own.toNat only).1)&&decide (s.sh.map (·.1)=(Za (Ai s.op) (aZ s.leaves.toNat) s.own.toNat only).2.1))
def Ec (s:SparseD):Bool:=decide (s.op.length≤5000)&&decide (s.sh.length≤5000)&&s.op.all (fun p=>Bm p.2)&&s.sh.all fun p=>decide (p.2.length≤100)
theorem Ub {s:SparseD} {only:Bool}(h:fits s.leaves.toNat=false):Ar s only=false:=by rw[Ar,h];rfl
theorem Wl {s:SparseD} {only:Bool}(h:¬(0≤s.own∧s.own<s.leaves)):Ar s only=false:=by rw[Ar,decide_eq_false h];simp
theorem Zh0 {n:Int} {p:Int×NodeD}(c:0≤p.1∧p.1≤2*n-2)(h2:Ao p.2=true)(h3:¬(p.1%2=0∧p.2.kind=2))(e:¬(p.1%2=1∧p.2.kind=1))(b:∀i,i<p.2.par.late.length→Cc (2*p.2.par.late.getD i 0) p.1=true):Pr n p=true:=by
 have g:p.2.par.late.all (fun u=>Cc (2*u) p.1)=true:=List.all_eq_true.2 fun u f=>by
  obtain⟨i,a,rfl⟩:=List.getElem_of_mem f;have:=b i a
  rwa [List.getD_eq_getElem?_getD,List.getElem?_eq_getElem a]at this
 have e3:(decide (p.1%2=0)&&decide (p.2.kind=2))=false:=(by rw[←Bool.not_eq_true];simpa using h3);have d:(decide (p.1%2=1)&&decide (p.2.kind=1))=false:=(by rw[←Bool.not_eq_true];simpa using e);rw[Pr,decide_eq_true c,h2,e3,d,g];rfl
theorem Nm {n:Int} {p:Int×NodeD}(h:Pr n p=true):(0≤p.1∧p.1≤2*n-2)∧Ao p.2=true∧¬(p.1%2=0∧p.2.kind=2)∧¬(p.1%2=1∧p.2.kind=1)∧∀u∈p.2.par.late,Cc (2*u) p.1=true:=by
 unfold Pr at h;simp only[Bool.and_eq_true,Bool.not_eq_true',decide_eq_true_eq]at h;obtain⟨⟨⟨⟨c,h2⟩,h3⟩,a⟩,b⟩:=h;refine⟨c,h2,fun hh=> ?_,fun hh=> ?_,fun u d=>List.all_eq_true.1 b u d⟩
 ·rw[decide_eq_true hh.1,decide_eq_true hh.2]at h3;cases h3
 ·rw[decide_eq_true hh.1,decide_eq_true hh.2]at a;cases a
def Ge (f:Nat→Int)(i:Nat):Int:=if i=0 then-1 else f (i-1)
def Hn (f:Nat→Int)(n:Nat):Bool:=(aH n).all fun i=>decide (Ge f i<f i)
theorem Uc {f:Nat→Int} {n i:Nat}(hi:i<n)(h:f i≤Ge f i):Hn f n=false:=by
 rw[Hn,List.all_eq_false];exact⟨i,List.mem_range.2 hi,by simpa using h⟩
theorem Ky {f:Nat→Int} {n:Nat}(h:∀i,i<n→Ge f i<f i):Hn f n=true:=by
 rw[Hn,fV];exact fun i hi=>decide_eq_true (h i (List.mem_range.1 hi))
theorem Kz {f:Nat→Int} {n:Nat}(h:Hn f n=true):∀i,i<n→Ge f i<f i:=by
 rw[Hn,fV]at h;exact fun i hi=>of_decide_eq_true (h i (List.mem_range.2 hi))
theorem Rs {f:Nat→Int} {n:Nat}(h:∀i,i<n→Ge f i<f i):∀j,j<n→0≤f j∧∀i,i<j→f i<f j:=by
 intro j
 induction j with
 |zero=>intro b;have:=h 0 b;unfold Ge at this;rw[if_pos rfl]at this;exact⟨by omega,fun i c=>by omega⟩
 |succ j ih=>
  intro b;have a:=h (j+1) b;unfold Ge at a;rw[if_neg (by omega),fY]at a;obtain⟨h2,h3⟩:=ih (by omega);refine⟨by omega,fun i c=> ?_⟩
  by_cases e:i=j
  ·rw[e];exact a
  ·have:=h3 i (by omega);omega
def Fr (f:Nat→Int):Nat→Int→Option Nat
 |0,_=>none
 |r+1,y=>if y=f r then some r else Fr f r y
theorem In {f:Nat→Int}:∀ {n:Nat} {y:Int} {i:Nat},Fr f n y=some i→i<n∧f i=y:=by
 intro n
 induction n with
 |zero=>intro y i h;cases h
 |succ n ih=>
  intro y i h;rw[Fr]at h
  split at h
  ·rename_i e;cases h;exact⟨by omega,e.symm⟩
  ·obtain⟨h1,h2⟩:=ih h;exact⟨by omega,h2⟩
theorem Ps {f:Nat→Int}:∀ {n:Nat} {y:Int},Fr f n y=none→∀i,i<n→f i≠y:=by
 intro n
 induction n with
 |zero=>intro y _ i hi;omega
 |succ n ih=>
  intro y h i hi;rw[Fr]at h
  split at h
  ·cases h
  ·rename_i e
   by_cases e2:i=n
   ·rw[e2];exact fun h=>e h.symm
   ·exact ih h i (by omega)
def Ax:List (Int×List Nat)→Int→Option (List Nat)
 |[],_=>none
 |p::l,x=>if p.1=x then some p.2 else Ax l x
theorem Rt {l:List (Int×List Nat)} {x:Int}:∀ {r:Nat},r<l.length→(∀i,i<r→(stb l i).1≠x)→(stb l r).1=x→Ax l x=some (stb l r).2:=by
 induction l with
 |nil=>intro r b;simp at b
 |cons p l ih=>
  intro r b a c;cases r with
  |zero=>have e:p.1=x:=c;rw[Ax,if_pos e];rfl
  |succ r=>
   have d:p.1≠x:=a 0 (by omega);rw[Ax,if_neg d];exact ih (r:=r) (by simpa using b) (fun i f=>a (i+1) (by omega)) c
theorem Pt {l:List (Int×List Nat)} {x:Int}:(∀i,i<l.length→(stb l i).1≠x)→Ax l x=none:=by
 induction l with
 |nil=>intro _;rfl
 |cons p l ih=>
  intro h;rw[Ax,if_neg (show¬p.1=x from h 0 (by simp))];exact ih fun i hi=>h (i+1) (by simp;omega)
theorem Ud {l:List (Int×List Nat)} {x:Int} {d:List Nat}(h:Ax l x=some d):(x,d)∈l:=by
 induction l with
 |nil=>cases h
 |cons p l ih=>
  rw[Ax]at h
  split at h
  ·rename_i e
   cases h;rw[←e];exact List.mem_cons_self
  ·exact List.mem_cons_of_mem _ (ih h)
def spK (l:List (Int×NodeD))(i:Nat):Int:=(spt l i).1
def stK (l:List (Int×List Nat))(i:Nat):Int:=(stb l i).1
theorem Zeb {l:List (Int×NodeD)}(h:Hn (spK l) l.length=true)(y:Int):Ai l y=(Fr (spK l) l.length y).map fun i=>(spt l i).2:=by
 have b:=Rs (Kz h);cases hl:Fr (spK l) l.length y with
 |none=>exact Pi fun i c=>Ps hl i c
 |some i=>
  obtain⟨a,h2⟩:=In hl;exact Qz a (fun j d e=>by have h3:spK l j<spK l i:=(b i a).2 j d;have f:spK l j=y:=e;omega) h2
theorem Zbe {l:List (Int×List Nat)}(h:Hn (stK l) l.length=true)(y:Int):Ax l y=(Fr (stK l) l.length y).map fun i=>(stb l i).2:=by
 have b:=Rs (Kz h);cases hl:Fr (stK l) l.length y with
 |none=>exact Pt fun i c=>Ps hl i c
 |some i=>
  obtain⟨a,h2⟩:=In hl;exact Rt a (fun j d e=>by have h3:stK l j<stK l i:=(b i a).2 j d;have f:stK l j=y:=e;omega) h2
theorem Blk.range {w:World} {g:Nat} {t:TypeId} {cs:List Value}(h:Blk w g t cs.toArray)(o:Nat):w.rangeAt g (0+o) (cs.drop o):=by
 intro j u hu;rw[h.cell];rw[List.getElem?_drop]at hu;simpa [Nat.add_comm]using hu
def Ck (s:SparseD):Bool:=Hn (spK s.op) s.op.length&&Hn (stK s.sh) s.sh.length
def NodesG (w:World)(G:Int→Option Value)(F:Int→Option NodeD):Prop:=∀x,match F x with
 |none=>G x=none
 |some d=>∃c,G x=some (.agg c)∧NodeC w d c
def RunsH (w:World)(G:Int→Option Value)(H:Int→Option (List Nat)):Prop:=∀x,match H x with
 |none=>G x=none
 |some L=>∃v,G x=some v∧Rd w v (bvs L)
theorem NodesG.below {w w':World} {G:Int→Option Value} {B:Nat} {F:Int→Option NodeD}(h:NodesG w G F)(hb:Below B w w')(hB:w.heap.size≤B):NodesG w' G F:=by
 intro x;have:=h x;revert this;cases F x with
 |none=>exact id
 |some d=>rintro⟨c,hc,hn⟩;exact⟨c,hc,hn.below hb hB⟩
theorem RunsH.below {w w':World} {G:Int→Option Value} {B:Nat} {F:Int→Option (List Nat)}(h:RunsH w G F)(hb:Below B w w')(hB:w.heap.size≤B):RunsH w' G F:=by
 intro x;have:=h x;revert this;cases F x with
 |none=>exact id
 |some d=>rintro⟨c,hc,hn⟩;exact⟨c,hc,hn.below hb hB⟩
def PieceN (w:World)(b n:Nat)(F:Int→Option NodeD):Prop:=∃G:Int→Option Value,MapF w b n G∧∀x,match F x with
 |none=>G x=none
 |some d=>∃c,G x=some (.agg c)∧NodeC w d c
def PieceH (w:World)(b n:Nat)(H:Int→Option (List Nat)):Prop:=∃G:Int→Option Value,MapF w b n G∧∀x,match H x with
 |none=>G x=none
 |some L=>∃v,G x=some v∧Rd w v (bvs L)
theorem PieceN.below {w w':World} {b n B:Nat} {F:Int→Option NodeD}(h:PieceN w b n F)(a:Below B w w')(e:w.heap.size≤B):PieceN w' b n F:=by
 obtain⟨G,f,h2⟩:=h;refine⟨G,f.below a e,fun x=> ?_⟩;have:=h2 x;revert this;cases F x with
 |none=>exact id
 |some d=>rintro⟨c,i,g⟩;exact⟨c,i,g.below a e⟩
theorem PieceH.below {w w':World} {b n B:Nat} {F:Int→Option (List Nat)}(h:PieceH w b n F)(a:Below B w w')(e:w.heap.size≤B):PieceH w' b n F:=by
 obtain⟨G,f,h2⟩:=h;refine⟨G,f.below a e,fun x=> ?_⟩;have:=h2 x;revert this;cases F x with
 |none=>exact id
 |some d=>rintro⟨c,i,g⟩;exact⟨c,i,g.below a e⟩
theorem Ue:(Tryz.prog.info? 87).map (·.size)=some 11:=by kernel_rfl
theorem Uf:(Tryz.prog.info? 89).map (·.size)=some 2:=by kernel_rfl
theorem Io {α:Type} [Inhabited α] {n:Nat} {P:Nat→α→Prop}(h:∀i,i<n→∃c,P i c):∃C:Nat→α,∀i,i<n→P i (C i):=by
 refine⟨fun i=>if hi:i<n then Classical.choose (h i hi)else default,fun i hi=> ?_⟩;simp only[hi,dif_pos];exact Classical.choose_spec (h i hi)
theorem Blk.grownR {w w':World} {g:Nat} {t:TypeId} {cs:Array Value} {row:Nat}(h:Blk w g t cs)(hg:w.grownBy w' (some row))(hne:g≠row):Blk w' g t cs:=(hg.block g h.lt fun e=>hne (by cases e;rfl)).trans h
def Kg (s:SparseD)(w0 w:World)(e:Ending)(w':World):Prop:=Below w.heap.size w w'∧
 if Ck s=true then∃ob sb,e=.returned (.tuple #[.agg #[.int .i64 s.leaves,.int .i64 s.own,.map (some ob),.map (some sb)],.bool true])∧w.heap.size≤ob∧w.heap.size≤sb∧ob≠sb∧∃G G',MapF w' ob s.op.length G∧NodesG w0 G (Ai s.op)∧MapF w' sb s.sh.length G'∧RunsH w0 G' (Ax s.sh)
 else e=.returned (.tuple #[.agg #[.int .i64 0,.int .i64 0,.map none,.map none],.bool false])
theorem Zec {s:SparseD} {w0 w w':World}(h:Ck s=false)(hb:Below w.heap.size w w'):Kg s w0 w (.returned (.tuple #[.agg #[.int .i64 0,.int .i64 0,.map none,.map none],.bool false])) w':=⟨hb,by rw[if_neg (by rw[h];simp)]⟩
theorem Wm (w:World)(lv ow:Int)(d c:Option Addr)(n a m b h:Nat)(hh:h=w.heap.size)(cs:Array Value)(o:cs=#[.int .i64 lv,.int .i64 ow,.map (some (h+1+1)),.map (some (h+1+1+1))]):
  Blk (((((w.alloc (.cells #[.int .i64 lv,.int .i64 ow,.slice d n a,.slice c m b] 25)).alloc (.cells #[.int .i64 0,.int .i64 0,.map none,.map none] 101)).alloc (.map #[] 0)).alloc (.map #[] 0)).alloc (.cells cs 101)) h 25 #[.int .i64 lv,.int .i64 ow,.slice d n a,.slice c m b]∧Blk (((((w.alloc (.cells #[.int .i64 lv,.int .i64 ow,.slice d n a,.slice c m b] 25)).alloc (.cells #[.int .i64 0,.int .i64 0,.map none,.map none] 101)).alloc (.map #[] 0)).alloc (.map #[] 0)).alloc (.cells cs 101)) (h+1) 101 #[.int .i64 0,.int .i64 0,.map none,.map none]∧MapF (((((w.alloc (.cells #[.int .i64 lv,.int .i64 ow,.slice d n a,.slice c m b] 25)).alloc (.cells #[.int .i64 0,.int .i64 0,.map none,.map none] 101)).alloc (.map #[] 0)).alloc (.map #[] 0)).alloc (.cells cs 101)) (h+1+1) 0 (fun _=>none)∧MapF (((((w.alloc (.cells #[.int .i64 lv,.int .i64 ow,.slice d n a,.slice c m b] 25)).alloc (.cells #[.int .i64 0,.int .i64 0,.map none,.map none] 101)).alloc (.map #[] 0)).alloc (.map #[] 0)).alloc (.cells cs 101)) (h+1+1+1) 0 (fun _=>none)∧Blk (((((w.alloc (.cells #[.int .i64 lv,.int .i64 ow,.slice d n a,.slice c m b] 25)).alloc (.cells #[.int .i64 0,.int .i64 0,.map none,.map none] 101)).alloc (.map #[] 0)).alloc (.map #[] 0)).alloc (.cells cs 101)) (h+1+1+1+1) 101 cs∧Below h w (((((w.alloc (.cells #[.int .i64 lv,.int .i64 ow,.slice d n a,.slice c m b] 25)).alloc (.cells #[.int .i64 0,.int .i64 0,.map none,.map none] 101)).alloc (.map #[] 0)).alloc (.map #[] 0)).alloc (.cells cs 101))∧(((((w.alloc (.cells #[.int .i64 lv,.int .i64 ow,.slice d n a,.slice c m b] 25)).alloc (.cells #[.int .i64 0,.int .i64 0,.map none,.map none] 101)).alloc (.map #[] 0)).alloc (.map #[] 0)).alloc (.cells cs 101)).heap.size=h+5:=by
 have l:(w.alloc (.cells #[.int .i64 lv,.int .i64 ow,.slice d n a,.slice c m b] 25)).heap.size=h+1:=(by simp[hh]);have q:((w.alloc (.cells #[.int .i64 lv,.int .i64 ow,.slice d n a,.slice c m b] 25)).alloc (.cells #[.int .i64 0,.int .i64 0,.map none,.map none] 101)).heap.size=h+1+1:=(by simp[hh]);have k:(((w.alloc (.cells #[.int .i64 lv,.int .i64 ow,.slice d n a,.slice c m b] 25)).alloc (.cells #[.int .i64 0,.int .i64 0,.map none,.map none] 101)).alloc (.map #[] 0)).heap.size=h+1+1+1:=(by simp[hh]);have p:((((w.alloc (.cells #[.int .i64 lv,.int .i64 ow,.slice d n a,.slice c m b] 25)).alloc (.cells #[.int .i64 0,.int .i64 0,.map none,.map none] 101)).alloc (.map #[] 0)).alloc (.map #[] 0)).heap.size=h+1+1+1+1:=(by simp[hh]);have f:=Blk.new w 25 #[.int .i64 lv,.int .i64 ow,.slice d n a,.slice c m b];have j:=Blk.new (w.alloc (.cells #[.int .i64 lv,.int .i64 ow,.slice d n a,.slice c m b] 25)) 101 #[.int .i64 0,.int .i64 0,.map none,.map none];have e:=MapF.made ((w.alloc (.cells #[.int .i64 lv,.int .i64 ow,.slice d n a,.slice c m b] 25)).alloc (.cells #[.int .i64 0,.int .i64 0,.map none,.map none] 101));have g:=MapF.made (((w.alloc (.cells #[.int .i64 lv,.int .i64 ow,.slice d n a,.slice c m b] 25)).alloc (.cells #[.int .i64 0,.int .i64 0,.map none,.map none] 101)).alloc (.map #[] 0));have i:=Blk.new ((((w.alloc (.cells #[.int .i64 lv,.int .i64 ow,.slice d n a,.slice c m b] 25)).alloc (.cells #[.int .i64 0,.int .i64 0,.map none,.map none] 101)).alloc (.map #[] 0)).alloc (.map #[] 0)) 101 cs;rw[←hh]at f;rw[l]at j;rw[q]at e;rw[k]at g;rw[p]at i;have B:=(((((Below.refl h w).alloc (by omega) (.cells #[.int .i64 lv,.int .i64 ow,.slice d n a,.slice c m b] 25)).alloc (by omega) (.cells #[.int .i64 0,.int .i64 0,.map none,.map none] 101)).alloc (by omega) (.map #[] 0)).alloc (by omega) (.map #[] 0)).alloc (by omega) (.cells cs 101);exact⟨(((f.alloc _).alloc _).alloc _).alloc _,((j.alloc _).alloc _).alloc _,(e.alloc _).alloc _,g.alloc _,i,B,by simp[hh]⟩
theorem Wn (v:Value)(s:SparseD)(w0 w:World)(h:SparseR w0 v s)(bU:Below w0.heap.size w0 w)(a3:SparseOk s)(h1:s.op.length≤10000)(h2:s.sh.length≤10000):
  Calls Tryz.prog 148 #[v] w (Kg s w0 w):=by
 obtain⟨o,g,rfl,ho,hg⟩:=h;obtain⟨oa,oc,rfl,bO,b5⟩:=ho.sl;obtain⟨ga,gc,rfl,bS,bY⟩:=hg.sl;obtain⟨C,hC⟩:=Io (n:=s.op.length) (P:=fun i c=>∃b z,oa=some ⟨b,z,none⟩∧b<w0.heap.size∧NodeC w0 (spt s.op i).2 c∧w0.rangeAt b (z+i*11) (.int .i64 (spK s.op i)::c.toList)) fun i T=>by
  obtain⟨b,z,c,e,h1,h2,h3⟩:=ho.at T;exact⟨c,b,z,e,h1,h2,h3⟩
 obtain⟨U,hU⟩:=Io (n:=s.sh.length) (P:=fun i u=>∃b z,ga=some ⟨b,z,none⟩∧b<w0.heap.size∧Rd w0 u (bvs (stb s.sh i).2)∧w0.rangeAt b (z+i*2) [.int .i64 (stK s.sh i),u]) fun i T=>by
  obtain⟨b,z,c,e,h1,h2,h3⟩:=hg.at T;exact⟨c,b,z,e,h1,h2,h3⟩
 have aR:=Hd bU;have HC:=Hd hC;have HU:=Hd hU;have aP:=Hd fun(i:Nat) (T:i<s.op.length)=>(show inI (spK s.op i)from(a3.op _ (Qy T)).1);have aQ:=Hd fun(i:Nat) (T:i<s.sh.length)=>(show inI (stK s.sh i)from(a3.sh _ (Vv T)).1);have bF:=fun(i:Nat) (T:i<s.op.length) (h:spK s.op i≤Ge (spK s.op) i)=>(show Ck s=false from by rw[Ck,Uc T h];rfl);have bD:=fun(i:Nat) (T:i<s.sh.length) (h:stK s.sh i≤Ge (stK s.sh) i)=>(show Ck s=false from by rw[Ck,Uc T h];simp);have bB:=fun(w':World) (ob sb:Nat) (S:Below w.heap.size w w') (r1:∀i,i<s.op.length→Ge (spK s.op) i<spK s.op i) (r2:∀i,i<s.sh.length→Ge (stK s.sh) i<stK s.sh i) (k1:w.heap.size≤ob) (k2:w.heap.size≤sb) (k3:ob≠sb)
   (m1:MapF w' ob s.op.length fun y=>(Fr (spK s.op) s.op.length y).map fun i=> .agg (C i)) (m2:MapF w' sb s.sh.length fun y=>(Fr (stK s.sh) s.sh.length y).map fun i=>U i)=>
  (show Kg s w0 w (.returned (.tuple #[.agg #[.int .i64 s.leaves,.int .i64 s.own,.map (some ob),.map (some sb)],.bool true])) w' from by
   have f1:=Ky r1;have f2:=Ky r2;refine⟨S,?_⟩;rw[if_pos (by rw[Ck,f1,f2];rfl)];refine⟨ob,sb,rfl,k1,k2,k3,_,_,m1,fun x=> ?_,m2,fun x=> ?_⟩
   ·rw[Zeb f1];try dsimp only
    cases hl:Fr (spK s.op) s.op.length x with
    |none=>rfl
    |some i=>
     obtain⟨b,z,-,-,hn,-⟩:=hC i (In hl).1;exact⟨C i,rfl,hn⟩
   ·rw[Zbe f2];try dsimp only
    cases hl:Fr (stK s.sh) s.sh.length x with
    |none=>rfl
    |some i=>
     obtain⟨b,z,-,-,hn,-⟩:=hU i (In hl).1;exact⟨U i,rfl,hn⟩)
 have Z:=Hd bF;have Y:=Hd bD;have H:=Hd bB;have aO:=Hd fun(w':World)=>Zec (s:=s) (w0:=w0) (w:=w) (w':=w');clear bF bD bB hC hU a3;obtain⟨PB,bE⟩:=eX (Ck s);rw[←bE]at Z Y aO;obtain⟨QP,bG⟩:=eX (Kg s w0 w);rw[←bG]at H aO⊢;obtain⟨lv,bI⟩:=eX s.leaves;obtain⟨ow,how⟩:=eX s.own;obtain⟨f,hf⟩:=eX (spK s.op);obtain⟨k,hk⟩:=eX (stK s.sh);obtain⟨n,hn⟩:=eX s.op.length;obtain⟨m,hm⟩:=eX s.sh.length;rw[←bI,←how]at H⊢;rw[←hf]at HC aP Z H;rw[←hk]at HU aQ Y H;rw[←hn]at HC aP Z H bO h1⊢;rw[←hm]at HU aQ Y H bS h2⊢;clear bE bG bI how hf hk hn hm ho hg;obtain⟨N,hN⟩:=eX w.heap.size;have b6:=Hd hN;have bP:∀w,(Instr.makeMap 98 none).run Tryz.prog w=.ok (.map (some w.heap.size)) (w.alloc (.map #[] 0)):=fun w=>rfl;have bW:∀w,(Instr.makeMap 99 none).run Tryz.prog w=.ok (.map (some w.heap.size)) (w.alloc (.map #[] 0)):=fun w=>rfl;go_enter Tryz.func148,Tryz.ntmps148;go_wp2_with fail;obtain⟨h,hh⟩:=eX w.heap.size;have HH:=Hd hh;have ST:=Wm w lv ow oa ga n oc m gc h hh #[.int .i64 lv,.int .i64 ow,.map (some (h+1+1)),.map (some (h+1+1+1))] rfl;rw[←hh];generalize hw5:(((((w.alloc (.cells #[.int .i64 lv,.int .i64 ow,.slice oa n oc,.slice ga m gc] 25)).alloc (.cells #[.int .i64 0,.int .i64 0,.map none,.map none] 101)).alloc (.map #[] 0)).alloc (.map #[] 0)).alloc (.cells #[.int .i64 lv,.int .i64 ow,.map (some (h+1+1)),.map (some (h+1+1+1))] 101))=w5 at ST⊢;obtain⟨b0,b1,b2,b3,b4,B5,bH⟩:=ST;have bK:=Hd b0;have aS:=Hd b1;have bV:=Hd b2;have bX:=Hd b3;have a8:=Hd b4;have bJ:=Hd B5;have bQ:=Hd bH;clear hw5 hh b0 b1 b2 b3 b4 B5 bH bP bW
 go_loopg [5,20] n (fun q V iv wr=>∃r:Nat,r+q=n∧iv=.int .i64 (r:Nat)∧V=.int .i64 (Ge f r)∧(∀i,i<r→Ge f i<f i)∧MapF wr (h+1+1) r (fun y=>(Fr f r y).map fun i=> .agg (C i))∧MapF wr (h+1+1+1) 0 (fun _=>none)∧Blk wr (h+1+1+1+1) 101 #[.int .i64 lv,.int .i64 ow,.map (some (h+1+1)),.map (some (h+1+1+1))]∧Below (h+1+1) w5 wr∧h+5≤wr.heap.size)
 case atStart=>exact⟨0,by omega,rfl,rfl,fun i T=>by omega,bV.out,bX.out,a8.out,bR,by rw[bQ.out];exact lR⟩
 case round=>
  obtain⟨r,hr,rfl,rfl,aJ,aL,aF,aG,S,aH⟩:=hrel;have HR:=Hd hr;have a1:=Hd aJ;have O:=Hd aL;have M:=Hd aF;have t:=Hd aG;have HB:=Hd S;have E:=Hd aH;have J:=Hd (bJ.out.trans (S.mono (show h≤h+1+1 by omega)));have K:=Hd (aS.out.below S (dG _));clear hr aJ aL aF aG S aH
  by_cases hlt:r<n
  ·have aC:decide (r<n)=true:=decide_eq_true hlt;have bA:(r:Int)<(n:Int):=(by omega);obtain⟨b,z,rfl,F,aA,R⟩:=HC.out r hlt;obtain⟨x0,x1,x2,x3,x4,x5,x6,x7,x8,x9,X⟩:=aA.ten;have L:=Hd aA.oneL;rw[X]at R L;have L:=Hd (show(#[Value.int .i64 (f r),x0,x1,x2,x3,x4,x5,x6,x7,x8,x9]:Array Value).toList.all (·.oneCell')=true from by
    change(true&&(#[x0,x1,x2,x3,x4,x5,x6,x7,x8,x9]:Array Value).toList.all (·.oneCell'))=true;rw[Bool.true_and];exact L.out)
   have a6:=Hd X;have W:=Hd (Am R (aR.out.trans (J.out.mono (by rw[HH.out];exact aR.out.size))) F);obtain⟨aV,aY⟩:=aP.out r hlt;have aB:=Hd (show inI (f r)from aP.out r hlt);have bZ:=Hd (show∀i,i<r+1→i≠r→Ge f i<f i from fun i T bC=>a1.out i (by omega));obtain⟨x,hx⟩:=eX (f r);rw[←hx]at W L aV aY aB;have HX:=Hd hx;obtain⟨p,hp⟩:=eX (Ge f r);rw[←hp];have HP:=Hd hp;clear aA R X hx hp
   by_cases hxp:x≤p
   ·have aD:decide (x≤p)=true:=decide_eq_true hxp;have HE:=Hd (fun(w':World) (S:Below w.heap.size w w')=>aO.out w' (Z.out r hlt (by rw[←HX.out,←HP.out];exact hxp)) S);clear hxp;obtain⟨q,hq⟩:=eX wr.heap.size;have HQ:=Hd hq;have a2:=Hd (show Blk (wr.alloc (.cells #[.int .i64 0,.int .u8 0,.slice none 0 0,.slice none 0 0,.slice none 0 0,.int .u8 0,.slice none 0 0,.slice none 0 0,.slice none 0 0,.slice none 0 0,.slice none 0 0] 87)) q 87 #[.int .i64 0,.int .u8 0,.slice none 0 0,.slice none 0 0,.slice none 0 0,.int .u8 0,.slice none 0 0,.slice none 0 0,.slice none 0 0,.slice none 0 0,.slice none 0 0] by rw[hq];exact Blk.new _ _ _);clear hq;go_wp2_with (first|(refine wpList_load_mid rfl 87 (.tmp 22) rfl b (z+r*11) rfl [.int .i64 x,x0,x1,x2,x3,x4,x5,x6,x7,x8,x9] _ W.out Tryz.underlying87 rfl Ue ?_)|(refine Aa rfl 87 (.tmp 7) (.tmp 23) rfl wr.heap.size #[.int .i64 x,x0,x1,x2,x3,x4,x5,x6,x7,x8,x9] rfl rfl 87 #[.int .i64 0,.int .u8 0,.slice none 0 0,.slice none 0 0,.slice none 0 0,.int .u8 0,.slice none 0 0,.slice none 0 0,.slice none 0 0,.slice none 0 0,.slice none 0 0] (HQ.out▸a2.out) (by kernel_rfl) rfl L.out ?_));rintro w7 d Q A l;rw[←HQ.out]at d⊢;have B:=Hd (((Below.refl wr.heap.size wr).alloc lR (.cells #[.int .i64 0,.int .u8 0,.slice none 0 0,.slice none 0 0,.slice none 0 0,.int .u8 0,.slice none 0 0,.slice none 0 0,.slice none 0 0,.slice none 0 0,.slice none 0 0] 87)).trans (Q wr.heap.size lR));have J:=Hd (J.out.trans (B.out.mono (by have:=E.out;omega)));have K:=Hd (K.out.below B.out K.out.lt);have aN:=Hd (show w7.heap.size=q+1 from by rw[l];simp[HQ.out]);have bN:=Hd d;have O:=Hd (O.out.below B.out lR);have M:=Hd (M.out.below B.out lR);have t:=Hd (t.out.below B.out t.out.lt);have a9:=Hd (HB.out.trans (B.out.mono (by have:=E.out;omega)));have k0:=d.cell 0;simp only[cC,cD]at k0;have bL:=Hd (show w7.rangeAt q (0+1) [x0,x1,x2,x3,x4,x5,x6,x7,x8,x9]from d.range 1);clear d Q A l;go_wp2_with (refine Aa rfl 101 (.tmp 2) (.tmp 28) rfl (h+1) #[.int .i64 0,.int .i64 0,.map none,.map none] rfl rfl 101 #[.int .i64 0,.int .i64 0,.map none,.map none] K.out (by kernel_rfl) rfl rfl ?_);rintro w9 d F A l;have HK:=Hd d;have aE:=Hd (J.out.trans (F h (fZ h)));clear d F A l;go_wp2_with fail;refine bodyPost_ret (v:=.tuple #[.agg #[.int .i64 0,.int .i64 0,.map none,.map none],.bool false]) (Ad Tryz.results148 _ _ (h+1) _ _ _ rfl HK.out Tryz.underlying101 rfl (by kernel_rfl)) rfl ?_;exact HE.out _ (by rw[←HH.out];exact aE.out)
   ·have aD:decide (x≤p)=false:=decide_eq_false hxp;have a5:=Hd (show p<x by omega);clear hxp;obtain⟨q,hq⟩:=eX wr.heap.size;have HQ:=Hd hq;have a2:=Hd (show Blk (wr.alloc (.cells #[.int .i64 0,.int .u8 0,.slice none 0 0,.slice none 0 0,.slice none 0 0,.int .u8 0,.slice none 0 0,.slice none 0 0,.slice none 0 0,.slice none 0 0,.slice none 0 0] 87)) q 87 #[.int .i64 0,.int .u8 0,.slice none 0 0,.slice none 0 0,.slice none 0 0,.int .u8 0,.slice none 0 0,.slice none 0 0,.slice none 0 0,.slice none 0 0,.slice none 0 0] by rw[hq];exact Blk.new _ _ _);clear hq;go_wp2_with (first|(refine wpList_load_mid rfl 87 (.tmp 22) rfl b (z+r*11) rfl [.int .i64 x,x0,x1,x2,x3,x4,x5,x6,x7,x8,x9] _ W.out Tryz.underlying87 rfl Ue ?_)|(refine Aa rfl 87 (.tmp 7) (.tmp 23) rfl wr.heap.size #[.int .i64 x,x0,x1,x2,x3,x4,x5,x6,x7,x8,x9] rfl rfl 87 #[.int .i64 0,.int .u8 0,.slice none 0 0,.slice none 0 0,.slice none 0 0,.int .u8 0,.slice none 0 0,.slice none 0 0,.slice none 0 0,.slice none 0 0,.slice none 0 0] (HQ.out▸a2.out) (by kernel_rfl) rfl L.out ?_));rintro w7 d Q A l;rw[←HQ.out]at d⊢;have B:=Hd (((Below.refl wr.heap.size wr).alloc lR (.cells #[.int .i64 0,.int .u8 0,.slice none 0 0,.slice none 0 0,.slice none 0 0,.int .u8 0,.slice none 0 0,.slice none 0 0,.slice none 0 0,.slice none 0 0,.slice none 0 0] 87)).trans (Q wr.heap.size lR));have J:=Hd (J.out.trans (B.out.mono (by have:=E.out;omega)));have K:=Hd (K.out.below B.out K.out.lt);have aN:=Hd (show w7.heap.size=q+1 from by rw[l];simp[HQ.out]);have bN:=Hd d;have O:=Hd (O.out.below B.out lR);have M:=Hd (M.out.below B.out lR);have t:=Hd (t.out.below B.out t.out.lt);have a9:=Hd (HB.out.trans (B.out.mono (by have:=E.out;omega)));have k0:=d.cell 0;simp only[cC,cD]at k0;have bL:=Hd (show w7.rangeAt q (0+1) [x0,x1,x2,x3,x4,x5,x6,x7,x8,x9]from d.range 1);clear d Q A l;have aZ:r<maxLen:=(by unfold maxLen;omega);have p2:=t.out.cell 2;simp only[cC,cD,cE]at p2;go_wp2_with (first|(refine wpList_load_mid rfl 52 (.tmp 35) rfl q 1 rfl [x0,x1,x2,x3,x4,x5,x6,x7,x8,x9] _ bL.out Tryz.underlying52 rfl Ak ?_)|(refine Fa rfl (.tmp 32) (.tmp 34) (.tmp 36) rfl Tryz.underlying98 rfl O.out rfl aB.out aZ _ rfl ?_));rintro w8 aI I;have aX:=Hd (aI.congr (G:=fun y=>(Fr f (r+1) y).map fun i=>Value.agg (C i)) (fun y=>by
     show(Fr f (r+1) y).map _=_;rw[Fr,←HX.out]
     by_cases e:y=x
     ·rw[if_pos e,if_pos e,←a6.out];rfl
     ·rw[if_neg e,if_neg e]))
    have aK:=Hd (M.out.grown I (by intro e;cases e));have aM:=Hd (t.out.grownR I (by omega));have aW:=Hd (a9.out.trans ((Below.refl (h+1+1) w7).grown I (by have:=aN.out;have:=HQ.out;have:=E.out;omega) (by intro k e;cases e;exact lR)));have a0:=Hd (show h+5≤w8.heap.size from by have:=I.size;have:=aN.out;have:=HQ.out;have:=E.out;omega);clear aI I;go_wp2_with fail;go_roundg (gk-1);case measure=>have:=HR.out;omega
    case rel=>
     refine⟨r+1,by have:=HR.out;omega,by go_num,?_,fun i T=> ?_,aX.out,aK.out,aM.out,aW.out,a0.out⟩
     ·unfold Ge;rw[if_neg (by omega),fY,←HX.out]
     ·by_cases e:i=r
      ·rw[e,←HX.out,←HP.out];exact a5.out
      ·exact a1.out i (by omega)
  ·obtain rfl:r=n:=(by have:=HR.out;omega);have aC:decide (r<r)=false:=decide_eq_false hlt;have c3:=(bK.out.below HB.out (by omega)).cell 3;have c2:=(bK.out.below HB.out (by omega)).cell 2;simp only[cC,cD,cE]at c2 c3;obtain⟨wo,rfl⟩:∃wo:World,wo=wr:=⟨_,rfl⟩;clear hlt;go_wp2_with fail;clear c2 c3
   go_loopg [5,41] m (fun q V iv wr=>∃i:Nat,i+q=m∧iv=.int .i64 (i:Nat)∧V=.int .i64 (Ge k i)∧(∀j,j<i→Ge k j<k j)∧MapF wr (h+1+1) r (fun y=>(Fr f r y).map fun i=> .agg (C i))∧MapF wr (h+1+1+1) i (fun y=>(Fr k i y).map fun i=>U i)∧Blk wr (h+1+1+1+1) 101 #[.int .i64 lv,.int .i64 ow,.map (some (h+1+1)),.map (some (h+1+1+1))]∧Below (h+1+1) w5 wr∧h+5≤wr.heap.size)
   case atStart=>exact⟨0,by omega,rfl,rfl,fun i T=>by omega,O.out,M.out,t.out,HB.out,E.out⟩
   case round=>
    obtain⟨i,hr,rfl,rfl,aJ,aL,aF,aG,S,aH⟩:=hrel;have HR:=Hd hr;have aT:=Hd aJ;have O:=Hd aL;have M:=Hd aF;have t:=Hd aG;have HB:=Hd S;have E:=Hd aH;have J:=Hd (bJ.out.trans (S.mono (show h≤h+1+1 by omega)));have K:=Hd (aS.out.below S (dG _));clear hr aJ aL aF aG S aH
    by_cases hlt:i<m
    ·have aC:decide (i<m)=true:=decide_eq_true hlt;have bA:(i:Int)<(m:Int):=(by omega);obtain⟨b,z,rfl,F,aA,R⟩:=HU.out i hlt;obtain⟨ua,un,uc,X⟩:∃a n c,U i=.slice a n c:=(by obtain⟨a,c,e,_⟩:=aA;exact⟨_,_,_,e⟩);rw[X]at R;have a6:=Hd X;have W:=Hd (Am R (aR.out.trans (J.out.mono (by rw[HH.out];exact aR.out.size))) F);obtain⟨aV,aY⟩:=aQ.out i hlt;have aB:=Hd (show inI (k i)from aQ.out i hlt);have aU:=Hd (K.out.alloc (.cells #[.int .i64 (k i),.slice ua un uc] 89));obtain⟨x,hx⟩:=eX (k i);rw[←hx]at W aV aY aB aU;have HX:=Hd hx;obtain⟨p,hp⟩:=eX (Ge k i);rw[←hp];have HP:=Hd hp;clear aA R X hx hp
     by_cases hxp:x≤p
     ·have aD:decide (x≤p)=true:=decide_eq_true hxp;have HE:=Hd (fun(w':World) (S:Below w.heap.size w w')=>aO.out w' (Y.out i hlt (by rw[←HX.out,←HP.out];exact hxp)) S);clear hxp;go_wp2_with (first|(refine wpList_load_mid rfl 89 (.tmp 43) rfl b (z+i*2) rfl [.int .i64 x,.slice ua un uc] _ W.out Tryz.underlying89 rfl Uf ?_)|(refine Aa rfl 101 (.tmp 2) (.tmp 49) rfl (h+1) #[.int .i64 0,.int .i64 0,.map none,.map none] rfl rfl 101 #[.int .i64 0,.int .i64 0,.map none,.map none] aU.out (by kernel_rfl) rfl rfl ?_));rintro w9 d F A l;have HK:=Hd d;have aE:=Hd ((J.out.alloc (by have:=E.out;omega) (.cells #[.int .i64 x,.slice ua un uc] 89)).trans (F h (fZ h)));clear d F A l;go_wp2_with fail;refine bodyPost_ret (v:=.tuple #[.agg #[.int .i64 0,.int .i64 0,.map none,.map none],.bool false]) (Ad Tryz.results148 _ _ (h+1) _ _ _ rfl HK.out Tryz.underlying101 rfl (by kernel_rfl)) rfl ?_;exact HE.out _ (by rw[←HH.out];exact aE.out)
     ·have aD:decide (x≤p)=false:=decide_eq_false hxp;have a5:=Hd (show p<x by omega);have aZ:i<maxLen:=(by unfold maxLen;omega);have p3:=t.out.cell 3;simp only[cC,cD,cE]at p3;have b7:=t.out.lt;clear hxp;go_wp2_with (first|(refine wpList_load_mid rfl 89 (.tmp 43) rfl b (z+i*2) rfl [.int .i64 x,.slice ua un uc] _ W.out Tryz.underlying89 rfl Uf ?_)|(refine Fa rfl (.tmp 53) (.tmp 55) (.tmp 57) rfl Tryz.underlying99 rfl (M.out.alloc _) rfl aB.out aZ _ rfl ?_));rintro w8 aI I;have aX:=Hd (aI.congr (G:=fun y=>(Fr k (i+1) y).map fun i=>U i) (fun y=>by
       show(Fr k (i+1) y).map _=_;rw[Fr,←HX.out]
       by_cases e:y=x
       ·rw[if_pos e,if_pos e,←a6.out];rfl
       ·rw[if_neg e,if_neg e]))
      have aK:=Hd ((O.out.alloc (.cells #[.int .i64 x,.slice ua un uc] 89)).grown I (by intro e;simp at e));have aM:=Hd ((t.out.alloc (.cells #[.int .i64 x,.slice ua un uc] 89)).grownR I (by omega));have aW:=Hd ((HB.out.alloc (by have:=E.out;omega) (.cells #[.int .i64 x,.slice ua un uc] 89)).trans ((Below.refl (h+1+1) _).grown I (by have:=E.out;simp;omega) (by intro k e;cases e;omega)));have a0:=Hd (show h+5≤w8.heap.size from by have:=I.size;simp at this;have:=E.out;omega);clear aI I;go_wp2_with fail;go_roundg (gk-1);case measure=>have:=HR.out;omega
      case rel=>
       refine⟨i+1,by have:=HR.out;omega,by go_num,?_,fun j hj=> ?_,aK.out,aX.out,aM.out,aW.out,a0.out⟩
       ·unfold Ge;rw[if_neg (by omega),fY,←HX.out]
       ·by_cases e:j=i
        ·rw[e,←HX.out,←HP.out];exact a5.out
        ·exact aT.out j (by omega)
    ·obtain rfl:i=m:=(by have:=HR.out;omega);have aC:decide (i<i)=false:=decide_eq_false hlt;have p0:=t.out.cell 0;have p1:=t.out.cell 1;have p2:=t.out.cell 2;have p3:=t.out.cell 3;simp only[cC,cD,cE]at p0 p1 p2 p3;clear hlt;go_wp2_with (refine Aa rfl 101 (.tmp 2) (.tmp 59) rfl (h+1) #[.int .i64 lv,.int .i64 ow,.map (some (h+1+1)),.map (some (h+1+1+1))] rfl rfl 101 #[.int .i64 0,.int .i64 0,.map none,.map none] K.out (by kernel_rfl) rfl rfl ?_);rintro w9 d F A l;have HK:=Hd d;have aE:=Hd (J.out.trans (F h (fZ h)));have a4:∀ {b:Nat} {n:Nat} {G:Int→Option Value},MapF wr b n G→b≠h+1→MapF w9 b n G:=fun {b n G} hm bC=>by
      obtain⟨D,⟨es,a7,h0,h1⟩,h2⟩:=hm;exact⟨D,⟨es,a7,(A b bC).trans h0,h1⟩,h2⟩
     have bT:=Hd (a4 O.out (by omega));have bM:=Hd (a4 M.out (by omega));clear d F A l a4;go_wp2_with fail;refine bodyPost_ret (v:=.tuple #[.agg #[.int .i64 lv,.int .i64 ow,.map (some (h+1+1)),.map (some (h+1+1+1))],.bool true]) (Ad Tryz.results148 _ _ (h+1) _ _ _ rfl HK.out Tryz.underlying101 rfl (by kernel_rfl)) rfl ?_;exact H.out _ _ _ (by rw[←HH.out];exact aE.out) a1.out aT.out (by rw[←HH.out];omega) (by rw[←HH.out];omega) (by omega) bT.out bM.out
theorem Zh1 {α:Type} {f:Nat→List α} {k:Nat}(hf:∀i,(f i).length=k):∀r,((aH r).flatMap f).length=r*k:=by
 intro r
 induction r with
 |zero=>simp
 |succ r ih=>rw[eZ,gD,aI,ih];simp[hf,gA]
theorem Nn {α:Type}(f:Nat→List α)(r:Nat):(aH (r+1)).flatMap f=(aH r).flatMap f++f r:=by
 rw[eZ,gD];simp
theorem Zc {α:Type} {f:Nat→List α} {k:Nat}(b:∀i,(f i).length=k) {i j:Nat}(c:j<k):∀ {r:Nat},i<r→((aH r).flatMap f)[i*k+j]? =(f i)[j]? :=by
 intro r
 induction r with
 |zero=>intro h;omega
 |succ r ih=>
  intro h;rw[Nn];have a:=Zh1 b r
  by_cases e:i=r
  ·rw[List.getElem?_append_right (by rw[a,e];omega),a,e,Nat.add_sub_cancel_left]
  ·have:i*k+j<r*k:=by
    have:=Nat.mul_le_mul_right k (show i+1≤r by omega);rw[gA]at this;omega
   rw[List.getElem?_append_left (by rw[a];exact this)];exact ih (by omega)
def Gr (l:List (Int×NodeD))(C:Nat→Array Value)(i:Nat):List Value:=.int .i64 (spt l i).1::(C i).toList
def Kh (l:List (Int×List Nat))(U:Nat→Value)(i:Nat):List Value:=[.int .i64 (stb l i).1,U i]
theorem Zh2 {w:World} {B:Nat} {v:Value} {l:List (Int×NodeD)} {C:Nat→Array Value}(f:∀i,(C i).size=10)(n:∀i,i<l.length→NodeC w (spt l i).2 (C i))(h:OwnK w B 87 11 v l.length ((aH l.length).flatMap (Gr l C))):SpotsR w v l:=by
 rcases gC l.length with o|r
 ·have e:l=[]:=bV o;subst e;rcases h.2 with⟨rfl,_⟩|⟨g,cap,s,rfl,y,hh,k,d,z,x⟩
  ·exact SpotsR.nil w
  ·exact⟨_,cap,rfl,k,d,fun i b=>absurd b (by simp)⟩
 ·obtain⟨g,cap,rfl,t,c,k,d,q,_⟩:=h.out r;refine⟨_,cap,rfl,k,d,fun i b=>⟨g,0,C i,rfl,c,n i b,?_⟩⟩;intro j u m;have a:∀i,(Gr l C i).length=11:=fun i=>(by rw[Gr,cB,Array.length_toList,f]);have p:j<11:=by
   rcases aB j 11 with h|h
   ·exact h
   ·rw[aM (by have:=a i;rw[Gr]at this;omega)]at m;cases m
  have:=q (i*11+j) u (by rw[Zc a p b];exact m);rw[show 0+i*11+j=i*11+j by omega];exact this
theorem Zh3 {w:World} {B:Nat} {v:Value} {l:List (Int×List Nat)} {U:Nat→Value}(m:∀i,i<l.length→Rd w (U i) (bvs (stb l i).2))(h:OwnK w B 89 2 v l.length ((aH l.length).flatMap (Kh l U))):StubsR w v l:=by
 rcases gC l.length with n|q
 ·have e:l=[]:=bV n;subst e;rcases h.2 with⟨rfl,_⟩|⟨g,cap,r,rfl,x,hh,f,d,y,t⟩
  ·exact StubsR.nil w
  ·exact⟨_,cap,rfl,f,d,fun i b=>absurd b (by simp)⟩
 ·obtain⟨g,cap,rfl,s,c,f,d,p,_⟩:=h.out q;refine⟨_,cap,rfl,f,d,fun i b=>⟨g,0,U i,rfl,c,m i b,?_⟩⟩;intro j u k;have a:∀i,(Kh l U i).length=2:=fun i=>rfl;have o:j<2:=by
   rcases aB j 2 with h|h
   ·exact h
   ·rw[aM (by simp;omega)]at k;cases k
  have:=p (i*2+j) u (by rw[Zc a o b];exact k);rw[show 0+i*2+j=i*2+j by omega];exact this
theorem Zly:ElemK Tryz.prog 22 87 (.agg #[.int .i64 0,.int .u8 0,.slice none 0 0,.slice none 0 0,.slice none 0 0,.int .u8 0,.slice none 0 0,.slice none 0 0,.slice none 0 0,.slice none 0 0,.slice none 0 0]) 11 216:=⟨Tryz.underlying22,by kernel_rfl,rfl,by omega,by omega⟩
theorem Zlz:ElemK Tryz.prog 23 89 (.agg #[.int .i64 0,.slice none 0 0]) 2 32:=⟨Tryz.underlying23,by kernel_rfl,rfl,by omega,by omega⟩
def Zd (t:List NodeD):List (Int×NodeD):=(aH t.length).map fun i=>(((i:Nat):Int),nd t i)
structure ButO (w:World) (V:Value) (B:Nat) (X:World):Prop where
 low:Below B w X
 blk:∀i,i<w.heap.size→V.ownBlock≠some i→X.heap[i]? =w.heap[i]?
def StepO (V:Value)(B:Nat)(X Y:World):Prop:=Below B X Y∧∀i,i<X.heap.size→V.ownBlock≠some i→Y.heap[i]? =X.heap[i]?
theorem ButO.start (w:World)(V:Value)(B:Nat):ButO w V B w.drew:=⟨⟨rfl,rfl,rfl,lR,fun _ _=>rfl⟩,fun _ _ _=>rfl⟩
theorem StepO.of {V:Value} {B:Nat} {X Y:World}(h:Below X.heap.size X Y)(hB:B≤X.heap.size):StepO V B X Y:=⟨h.mono hB,fun i hi _=>h.block i hi⟩
theorem ButO.step {w:World} {V:Value} {B:Nat} {X Y:World}(h:ButO w V B X)(k:StepO V B X Y):ButO w V B Y:=⟨h.low.trans k.1,fun i hi hne=>(k.2 i (dX hi h.low.size) hne).trans (h.blk i hi hne)⟩
theorem OwnK.lt {w:World} {B:Nat} {e:TypeId} {k n:Nat} {v:Value} {xs:List Value}(h:OwnK w B e k v n xs) {g:Nat}(a:v.ownBlock=some g):g<w.heap.size∧B≤g:=by
 rcases h.2 with⟨rfl,_⟩|⟨b,f,c,rfl,d,hh,_⟩
 ·simp[Value.ownBlock]at a
 ·simp[Value.ownBlock]at a;subst a;refine⟨?_,d⟩;rcases aB b w.heap.size with h|h
  ·exact h
  ·rw[Array.getElem?_eq_none h]at hh;cases hh
theorem OwnK.onlyQ {w w':World} {B C:Nat} {e:TypeId} {k n:Nat} {v:Value} {xs:List Value}(h:OwnK w B e k v n xs)(hb:Only C w w')(hC:C<B):OwnK w' B e k v n xs:=
 World.ownsRow.kept h hb (.inr fun e=>by have:=(h.lt e).2;omega)
theorem OwnK.sl {w:World} {B:Nat} {e:TypeId} {k n:Nat} {v:Value} {xs:List Value}(h:OwnK w B e k v n xs):∃a c,v=.slice a n c:=by
 rcases h.2 with⟨rfl,h0⟩|⟨g',cp,cur,rfl,hb,hh,_⟩
 ·exact⟨none,0,by rw[h0]⟩
 ·exact⟨_,_,rfl⟩
theorem Np {P:Program} {w:World} {o:Oper} {a:Act} {K:Act→World→Prop} {Q:Exit→Act→World→Prop} (s x:Operand) (t:TypeId)
  (y:o.op=.call {callee:=.builtin .append,args:=#[s,x],argTypes:=#[t,t]})
  (B:Nat) (e:TypeId) (z:Value) (k b:Nat) (F:ElemK P t e z k b) (v:Value) (n:Nat) (xs:List Value) (C:a.eval s=v) (c:OwnK w B e k v n xs)
  (g:Nat) (d:List Value) (hx:a.eval x=.slice (some ⟨g,0,none⟩) 1 1) (G:d.length=k) (A:∀(j:Nat) u,d[j]? =some u→w.cell? ⟨g,j,none⟩=some u) (D:∀u∈d,u.oneCell'=true) (H:n<137438953472) (r:B≤w.heap.size)
  (h:∀v' w',OwnK w' B e k v' (n+1) (xs++d)→StepO v B w w'→K (a.put o.dst v') w'):o.wp P a w K Q:=by
 obtain⟨i,p,E,q,l⟩:=Mk F.inf;have low:=F.low;refine wp_append_own w s x t y B e i z k b F.ty p E q l F.one F.pos v n xs C c ⟨g,0,none⟩ 1 1 d hx (by rw[G,Nat.one_mul]) (fun j u m=>by rw[Addr.add_lit,Nat.zero_add];exact A j u m) D ?_ ?_ r ?_
 ·unfold maxLen;omega
 ·have:(n+1)*b≤(n+1)*512:=Nat.mul_le_mul_left _ low;omega
 ·intro v' w' h2 h3 _;refine h v' w' h2 ⟨(Below.refl B w).grown h3 r fun j m=>(c.lt m).2,fun i p f=>h3.block i p (fun e=>f e.symm)⟩
theorem StepO.grown {V:Value} {B:Nat} {X Y:World}(h:StepO V B X Y):X.grownBy Y V.ownBlock:=⟨h.1.os,h.1.tape,h.1.output,h.1.size,fun i hi hne=>h.2 i hi fun e=>hne e.symm⟩
theorem StepO.own {V:Value} {B B':Nat} {X Y:World} {T:TypeId} {v:Value} {xs:List Value}(h:StepO V B X Y)(k:Own X B' T v xs)(hV:∀g,V.ownBlock=some g→g<B'):Own Y B' T v xs:=by
 refine Own.grown k h.grown fun g hg e=> ?_;have:=(k.blockLt hg).2;have:=hV g e;omega
structure CutS (w:World) (V:Value) (q:Nat) (X:World):Prop where
 low:Below q w X
 blk:∀i,i<w.heap.size→i≠q→V.ownBlock≠some i→X.heap[i]? =w.heap[i]?
theorem ButO.put {w:World} {V:Value} {q:Nat} {X:World}(h:ButO w V (q+1) X)(e:q≤X.heap.size)(j:Nat)(u:Value):CutS w V q (X.setCell ⟨q,j,none⟩ u):=by
 refine⟨(h.low.mono (fZ q)).trans ((Only.set (a:=X) (B:=q) j u).below lR e),fun i d b c=> ?_⟩;rw[Below.heap_setCell X ⟨q,j,none⟩ u i b];exact h.blk i d c
theorem OwnK.apartK {w:World} {B B':Nat} {e f:TypeId} {k o n n':Nat} {v v':Value} {xs i:List Value}(h:OwnK w B e k v n xs)(q:OwnK w B' f o v' n' i)(j:e≠f):∀g,v.ownBlock=some g→v'.ownBlock≠some g:=by
 intro g b a;rcases h.2 with⟨rfl,_⟩|⟨s,t,m,rfl,r,hh,_⟩
 ·simp[Value.ownBlock]at b
 rcases q.2 with⟨rfl,_⟩|⟨g2,l,d,rfl,p,c,_⟩
 ·simp[Value.ownBlock]at a
 simp[Value.ownBlock]at b a;subst b a;have:=hh.symm.trans c;simp only[Option.some.injEq,Obj.cells.injEq]at this;exact j this.2.1
theorem CutS.ownK {w X:World} {V:Value} {q B:Nat} {e:TypeId} {k n:Nat} {v:Value} {xs:List Value}(h:CutS w V q X)(o:OwnK w B e k v n xs)(j:q<B)(a:∀g,v.ownBlock=some g→V.ownBlock≠some g):OwnK X B e k v n xs:=by
 have i:= @OwnK.lt _ _ _ _ _ _ _ o;obtain⟨c,h2|⟨g,f,b,rfl,d,hh,rest⟩⟩:=o
 ·exact⟨c,.inl h2⟩
 ·refine⟨c,.inr ⟨g,f,b,rfl,d,?_,rest⟩⟩;rw[h.blk g (i rfl).1 (by omega) (a g rfl)];exact hh
theorem Only.storeQ {g:Nat} {w w2:World}(h:∀B,B≤g→Below B w w2)(hot:∀i,i≠g→w2.heap[i]? =w.heap[i]?):Only g w w2:=
 ⟨(h 0 (aA _)).os,(h 0 (aA _)).tape,(h 0 (aA _)).output,(h 0 (aA _)).size,fun i hi hne=>hot i fun e=>hne (by rw[e])⟩
theorem Zh4 {U:Nat→Value} {g:Nat→Value→List Value}(r:Nat)(u:Value):((aH (r+1)).flatMap fun k=>g k (if k<r then U k else u))=((aH r).flatMap fun k=>g k (U k))++g r u:=by
 rw[Nn,if_neg (Nat.lt_irrefl r)]
 congr 1
 rw[gE,gE]
 congr 1
 exact List.map_congr_left fun k hk=>by rw[if_pos (List.mem_range.1 hk)]
section
def Gf (H:Int→Option (List Nat))(x:Nat):List Nat:=(H (x:Int)).getD []
def putS (F:Int→Option NodeD)(H:Int→Option (List Nat)):Nat→Nat→List Nat
 |0,x=>match F (x:Int)with
  |none=>0::Gf H x
  |some d=>1::Bc d
 |k+1,x=>match F (x:Int)with
  |none=>0::Gf H x
  |some d=>(1::Bc d)++(putS F H k (x-2^k)++putS F H k (x+2^k))
section
variable {F:Int→Option NodeD} {H:Int→Option (List Nat)} {k x:Nat} {d:NodeD}
theorem Ki (h:F (x:Int)=none):putS F H k x=0::Gf H x:=by cases k<;>simp only[putS,h]
theorem Nq (h:F (x:Int)=some d):putS F H 0 x=1::Bc d:=by simp only[putS,h]
theorem Nr (h:F (x:Int)=some d):putS F H (k+1) x=(1::Bc d)++(putS F H k (x-2^k)++putS F H k (x+2^k)):=by simp only[putS,h]
structure PieceOk (F:Int→Option NodeD) (H:Int→Option (List Nat)):Prop where
 ok:∀x d,F x=some d→NodeOk d∧Bm d=true∧Ao d=true
 hash:∀x L,H x=some L→L.length≤32∧∀y∈L,y<256
theorem Hz (h:PieceOk F H)(x:Nat):(Gf H x).length≤32:=by
 unfold Gf;cases e:H (x:Int)with
 |none=>simp
 |some L=>exact(h.hash _ _ e).1
theorem Zh5 (h:PieceOk F H):∀k x,(putS F H k x).length+6001≤12002*2^k:=by
 intro k
 induction k with
 |zero=>
  intro x;cases e:F (x:Int)with
  |none=>rw[Ki e];have:=Hz h x;simp only[cB];omega
  |some d=>rw[Nq e];have:=Cx (h.ok _ _ e).2.1;simp only[cB];omega
 |succ k ih=>
  intro x;have e2:2^(k+1)=2*2^k:=(by rw[Nat.pow_succ];omega);have b:=Nat.two_pow_pos k;cases e:F (x:Int)with
  |none=>rw[Ki e];have:=Hz h x;simp only[cB];omega
  |some d=>
   rw[Nr e];have:=Cx (h.ok _ _ e).2.1;have a:=ih (x-2^k);have h2:=ih (x+2^k);simp only[aI,cB];omega
end
structure Grow (W:World) (V:Value) (B:Nat) (w:World) (v:Value) (ys:List Value):Prop where
 own:Own w B 5 v ys
 step:StepO V B W w
 near:Rj W V v
theorem Grow.start {w:World} {B:Nat} {v:Value} {ys:List Value}(h:Own w B 5 v ys)(hB:B≤w.heap.size):Grow w v B w v ys:=⟨h,StepO.of bR hB,.inl rfl⟩
theorem Grow.size {W:World} {V:Value} {B:Nat} {w:World} {v:Value} {ys:List Value}(h:Grow W V B w v ys):W.heap.size≤w.heap.size:=h.step.1.size
theorem StepO.next {V:Value} {B:Nat} {a b c:World}(h:StepO V B a b)(k:Below b.heap.size b c)(hB:B≤b.heap.size):StepO V B a c:=
 ⟨h.1.trans (k.mono hB),fun i hi hne=>(k.block i (dX hi h.1.size)).trans (h.2 i hi hne)⟩
theorem Grow.next {W:World} {V:Value} {B:Nat} {w w':World} {v:Value} {ys:List Value}(h:Grow W V B w v ys)(k:Below w.heap.size w w')(hB:B≤W.heap.size):Grow W V B w' v ys:=
 ⟨h.own.below k lR,h.step.next k (Nat.le_trans hB h.size),h.near⟩
theorem Grow.trans {W:World} {V:Value} {B:Nat} {w w':World} {v v':Value} {d c:List Value}(h:Grow W V B w v d)(k:Grow w v B w' v' c):Grow W V B w' v' c:=by
 have j:=h.size;refine⟨k.own,⟨h.step.1.trans k.step.1,fun i f a=>(k.step.2 i (by omega) ?_).trans (h.step.2 i f a)⟩,?_⟩
 ·rcases h.near with e|⟨g,e,b⟩
  ·rw[e];exact a
  ·rw[e];intro e2;cases e2;omega
 ·rcases k.near with e|⟨g,e,b⟩
  ·rcases h.near with e2|⟨g,e2,b⟩
   ·exact .inl (e.trans e2)
   ·exact .inr ⟨g,e.trans e2,b⟩
  ·exact .inr ⟨g,e,by omega⟩
theorem Grow.app {B:Nat} {w w':World} {v v':Value} {ys:List Value}(ho:Own w' B 5 v' ys)(hg:w.grownBy w' v.ownBlock)(hb:Below B w w')(hn:Rj w v v'):Grow w v B w' v' ys:=
 ⟨ho,⟨hb,fun i hi hne=>hg.block i hi fun e=>hne e.symm⟩,hn⟩
end
def Zjl (x:Int):Nat:=if dN x 2=1 then 1 else 2
def Ci (x:Int)(d:NodeD):Bool:=Ao d&&(decide (d.kind≠Zjl x)&& !(d.par.late.any fun u=> !Cc (2*u) x))
theorem Zkp {d:NodeD}(h:Ao d=true):∀u∈d.par.late,0≤u∧u<1000000:=fun u hu=>by have:=Gc (Db h) u hu;omega
theorem Wo (x:Int)(d:NodeD)(c:Array Value)(w:World)(h:NodeC w d c)(hk:NodeOk d)(hs:Bm d=true)(hx:inI x):
  Calls Tryz.prog 180 #[.int .i64 x,.agg c] w fun e w'=>e=.returned (.bool (Ci x d))∧Below w.heap.size w w':=by
 have q:=Hd fun(W:World) (X:Below w.heap.size w W) (r:Bool) (hr:Ao d=r)=>My d c W (h.below X lR) hk hs r hr;have z:=hk.kind;have G:=Hd (Zkp (d:=d));have O:=Hd (show d.par.late.length≤1000000 by have:=of_decide_eq_true hs;omega);obtain⟨x1,x2,x3,x4,x5,x6,x7,x8,S,e3,rfl,y⟩:=h.frame;unfold Ci;obtain⟨o,N⟩:=eX d.kind;obtain⟨L,hL⟩:=eX d.par.late;rw[←N]at q z⊢;rw[←hL]at q G O y⊢;obtain⟨V,B⟩:=eX L.length;rw[←B]at q y⊢;have aA:=Hd B;have P:=Hd y;obtain⟨rb,E⟩:=eX (Ao d);have m:=Hd fun(W:World) (X:Below w.heap.size w W)=>q.out W X rb E.symm;rw[←E]at G⊢;unfold inI at hx;obtain⟨Y,H⟩:=eX (Zjl x);rw[←H];have T:=Hd H;have n:=Hd (show Below w.heap.size w ((w.alloc (.cells #[.int .i64 x] 3)).alloc (.cells #[.int .u8 (o:Nat),x1,x2,x3,x4,x5,x6,x7,x8,.slice S V e3] 52))from(bR.alloc lR _).alloc (by simp) _);have j:=Hd (show Blk ((w.alloc (.cells #[.int .i64 x] 3)).alloc (.cells #[.int .u8 (o:Nat),x1,x2,x3,x4,x5,x6,x7,x8,.slice S V e3] 52)) w.heap.size 3 #[.int .i64 x]from(Blk.new w _ _).alloc _);have k:=Hd (show Blk ((w.alloc (.cells #[.int .i64 x] 3)).alloc (.cells #[.int .u8 (o:Nat),x1,x2,x3,x4,x5,x6,x7,x8,.slice S V e3] 52)) (w.heap.size+1) 52 #[.int .u8 (o:Nat),x1,x2,x3,x4,x5,x6,x7,x8,.slice S V e3]from by
  have h1:=Blk.new (w.alloc (.cells #[.int .i64 x] 3)) 52 #[.int .u8 (o:Nat),x1,x2,x3,x4,x5,x6,x7,x8,.slice S V e3];simpa using h1)
 clear q hk hs h y N hL B E H;cases rb with
 |false=>
  have HE:=Hd (show(false&&(decide (o≠Y)&& !(L.any fun u=> !Cc (2*u) x)))=false from rfl)
  by_cases ht:dN x 2=1
  ·have C:(dN x 2==1)=true:=(by rw[beq_iff_eq];exact ht);clear ht;go_enter Tryz.func180,Tryz.ntmps180;go_wp2_with fail;refine(m.out _ n.out).mono ?_;rintro e Q ⟨a,I,rfl,b⟩;have i:=Hd (n.out.trans (a.mono n.out.size));have l:=Hd (j.out.below a j.out.lt);have f:=Hd (k.out.below a k.out.lt);have p:=l.out.cell 0;have s:=f.out.cell 0;have t:=f.out.cell 9;simp only[cC,cD,cE]at p s t;obtain⟨R,M,K,rfl⟩:=Ey b;clear a b;go_wp2_with fail;go_ret;exact⟨Dh (by simp),i.out⟩
  ·have C:(dN x 2==1)=false:=(by rw[beq_eq_false_iff_ne];exact ht);clear ht;go_enter Tryz.func180,Tryz.ntmps180;go_wp2_with fail;refine(m.out _ n.out).mono ?_;rintro e Q ⟨a,I,rfl,b⟩;have i:=Hd (n.out.trans (a.mono n.out.size));have l:=Hd (j.out.below a j.out.lt);have f:=Hd (k.out.below a k.out.lt);have p:=l.out.cell 0;have s:=f.out.cell 0;have t:=f.out.cell 9;simp only[cC,cD,cE]at p s t;obtain⟨R,M,K,rfl⟩:=Ey b;clear a b;go_wp2_with fail;go_ret;exact⟨Dh (by simp),i.out⟩
 |true=>
  have J:=Hd (G.out rfl);obtain⟨AN,U⟩:=eX (L.any fun u=> !Cc (2*u) x);have A:=Hd fun(v:Value) (W:World) (g:Nat) (h:Rd W v (ivs .i64 L)) (hx:W.cell? ⟨g,0,none⟩=some (.int .i64 x))=>Zda v L x g W h hx J.out O.out;rw[←U]at A⊢;clear U
  by_cases ht:dN x 2=1
  ·have C:(dN x 2==1)=true:=(by rw[beq_iff_eq];exact ht);have Z:Y=1:=(by rw[T.out,Zjl,if_pos ht]);subst Z;clear ht
   by_cases hq:o=1
   ·have D:((o:Int) !=1)=false:=(by simp;omega);have F:=Hd (show decide (o≠1)=false from by simpa using hq);clear hq;go_enter Tryz.func180,Tryz.ntmps180;go_wp2_with fail;refine(m.out _ n.out).mono ?_;rintro e Q ⟨a,I,rfl,b⟩;have i:=Hd (n.out.trans (a.mono n.out.size));have l:=Hd (j.out.below a j.out.lt);have f:=Hd (k.out.below a k.out.lt);have p:=l.out.cell 0;have s:=f.out.cell 0;have t:=f.out.cell 9;simp only[cC,cD,cE]at p s t;obtain⟨R,M,K,rfl⟩:=Ey b;clear a b;go_wp2_with fail;go_ret;exact⟨Dh (by rw[F.out];rfl),i.out⟩
   ·have D:((o:Int) !=1)=true:=(by simp;omega);have F:=Hd (show decide (o≠1)=true from by simpa using hq);clear hq;go_enter Tryz.func180,Tryz.ntmps180;go_wp2_with fail;refine(m.out _ n.out).mono ?_;rintro e Q ⟨a,I,rfl,b⟩;have i:=Hd (n.out.trans (a.mono n.out.size));have l:=Hd (j.out.below a j.out.lt);have f:=Hd (k.out.below a k.out.lt);have p:=l.out.cell 0;have s:=f.out.cell 0;have t:=f.out.cell 9;simp only[cC,cD,cE]at p s t;obtain⟨R,M,K,rfl⟩:=Ey b;clear a b;go_wp2_with fail;refine(A.out _ _ _ (P.out.below i.out lR) p).mono ?_;rintro e w4 ⟨rfl,rfl⟩;go_wp2_with fail;go_ret;exact⟨Dh (by rw[F.out];rfl),i.out⟩
  ·have C:(dN x 2==1)=false:=(by rw[beq_eq_false_iff_ne];exact ht);have Z:Y=2:=(by rw[T.out,Zjl,if_neg ht]);subst Z;clear ht
   by_cases hq:o=2
   ·have D:((o:Int) !=2)=false:=(by simp;omega);have F:=Hd (show decide (o≠2)=false from by simpa using hq);clear hq;go_enter Tryz.func180,Tryz.ntmps180;go_wp2_with fail;refine(m.out _ n.out).mono ?_;rintro e Q ⟨a,I,rfl,b⟩;have i:=Hd (n.out.trans (a.mono n.out.size));have l:=Hd (j.out.below a j.out.lt);have f:=Hd (k.out.below a k.out.lt);have p:=l.out.cell 0;have s:=f.out.cell 0;have t:=f.out.cell 9;simp only[cC,cD,cE]at p s t;obtain⟨R,M,K,rfl⟩:=Ey b;clear a b;go_wp2_with fail;go_ret;exact⟨Dh (by rw[F.out];rfl),i.out⟩
   ·have D:((o:Int) !=2)=true:=(by simp;omega);have F:=Hd (show decide (o≠2)=true from by simpa using hq);clear hq;go_enter Tryz.func180,Tryz.ntmps180;go_wp2_with fail;refine(m.out _ n.out).mono ?_;rintro e Q ⟨a,I,rfl,b⟩;have i:=Hd (n.out.trans (a.mono n.out.size));have l:=Hd (j.out.below a j.out.lt);have f:=Hd (k.out.below a k.out.lt);have p:=l.out.cell 0;have s:=f.out.cell 0;have t:=f.out.cell 9;simp only[cC,cD,cE]at p s t;obtain⟨R,M,K,rfl⟩:=Ey b;clear a b;go_wp2_with fail;refine(A.out _ _ _ (P.out.below i.out lR) p).mono ?_;rintro e w4 ⟨rfl,rfl⟩;go_wp2_with fail;go_ret;exact⟨Dh (by rw[F.out];rfl),i.out⟩
theorem Gs (x y:Value)(A B:List Nat)(w:World)(hx:Rd w x (bvs A))(j:Rd w y (bvs B))(r:A.length+B.length<1000000000):
  Calls Tryz.prog 77 #[x,y] w fun e w'=>∃v',e=.returned v'∧Own w' w.heap.size 5 v' (bvs (A++B))∧Below w.heap.size w w':=by
 have l:=Hd hx;have k:=Hd j;clear hx j;go_enter Tryz.func77,Tryz.ntmps77;go_wp2_with (at_builtin;refine At rfl (.tmp 5) (.tmp 6) 28 rfl w.heap.size 5 _ 1 Bu _ [] rfl (Own.lit0 rfl lR) _ (bvs A) rfl (l.out.alloc _) (Bp _) ?c2 ?c3 ?_);case c2=>rw[bvs_len];simp;omega
 case c3=>simp
 rintro q p a-d;have b:=((Below.refl w.heap.size w).alloc lR (.cells #[] 5)).trans d;have m:=Hd a;have i:=Hd b;have f:=Hd (k.out.below b lR);clear a d b;go_wp2_with (at_builtin;refine At rfl (.tmp 7) (.tmp 8) 28 rfl w.heap.size 5 _ 1 Bu _ _ rfl m.out _ (bvs B) rfl f.out (Bp _) ?c4 ?c5 ?_);case c4=>simp only[bvs_len];omega
 case c5=>exact i.out.size
 rintro n o a-c;have h:=Hd a;have g:=Hd (i.out.trans c);clear a c;go_wp2_with fail;go_ret;refine⟨_,rfl,?_,g.out⟩;rw[Cd];exact h.out
theorem Zbf (lv ow:Int)(o v:Value)(l:List (Int×List Nat))(x:Int)(w:World)(h:StubsR w v l):
  Calls Tryz.prog 136 #[.agg #[.int .i64 lv,.int .i64 ow,o,v],.int .i64 x] w fun e w'=>∃u,e=.returned u∧Rd w' u (bvs ((Ax l x).getD []))∧Below w.heap.size w w':=by
 obtain⟨a,N,rfl,Y,X⟩:=h.sl;have G:=fun(i:Nat) (W:i<l.length)=>h.at W;have s:=fun(r:Nat) (D:r<l.length) (c:∀i,i<r→(stb l i).1≠x) (d:(stb l r).1=x)=>Rt D c d;have t:=Pt (l:=l) (x:=x);obtain⟨n,T⟩:=eX l.length;obtain⟨R,U⟩:=eX (Ax l x);obtain⟨S,Q⟩:∃S:Nat→Int×List Nat,S=stb l:=⟨_,rfl⟩;rw[←T]at G s t Y⊢;rw[←U]at s t⊢;rw[←Q]at G s t;have HG:=Hd G;have I:=Hd s;have F:=Hd t;obtain⟨p,P⟩:=eX w.heap.size;have HP:=Hd P;have C:=Hd (Blk.new w 25 #[.int .i64 lv,.int .i64 ow,o,.slice a n N]);have m:=Hd ((Below.refl w.heap.size w).alloc lR (.cells #[.int .i64 lv,.int .i64 ow,o,.slice a n N] 25));clear G s t h T U Q P;go_enter Tryz.func136,Tryz.ntmps136;go_wp2_with fail;generalize hw1:w.alloc (.cells #[.int .i64 lv,.int .i64 ow,o,.slice a n N] 25)=w1 at C m⊢;clear hw1;have c3:=C.out.cell 3;simp only[cC,cD,cE]at c3
 go_loopg [5] n (fun q iv wr=>∃r:Nat,r+q=n∧iv=.int .i64 (r:Nat)∧(∀i,i<r→(S i).1≠x)∧wr=w1)
 case atStart=>exact⟨0,by omega,rfl,fun k hk=>by omega,rfl⟩
 case round=>
  obtain⟨r,D,rfl,c,rfl⟩:=hrel;have H:=Hd D;have f:=Hd c;clear D c
  by_cases hlt:r<n
  ·have z:decide (r<n)=true:=decide_eq_true hlt;have V:(r:Int)<(n:Int):=(by omega);obtain⟨b,J,u,rfl,A,B,g⟩:=HG.out r hlt;have j:=(m.out.cell (p:=⟨b,J+r*2,none⟩) A).trans (Dn g);have E:=Am (Fd g) m.out A 0 u rfl;obtain⟨y,M⟩:=eX ((S r).1);rw[←M]at j;have O:=Hd M;have L:=Hd (B.below m.out lR);clear M g B
   by_cases d:y=x
   ·have Z:(y==x)=true:=(by rw[beq_iff_eq];exact d);have K:=Hd d;clear d;go_wp2_with fail;go_ret;rw[I.out r hlt f.out (by rw[←O.out];exact K.out)];exact⟨_,rfl,L.out,m.out⟩
   ·have Z:(y==x)=false:=(by rw[beq_eq_false_iff_ne];exact d);have K:=Hd d;clear d;go_wp2_with fail;go_roundg (gk-1);case measure=>have:=H.out;omega
    case rel=>
     refine⟨r+1,by have:=H.out;omega,by go_num,fun i W=> ?_,rfl⟩
     by_cases e:i=r
     ·rw[e,←O.out];exact K.out
     ·exact f.out i (by omega)
  ·obtain rfl:r=n:=(by have:=H.out;omega);have z:decide (r<r)=false:=decide_eq_false hlt;go_wp2_with fail;go_ret;rw[F.out f.out];exact⟨_,rfl,(Own.nil _ 0 5).rd,m.out⟩
end Go.Proofs.YtfofaiommeckbaaGreat
