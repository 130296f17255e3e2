import Derived.Test.YtfofaiommeckbaaGreatZSliceProves32
open Go.Value renaming slice → q9, int → rA
open Go.IntKind renaming i64 → rC, u8 → rD
open Option renaming none → rF
open Go.Proofs.Tryz
open Nat renaming log2 → aX, add_sub_cancel → gF, lt_succ_self → dE, le_succ → gG, succ_mul → gH, eq_zero_or_pos → gI, lt_or_ge → aB, lt_of_lt_of_le → dS, zero_le → aA
open List renaming getD_eq_getElem?_getD → aH, range → aF, all_eq_true → fY, getElem?_toArray → bZ, getElem?_cons_zero → cA, getElem?_cons_succ → cB, range_succ → eG, flatMap_append → gD, length_append → aG, eq_nil_of_length_eq_zero → bS, length_cons → bY, getElem?_eq_none → aK, flatMap_def → gJ, map_congr_left → gK
open Int renaming tmod → fC
set_option linter.unusedVariables false
set_option maxRecDepth 100000
set_option maxHeartbeats 40000000
namespace Go.Proofs.YtfofaiommeckbaaGreat
open Go.RowKit WalkM WireM
def Qr (n:Int)(p:Int×NodeD):Bool:=
 decide (0≤p.1∧p.1≤2*n-2)&&At p.2&& !(decide (p.1%2=0)&&decide (p.2.kind=2))&& !(decide (p.1%2=1)&&decide (p.2.kind=1))&&p.2.par.late.all fun u=>Bx (2*u) p.1
def Ze6 (s:SparseD):Nat:=((Ag s.op (2*s.own)).getD Aq).kind
def Ay (s:SparseD)(only:Bool):Bool:=
 fits s.leaves.toNat&&decide (0≤s.own∧s.own<s.leaves)&&s.op.all (Qr s.leaves)&&s.sh.all (fun p=>decide (p.2.length=32))&&(decide (Ze6 s=1)&&Cg (Ag s.op) (aX s.leaves.toNat) s.own.toNat only (aX s.leaves.toNat)
  &&decide (s.op.map (·.1)=(Zt (Ag s.op) (aX s.leaves.toNat) s.own.toNat only).1)&&decide (s.sh.map (·.1)=(Zt (Ag s.op) (aX s.leaves.toNat) s.own.toNat only).2.1))
def Dh (s:SparseD):Bool:=decide (s.op.length≤5000)&&decide (s.sh.length≤5000)&&s.op.all (fun p=>Cd p.2)&&s.sh.all fun p=>decide (p.2.length≤100)
theorem Vi {s:SparseD} {only:Bool}(h:fits s.leaves.toNat=false):Ay s only=false:=by rw[Ay,h];rfl
theorem Xn {s:SparseD} {only:Bool}(h:¬(0≤s.own∧s.own<s.leaves)):Ay s only=false:=by rw[Ay,decide_eq_false h];simp
theorem Zix {n:Int} {p:Int×NodeD}(h1:0≤p.1∧p.1≤2*n-2)(h2:At p.2=true)(h3:¬(p.1%2=0∧p.2.kind=2))(c:¬(p.1%2=1∧p.2.kind=1))(b:∀i,i<p.2.par.late.length→Bx (2*p.2.par.late.getD i 0) p.1=true):Qr n p=true:=by
 have f:p.2.par.late.all (fun u=>Bx (2*u) p.1)=true:=List.all_eq_true.2 fun u d=>by
  obtain⟨i,a,rfl⟩:=List.getElem_of_mem d;have:=b i a
  rwa [aH,List.getElem?_eq_getElem a]at this
 have e3:(decide (p.1%2=0)&&decide (p.2.kind=2))=false:=(by rw[←Bool.not_eq_true];simpa using h3);have e:(decide (p.1%2=1)&&decide (p.2.kind=1))=false:=(by rw[←Bool.not_eq_true];simpa using c);rw[Qr,decide_eq_true h1,h2,e3,e,f];rfl
theorem Ox {n:Int} {p:Int×NodeD}(h:Qr n p=true):(0≤p.1∧p.1≤2*n-2)∧At p.2=true∧¬(p.1%2=0∧p.2.kind=2)∧¬(p.1%2=1∧p.2.kind=1)∧∀u∈p.2.par.late,Bx (2*u) p.1=true:=by
 unfold Qr at h;simp only[Bool.and_eq_true,Bool.not_eq_true',decide_eq_true_eq]at h;obtain⟨⟨⟨⟨h1,h2⟩,h3⟩,b⟩,c⟩:=h;refine⟨h1,h2,fun a=> ?_,fun a=> ?_,fun u d=>List.all_eq_true.1 c u d⟩
 ·rw[decide_eq_true a.1,decide_eq_true a.2]at h3;cases h3
 ·rw[decide_eq_true a.1,decide_eq_true a.2]at b;cases b
def Gj (f:Nat→Int)(i:Nat):Int:=if i=0 then-1 else f (i-1)
def Hx (f:Nat→Int)(n:Nat):Bool:=(aF n).all fun i=>decide (Gj f i<f i)
theorem Vj {f:Nat→Int} {n i:Nat}(hi:i<n)(h:f i≤Gj f i):Hx f n=false:=by
 rw[Hx,List.all_eq_false];exact⟨i,List.mem_range.2 hi,by simpa using h⟩
theorem Ly {f:Nat→Int} {n:Nat}(h:∀i,i<n→Gj f i<f i):Hx f n=true:=by
 rw[Hx,fY];exact fun i hi=>decide_eq_true (h i (List.mem_range.1 hi))
theorem Lz {f:Nat→Int} {n:Nat}(h:Hx f n=true):∀i,i<n→Gj f i<f i:=by
 rw[Hx,fY]at h;exact fun i hi=>of_decide_eq_true (h i (List.mem_range.2 hi))
theorem Sw {f:Nat→Int} {n:Nat}(h:∀i,i<n→Gj f i<f i):∀j,j<n→0≤f j∧∀i,i<j→f i<f j:=by
 intro j
 induction j with
 |zero=>intro a;have:=h 0 a;unfold Gj at this;rw[if_pos rfl]at this;exact⟨by omega,fun i b=>by omega⟩
 |succ j ih=>
  intro a;have h1:=h (j+1) a;unfold Gj at h1;rw[if_neg (by omega),gF]at h1;obtain⟨h2,h3⟩:=ih (by omega);refine⟨by omega,fun i b=> ?_⟩
  by_cases e:i=j
  ·rw[e];exact h1
  ·have:=h3 i (by omega);omega
def Fx (f:Nat→Int):Nat→Int→Option Nat
 |0,_=>none
 |r+1,y=>if y=f r then some r else Fx f r y
theorem Jf {f:Nat→Int}:∀ {n:Nat} {y:Int} {i:Nat},Fx f n y=some i→i<n∧f i=y:=by
 intro n
 induction n with
 |zero=>intro y i h;cases h
 |succ n ih=>
  intro y i h;rw[Fx]at h
  split at h
  ·rename_i e;cases h;exact⟨by omega,e.symm⟩
  ·obtain⟨h1,h2⟩:=ih h;exact⟨by omega,h2⟩
theorem Qs {f:Nat→Int}:∀ {n:Nat} {y:Int},Fx f n y=none→∀i,i<n→f i≠y:=by
 intro n
 induction n with
 |zero=>intro y _ i hi;omega
 |succ n ih=>
  intro y h i hi;rw[Fx]at h
  split at h
  ·cases h
  ·rename_i e
   by_cases e2:i=n
   ·rw[e2];exact fun h=>e h.symm
   ·exact ih h i (by omega)
def Ax:List (Int×List Nat)→Int→Option (List Nat)
 |[],_=>none
 |p::l,x=>if p.1=x then some p.2 else Ax l x
theorem Sx {l:List (Int×List Nat)} {x:Int}:∀ {r:Nat},r<l.length→(∀i,i<r→(stb l i).1≠x)→(stb l r).1=x→Ax l x=some (stb l r).2:=by
 induction l with
 |nil=>intro r b;simp at b
 |cons p l ih=>
  intro r b a c;cases r with
  |zero=>have e:p.1=x:=c;rw[Ax,if_pos e];rfl
  |succ r=>
   have h0:p.1≠x:=a 0 (by omega);rw[Ax,if_neg h0];exact ih (r:=r) (by simpa using b) (fun i d=>a (i+1) (by omega)) c
theorem Qt {l:List (Int×List Nat)} {x:Int}:(∀i,i<l.length→(stb l i).1≠x)→Ax l x=none:=by
 induction l with
 |nil=>intro _;rfl
 |cons p l ih=>
  intro h;rw[Ax,if_neg (show¬p.1=x from h 0 (by simp))];exact ih fun i hi=>h (i+1) (by simp;omega)
theorem Ij {l:List (Int×List Nat)} {x:Int} {d:List Nat}(h:Ax l x=some d):(x,d)∈l:=by
 induction l with
 |nil=>cases h
 |cons p l ih=>
  rw[Ax]at h
  split at h
  ·rename_i e
   cases h;rw[←e];exact List.mem_cons_self
  ·exact List.mem_cons_of_mem _ (ih h)
def spK (l:List (Int×NodeD))(i:Nat):Int:=(spt l i).1
def stK (l:List (Int×List Nat))(i:Nat):Int:=(stb l i).1
theorem Ze7 {l:List (Int×NodeD)}(h:Hx (spK l) l.length=true)(y:Int):Ag l y=(Fx (spK l) l.length y).map fun i=>(spt l i).2:=by
 have b:=Sw (Lz h);cases hl:Fx (spK l) l.length y with
 |none=>exact Qi fun i c=>Qs hl i c
 |some i=>
  obtain⟨h1,h2⟩:=Jf hl;exact Sn h1 (fun j a e=>by have h3:spK l j<spK l i:=(b i h1).2 j a;have d:spK l j=y:=e;omega) h2
theorem Zb2 {l:List (Int×List Nat)}(h:Hx (stK l) l.length=true)(y:Int):Ax l y=(Fx (stK l) l.length y).map fun i=>(stb l i).2:=by
 have b:=Sw (Lz h);cases hl:Fx (stK l) l.length y with
 |none=>exact Qt fun i c=>Qs hl i c
 |some i=>
  obtain⟨h1,h2⟩:=Jf hl;exact Sx h1 (fun j a e=>by have h3:stK l j<stK l i:=(b i h1).2 j a;have d:stK l j=y:=e;omega) h2
theorem Blk.range {w:World} {g:Nat} {t:TypeId} {cs:List Value}(h:Blk w g t cs.toArray)(o:Nat):w.rangeAt g (0+o) (cs.drop o):=by
 intro j u hu;rw[h.cell];rw[List.getElem?_drop]at hu;simpa [Nat.add_comm]using hu
def Ct (s:SparseD):Bool:=Hx (spK s.op) s.op.length&&Hx (stK s.sh) s.sh.length
def NodesG (w:World)(G:Int→Option Value)(F:Int→Option NodeD):Prop:=∀x,match F x with
 |none=>G x=none
 |some d=>∃c,G x=some (.agg c)∧NodeC w d c
def RunsH (w:World)(G:Int→Option Value)(H:Int→Option (List Nat)):Prop:=∀x,match H x with
 |none=>G x=none
 |some L=>∃v,G x=some v∧Rd w v (bvs L)
theorem NodesG.below {w w':World} {G:Int→Option Value} {B:Nat} {F:Int→Option NodeD}(h:NodesG w G F)(hb:Below B w w')(hB:w.heap.size≤B):NodesG w' G F:=by
 intro x;have:=h x;revert this;cases F x with
 |none=>exact id
 |some d=>rintro⟨c,hc,hn⟩;exact⟨c,hc,hn.below hb hB⟩
theorem RunsH.below {w w':World} {G:Int→Option Value} {B:Nat} {F:Int→Option (List Nat)}(h:RunsH w G F)(hb:Below B w w')(hB:w.heap.size≤B):RunsH w' G F:=by
 intro x;have:=h x;revert this;cases F x with
 |none=>exact id
 |some d=>rintro⟨c,hc,hn⟩;exact⟨c,hc,hn.below hb hB⟩
def Vk (w:World)(b n:Nat)(F:Int→Option NodeD):Prop:=∃G:Int→Option Value,MapF w b n G∧∀x,match F x with
 |none=>G x=none
 |some d=>∃c,G x=some (.agg c)∧NodeC w d c
def Vl (w:World)(b n:Nat)(H:Int→Option (List Nat)):Prop:=∃G:Int→Option Value,MapF w b n G∧∀x,match H x with
 |none=>G x=none
 |some L=>∃v,G x=some v∧Rd w v (bvs L)
theorem Vm:(prog.info? 87).map (·.size)=some 11:=by kernel_rfl
theorem Vn:(prog.info? 89).map (·.size)=some 2:=by kernel_rfl
theorem Fi {α:Type} [Inhabited α] {n:Nat} {P:Nat→α→Prop}(h:∀i,i<n→∃c,P i c):∃C:Nat→α,∀i,i<n→P i (C i):=by
 refine⟨fun i=>if hi:i<n then Classical.choose (h i hi)else default,fun i hi=> ?_⟩;simp only[hi,dif_pos];exact Classical.choose_spec (h i hi)
theorem Blk.grownR {w w':World} {g:Nat} {t:TypeId} {cs:Array Value} {row:Nat}(h:Blk w g t cs)(hg:w.grownBy w' (some row))(hne:g≠row):Blk w' g t cs:=(hg.block g h.lt fun e=>hne (by cases e;rfl)).trans h
def Ky (s:SparseD)(w0 w:World)(e:Ending)(w':World):Prop:=Below w.heap.size w w'∧
 if Ct s=true then∃ob sb,e=.returned (.tuple #[.agg #[rA rC s.leaves,rA rC s.own,.map (some ob),.map (some sb)],.bool true])∧w.heap.size≤ob∧w.heap.size≤sb∧ob≠sb∧∃G G',MapF w' ob s.op.length G∧NodesG w0 G (Ag s.op)∧MapF w' sb s.sh.length G'∧RunsH w0 G' (Ax s.sh)
 else e=.returned (.tuple #[.agg #[rA rC 0,rA rC 0,.map none,.map none],.bool false])
theorem Ze8 {s:SparseD} {w0 w w':World}(h:Ct s=false)(hb:Below w.heap.size w w'):Ky s w0 w (.returned (.tuple #[.agg #[rA rC 0,rA rC 0,.map none,.map none],.bool false])) w':=⟨hb,by rw[if_neg (by rw[h];simp)]⟩
theorem Xo (w:World)(lv ow:Int)(a b:Option Addr)(n d m c h:Nat)(e:h=w.heap.size)(cs:Array Value)(p:cs=#[rA rC lv,rA rC ow,.map (some (h+1+1)),.map (some (h+1+1+1))]):
  Blk (((((w.alloc (.cells #[rA rC lv,rA rC ow,q9 a n d,q9 b m c] 25)).alloc (.cells #[rA rC 0,rA rC 0,.map none,.map none] 101)).alloc (.map #[] 0)).alloc (.map #[] 0)).alloc (.cells cs 101)) h 25 #[rA rC lv,rA rC ow,q9 a n d,q9 b m c]∧Blk (((((w.alloc (.cells #[rA rC lv,rA rC ow,q9 a n d,q9 b m c] 25)).alloc (.cells #[rA rC 0,rA rC 0,.map none,.map none] 101)).alloc (.map #[] 0)).alloc (.map #[] 0)).alloc (.cells cs 101)) (h+1) 101 #[rA rC 0,rA rC 0,.map none,.map none]∧MapF (((((w.alloc (.cells #[rA rC lv,rA rC ow,q9 a n d,q9 b m c] 25)).alloc (.cells #[rA rC 0,rA rC 0,.map none,.map none] 101)).alloc (.map #[] 0)).alloc (.map #[] 0)).alloc (.cells cs 101)) (h+1+1) 0 (fun _=>none)∧MapF (((((w.alloc (.cells #[rA rC lv,rA rC ow,q9 a n d,q9 b m c] 25)).alloc (.cells #[rA rC 0,rA rC 0,.map none,.map none] 101)).alloc (.map #[] 0)).alloc (.map #[] 0)).alloc (.cells cs 101)) (h+1+1+1) 0 (fun _=>none)∧Blk (((((w.alloc (.cells #[rA rC lv,rA rC ow,q9 a n d,q9 b m c] 25)).alloc (.cells #[rA rC 0,rA rC 0,.map none,.map none] 101)).alloc (.map #[] 0)).alloc (.map #[] 0)).alloc (.cells cs 101)) (h+1+1+1+1) 101 cs∧Below h w (((((w.alloc (.cells #[rA rC lv,rA rC ow,q9 a n d,q9 b m c] 25)).alloc (.cells #[rA rC 0,rA rC 0,.map none,.map none] 101)).alloc (.map #[] 0)).alloc (.map #[] 0)).alloc (.cells cs 101))∧(((((w.alloc (.cells #[rA rC lv,rA rC ow,q9 a n d,q9 b m c] 25)).alloc (.cells #[rA rC 0,rA rC 0,.map none,.map none] 101)).alloc (.map #[] 0)).alloc (.map #[] 0)).alloc (.cells cs 101)).heap.size=h+5:=by
 have r:(w.alloc (.cells #[rA rC lv,rA rC ow,q9 a n d,q9 b m c] 25)).heap.size=h+1:=(by simp[e]);have o:((w.alloc (.cells #[rA rC lv,rA rC ow,q9 a n d,q9 b m c] 25)).alloc (.cells #[rA rC 0,rA rC 0,.map none,.map none] 101)).heap.size=h+1+1:=(by simp[e]);have l:(((w.alloc (.cells #[rA rC lv,rA rC ow,q9 a n d,q9 b m c] 25)).alloc (.cells #[rA rC 0,rA rC 0,.map none,.map none] 101)).alloc (.map #[] 0)).heap.size=h+1+1+1:=(by simp[e]);have q:((((w.alloc (.cells #[rA rC lv,rA rC ow,q9 a n d,q9 b m c] 25)).alloc (.cells #[rA rC 0,rA rC 0,.map none,.map none] 101)).alloc (.map #[] 0)).alloc (.map #[] 0)).heap.size=h+1+1+1+1:=(by simp[e]);have i:=Blk.new w 25 #[rA rC lv,rA rC ow,q9 a n d,q9 b m c];have g:=Blk.new (w.alloc (.cells #[rA rC lv,rA rC ow,q9 a n d,q9 b m c] 25)) 101 #[rA rC 0,rA rC 0,.map none,.map none];have k:=MapF.made ((w.alloc (.cells #[rA rC lv,rA rC ow,q9 a n d,q9 b m c] 25)).alloc (.cells #[rA rC 0,rA rC 0,.map none,.map none] 101));have j:=MapF.made (((w.alloc (.cells #[rA rC lv,rA rC ow,q9 a n d,q9 b m c] 25)).alloc (.cells #[rA rC 0,rA rC 0,.map none,.map none] 101)).alloc (.map #[] 0));have f:=Blk.new ((((w.alloc (.cells #[rA rC lv,rA rC ow,q9 a n d,q9 b m c] 25)).alloc (.cells #[rA rC 0,rA rC 0,.map none,.map none] 101)).alloc (.map #[] 0)).alloc (.map #[] 0)) 101 cs;rw[←e]at i;rw[r]at g;rw[o]at k;rw[l]at j;rw[q]at f;have B:=(((((Below.refl h w).alloc (by omega) (.cells #[rA rC lv,rA rC ow,q9 a n d,q9 b m c] 25)).alloc (by omega) (.cells #[rA rC 0,rA rC 0,.map none,.map none] 101)).alloc (by omega) (.map #[] 0)).alloc (by omega) (.map #[] 0)).alloc (by omega) (.cells cs 101);exact⟨(((i.alloc _).alloc _).alloc _).alloc _,((g.alloc _).alloc _).alloc _,(k.alloc _).alloc _,j.alloc _,f,B,by simp[e]⟩
theorem Xp (v:Value)(s:SparseD)(w0 w:World)(h:SparseR w0 v s)(bP:Below w0.heap.size w0 w)(aY:SparseOk s)(h1:s.op.length≤10000)(h2:s.sh.length≤10000):
  Calls prog 148 #[v] w (Ky s w0 w):=by
 obtain⟨o,g,rfl,ho,hg⟩:=h;obtain⟨oa,oc,rfl,bT,b5⟩:=ho.sl;obtain⟨ga,gc,rfl,bV,b6⟩:=hg.sl;obtain⟨C,hC⟩:=Fi (n:=s.op.length) (P:=fun i c=>∃b t,oa=some ⟨b,t,rF⟩∧b<w0.heap.size∧NodeC w0 (spt s.op i).2 c∧w0.rangeAt b (t+i*11) (rA rC (spK s.op i)::c.toList)) fun i S=>by
  obtain⟨b,t,c,e,h1,h2,h3⟩:=ho.at S;exact⟨c,b,t,e,h1,h2,h3⟩
 obtain⟨U,hU⟩:=Fi (n:=s.sh.length) (P:=fun i u=>∃b t,ga=some ⟨b,t,rF⟩∧b<w0.heap.size∧Rd w0 u (bvs (stb s.sh i).2)∧w0.rangeAt b (t+i*2) [rA rC (stK s.sh i),u]) fun i S=>by
  obtain⟨b,t,c,e,h1,h2,h3⟩:=hg.at S;exact⟨c,b,t,e,h1,h2,h3⟩
 have aP:=Hd bP;have HC:=Hd hC;have HU:=Hd hU;have aO:=Hd fun(i:Nat) (S:i<s.op.length)=>(show inI (spK s.op i)from(aY.op _ (Zk7 S)).1);have aR:=Hd fun(i:Nat) (S:i<s.sh.length)=>(show inI (stK s.sh i)from(aY.sh _ (Zk8 S)).1);have bK:=fun(i:Nat) (S:i<s.op.length) (h:spK s.op i≤Gj (spK s.op) i)=>(show Ct s=false from by rw[Ct,Vj S h];rfl);have bG:=fun(i:Nat) (S:i<s.sh.length) (h:stK s.sh i≤Gj (stK s.sh) i)=>(show Ct s=false from by rw[Ct,Vj S h];simp);have bH:=fun(w':World) (ob sb:Nat) (X:Below w.heap.size w w') (r1:∀i,i<s.op.length→Gj (spK s.op) i<spK s.op i) (r2:∀i,i<s.sh.length→Gj (stK s.sh) i<stK s.sh i) (k1:w.heap.size≤ob) (k2:w.heap.size≤sb) (k3:ob≠sb)
   (m1:MapF w' ob s.op.length fun y=>(Fx (spK s.op) s.op.length y).map fun i=> .agg (C i)) (m2:MapF w' sb s.sh.length fun y=>(Fx (stK s.sh) s.sh.length y).map fun i=>U i)=>
  (show Ky s w0 w (.returned (.tuple #[.agg #[rA rC s.leaves,rA rC s.own,.map (some ob),.map (some sb)],.bool true])) w' from by
   have f1:=Ly r1;have f2:=Ly r2;refine⟨X,?_⟩;rw[if_pos (by rw[Ct,f1,f2];rfl)];refine⟨ob,sb,rfl,k1,k2,k3,_,_,m1,fun x=> ?_,m2,fun x=> ?_⟩
   ·rw[Ze7 f1];try dsimp only
    cases hl:Fx (spK s.op) s.op.length x with
    |none=>rfl
    |some i=>
     obtain⟨b,t,-,-,hn,-⟩:=hC i (Jf hl).1;exact⟨C i,rfl,hn⟩
   ·rw[Zb2 f2];try dsimp only
    cases hl:Fx (stK s.sh) s.sh.length x with
    |none=>rfl
    |some i=>
     obtain⟨b,t,-,-,hn,-⟩:=hU i (Jf hl).1;exact⟨U i,rfl,hn⟩)
 have Z:=Hd bK;have Y:=Hd bG;have H:=Hd bH;have aQ:=Hd fun(w':World)=>Ze8 (s:=s) (w0:=w0) (w:=w) (w':=w');clear bK bG bH hC hU aY;obtain⟨PB,bD⟩:=eX (Ct s);rw[←bD]at Z Y aQ;obtain⟨QP,bE⟩:=eX (Ky s w0 w);rw[←bE]at H aQ⊢;obtain⟨lv,bI⟩:=eX s.leaves;obtain⟨ow,how⟩:=eX s.own;obtain⟨f,hf⟩:=eX (spK s.op);obtain⟨k,hk⟩:=eX (stK s.sh);obtain⟨n,hn⟩:=eX s.op.length;obtain⟨m,hm⟩:=eX s.sh.length;rw[←bI,←how]at H⊢;rw[←hf]at HC aO Z H;rw[←hk]at HU aR Y H;rw[←hn]at HC aO Z H bT h1⊢;rw[←hm]at HU aR Y H bV h2⊢;clear bD bE bI how hf hk hn hm ho hg;obtain⟨N,hN⟩:=eX w.heap.size;have b8:=Hd hN;have bS:∀w,(Instr.makeMap 98 none).run prog w=.ok (.map (some w.heap.size)) (w.alloc (.map #[] 0)):=fun w=>rfl;have bN:∀w,(Instr.makeMap 99 none).run prog w=.ok (.map (some w.heap.size)) (w.alloc (.map #[] 0)):=fun w=>rfl;go_enter func148,ntmps148;go_wp2_with fail;obtain⟨h,hh⟩:=eX w.heap.size;have HH:=Hd hh;have ST:=Xo w lv ow oa ga n oc m gc h hh #[rA rC lv,rA rC ow,.map (some (h+1+1)),.map (some (h+1+1+1))] rfl;rw[←hh];generalize hw5:(((((w.alloc (.cells #[rA rC lv,rA rC ow,q9 oa n oc,q9 ga m gc] 25)).alloc (.cells #[rA rC 0,rA rC 0,.map none,.map none] 101)).alloc (.map #[] 0)).alloc (.map #[] 0)).alloc (.cells #[rA rC lv,rA rC ow,.map (some (h+1+1)),.map (some (h+1+1+1))] 101))=w5 at ST⊢;obtain⟨b0,b1,b2,b3,b4,B5,bL⟩:=ST;have bC:=Hd b0;have aT:=Hd b1;have bX:=Hd b2;have bO:=Hd b3;have bB:=Hd b4;have bJ:=Hd B5;have bW:=Hd bL;clear hw5 hh b0 b1 b2 b3 b4 B5 bL bS bN
 go_loopg [5,20] n (fun q V iv wr=>∃r:Nat,r+q=n∧iv=rA rC (r:Nat)∧V=rA rC (Gj f r)∧(∀i,i<r→Gj f i<f i)∧MapF wr (h+1+1) r (fun y=>(Fx f r y).map fun i=> .agg (C i))∧MapF wr (h+1+1+1) 0 (fun _=>none)∧Blk wr (h+1+1+1+1) 101 #[rA rC lv,rA rC ow,.map (some (h+1+1)),.map (some (h+1+1+1))]∧Below (h+1+1) w5 wr∧h+5≤wr.heap.size)
 case atStart=>exact⟨0,by omega,rfl,rfl,fun i S=>by omega,bX.out,bO.out,bB.out,bR,by rw[bW.out];exact lR⟩
 case round=>
  obtain⟨r,hr,rfl,rfl,aN,aG,aB,aD,X,aF⟩:=hrel;have HR:=Hd hr;have aX:=Hd aN;have M:=Hd aG;have O:=Hd aB;have z:=Hd aD;have HB:=Hd X;have F:=Hd aF;have K:=Hd (bJ.out.trans (X.mono (show h≤h+1+1 by omega)));have J:=Hd (aT.out.below X (dE _));clear hr aN aG aB aD X aF
  by_cases hlt:r<n
  ·have aC:decide (r<n)=true:=decide_eq_true hlt;have bA:(r:Int)<(n:Int):=(by omega);obtain⟨b,t,rfl,E,aA,T⟩:=HC.out r hlt;obtain⟨x0,x1,x2,x3,x4,x5,x6,x7,x8,x9,R⟩:=aA.ten;have L:=Hd aA.oneL;rw[R]at T L;have L:=Hd (show(#[Value.int .i64 (f r),x0,x1,x2,x3,x4,x5,x6,x7,x8,x9]:Array Value).toList.all (·.oneCell')=true from by
    change(true&&(#[x0,x1,x2,x3,x4,x5,x6,x7,x8,x9]:Array Value).toList.all (·.oneCell'))=true;rw[Bool.true_and];exact L.out)
   have aV:=Hd R;have W:=Hd (Ao T (aP.out.trans (K.out.mono (by rw[HH.out];exact aP.out.size))) E);obtain⟨aZ,a6⟩:=aO.out r hlt;have aL:=Hd (show inI (f r)from aO.out r hlt);have bY:=Hd (show∀i,i<r+1→i≠r→Gj f i<f i from fun i S a9=>aX.out i (by omega));obtain⟨x,hx⟩:=eX (f r);rw[←hx]at W L aZ a6 aL;have HX:=Hd hx;obtain⟨p,hp⟩:=eX (Gj f r);rw[←hp];have HP:=Hd hp;clear aA T R hx hp
   by_cases hxp:x≤p
   ·have aH:decide (x≤p)=true:=decide_eq_true hxp;have HE:=Hd (fun(w':World) (X:Below w.heap.size w w')=>aQ.out w' (Z.out r hlt (by rw[←HX.out,←HP.out];exact hxp)) X);clear hxp;obtain⟨q,hq⟩:=eX wr.heap.size;have HQ:=Hd hq;have a3:=Hd (show Blk (wr.alloc (.cells #[rA rC 0,rA rD 0,q9 rF 0 0,q9 rF 0 0,q9 rF 0 0,rA rD 0,q9 rF 0 0,q9 rF 0 0,q9 rF 0 0,q9 rF 0 0,q9 rF 0 0] 87)) q 87 #[rA rC 0,rA rD 0,q9 rF 0 0,q9 rF 0 0,q9 rF 0 0,rA rD 0,q9 rF 0 0,q9 rF 0 0,q9 rF 0 0,q9 rF 0 0,q9 rF 0 0] by rw[hq];exact Blk.new _ _ _);clear hq;go_wp2_with (first|(refine wpList_load_mid rfl 87 (.tmp 22) rfl b (t+r*11) rfl [rA rC x,x0,x1,x2,x3,x4,x5,x6,x7,x8,x9] _ W.out underlying87 rfl Vm ?_)|(refine Aa rfl 87 (.tmp 7) (.tmp 23) rfl wr.heap.size #[rA rC x,x0,x1,x2,x3,x4,x5,x6,x7,x8,x9] rfl rfl 87 #[rA rC 0,rA rD 0,q9 rF 0 0,q9 rF 0 0,q9 rF 0 0,rA rD 0,q9 rF 0 0,q9 rF 0 0,q9 rF 0 0,q9 rF 0 0,q9 rF 0 0] (HQ.out▸a3.out) (by kernel_rfl) rfl L.out ?_));rintro w7 d Q A l;rw[←HQ.out]at d⊢;have B:=Hd (((Below.refl wr.heap.size wr).alloc lR (.cells #[rA rC 0,rA rD 0,q9 rF 0 0,q9 rF 0 0,q9 rF 0 0,rA rD 0,q9 rF 0 0,q9 rF 0 0,q9 rF 0 0,q9 rF 0 0,q9 rF 0 0] 87)).trans (Q wr.heap.size lR));have K:=Hd (K.out.trans (B.out.mono (by have:=F.out;omega)));have J:=Hd (J.out.below B.out J.out.lt);have aM:=Hd (show w7.heap.size=q+1 from by rw[l];simp[HQ.out]);have bU:=Hd d;have M:=Hd (M.out.below B.out lR);have O:=Hd (O.out.below B.out lR);have z:=Hd (z.out.below B.out z.out.lt);have a8:=Hd (HB.out.trans (B.out.mono (by have:=F.out;omega)));have k0:=d.cell 0;simp only[bZ,cA]at k0;have bF:=Hd (show w7.rangeAt q (0+1) [x0,x1,x2,x3,x4,x5,x6,x7,x8,x9]from d.range 1);clear d Q A l;go_wp2_with (refine Aa rfl 101 (.tmp 2) (.tmp 28) rfl (h+1) #[rA rC 0,rA rC 0,.map none,.map none] rfl rfl 101 #[rA rC 0,rA rC 0,.map none,.map none] J.out (by kernel_rfl) rfl rfl ?_);rintro w9 d E A l;have HK:=Hd d;have aE:=Hd (K.out.trans (E h (gG h)));clear d E A l;go_wp2_with fail;refine bodyPost_ret (v:=.tuple #[.agg #[rA rC 0,rA rC 0,.map none,.map none],.bool false]) (Ad results148 _ _ (h+1) _ _ _ rfl HK.out underlying101 rfl (by kernel_rfl)) rfl ?_;exact HE.out _ (by rw[←HH.out];exact aE.out)
   ·have aH:decide (x≤p)=false:=decide_eq_false hxp;have a2:=Hd (show p<x by omega);clear hxp;obtain⟨q,hq⟩:=eX wr.heap.size;have HQ:=Hd hq;have a3:=Hd (show Blk (wr.alloc (.cells #[rA rC 0,rA rD 0,q9 rF 0 0,q9 rF 0 0,q9 rF 0 0,rA rD 0,q9 rF 0 0,q9 rF 0 0,q9 rF 0 0,q9 rF 0 0,q9 rF 0 0] 87)) q 87 #[rA rC 0,rA rD 0,q9 rF 0 0,q9 rF 0 0,q9 rF 0 0,rA rD 0,q9 rF 0 0,q9 rF 0 0,q9 rF 0 0,q9 rF 0 0,q9 rF 0 0] by rw[hq];exact Blk.new _ _ _);clear hq;go_wp2_with (first|(refine wpList_load_mid rfl 87 (.tmp 22) rfl b (t+r*11) rfl [rA rC x,x0,x1,x2,x3,x4,x5,x6,x7,x8,x9] _ W.out underlying87 rfl Vm ?_)|(refine Aa rfl 87 (.tmp 7) (.tmp 23) rfl wr.heap.size #[rA rC x,x0,x1,x2,x3,x4,x5,x6,x7,x8,x9] rfl rfl 87 #[rA rC 0,rA rD 0,q9 rF 0 0,q9 rF 0 0,q9 rF 0 0,rA rD 0,q9 rF 0 0,q9 rF 0 0,q9 rF 0 0,q9 rF 0 0,q9 rF 0 0] (HQ.out▸a3.out) (by kernel_rfl) rfl L.out ?_));rintro w7 d Q A l;rw[←HQ.out]at d⊢;have B:=Hd (((Below.refl wr.heap.size wr).alloc lR (.cells #[rA rC 0,rA rD 0,q9 rF 0 0,q9 rF 0 0,q9 rF 0 0,rA rD 0,q9 rF 0 0,q9 rF 0 0,q9 rF 0 0,q9 rF 0 0,q9 rF 0 0] 87)).trans (Q wr.heap.size lR));have K:=Hd (K.out.trans (B.out.mono (by have:=F.out;omega)));have J:=Hd (J.out.below B.out J.out.lt);have aM:=Hd (show w7.heap.size=q+1 from by rw[l];simp[HQ.out]);have bU:=Hd d;have M:=Hd (M.out.below B.out lR);have O:=Hd (O.out.below B.out lR);have z:=Hd (z.out.below B.out z.out.lt);have a8:=Hd (HB.out.trans (B.out.mono (by have:=F.out;omega)));have k0:=d.cell 0;simp only[bZ,cA]at k0;have bF:=Hd (show w7.rangeAt q (0+1) [x0,x1,x2,x3,x4,x5,x6,x7,x8,x9]from d.range 1);clear d Q A l;have a1:r<maxLen:=(by unfold maxLen;omega);have p2:=z.out.cell 2;simp only[bZ,cA,cB]at p2;go_wp2_with (first|(refine wpList_load_mid rfl 52 (.tmp 35) rfl q 1 rfl [x0,x1,x2,x3,x4,x5,x6,x7,x8,x9] _ bF.out underlying52 rfl Ak ?_)|(refine Fe rfl (.tmp 32) (.tmp 34) (.tmp 36) rfl underlying98 rfl M.out rfl aL.out a1 _ rfl ?_));rintro w8 aI I;have aW:=Hd (aI.congr (G:=fun y=>(Fx f (r+1) y).map fun i=>Value.agg (C i)) (fun y=>by
     show(Fx f (r+1) y).map _=_;rw[Fx,←HX.out]
     by_cases e:y=x
     ·rw[if_pos e,if_pos e,←aV.out];rfl
     ·rw[if_neg e,if_neg e]))
    have aJ:=Hd (O.out.grown I (by intro e;cases e));have aK:=Hd (z.out.grownR I (by omega));have a0:=Hd (a8.out.trans ((Below.refl (h+1+1) w7).grown I (by have:=aM.out;have:=HQ.out;have:=F.out;omega) (by intro k e;cases e;exact lR)));have a5:=Hd (show h+5≤w8.heap.size from by have:=I.size;have:=aM.out;have:=HQ.out;have:=F.out;omega);clear aI I;go_wp2_with fail;go_roundg (gk-1);case measure=>have:=HR.out;omega
    case rel=>
     refine⟨r+1,by have:=HR.out;omega,by go_num,?_,fun i S=> ?_,aW.out,aJ.out,aK.out,a0.out,a5.out⟩
     ·unfold Gj;rw[if_neg (by omega),gF,←HX.out]
     ·by_cases e:i=r
      ·rw[e,←HX.out,←HP.out];exact a2.out
      ·exact aX.out i (by omega)
  ·obtain rfl:r=n:=(by have:=HR.out;omega);have aC:decide (r<r)=false:=decide_eq_false hlt;have c3:=(bC.out.below HB.out (by omega)).cell 3;have c2:=(bC.out.below HB.out (by omega)).cell 2;simp only[bZ,cA,cB]at c2 c3;obtain⟨wo,rfl⟩:∃wo:World,wo=wr:=⟨_,rfl⟩;clear hlt;go_wp2_with fail;clear c2 c3
   go_loopg [5,41] m (fun q V iv wr=>∃i:Nat,i+q=m∧iv=rA rC (i:Nat)∧V=rA rC (Gj k i)∧(∀j,j<i→Gj k j<k j)∧MapF wr (h+1+1) r (fun y=>(Fx f r y).map fun i=> .agg (C i))∧MapF wr (h+1+1+1) i (fun y=>(Fx k i y).map fun i=>U i)∧Blk wr (h+1+1+1+1) 101 #[rA rC lv,rA rC ow,.map (some (h+1+1)),.map (some (h+1+1+1))]∧Below (h+1+1) w5 wr∧h+5≤wr.heap.size)
   case atStart=>exact⟨0,by omega,rfl,rfl,fun i S=>by omega,M.out,O.out,z.out,HB.out,F.out⟩
   case round=>
    obtain⟨i,hr,rfl,rfl,aN,aG,aB,aD,X,aF⟩:=hrel;have HR:=Hd hr;have aU:=Hd aN;have M:=Hd aG;have O:=Hd aB;have z:=Hd aD;have HB:=Hd X;have F:=Hd aF;have K:=Hd (bJ.out.trans (X.mono (show h≤h+1+1 by omega)));have J:=Hd (aT.out.below X (dE _));clear hr aN aG aB aD X aF
    by_cases hlt:i<m
    ·have aC:decide (i<m)=true:=decide_eq_true hlt;have bA:(i:Int)<(m:Int):=(by omega);obtain⟨b,t,rfl,E,aA,T⟩:=HU.out i hlt;obtain⟨ua,un,uc,R⟩:∃a n c,U i=.slice a n c:=(by obtain⟨a,c,e,_⟩:=aA;exact⟨_,_,_,e⟩);rw[R]at T;have aV:=Hd R;have W:=Hd (Ao T (aP.out.trans (K.out.mono (by rw[HH.out];exact aP.out.size))) E);obtain⟨aZ,a6⟩:=aR.out i hlt;have aL:=Hd (show inI (k i)from aR.out i hlt);have aS:=Hd (J.out.alloc (.cells #[rA rC (k i),q9 ua un uc] 89));obtain⟨x,hx⟩:=eX (k i);rw[←hx]at W aZ a6 aL aS;have HX:=Hd hx;obtain⟨p,hp⟩:=eX (Gj k i);rw[←hp];have HP:=Hd hp;clear aA T R hx hp
     by_cases hxp:x≤p
     ·have aH:decide (x≤p)=true:=decide_eq_true hxp;have HE:=Hd (fun(w':World) (X:Below w.heap.size w w')=>aQ.out w' (Y.out i hlt (by rw[←HX.out,←HP.out];exact hxp)) X);clear hxp;go_wp2_with (first|(refine wpList_load_mid rfl 89 (.tmp 43) rfl b (t+i*2) rfl [rA rC x,q9 ua un uc] _ W.out underlying89 rfl Vn ?_)|(refine Aa rfl 101 (.tmp 2) (.tmp 49) rfl (h+1) #[rA rC 0,rA rC 0,.map none,.map none] rfl rfl 101 #[rA rC 0,rA rC 0,.map none,.map none] aS.out (by kernel_rfl) rfl rfl ?_));rintro w9 d E A l;have HK:=Hd d;have aE:=Hd ((K.out.alloc (by have:=F.out;omega) (.cells #[rA rC x,q9 ua un uc] 89)).trans (E h (gG h)));clear d E A l;go_wp2_with fail;refine bodyPost_ret (v:=.tuple #[.agg #[rA rC 0,rA rC 0,.map none,.map none],.bool false]) (Ad results148 _ _ (h+1) _ _ _ rfl HK.out underlying101 rfl (by kernel_rfl)) rfl ?_;exact HE.out _ (by rw[←HH.out];exact aE.out)
     ·have aH:decide (x≤p)=false:=decide_eq_false hxp;have a2:=Hd (show p<x by omega);have a1:i<maxLen:=(by unfold maxLen;omega);have p3:=z.out.cell 3;simp only[bZ,cA,cB]at p3;have b7:=z.out.lt;clear hxp;go_wp2_with (first|(refine wpList_load_mid rfl 89 (.tmp 43) rfl b (t+i*2) rfl [rA rC x,q9 ua un uc] _ W.out underlying89 rfl Vn ?_)|(refine Fe rfl (.tmp 53) (.tmp 55) (.tmp 57) rfl underlying99 rfl (O.out.alloc _) rfl aL.out a1 _ rfl ?_));rintro w8 aI I;have aW:=Hd (aI.congr (G:=fun y=>(Fx k (i+1) y).map fun i=>U i) (fun y=>by
       show(Fx k (i+1) y).map _=_;rw[Fx,←HX.out]
       by_cases e:y=x
       ·rw[if_pos e,if_pos e,←aV.out];rfl
       ·rw[if_neg e,if_neg e]))
      have aJ:=Hd ((M.out.alloc (.cells #[rA rC x,q9 ua un uc] 89)).grown I (by intro e;simp at e));have aK:=Hd ((z.out.alloc (.cells #[rA rC x,q9 ua un uc] 89)).grownR I (by omega));have a0:=Hd ((HB.out.alloc (by have:=F.out;omega) (.cells #[rA rC x,q9 ua un uc] 89)).trans ((Below.refl (h+1+1) _).grown I (by have:=F.out;simp;omega) (by intro k e;cases e;omega)));have a5:=Hd (show h+5≤w8.heap.size from by have:=I.size;simp at this;have:=F.out;omega);clear aI I;go_wp2_with fail;go_roundg (gk-1);case measure=>have:=HR.out;omega
      case rel=>
       refine⟨i+1,by have:=HR.out;omega,by go_num,?_,fun j hj=> ?_,aJ.out,aW.out,aK.out,a0.out,a5.out⟩
       ·unfold Gj;rw[if_neg (by omega),gF,←HX.out]
       ·by_cases e:j=i
        ·rw[e,←HX.out,←HP.out];exact a2.out
        ·exact aU.out j (by omega)
    ·obtain rfl:i=m:=(by have:=HR.out;omega);have aC:decide (i<i)=false:=decide_eq_false hlt;have p0:=z.out.cell 0;have p1:=z.out.cell 1;have p2:=z.out.cell 2;have p3:=z.out.cell 3;simp only[bZ,cA,cB]at p0 p1 p2 p3;clear hlt;go_wp2_with (refine Aa rfl 101 (.tmp 2) (.tmp 59) rfl (h+1) #[rA rC lv,rA rC ow,.map (some (h+1+1)),.map (some (h+1+1+1))] rfl rfl 101 #[rA rC 0,rA rC 0,.map none,.map none] J.out (by kernel_rfl) rfl rfl ?_);rintro w9 d E A l;have HK:=Hd d;have aE:=Hd (K.out.trans (E h (gG h)));have a4:∀ {b:Nat} {n:Nat} {G:Int→Option Value},MapF wr b n G→b≠h+1→MapF w9 b n G:=fun {b n G} hm a9=>by
      obtain⟨D,⟨es,a7,h0,h1⟩,h2⟩:=hm;exact⟨D,⟨es,a7,(A b a9).trans h0,h1⟩,h2⟩
     have bQ:=Hd (a4 M.out (by omega));have bM:=Hd (a4 O.out (by omega));clear d E A l a4;go_wp2_with fail;refine bodyPost_ret (v:=.tuple #[.agg #[rA rC lv,rA rC ow,.map (some (h+1+1)),.map (some (h+1+1+1))],.bool true]) (Ad results148 _ _ (h+1) _ _ _ rfl HK.out underlying101 rfl (by kernel_rfl)) rfl ?_;exact H.out _ _ _ (by rw[←HH.out];exact aE.out) aX.out aU.out (by rw[←HH.out];omega) (by rw[←HH.out];omega) (by omega) bQ.out bM.out
def Ziy (x:Int):Nat:=if fC x 2=1 then 1 else 2
def Cc (x:Int)(d:NodeD):Bool:=At d&&(decide (d.kind≠Ziy x)&& !(d.par.late.any fun u=> !Bx (2*u) x))
theorem Zlj {d:NodeD}(h:At d=true):∀u∈d.par.late,0≤u∧u<1000000:=fun u hu=>by have:=Hn (Eh h) u hu;omega
theorem Xq (x:Int)(d:NodeD)(c:Array Value)(w:World)(h:NodeC w d c)(hk:NodeOk d)(Z:Cd d=true)(hx:inI x):
  Calls prog 180 #[rA rC x,.agg c] w fun e w'=>e=.returned (.bool (Cc x d))∧Below w.heap.size w w':=by
 have q:=Hd fun(W:World) (X:Below w.heap.size w W) (r:Bool) (hr:At d=r)=>Oc d c W (h.below X lR) hk Z r hr;have H:=hk.kind;have z:=Hd (Zlj (d:=d));have I:=Hd (show d.par.late.length≤1000000 by have:=of_decide_eq_true Z;omega);obtain⟨x1,x2,x3,x4,x5,x6,x7,x8,U,e3,rfl,y⟩:=h.frame;unfold Cc;obtain⟨o,N⟩:=eX d.kind;obtain⟨L,hL⟩:=eX d.par.late;rw[←N]at q H⊢;rw[←hL]at q z I y⊢;obtain⟨J,D⟩:=eX L.length;rw[←D]at q y⊢;have aA:=Hd D;have V:=Hd y;obtain⟨rb,B⟩:=eX (At d);have m:=Hd fun(W:World) (X:Below w.heap.size w W)=>q.out W X rb B.symm;rw[←B]at z⊢;unfold inI at hx;obtain⟨Y,E⟩:=eX (Ziy x);rw[←E];have R:=Hd E;have n:=Hd (show Below w.heap.size w ((w.alloc (.cells #[rA rC x] 3)).alloc (.cells #[rA rD (o:Nat),x1,x2,x3,x4,x5,x6,x7,x8,q9 U J e3] 52))from(bR.alloc lR _).alloc (by simp) _);have k:=Hd (show Blk ((w.alloc (.cells #[rA rC x] 3)).alloc (.cells #[rA rD (o:Nat),x1,x2,x3,x4,x5,x6,x7,x8,q9 U J e3] 52)) w.heap.size 3 #[rA rC x]from(Blk.new w _ _).alloc _);have j:=Hd (show Blk ((w.alloc (.cells #[rA rC x] 3)).alloc (.cells #[rA rD (o:Nat),x1,x2,x3,x4,x5,x6,x7,x8,q9 U J e3] 52)) (w.heap.size+1) 52 #[rA rD (o:Nat),x1,x2,x3,x4,x5,x6,x7,x8,q9 U J e3]from by
  have h1:=Blk.new (w.alloc (.cells #[rA rC x] 3)) 52 #[rA rD (o:Nat),x1,x2,x3,x4,x5,x6,x7,x8,q9 U J e3];simpa using h1)
 clear q hk Z h y N hL D B E;cases rb with
 |false=>
  have HE:=Hd (show(false&&(decide (o≠Y)&& !(L.any fun u=> !Bx (2*u) x)))=false from rfl)
  by_cases ht:fC x 2=1
  ·have A:(fC x 2==1)=true:=(by rw[beq_iff_eq];exact ht);clear ht;go_enter func180,ntmps180;go_wp2_with fail;refine(m.out _ n.out).mono ?_;rintro e Q ⟨a,K,rfl,f⟩;have i:=Hd (n.out.trans (a.mono n.out.size));have l:=Hd (k.out.below a k.out.lt);have b:=Hd (j.out.below a j.out.lt);have p:=l.out.cell 0;have s:=b.out.cell 0;have t:=b.out.cell 9;simp only[bZ,cA,cB]at p s t;obtain⟨M,P,O,rfl⟩:=Dg f;clear a f;go_wp2_with fail;go_ret;exact⟨Et (by simp),i.out⟩
  ·have A:(fC x 2==1)=false:=(by rw[beq_eq_false_iff_ne];exact ht);clear ht;go_enter func180,ntmps180;go_wp2_with fail;refine(m.out _ n.out).mono ?_;rintro e Q ⟨a,K,rfl,f⟩;have i:=Hd (n.out.trans (a.mono n.out.size));have l:=Hd (k.out.below a k.out.lt);have b:=Hd (j.out.below a j.out.lt);have p:=l.out.cell 0;have s:=b.out.cell 0;have t:=b.out.cell 9;simp only[bZ,cA,cB]at p s t;obtain⟨M,P,O,rfl⟩:=Dg f;clear a f;go_wp2_with fail;go_ret;exact⟨Et (by simp),i.out⟩
 |true=>
  have S:=Hd (z.out rfl);obtain⟨AN,T⟩:=eX (L.any fun u=> !Bx (2*u) x);have G:=Hd fun(v:Value) (W:World) (g:Nat) (h:Rd W v (ivs .i64 L)) (hx:W.cell? ⟨g,0,rF⟩=some (rA rC x))=>Zdo v L x g W h hx S.out I.out;rw[←T]at G⊢;clear T
  by_cases ht:fC x 2=1
  ·have A:(fC x 2==1)=true:=(by rw[beq_iff_eq];exact ht);have hn:Y=1:=(by rw[R.out,Ziy,if_pos ht]);subst hn;clear ht
   by_cases hq:o=1
   ·have F:((o:Int) !=1)=false:=(by simp;omega);have C:=Hd (show decide (o≠1)=false from by simpa using hq);clear hq;go_enter func180,ntmps180;go_wp2_with fail;refine(m.out _ n.out).mono ?_;rintro e Q ⟨a,K,rfl,f⟩;have i:=Hd (n.out.trans (a.mono n.out.size));have l:=Hd (k.out.below a k.out.lt);have b:=Hd (j.out.below a j.out.lt);have p:=l.out.cell 0;have s:=b.out.cell 0;have t:=b.out.cell 9;simp only[bZ,cA,cB]at p s t;obtain⟨M,P,O,rfl⟩:=Dg f;clear a f;go_wp2_with fail;go_ret;exact⟨Et (by rw[C.out];rfl),i.out⟩
   ·have F:((o:Int) !=1)=true:=(by simp;omega);have C:=Hd (show decide (o≠1)=true from by simpa using hq);clear hq;go_enter func180,ntmps180;go_wp2_with fail;refine(m.out _ n.out).mono ?_;rintro e Q ⟨a,K,rfl,f⟩;have i:=Hd (n.out.trans (a.mono n.out.size));have l:=Hd (k.out.below a k.out.lt);have b:=Hd (j.out.below a j.out.lt);have p:=l.out.cell 0;have s:=b.out.cell 0;have t:=b.out.cell 9;simp only[bZ,cA,cB]at p s t;obtain⟨M,P,O,rfl⟩:=Dg f;clear a f;go_wp2_with fail;refine(G.out _ _ _ (V.out.below i.out lR) p).mono ?_;rintro e w4 ⟨rfl,rfl⟩;go_wp2_with fail;go_ret;exact⟨Et (by rw[C.out];rfl),i.out⟩
  ·have A:(fC x 2==1)=false:=(by rw[beq_eq_false_iff_ne];exact ht);have hn:Y=2:=(by rw[R.out,Ziy,if_neg ht]);subst hn;clear ht
   by_cases hq:o=2
   ·have F:((o:Int) !=2)=false:=(by simp;omega);have C:=Hd (show decide (o≠2)=false from by simpa using hq);clear hq;go_enter func180,ntmps180;go_wp2_with fail;refine(m.out _ n.out).mono ?_;rintro e Q ⟨a,K,rfl,f⟩;have i:=Hd (n.out.trans (a.mono n.out.size));have l:=Hd (k.out.below a k.out.lt);have b:=Hd (j.out.below a j.out.lt);have p:=l.out.cell 0;have s:=b.out.cell 0;have t:=b.out.cell 9;simp only[bZ,cA,cB]at p s t;obtain⟨M,P,O,rfl⟩:=Dg f;clear a f;go_wp2_with fail;go_ret;exact⟨Et (by rw[C.out];rfl),i.out⟩
   ·have F:((o:Int) !=2)=true:=(by simp;omega);have C:=Hd (show decide (o≠2)=true from by simpa using hq);clear hq;go_enter func180,ntmps180;go_wp2_with fail;refine(m.out _ n.out).mono ?_;rintro e Q ⟨a,K,rfl,f⟩;have i:=Hd (n.out.trans (a.mono n.out.size));have l:=Hd (k.out.below a k.out.lt);have b:=Hd (j.out.below a j.out.lt);have p:=l.out.cell 0;have s:=b.out.cell 0;have t:=b.out.cell 9;simp only[bZ,cA,cB]at p s t;obtain⟨M,P,O,rfl⟩:=Dg f;clear a f;go_wp2_with fail;refine(G.out _ _ _ (V.out.below i.out lR) p).mono ?_;rintro e w4 ⟨rfl,rfl⟩;go_wp2_with fail;go_ret;exact⟨Et (by rw[C.out];rfl),i.out⟩
theorem Ziz {α:Type} {f:Nat→List α} {k:Nat}(hf:∀i,(f i).length=k):∀r,((aF r).flatMap f).length=r*k:=by
 intro r
 induction r with
 |zero=>simp
 |succ r ih=>rw[eG,gD,aG,ih];simp[hf,gH]
theorem Ik {α:Type}(f:Nat→List α)(r:Nat):(aF (r+1)).flatMap f=(aF r).flatMap f++f r:=by
 rw[eG,gD];simp
theorem Zz {α:Type} {f:Nat→List α} {k:Nat}(b:∀i,(f i).length=k) {i j:Nat}(c:j<k):∀ {r:Nat},i<r→((aF r).flatMap f)[i*k+j]? =(f i)[j]? :=by
 intro r
 induction r with
 |zero=>intro h;omega
 |succ r ih=>
  intro h;rw[Ik];have a:=Ziz b r
  by_cases e:i=r
  ·rw[List.getElem?_append_right (by rw[a,e];omega),a,e,Nat.add_sub_cancel_left]
  ·have:i*k+j<r*k:=by
    have:=Nat.mul_le_mul_right k (show i+1≤r by omega);rw[gH]at this;omega
   rw[List.getElem?_append_left (by rw[a];exact this)];exact ih (by omega)
def Dl (l:List (Int×NodeD))(C:Nat→Array Value)(i:Nat):List Value:=rA rC (spt l i).1::(C i).toList
def Gz (l:List (Int×List Nat))(U:Nat→Value)(i:Nat):List Value:=[rA rC (stb l i).1,U i]
theorem Sy {w:World} {B:Nat} {v:Value} {l:List (Int×NodeD)} {C:Nat→Array Value}(c:∀i,(C i).size=10)(r:∀i,i<l.length→NodeC w (spt l i).2 (C i))(h:OwnK w B 87 11 v l.length ((aF l.length).flatMap (Dl l C))):SpotsR w v l:=by
 rcases gI l.length with h0|p
 ·have e:l=[]:=bS h0;subst e;rcases h.2 with⟨rfl,_⟩|⟨g,cap,q,rfl,y,t,m,d,x,ht⟩
  ·exact SpotsR.nil w
  ·exact⟨_,cap,rfl,m,d,fun i b=>absurd b (by simp)⟩
 ·obtain⟨g,cap,rfl,s,f,m,d,o,_⟩:=h.out p;refine⟨_,cap,rfl,m,d,fun i b=>⟨g,0,C i,rfl,f,r i b,?_⟩⟩;intro j u k;have a:∀i,(Dl l C i).length=11:=fun i=>(by rw[Dl,bY,Array.length_toList,c]);have n:j<11:=by
   rcases aB j 11 with h|h
   ·exact h
   ·rw[aK (by have:=a i;rw[Dl]at this;omega)]at k;cases k
  have:=o (i*11+j) u (by rw[Zz a n b];exact k);rw[show 0+i*11+j=i*11+j by omega];exact this
theorem Zaa {w:World} {B:Nat} {v:Value} {l:List (Int×List Nat)} {U:Nat→Value}(q:∀i,i<l.length→Rd w (U i) (bvs (stb l i).2))(h:OwnK w B 89 2 v l.length ((aF l.length).flatMap (Gz l U))):StubsR w v l:=by
 rcases gI l.length with h0|o
 ·have e:l=[]:=bS h0;subst e;rcases h.2 with⟨rfl,_⟩|⟨g,cap,p,rfl,x,s,k,c,t,ht⟩
  ·exact StubsR.nil w
  ·exact⟨_,cap,rfl,k,c,fun i b=>absurd b (by simp)⟩
 ·obtain⟨g,cap,rfl,r,d,k,c,n,_⟩:=h.out o;refine⟨_,cap,rfl,k,c,fun i b=>⟨g,0,U i,rfl,d,q i b,?_⟩⟩;intro j u f;have a:∀i,(Gz l U i).length=2:=fun i=>rfl;have m:j<2:=by
   rcases aB j 2 with h|h
   ·exact h
   ·rw[aK (by simp;omega)]at f;cases f
  have:=n (i*2+j) u (by rw[Zz a m b];exact f);rw[show 0+i*2+j=i*2+j by omega];exact this
theorem Ze9:ElemK prog 22 87 (.agg #[rA rC 0,rA rD 0,q9 rF 0 0,q9 rF 0 0,q9 rF 0 0,rA rD 0,q9 rF 0 0,q9 rF 0 0,q9 rF 0 0,q9 rF 0 0,q9 rF 0 0]) 11 216:=⟨underlying22,by kernel_rfl,rfl,by omega,by omega⟩
theorem Zke:ElemK prog 23 89 (.agg #[rA rC 0,q9 rF 0 0]) 2 32:=⟨underlying23,by kernel_rfl,rfl,by omega,by omega⟩
def Ec (t:List NodeD):List (Int×NodeD):=(aF t.length).map fun i=>(((i:Nat):Int),nd t i)
theorem Qu (t:List NodeD):(Ec t).length=t.length:=by simp[Ec]
theorem Vo {t:List NodeD} {i:Nat}(h:i<t.length):spt (Ec t) i=(((i:Nat):Int),nd t i):=by
 rw[spt,Ec,aH,List.getElem?_map,List.getElem?_range h];rfl
theorem Xr (v:Value)(t:List NodeD)(w:World)(h:TreeR w v t)(H:t.length≤1000000):
  Calls prog 80 #[v] w fun e w'=>∃p,e=.returned p∧SpotsR w' p (Ec t)∧Below w.heap.size w w':=by
 obtain⟨a,cp,rfl,W,Z⟩:=h.sl;obtain⟨C,I⟩:=Fi (n:=t.length) (P:=fun i c=>∃b d,a=some ⟨b,d,rF⟩∧b<w.heap.size∧NodeC w (nd t i) c∧w.rangeAt b (d+i*10) c.toList) fun i g=>by
  obtain⟨b,d,c,h1,h2,h3,V⟩:=h.node g;exact⟨c,b,d,h1,h2,h3,V⟩
 have k:=fun(w':World) (p:Value) (J:Below w.heap.size w w') (X:OwnK w' w.heap.size 87 11 p t.length ((aF t.length).flatMap fun i=> rA rC (i:Nat)::(C i).toList))=>(show SpotsR w' p (Ec t)from by
  refine Sy (B:=w.heap.size) (C:=fun i=>if i<t.length then C i else#[rA rD 0,q9 rF 0 0,q9 rF 0 0,q9 rF 0 0,rA rD 0,q9 rF 0 0,q9 rF 0 0,q9 rF 0 0,q9 rF 0 0,q9 rF 0 0]) (fun i=> ?_) (fun i g=> ?_) ?_
  ·split
   ·rename_i g;obtain⟨b,d,-,-,H,-⟩:=I i g;exact H.size
   ·rfl
  ·rw[Qu]at g;rw[Vo g,if_pos g];obtain⟨b,d,-,-,H,-⟩:=I i g;exact H.below J lR
  ·rw[Qu];have e:(aF t.length).flatMap (Dl (Ec t) fun i=>if i<t.length then C i else#[rA rD 0,q9 rF 0 0,q9 rF 0 0,q9 rF 0 0,rA rD 0,q9 rF 0 0,q9 rF 0 0,q9 rF 0 0,q9 rF 0 0,q9 rF 0 0])=(aF t.length).flatMap fun i=> rA rC (i:Nat)::(C i).toList:=by
    rw[gJ,gJ]
    congr 1
    refine gK fun i g=> ?_;have g:=List.mem_range.1 g;rw[Dl,Vo g,if_pos g]
   rw[e];exact X)
 obtain⟨n,A⟩:=eX t.length;rw[←A]at I k W H⊢;obtain⟨f,L⟩:∃f:Nat→List Value,f=fun i=> rA rC (i:Nat)::(C i).toList:=⟨_,rfl⟩;rw[←L]at k;have T:=Hd (show∀i,f i=rA rC (i:Nat)::(C i).toList from fun i=>by rw[L]);have Y:=Hd I;have u:=Hd k;clear I k A L h;go_enter func80,ntmps80;go_wp2_with fail
 go_loopg [3,4] n (fun q ov iv wr=>∃r:Nat,r+q=n∧iv=rA rC (r:Nat)∧OwnK wr w.heap.size 87 11 ov r ((aF r).flatMap f)∧Below w.heap.size w wr)
 case atStart=>exact⟨0,by omega,rfl,OwnK.nil _ _ _ _,bR⟩
 case round=>
  obtain⟨r,S,rfl,m,J⟩:=hrel;have O:=Hd S;have Q:=Hd m;have s:=Hd J;clear S m J
  by_cases hlt:r<n
  ·have z:decide (r<n)=true:=decide_eq_true hlt;have R:(r:Int)<(n:Int):=(by omega);obtain⟨b,d,rfl,y,o,G⟩:=Y.out r hlt;have x:=Hd (Ao G s.out y);have l:=Hd o.oneL;have F:=Hd (T.out r);obtain⟨x0,x1,x2,x3,x4,x5,x6,x7,x8,x9,E⟩:=o.ten;rw[E]at x l F;clear o G E y;go_wp2_with (first|(refine wpList_load_mid rfl 52 (.tmp 15) rfl b (d+r*10) rfl [x0,x1,x2,x3,x4,x5,x6,x7,x8,x9] _ x.out underlying52 rfl Ak ?_)|(at_builtin;refine Ui rfl (.tmp 11) (.tmp 18) 22 rfl w.heap.size 87 _ 11 216 Ze9 _ r _ rfl (Q.out.alloc _) wr.heap.size [rA rC (r:Nat),x0,x1,x2,x3,x4,x5,x6,x7,x8,x9] rfl rfl ?c1 ?c4 ?c2 ?c3 ?_));case c4=>exact⟨rfl,by simpa using l.out⟩
   case c2=>omega
   case c3=>have:=s.out.size;simp;omega
   rintro p U j N D;have K:=Hd (show OwnK U w.heap.size 87 11 p (r+1) ((aF (r+1)).flatMap f)from by rw[Ik,F.out];exact j);have M:=Hd ((s.out.alloc s.out.size (.cells #[rA rC (r:Nat),x0,x1,x2,x3,x4,x5,x6,x7,x8,x9] 87)).trans D);clear j N D;go_wp2_with fail;go_roundg (gk-1);case measure=>have:=O.out;omega
   case rel=>exact⟨r+1,by have:=O.out;omega,by go_num,K.out,M.out⟩
  ·obtain rfl:r=n:=(by have:=O.out;omega);have z:decide (r<r)=false:=decide_eq_false hlt;clear hlt;go_wp2_with fail;go_ret;exact⟨_,rfl,u.out _ _ s.out Q.out,s.out⟩
structure ButO (w:World) (V:Value) (B:Nat) (X:World):Prop where
 low:Below B w X
 blk:∀i,i<w.heap.size→V.ownBlock≠some i→X.heap[i]? =w.heap[i]?
def StepO (V:Value)(B:Nat)(X Y:World):Prop:=Below B X Y∧∀i,i<X.heap.size→V.ownBlock≠some i→Y.heap[i]? =X.heap[i]?
theorem ButO.start (w:World)(V:Value)(B:Nat):ButO w V B w.drew:=⟨⟨rfl,rfl,rfl,lR,fun _ _=>rfl⟩,fun _ _ _=>rfl⟩
theorem StepO.of {V:Value} {B:Nat} {X Y:World}(h:Below X.heap.size X Y)(hB:B≤X.heap.size):StepO V B X Y:=⟨h.mono hB,fun i hi _=>h.block i hi⟩
theorem ButO.step {w:World} {V:Value} {B:Nat} {X Y:World}(h:ButO w V B X)(k:StepO V B X Y):ButO w V B Y:=⟨h.low.trans k.1,fun i hi hne=>(k.2 i (dS hi h.low.size) hne).trans (h.blk i hi hne)⟩
theorem OwnK.lt {w:World} {B:Nat} {e:TypeId} {k n:Nat} {v:Value} {xs:List Value}(h:OwnK w B e k v n xs) {g:Nat}(a:v.ownBlock=some g):g<w.heap.size∧B≤g:=by
 rcases h.2 with⟨rfl,_⟩|⟨f,i,d,rfl,c,b,_⟩
 ·simp[Value.ownBlock]at a
 ·simp[Value.ownBlock]at a;subst a;refine⟨?_,c⟩;rcases aB f w.heap.size with h|h
  ·exact h
  ·rw[Array.getElem?_eq_none h]at b;cases b
theorem OwnK.onlyQ {w w':World} {B C:Nat} {e:TypeId} {k n:Nat} {v:Value} {xs:List Value}(h:OwnK w B e k v n xs)(hb:Only C w w')(hC:C<B):OwnK w' B e k v n xs:=
 World.ownsRow.kept h hb (.inr fun e=>by have:=(h.lt e).2;omega)
theorem OwnK.sl {w:World} {B:Nat} {e:TypeId} {k n:Nat} {v:Value} {xs:List Value}(h:OwnK w B e k v n xs):∃a c,v=.slice a n c:=by
 rcases h.2 with⟨rfl,h0⟩|⟨g',cp,cur,rfl,hb,hh,_⟩
 ·exact⟨none,0,by rw[h0]⟩
 ·exact⟨_,_,rfl⟩
theorem Kz {P:Program} {w:World} {o:Oper} {a:Act} {K:Act→World→Prop} {Q:Exit→Act→World→Prop} (s x:Operand) (t:TypeId)
  (D:o.op=.call {callee:=.builtin .append,args:=#[s,x],argTypes:=#[t,t]})
  (B:Nat) (e:TypeId) (z:Value) (k b:Nat) (F:ElemK P t e z k b) (v:Value) (n:Nat) (xs:List Value) (A:a.eval s=v) (c:OwnK w B e k v n xs)
  (g:Nat) (d:List Value) (hx:a.eval x=q9 (some ⟨g,0,rF⟩) 1 1) (E:d.length=k) (G:∀(j:Nat) u,d[j]? =some u→w.cell? ⟨g,j,rF⟩=some u) (h1:∀u∈d,u.oneCell'=true) (H:n<137438953472) (y:B≤w.heap.size)
  (h:∀f w',OwnK w' B e k f (n+1) (xs++d)→StepO v B w w'→K (a.put o.dst f) w'):o.wp P a w K Q:=by
 obtain⟨i,r,C,l,p⟩:=Jt F.inf;have low:=F.low;refine wp_append_own w s x t D B e i z k b F.ty r C l p F.one F.pos v n xs A c ⟨g,0,rF⟩ 1 1 d hx (by rw[E,Nat.one_mul]) (fun j u m=>by rw[Addr.add_lit,Nat.zero_add];exact G j u m) h1 ?_ ?_ y ?_
 ·unfold maxLen;omega
 ·have:(n+1)*b≤(n+1)*512:=Nat.mul_le_mul_left _ low;omega
 ·intro f w' h2 h3 _;refine h f w' h2 ⟨(Below.refl B w).grown h3 y fun j m=>(c.lt m).2,fun i r q=>h3.block i r (fun e=>q e.symm)⟩
theorem StepO.grown {V:Value} {B:Nat} {X Y:World}(h:StepO V B X Y):X.grownBy Y V.ownBlock:=⟨h.1.os,h.1.tape,h.1.output,h.1.size,fun i hi hne=>h.2 i hi fun e=>hne e.symm⟩
theorem StepO.own {V:Value} {B B':Nat} {X Y:World} {T:TypeId} {v:Value} {xs:List Value}(h:StepO V B X Y)(k:Own X B' T v xs)(hV:∀g,V.ownBlock=some g→g<B'):Own Y B' T v xs:=by
 refine Own.grown k h.grown fun g hg e=> ?_;have:=(k.blockLt hg).2;have:=hV g e;omega
structure CutS (w:World) (V:Value) (q:Nat) (X:World):Prop where
 low:Below q w X
 blk:∀i,i<w.heap.size→i≠q→V.ownBlock≠some i→X.heap[i]? =w.heap[i]?
theorem ButO.put {w:World} {V:Value} {q:Nat} {X:World}(h:ButO w V (q+1) X)(d:q≤X.heap.size)(j:Nat)(u:Value):CutS w V q (X.setCell ⟨q,j,rF⟩ u):=by
 refine⟨(h.low.mono (gG q)).trans ((Only.set (a:=X) (B:=q) j u).below lR d),fun i e b c=> ?_⟩;rw[Below.heap_setCell X ⟨q,j,rF⟩ u i b];exact h.blk i e c
theorem OwnK.apartK {w:World} {B B':Nat} {e f:TypeId} {k q n n':Nat} {v d:Value} {xs m:List Value}(h:OwnK w B e k v n xs)(j:OwnK w B' f q d n' m)(o:e≠f):∀g,v.ownBlock=some g→d.ownBlock≠some g:=by
 intro g c a;rcases h.2 with⟨rfl,_⟩|⟨u,t,s,rfl,x,p,_⟩
 ·simp[Value.ownBlock]at c
 rcases j.2 with⟨rfl,_⟩|⟨g2,l,i,rfl,r,b,_⟩
 ·simp[Value.ownBlock]at a
 simp[Value.ownBlock]at c a;subst c a;have:=p.symm.trans b;simp only[Option.some.injEq,Obj.cells.injEq]at this;exact o this.2.1
theorem CutS.ownK {w X:World} {V:Value} {q B:Nat} {e:TypeId} {k n:Nat} {v:Value} {xs:List Value}(h:CutS w V q X)(o:OwnK w B e k v n xs)(j:q<B)(a:∀g,v.ownBlock=some g→V.ownBlock≠some g):OwnK X B e k v n xs:=by
 have f:= @OwnK.lt _ _ _ _ _ _ _ o;obtain⟨h1,h2|⟨g,c,b,rfl,i,d,rest⟩⟩:=o
 ·exact⟨h1,.inl h2⟩
 ·refine⟨h1,.inr ⟨g,c,b,rfl,i,?_,rest⟩⟩;rw[h.blk g (f rfl).1 (by omega) (a g rfl)];exact d
theorem Only.storeQ {g:Nat} {w w2:World}(h:∀B,B≤g→Below B w w2)(hot:∀i,i≠g→w2.heap[i]? =w.heap[i]?):Only g w w2:=
 ⟨(h 0 (aA _)).os,(h 0 (aA _)).tape,(h 0 (aA _)).output,(h 0 (aA _)).size,fun i hi hne=>hot i fun e=>hne (by rw[e])⟩
theorem Zab {U:Nat→Value} {g:Nat→Value→List Value}(r:Nat)(u:Value):((aF (r+1)).flatMap fun k=>g k (if k<r then U k else u))=((aF r).flatMap fun k=>g k (U k))++g r u:=by
 rw[Ik,if_neg (Nat.lt_irrefl r)]
 congr 1
 rw[gJ,gJ]
 congr 1
 exact gK fun k hk=>by rw[if_pos (List.mem_range.1 hk)]
section
def Ev (H:Int→Option (List Nat))(x:Nat):List Nat:=(H (x:Int)).getD []
def putS (F:Int→Option NodeD)(H:Int→Option (List Nat)):Nat→Nat→List Nat
 |0,x=>match F (x:Int)with
  |none=>0::Ev H x
  |some d=>1::Bm d
 |k+1,x=>match F (x:Int)with
  |none=>0::Ev H x
  |some d=>(1::Bm d)++(putS F H k (x-2^k)++putS F H k (x+2^k))
section
variable {F:Int→Option NodeD} {H:Int→Option (List Nat)} {k x:Nat} {d:NodeD}
theorem Fu (h:F (x:Int)=none):putS F H k x=0::Ev H x:=by cases k<;>simp only[putS,h]
theorem Il (h:F (x:Int)=some d):putS F H 0 x=1::Bm d:=by simp only[putS,h]
theorem Im (h:F (x:Int)=some d):putS F H (k+1) x=(1::Bm d)++(putS F H k (x-2^k)++putS F H k (x+2^k)):=by simp only[putS,h]
structure PieceOk (F:Int→Option NodeD) (H:Int→Option (List Nat)):Prop where
 ok:∀x d,F x=some d→NodeOk d∧Cd d=true∧At d=true
 hash:∀x L,H x=some L→L.length≤32∧∀y∈L,y<256
theorem Ha (h:PieceOk F H)(x:Nat):(Ev H x).length≤32:=by
 unfold Ev;cases e:H (x:Int)with
 |none=>simp
 |some L=>exact(h.hash _ _ e).1
theorem La (h:PieceOk F H):∀k x,(putS F H k x).length+6001≤12002*2^k:=by
 intro k
 induction k with
 |zero=>
  intro x;cases e:F (x:Int)with
  |none=>rw[Fu e];have:=Ha h x;simp only[bY];omega
  |some d=>rw[Il e];have:=Da (h.ok _ _ e).2.1;simp only[bY];omega
 |succ k ih=>
  intro x;have e2:2^(k+1)=2*2^k:=(by rw[Nat.pow_succ];omega);have a:=Nat.two_pow_pos k;cases e:F (x:Int)with
  |none=>rw[Fu e];have:=Ha h x;simp only[bY];omega
  |some d=>
   rw[Im e];have:=Da (h.ok _ _ e).2.1;have h1:=ih (x-2^k);have h2:=ih (x+2^k);simp only[aG,bY];omega
end
structure Grow (W:World) (V:Value) (B:Nat) (w:World) (v:Value) (ys:List Value):Prop where
 own:Own w B 5 v ys
 step:StepO V B W w
 near:Si W V v
theorem Grow.start {w:World} {B:Nat} {v:Value} {ys:List Value}(h:Own w B 5 v ys)(hB:B≤w.heap.size):Grow w v B w v ys:=⟨h,StepO.of bR hB,.inl rfl⟩
theorem Grow.size {W:World} {V:Value} {B:Nat} {w:World} {v:Value} {ys:List Value}(h:Grow W V B w v ys):W.heap.size≤w.heap.size:=h.step.1.size
theorem StepO.next {V:Value} {B:Nat} {a b c:World}(h:StepO V B a b)(k:Below b.heap.size b c)(hB:B≤b.heap.size):StepO V B a c:=
 ⟨h.1.trans (k.mono hB),fun i hi hne=>(k.block i (dS hi h.1.size)).trans (h.2 i hi hne)⟩
theorem Grow.next {W:World} {V:Value} {B:Nat} {w w':World} {v:Value} {ys:List Value}(h:Grow W V B w v ys)(k:Below w.heap.size w w')(hB:B≤W.heap.size):Grow W V B w' v ys:=
 ⟨h.own.below k lR,h.step.next k (Nat.le_trans hB h.size),h.near⟩
theorem Grow.trans {W:World} {V:Value} {B:Nat} {w w':World} {v d:Value} {f c:List Value}(h:Grow W V B w v f)(k:Grow w v B w' d c):Grow W V B w' d c:=by
 have l:=h.size;refine⟨k.own,⟨h.step.1.trans k.step.1,fun i j a=>(k.step.2 i (by omega) ?_).trans (h.step.2 i j a)⟩,?_⟩
 ·rcases h.near with e|⟨g,e,b⟩
  ·rw[e];exact a
  ·rw[e];intro e2;cases e2;omega
 ·rcases k.near with e|⟨g,e,b⟩
  ·rcases h.near with e2|⟨g,e2,b⟩
   ·exact .inl (e.trans e2)
   ·exact .inr ⟨g,e.trans e2,b⟩
  ·exact .inr ⟨g,e,by omega⟩
theorem Grow.app {B:Nat} {w w':World} {v v':Value} {ys:List Value}(ho:Own w' B 5 v' ys)(hg:w.grownBy w' v.ownBlock)(hb:Below B w w')(hn:Si w v v'):Grow w v B w' v' ys:=
 ⟨ho,⟨hb,fun i hi hne=>hg.block i hi fun e=>hne e.symm⟩,hn⟩
end
theorem El (x y:Value)(A B:List Nat)(w:World)(hx:Rd w x (bvs A))(i:Rd w y (bvs B))(q:A.length+B.length<1000000000):
  Calls prog 77 #[x,y] w fun e w'=>∃v',e=.returned v'∧Own w' w.heap.size 5 v' (bvs (A++B))∧Below w.heap.size w w':=by
 have m:=Hd hx;have l:=Hd i;clear hx i;go_enter func77,ntmps77;go_wp2_with (at_builtin;refine Aj rfl (.tmp 5) (.tmp 6) 28 rfl w.heap.size 5 _ 1 Bz _ [] rfl (Own.lit0 rfl lR) _ (bvs A) rfl (m.out.alloc _) (Bu _) ?c2 ?c3 ?_);case c2=>rw[bvs_len];simp;omega
 case c3=>simp
 rintro r o a-d;have b:=((Below.refl w.heap.size w).alloc lR (.cells #[] 5)).trans d;have k:=Hd a;have j:=Hd b;have h:=Hd (l.out.below b lR);clear a d b;go_wp2_with (at_builtin;refine Aj rfl (.tmp 7) (.tmp 8) 28 rfl w.heap.size 5 _ 1 Bz _ _ rfl k.out _ (bvs B) rfl h.out (Bu _) ?c4 ?c5 ?_);case c4=>simp only[bvs_len];omega
 case c5=>exact j.out.size
 rintro n p a-c;have f:=Hd a;have g:=Hd (j.out.trans c);clear a c;go_wp2_with fail;go_ret;refine⟨_,rfl,?_,g.out⟩;rw[Cf];exact f.out
theorem Zb3 (lv ow:Int)(o v:Value)(l:List (Int×List Nat))(x:Int)(w:World)(h:StubsR w v l):
  Calls prog 136 #[.agg #[rA rC lv,rA rC ow,o,v],rA rC x] w fun e w'=>∃u,e=.returned u∧Rd w' u (bvs ((Ax l x).getD []))∧Below w.heap.size w w':=by
 obtain⟨a,H,rfl,X,aA⟩:=h.sl;have G:=fun(i:Nat) (U:i<l.length)=>h.at U;have z:=fun(r:Nat) (E:r<l.length) (c:∀i,i<r→(stb l i).1≠x) (d:(stb l r).1=x)=>Sx E c d;have B:=Qt (l:=l) (x:=x);obtain⟨n,W⟩:=eX l.length;obtain⟨R,P⟩:=eX (Ax l x);obtain⟨S,Q⟩:∃S:Nat→Int×List Nat,S=stb l:=⟨_,rfl⟩;rw[←W]at G z B X⊢;rw[←P]at z B⊢;rw[←Q]at G z B;have Y:=Hd G;have M:=Hd z;have I:=Hd B;obtain⟨p,V⟩:=eX w.heap.size;have HP:=Hd V;have A:=Hd (Blk.new w 25 #[rA rC lv,rA rC ow,o,q9 a n H]);have m:=Hd ((Below.refl w.heap.size w).alloc lR (.cells #[rA rC lv,rA rC ow,o,q9 a n H] 25));clear G z B h W P Q V;go_enter func136,ntmps136;go_wp2_with fail;generalize hw1:w.alloc (.cells #[rA rC lv,rA rC ow,o,q9 a n H] 25)=w1 at A m⊢;clear hw1;have c3:=A.out.cell 3;simp only[bZ,cA,cB]at c3
 go_loopg [5] n (fun q iv wr=>∃r:Nat,r+q=n∧iv=rA rC (r:Nat)∧(∀i,i<r→(S i).1≠x)∧wr=w1)
 case atStart=>exact⟨0,by omega,rfl,fun k hk=>by omega,rfl⟩
 case round=>
  obtain⟨r,E,rfl,c,rfl⟩:=hrel;have N:=Hd E;have g:=Hd c;clear E c
  by_cases hlt:r<n
  ·have t:decide (r<n)=true:=decide_eq_true hlt;have T:(r:Int)<(n:Int):=(by omega);obtain⟨b,L,u,rfl,s,C,j⟩:=Y.out r hlt;have f:=(m.out.cell (p:=⟨b,L+r*2,rF⟩) s).trans (Qk j);have D:=Ao (Qj j) m.out s 0 u rfl;obtain⟨y,F⟩:=eX ((S r).1);rw[←F]at f;have O:=Hd F;have K:=Hd (C.below m.out lR);clear F j C
   by_cases d:y=x
   ·have Z:(y==x)=true:=(by rw[beq_iff_eq];exact d);have J:=Hd d;clear d;go_wp2_with fail;go_ret;rw[M.out r hlt g.out (by rw[←O.out];exact J.out)];exact⟨_,rfl,K.out,m.out⟩
   ·have Z:(y==x)=false:=(by rw[beq_eq_false_iff_ne];exact d);have J:=Hd d;clear d;go_wp2_with fail;go_roundg (gk-1);case measure=>have:=N.out;omega
    case rel=>
     refine⟨r+1,by have:=N.out;omega,by go_num,fun i U=> ?_,rfl⟩
     by_cases e:i=r
     ·rw[e,←O.out];exact J.out
     ·exact g.out i (by omega)
  ·obtain rfl:r=n:=(by have:=N.out;omega);have t:decide (r<r)=false:=decide_eq_false hlt;go_wp2_with fail;go_ret;rw[I.out g.out];exact⟨_,rfl,(Own.nil _ 0 5).rd,m.out⟩
end Go.Proofs.YtfofaiommeckbaaGreat
