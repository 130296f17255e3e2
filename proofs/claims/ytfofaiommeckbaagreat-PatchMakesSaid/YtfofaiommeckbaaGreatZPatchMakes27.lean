/- Walks: slice.pieceOf. -/
import Derived.Test.YtfofaiommeckbaaGreatZPatchMakesB
import Derived.Test.YtfofaiommeckbaaGreatZPatchMakes26
open List renaming range → aF, all_eq_true → bU, getElem?_toArray → bN, getElem?_cons_zero → bO, getElem?_cons_succ → bP, range_succ → fK, flatMap_append → fI, eq_nil_of_length_eq_zero → bK, getElem?_eq_none → aK, flatMap_def → fM, map_congr_left → fN
open Nat renaming add_sub_cancel → fP, lt_succ_self → cZ, le_succ → fQ, succ_mul → fR, eq_zero_or_pos → fS, lt_or_ge → aB, lt_of_lt_of_le → dP, zero_le → aA
open Int renaming tmod → eV
set_option linter.unusedVariables false
set_option maxRecDepth 100000
set_option maxHeartbeats 40000000
namespace Go.Proofs.YtfofaiommeckbaaGreat
open Go.RowKit WalkM WireM
def Fj (f:Nat→Int)(i:Nat):Int:=if i=0 then-1 else f (i-1)
def Gk (f:Nat→Int)(n:Nat):Bool:=(aF n).all fun i=>decide (Fj f i<f i)
theorem Rh {f:Nat→Int} {n i:Nat}(hi:i<n)(h:f i≤Fj f i):Gk f n=false:=by
 rw[Gk,List.all_eq_false];exact⟨i,List.mem_range.2 hi,by simpa using h⟩
theorem Jm {f:Nat→Int} {n:Nat}(h:∀i,i<n→Fj f i<f i):Gk f n=true:=by
 rw[Gk,bU];exact fun i hi=>decide_eq_true (h i (List.mem_range.1 hi))
theorem Jn {f:Nat→Int} {n:Nat}(h:Gk f n=true):∀i,i<n→Fj f i<f i:=by
 rw[Gk,bU]at h;exact fun i hi=>of_decide_eq_true (h i (List.mem_range.2 hi))
theorem Po {f:Nat→Int} {n:Nat}(h:∀i,i<n→Fj f i<f i):∀j,j<n→0≤f j∧∀i,i<j→f i<f j:=by
 intro j
 induction j with
 |zero=>intro hj;have:=h 0 hj;unfold Fj at this;rw[if_pos rfl]at this;exact⟨by omega,fun i hi=>by omega⟩
 |succ j ih=>
  intro hj;have h1:=h (j+1) hj;unfold Fj at h1;rw[if_neg (by omega),fP]at h1;obtain⟨h2,h3⟩:=ih (by omega);refine⟨by omega,fun i hi=> ?_⟩
  by_cases e:i=j
  ·rw[e];exact h1
  ·have:=h3 i (by omega);omega
def Ew (f:Nat→Int):Nat→Int→Option Nat
 |0,_=>none
 |r+1,y=>if y=f r then some r else Ew f r y
theorem Hk {f:Nat→Int}:∀ {n:Nat} {y:Int} {i:Nat},Ew f n y=some i→i<n∧f i=y:=by
 intro n
 induction n with
 |zero=>intro y i h;cases h
 |succ n ih=>
  intro y i h;rw[Ew]at h
  split at h
  ·rename_i e;cases h;exact⟨by omega,e.symm⟩
  ·obtain⟨h1,h2⟩:=ih h;exact⟨by omega,h2⟩
theorem Ns {f:Nat→Int}:∀ {n:Nat} {y:Int},Ew f n y=none→∀i,i<n→f i≠y:=by
 intro n
 induction n with
 |zero=>intro y _ i hi;omega
 |succ n ih=>
  intro y h i hi;rw[Ew]at h
  split at h
  ·cases h
  ·rename_i e
   by_cases e2:i=n
   ·rw[e2];exact fun h=>e h.symm
   ·exact ih h i (by omega)
def Ap:List (Int×List Nat)→Int→Option (List Nat)
 |[],_=>none
 |p::l,x=>if p.1=x then some p.2 else Ap l x
theorem Pp {l:List (Int×List Nat)} {x:Int}:∀ {r:Nat},r<l.length→(∀i,i<r→(stb l i).1≠x)→(stb l r).1=x→Ap l x=some (stb l r).2:=by
 induction l with
 |nil=>intro r hr;simp at hr
 |cons p l ih=>
  intro r hr hno he;cases r with
  |zero=>have e:p.1=x:=he;rw[Ap,if_pos e];rfl
  |succ r=>
   have h0:p.1≠x:=hno 0 (by omega);rw[Ap,if_neg h0];exact ih (r:=r) (by simpa using hr) (fun i hi=>hno (i+1) (by omega)) he
theorem Nt {l:List (Int×List Nat)} {x:Int}:(∀i,i<l.length→(stb l i).1≠x)→Ap l x=none:=by
 induction l with
 |nil=>intro _;rfl
 |cons p l ih=>
  intro h;rw[Ap,if_neg (show¬p.1=x from h 0 (by simp))];exact ih fun i hi=>h (i+1) (by simp;omega)
theorem Ri {l:List (Int×List Nat)} {x:Int} {d:List Nat}(h:Ap l x=some d):(x,d)∈l:=by
 induction l with
 |nil=>cases h
 |cons p l ih=>
  rw[Ap]at h
  split at h
  ·rename_i e
   cases h;rw[←e];exact List.mem_cons_self
  ·exact List.mem_cons_of_mem _ (ih h)
def spK (l:List (Int×NodeD))(i:Nat):Int:=(spt l i).1
def stK (l:List (Int×List Nat))(i:Nat):Int:=(stb l i).1
theorem Zat {l:List (Int×NodeD)}(h:Gk (spK l) l.length=true)(y:Int):Ah l y=(Ew (spK l) l.length y).map fun i=>(spt l i).2:=by
 have hr:=Po (Jn h);cases hl:Ew (spK l) l.length y with
 |none=>exact Nk fun i hi=>Ns hl i hi
 |some i=>
  obtain⟨h1,h2⟩:=Hk hl;exact Pc h1 (fun j hj e=>by have h3:spK l j<spK l i:=(hr i h1).2 j hj;have h4:spK l j=y:=e;omega) h2
theorem Xh {l:List (Int×List Nat)}(h:Gk (stK l) l.length=true)(y:Int):Ap l y=(Ew (stK l) l.length y).map fun i=>(stb l i).2:=by
 have hr:=Po (Jn h);cases hl:Ew (stK l) l.length y with
 |none=>exact Nt fun i hi=>Ns hl i hi
 |some i=>
  obtain⟨h1,h2⟩:=Hk hl;exact Pp h1 (fun j hj e=>by have h3:stK l j<stK l i:=(hr i h1).2 j hj;have h4:stK l j=y:=e;omega) h2
theorem Blk.range {w:World} {g:Nat} {t:TypeId} {cs:List Value}(h:Blk w g t cs.toArray)(o:Nat):w.rangeAt g (0+o) (cs.drop o):=by
 intro j u hu;rw[h.cell];rw[List.getElem?_drop]at hu;simpa [Nat.add_comm]using hu
def Dm (s:SparseD):Bool:=Gk (spK s.op) s.op.length&&Gk (stK s.sh) s.sh.length
def NodesG (w:World)(G:Int→Option Value)(F:Int→Option NodeD):Prop:=∀x,match F x with
 |none=>G x=none
 |some d=>∃c,G x=some (.agg c)∧NodeC w d c
def RunsH (w:World)(G:Int→Option Value)(H:Int→Option (List Nat)):Prop:=∀x,match H x with
 |none=>G x=none
 |some L=>∃v,G x=some v∧Rd w v (bvs L)
theorem NodesG.below {w w':World} {G:Int→Option Value} {B:Nat} {F:Int→Option NodeD}(h:NodesG w G F)(hb:Below B w w')(hB:w.heap.size≤B):NodesG w' G F:=by
 intro x;have:=h x;revert this;cases F x with
 |none=>exact id
 |some d=>rintro⟨c,hc,hn⟩;exact⟨c,hc,hn.below hb hB⟩
theorem RunsH.below {w w':World} {G:Int→Option Value} {B:Nat} {F:Int→Option (List Nat)}(h:RunsH w G F)(hb:Below B w w')(hB:w.heap.size≤B):RunsH w' G F:=by
 intro x;have:=h x;revert this;cases F x with
 |none=>exact id
 |some d=>rintro⟨c,hc,hn⟩;exact⟨c,hc,hn.below hb hB⟩
def Zd7 (w:World)(b n:Nat)(F:Int→Option NodeD):Prop:=∃G:Int→Option Value,MapF w b n G∧∀x,match F x with
 |none=>G x=none
 |some d=>∃c,G x=some (.agg c)∧NodeC w d c
def Zd8 (w:World)(b n:Nat)(H:Int→Option (List Nat)):Prop:=∃G:Int→Option Value,MapF w b n G∧∀x,match H x with
 |none=>G x=none
 |some L=>∃v,G x=some v∧Rd w v (bvs L)
theorem Ce:(Tryz.prog.info? 87).map (·.size)=some 11:=by kernel_rfl
theorem Cf:(Tryz.prog.info? 89).map (·.size)=some 2:=by kernel_rfl
theorem Ci {α:Type} [Inhabited α] {n:Nat} {P:Nat→α→Prop}(h:∀i,i<n→∃c,P i c):∃C:Nat→α,∀i,i<n→P i (C i):=by
 refine⟨fun i=>if hi:i<n then Classical.choose (h i hi)else default,fun i hi=> ?_⟩;simp only[hi,dif_pos];exact Classical.choose_spec (h i hi)
theorem Blk.grownR {w w':World} {g:Nat} {t:TypeId} {cs:Array Value} {row:Nat}(h:Blk w g t cs)(hg:w.grownBy w' (some row))(hne:g≠row):Blk w' g t cs:=(hg.block g h.lt fun e=>hne (by cases e;rfl)).trans h
def Iu (s:SparseD)(w0 w:World)(e:Ending)(w':World):Prop:=Below w.heap.size w w'∧
 if Dm s=true then∃ob sb,e=.returned (.tuple #[.agg #[.int .i64 s.leaves,.int .i64 s.own,.map (some ob),.map (some sb)],.bool true])∧w.heap.size≤ob∧w.heap.size≤sb∧ob≠sb∧∃G G',MapF w' ob s.op.length G∧NodesG w0 G (Ah s.op)∧MapF w' sb s.sh.length G'∧RunsH w0 G' (Ap s.sh)
 else e=.returned (.tuple #[.agg #[.int .i64 0,.int .i64 0,.map none,.map none],.bool false])
theorem Zau {s:SparseD} {w0 w w':World}(h:Dm s=false)(hb:Below w.heap.size w w'):Iu s w0 w (.returned (.tuple #[.agg #[.int .i64 0,.int .i64 0,.map none,.map none],.bool false])) w':=⟨hb,by rw[if_neg (by rw[h];simp)]⟩
theorem Tp (w:World)(lv ow:Int)(oa ga:Option Addr)(n oc m gc h:Nat)(hh:h=w.heap.size)(cs:Array Value)(hcs:cs=#[.int .i64 lv,.int .i64 ow,.map (some (h+1+1)),.map (some (h+1+1+1))]):
  Blk (((((w.alloc (.cells #[.int .i64 lv,.int .i64 ow,.slice oa n oc,.slice ga m gc] 25)).alloc (.cells #[.int .i64 0,.int .i64 0,.map none,.map none] 101)).alloc (.map #[] 0)).alloc (.map #[] 0)).alloc (.cells cs 101)) h 25 #[.int .i64 lv,.int .i64 ow,.slice oa n oc,.slice ga m gc]∧Blk (((((w.alloc (.cells #[.int .i64 lv,.int .i64 ow,.slice oa n oc,.slice ga m gc] 25)).alloc (.cells #[.int .i64 0,.int .i64 0,.map none,.map none] 101)).alloc (.map #[] 0)).alloc (.map #[] 0)).alloc (.cells cs 101)) (h+1) 101 #[.int .i64 0,.int .i64 0,.map none,.map none]∧MapF (((((w.alloc (.cells #[.int .i64 lv,.int .i64 ow,.slice oa n oc,.slice ga m gc] 25)).alloc (.cells #[.int .i64 0,.int .i64 0,.map none,.map none] 101)).alloc (.map #[] 0)).alloc (.map #[] 0)).alloc (.cells cs 101)) (h+1+1) 0 (fun _=>none)∧MapF (((((w.alloc (.cells #[.int .i64 lv,.int .i64 ow,.slice oa n oc,.slice ga m gc] 25)).alloc (.cells #[.int .i64 0,.int .i64 0,.map none,.map none] 101)).alloc (.map #[] 0)).alloc (.map #[] 0)).alloc (.cells cs 101)) (h+1+1+1) 0 (fun _=>none)∧Blk (((((w.alloc (.cells #[.int .i64 lv,.int .i64 ow,.slice oa n oc,.slice ga m gc] 25)).alloc (.cells #[.int .i64 0,.int .i64 0,.map none,.map none] 101)).alloc (.map #[] 0)).alloc (.map #[] 0)).alloc (.cells cs 101)) (h+1+1+1+1) 101 cs∧Below h w (((((w.alloc (.cells #[.int .i64 lv,.int .i64 ow,.slice oa n oc,.slice ga m gc] 25)).alloc (.cells #[.int .i64 0,.int .i64 0,.map none,.map none] 101)).alloc (.map #[] 0)).alloc (.map #[] 0)).alloc (.cells cs 101))∧(((((w.alloc (.cells #[.int .i64 lv,.int .i64 ow,.slice oa n oc,.slice ga m gc] 25)).alloc (.cells #[.int .i64 0,.int .i64 0,.map none,.map none] 101)).alloc (.map #[] 0)).alloc (.map #[] 0)).alloc (.cells cs 101)).heap.size=h+5:=by
 have s1:(w.alloc (.cells #[.int .i64 lv,.int .i64 ow,.slice oa n oc,.slice ga m gc] 25)).heap.size=h+1:=(by simp[hh]);have s2:((w.alloc (.cells #[.int .i64 lv,.int .i64 ow,.slice oa n oc,.slice ga m gc] 25)).alloc (.cells #[.int .i64 0,.int .i64 0,.map none,.map none] 101)).heap.size=h+1+1:=(by simp[hh]);have s3:(((w.alloc (.cells #[.int .i64 lv,.int .i64 ow,.slice oa n oc,.slice ga m gc] 25)).alloc (.cells #[.int .i64 0,.int .i64 0,.map none,.map none] 101)).alloc (.map #[] 0)).heap.size=h+1+1+1:=(by simp[hh]);have s4:((((w.alloc (.cells #[.int .i64 lv,.int .i64 ow,.slice oa n oc,.slice ga m gc] 25)).alloc (.cells #[.int .i64 0,.int .i64 0,.map none,.map none] 101)).alloc (.map #[] 0)).alloc (.map #[] 0)).heap.size=h+1+1+1+1:=(by simp[hh]);have b0:=Blk.new w 25 #[.int .i64 lv,.int .i64 ow,.slice oa n oc,.slice ga m gc];have b1:=Blk.new (w.alloc (.cells #[.int .i64 lv,.int .i64 ow,.slice oa n oc,.slice ga m gc] 25)) 101 #[.int .i64 0,.int .i64 0,.map none,.map none];have b2:=MapF.made ((w.alloc (.cells #[.int .i64 lv,.int .i64 ow,.slice oa n oc,.slice ga m gc] 25)).alloc (.cells #[.int .i64 0,.int .i64 0,.map none,.map none] 101));have b3:=MapF.made (((w.alloc (.cells #[.int .i64 lv,.int .i64 ow,.slice oa n oc,.slice ga m gc] 25)).alloc (.cells #[.int .i64 0,.int .i64 0,.map none,.map none] 101)).alloc (.map #[] 0));have b4:=Blk.new ((((w.alloc (.cells #[.int .i64 lv,.int .i64 ow,.slice oa n oc,.slice ga m gc] 25)).alloc (.cells #[.int .i64 0,.int .i64 0,.map none,.map none] 101)).alloc (.map #[] 0)).alloc (.map #[] 0)) 101 cs;rw[←hh]at b0;rw[s1]at b1;rw[s2]at b2;rw[s3]at b3;rw[s4]at b4;have B:=(((((Below.refl h w).alloc (by omega) (.cells #[.int .i64 lv,.int .i64 ow,.slice oa n oc,.slice ga m gc] 25)).alloc (by omega) (.cells #[.int .i64 0,.int .i64 0,.map none,.map none] 101)).alloc (by omega) (.map #[] 0)).alloc (by omega) (.map #[] 0)).alloc (by omega) (.cells cs 101);exact⟨(((b0.alloc _).alloc _).alloc _).alloc _,((b1.alloc _).alloc _).alloc _,(b2.alloc _).alloc _,b3.alloc _,b4,B,by simp[hh]⟩
theorem Tq (v:Value)(s:SparseD)(w0 w:World)(h:SparseR w0 v s)(hw0:Below w0.heap.size w0 w)(hok:SparseOk s)(h1:s.op.length≤10000)(h2:s.sh.length≤10000):
  Calls Tryz.prog 148 #[v] w (Iu s w0 w):=by
 obtain⟨o,g,rfl,ho,hg⟩:=h;obtain⟨oa,oc,rfl,hoc,hoc2⟩:=ho.sl;obtain⟨ga,gc,rfl,hgc,hgc2⟩:=hg.sl;obtain⟨C,hC⟩:=Ci (n:=s.op.length) (P:=fun i c=>∃b off,oa=some ⟨b,off,none⟩∧b<w0.heap.size∧NodeC w0 (spt s.op i).2 c∧w0.rangeAt b (off+i*11) (.int .i64 (spK s.op i)::c.toList)) fun i hi=>by
  obtain⟨b,off,c,e,h1,h2,h3⟩:=ho.at hi;exact⟨c,b,off,e,h1,h2,h3⟩
 obtain⟨U,hU⟩:=Ci (n:=s.sh.length) (P:=fun i u=>∃b off,ga=some ⟨b,off,none⟩∧b<w0.heap.size∧Rd w0 u (bvs (stb s.sh i).2)∧w0.rangeAt b (off+i*2) [.int .i64 (stK s.sh i),u]) fun i hi=>by
  obtain⟨b,off,c,e,h1,h2,h3⟩:=hg.at hi;exact⟨c,b,off,e,h1,h2,h3⟩
 have HW0:=Hd hw0;have HC:=Hd hC;have HU:=Hd hU;have HKN:=Hd fun(i:Nat) (hi:i<s.op.length)=>(show inI (spK s.op i)from(hok.op _ (Dy hi)).1);have HKH:=Hd fun(i:Nat) (hi:i<s.sh.length)=>(show inI (stK s.sh i)from(hok.sh _ (Gs hi)).1);have NO1:=fun(i:Nat) (hi:i<s.op.length) (h:spK s.op i≤Fj (spK s.op) i)=>(show Dm s=false from by rw[Dm,Rh hi h];rfl);have NO2:=fun(i:Nat) (hi:i<s.sh.length) (h:stK s.sh i≤Fj (stK s.sh) i)=>(show Dm s=false from by rw[Dm,Rh hi h];simp);have FIN:=fun(w':World) (ob sb:Nat) (hb:Below w.heap.size w w') (r1:∀i,i<s.op.length→Fj (spK s.op) i<spK s.op i) (r2:∀i,i<s.sh.length→Fj (stK s.sh) i<stK s.sh i) (k1:w.heap.size≤ob) (k2:w.heap.size≤sb) (k3:ob≠sb)
   (m1:MapF w' ob s.op.length fun y=>(Ew (spK s.op) s.op.length y).map fun i=> .agg (C i)) (m2:MapF w' sb s.sh.length fun y=>(Ew (stK s.sh) s.sh.length y).map fun i=>U i)=>
  (show Iu s w0 w (.returned (.tuple #[.agg #[.int .i64 s.leaves,.int .i64 s.own,.map (some ob),.map (some sb)],.bool true])) w' from by
   have f1:=Jm r1;have f2:=Jm r2;refine⟨hb,?_⟩;rw[if_pos (by rw[Dm,f1,f2];rfl)];refine⟨ob,sb,rfl,k1,k2,k3,_,_,m1,fun x=> ?_,m2,fun x=> ?_⟩
   ·rw[Zat f1];try dsimp only
    cases hl:Ew (spK s.op) s.op.length x with
    |none=>rfl
    |some i=>
     obtain⟨b,off,-,-,hn,-⟩:=hC i (Hk hl).1;exact⟨C i,rfl,hn⟩
   ·rw[Xh f2];try dsimp only
    cases hl:Ew (stK s.sh) s.sh.length x with
    |none=>rfl
    |some i=>
     obtain⟨b,off,-,-,hn,-⟩:=hU i (Hk hl).1;exact⟨U i,rfl,hn⟩)
 have HNO1:=Hd NO1;have HNO2:=Hd NO2;have HFIN:=Hd FIN;have HNP:=Hd fun(w':World)=>Zau (s:=s) (w0:=w0) (w:=w) (w':=w');clear NO1 NO2 FIN hC hU hok;obtain⟨PB,hPB⟩:=eX (Dm s);rw[←hPB]at HNO1 HNO2 HNP;obtain⟨QP,hQP⟩:=eX (Iu s w0 w);rw[←hQP]at HFIN HNP⊢;obtain⟨lv,hlv⟩:=eX s.leaves;obtain⟨ow,how⟩:=eX s.own;obtain⟨f,hf⟩:=eX (spK s.op);obtain⟨k,hk⟩:=eX (stK s.sh);obtain⟨n,hn⟩:=eX s.op.length;obtain⟨m,hm⟩:=eX s.sh.length;rw[←hlv,←how]at HFIN⊢;rw[←hf]at HC HKN HNO1 HFIN;rw[←hk]at HU HKH HNO2 HFIN;rw[←hn]at HC HKN HNO1 HFIN hoc h1⊢;rw[←hm]at HU HKH HNO2 HFIN hgc h2⊢;clear hPB hQP hlv how hf hk hn hm ho hg;obtain⟨N,hN⟩:=eX w.heap.size;have HNE:=Hd hN;have MM1:∀w,(Instr.makeMap 98 none).run Tryz.prog w=.ok (.map (some w.heap.size)) (w.alloc (.map #[] 0)):=fun w=>rfl;have MM2:∀w,(Instr.makeMap 99 none).run Tryz.prog w=.ok (.map (some w.heap.size)) (w.alloc (.map #[] 0)):=fun w=>rfl;go_enter Tryz.func148,Tryz.ntmps148;go_wp2_with fail;obtain⟨h,hh⟩:=eX w.heap.size;have HH:=Hd hh;have ST:=Tp w lv ow oa ga n oc m gc h hh #[.int .i64 lv,.int .i64 ow,.map (some (h+1+1)),.map (some (h+1+1+1))] rfl;rw[←hh];generalize hw5:(((((w.alloc (.cells #[.int .i64 lv,.int .i64 ow,.slice oa n oc,.slice ga m gc] 25)).alloc (.cells #[.int .i64 0,.int .i64 0,.map none,.map none] 101)).alloc (.map #[] 0)).alloc (.map #[] 0)).alloc (.cells #[.int .i64 lv,.int .i64 ow,.map (some (h+1+1)),.map (some (h+1+1+1))] 101))=w5 at ST⊢;obtain⟨b0,b1,b2,b3,b4,B5,hs5⟩:=ST;have HBX:=Hd b0;have HRB0:=Hd b1;have HM0:=Hd b2;have HN0:=Hd b3;have HPV0:=Hd b4;have HB5:=Hd B5;have HS5:=Hd hs5;clear hw5 hh b0 b1 b2 b3 b4 B5 hs5 MM1 MM2
 go_loopg [5,20] n (fun q lastv iv wr=>∃r:Nat,r+q=n∧iv=.int .i64 (r:Nat)∧lastv=.int .i64 (Fj f r)∧(∀i,i<r→Fj f i<f i)∧MapF wr (h+1+1) r (fun y=>(Ew f r y).map fun i=> .agg (C i))∧MapF wr (h+1+1+1) 0 (fun _=>none)∧Blk wr (h+1+1+1+1) 101 #[.int .i64 lv,.int .i64 ow,.map (some (h+1+1)),.map (some (h+1+1+1))]∧Below (h+1+1) w5 wr∧h+5≤wr.heap.size)
 case atStart=>exact⟨0,by omega,rfl,rfl,fun i hi=>by omega,HM0.out,HN0.out,HPV0.out,bR,by rw[HS5.out];exact lR⟩
 case round=>
  obtain⟨r,hr,rfl,rfl,hri,hm1,hm2,hpv,hb,hsz⟩:=hrel;have HR:=Hd hr;have HRI:=Hd hri;have HM1:=Hd hm1;have HM2:=Hd hm2;have HPV:=Hd hpv;have HB:=Hd hb;have HSZ:=Hd hsz;have HBC:=Hd (HB5.out.trans (hb.mono (show h≤h+1+1 by omega)));have HRB:=Hd (HRB0.out.below hb (cZ _));clear hr hri hm1 hm2 hpv hb hsz
  by_cases hlt:r<n
  ·have hlt':decide (r<n)=true:=decide_eq_true hlt;have hltI:(r:Int)<(n:Int):=(by omega);obtain⟨b,off,rfl,hbl,hnc,hra⟩:=HC.out r hlt;obtain⟨x0,x1,x2,x3,x4,x5,x6,x7,x8,x9,hcr⟩:=hnc.ten;have HONE:=Hd hnc.oneL;rw[hcr]at hra HONE;have HONE:=Hd (show(#[Value.int .i64 (f r),x0,x1,x2,x3,x4,x5,x6,x7,x8,x9]:Array Value).toList.all (·.oneCell')=true from by
    change(true&&(#[x0,x1,x2,x3,x4,x5,x6,x7,x8,x9]:Array Value).toList.all (·.oneCell'))=true;rw[Bool.true_and];exact HONE.out)
   have HCR:=Hd hcr;have HRA:=Hd (Af hra (HW0.out.trans (HBC.out.mono (by rw[HH.out];exact HW0.out.size))) hbl);obtain⟨hx1,hx2⟩:=HKN.out r hlt;have HIN:=Hd (show inI (f r)from HKN.out r hlt);have HSTP:=Hd (show∀i,i<r+1→i≠r→Fj f i<f i from fun i hi hne=>HRI.out i (by omega));obtain⟨x,hx⟩:=eX (f r);rw[←hx]at HRA HONE hx1 hx2 HIN;have HX:=Hd hx;obtain⟨p,hp⟩:=eX (Fj f r);rw[←hp];have HP:=Hd hp;clear hnc hra hcr hx hp
   by_cases hxp:x≤p
   ·have hxp':decide (x≤p)=true:=decide_eq_true hxp;have HE:=Hd (fun(w':World) (hb:Below w.heap.size w w')=>HNP.out w' (HNO1.out r hlt (by rw[←HX.out,←HP.out];exact hxp)) hb);clear hxp;obtain⟨q,hq⟩:=eX wr.heap.size;have HQ:=Hd hq;have HQK:=Hd (show Blk (wr.alloc (.cells #[.int .i64 0,.int .u8 0,.slice none 0 0,.slice none 0 0,.slice none 0 0,.int .u8 0,.slice none 0 0,.slice none 0 0,.slice none 0 0,.slice none 0 0,.slice none 0 0] 87)) q 87 #[.int .i64 0,.int .u8 0,.slice none 0 0,.slice none 0 0,.slice none 0 0,.int .u8 0,.slice none 0 0,.slice none 0 0,.slice none 0 0,.slice none 0 0,.slice none 0 0] by rw[hq];exact Blk.new _ _ _);clear hq;go_wp2_with (first|(refine wpList_load_mid rfl 87 (.tmp 22) rfl b (off+r*11) rfl [.int .i64 x,x0,x1,x2,x3,x4,x5,x6,x7,x8,x9] _ HRA.out Tryz.underlying87 rfl Ce ?_)|(refine Ab rfl 87 (.tmp 7) (.tmp 23) rfl wr.heap.size #[.int .i64 x,x0,x1,x2,x3,x4,x5,x6,x7,x8,x9] rfl rfl 87 #[.int .i64 0,.int .u8 0,.slice none 0 0,.slice none 0 0,.slice none 0 0,.int .u8 0,.slice none 0 0,.slice none 0 0,.slice none 0 0,.slice none 0 0,.slice none 0 0] (HQ.out▸HQK.out) (by kernel_rfl) rfl HONE.out ?_));rintro w7 hblk hbl7 hoth hsize;rw[←HQ.out]at hblk⊢;have HB7:=Hd (((Below.refl wr.heap.size wr).alloc lR (.cells #[.int .i64 0,.int .u8 0,.slice none 0 0,.slice none 0 0,.slice none 0 0,.int .u8 0,.slice none 0 0,.slice none 0 0,.slice none 0 0,.slice none 0 0,.slice none 0 0] 87)).trans (hbl7 wr.heap.size lR));have HBC:=Hd (HBC.out.trans (HB7.out.mono (by have:=HSZ.out;omega)));have HRB:=Hd (HRB.out.below HB7.out HRB.out.lt);have HSZ7:=Hd (show w7.heap.size=q+1 from by rw[hsize];simp[HQ.out]);have HK7:=Hd hblk;have HM1:=Hd (HM1.out.below HB7.out lR);have HM2:=Hd (HM2.out.below HB7.out lR);have HPV:=Hd (HPV.out.below HB7.out HPV.out.lt);have HBN:=Hd (HB.out.trans (HB7.out.mono (by have:=HSZ.out;omega)));have k0:=hblk.cell 0;simp only[bN,bO]at k0;have HRN:=Hd (show w7.rangeAt q (0+1) [x0,x1,x2,x3,x4,x5,x6,x7,x8,x9]from hblk.range 1);clear hblk hbl7 hoth hsize;go_wp2_with (refine Ab rfl 101 (.tmp 2) (.tmp 28) rfl (h+1) #[.int .i64 0,.int .i64 0,.map none,.map none] rfl rfl 101 #[.int .i64 0,.int .i64 0,.map none,.map none] HRB.out (by kernel_rfl) rfl rfl ?_);rintro w9 hblk hbl hoth hsize;have HK:=Hd hblk;have HB9:=Hd (HBC.out.trans (hbl h (fQ h)));clear hblk hbl hoth hsize;go_wp2_with fail;refine bodyPost_ret (v:=.tuple #[.agg #[.int .i64 0,.int .i64 0,.map none,.map none],.bool false]) (Bi Tryz.results148 _ _ (h+1) _ _ _ rfl HK.out Tryz.underlying101 rfl (by kernel_rfl)) rfl ?_;exact HE.out _ (by rw[←HH.out];exact HB9.out)
   ·have hxp':decide (x≤p)=false:=decide_eq_false hxp;have HXP:=Hd (show p<x by omega);clear hxp;obtain⟨q,hq⟩:=eX wr.heap.size;have HQ:=Hd hq;have HQK:=Hd (show Blk (wr.alloc (.cells #[.int .i64 0,.int .u8 0,.slice none 0 0,.slice none 0 0,.slice none 0 0,.int .u8 0,.slice none 0 0,.slice none 0 0,.slice none 0 0,.slice none 0 0,.slice none 0 0] 87)) q 87 #[.int .i64 0,.int .u8 0,.slice none 0 0,.slice none 0 0,.slice none 0 0,.int .u8 0,.slice none 0 0,.slice none 0 0,.slice none 0 0,.slice none 0 0,.slice none 0 0] by rw[hq];exact Blk.new _ _ _);clear hq;go_wp2_with (first|(refine wpList_load_mid rfl 87 (.tmp 22) rfl b (off+r*11) rfl [.int .i64 x,x0,x1,x2,x3,x4,x5,x6,x7,x8,x9] _ HRA.out Tryz.underlying87 rfl Ce ?_)|(refine Ab rfl 87 (.tmp 7) (.tmp 23) rfl wr.heap.size #[.int .i64 x,x0,x1,x2,x3,x4,x5,x6,x7,x8,x9] rfl rfl 87 #[.int .i64 0,.int .u8 0,.slice none 0 0,.slice none 0 0,.slice none 0 0,.int .u8 0,.slice none 0 0,.slice none 0 0,.slice none 0 0,.slice none 0 0,.slice none 0 0] (HQ.out▸HQK.out) (by kernel_rfl) rfl HONE.out ?_));rintro w7 hblk hbl7 hoth hsize;rw[←HQ.out]at hblk⊢;have HB7:=Hd (((Below.refl wr.heap.size wr).alloc lR (.cells #[.int .i64 0,.int .u8 0,.slice none 0 0,.slice none 0 0,.slice none 0 0,.int .u8 0,.slice none 0 0,.slice none 0 0,.slice none 0 0,.slice none 0 0,.slice none 0 0] 87)).trans (hbl7 wr.heap.size lR));have HBC:=Hd (HBC.out.trans (HB7.out.mono (by have:=HSZ.out;omega)));have HRB:=Hd (HRB.out.below HB7.out HRB.out.lt);have HSZ7:=Hd (show w7.heap.size=q+1 from by rw[hsize];simp[HQ.out]);have HK7:=Hd hblk;have HM1:=Hd (HM1.out.below HB7.out lR);have HM2:=Hd (HM2.out.below HB7.out lR);have HPV:=Hd (HPV.out.below HB7.out HPV.out.lt);have HBN:=Hd (HB.out.trans (HB7.out.mono (by have:=HSZ.out;omega)));have k0:=hblk.cell 0;simp only[bN,bO]at k0;have HRN:=Hd (show w7.rangeAt q (0+1) [x0,x1,x2,x3,x4,x5,x6,x7,x8,x9]from hblk.range 1);clear hblk hbl7 hoth hsize;have hn1:r<maxLen:=(by unfold maxLen;omega);have p2:=HPV.out.cell 2;simp only[bN,bO,bP]at p2;go_wp2_with (first|(refine wpList_load_mid rfl 52 (.tmp 35) rfl q 1 rfl [x0,x1,x2,x3,x4,x5,x6,x7,x8,x9] _ HRN.out Tryz.underlying52 rfl Ba ?_)|(refine In rfl (.tmp 32) (.tmp 34) (.tmp 36) rfl Tryz.underlying98 rfl HM1.out rfl HIN.out hn1 _ rfl ?_));rintro w8 hm8 hg8;have HM8:=Hd (hm8.congr (G:=fun y=>(Ew f (r+1) y).map fun i=>Value.agg (C i)) (fun y=>by
     show(Ew f (r+1) y).map _=_;rw[Ew,←HX.out]
     by_cases e:y=x
     ·rw[if_pos e,if_pos e,←HCR.out];rfl
     ·rw[if_neg e,if_neg e]))
    have HM28:=Hd (HM2.out.grown hg8 (by intro e;cases e));have HPV8:=Hd (HPV.out.grownR hg8 (by omega));have HB8:=Hd (HBN.out.trans ((Below.refl (h+1+1) w7).grown hg8 (by have:=HSZ7.out;have:=HQ.out;have:=HSZ.out;omega) (by intro k e;cases e;exact lR)));have HS8:=Hd (show h+5≤w8.heap.size from by have:=hg8.size;have:=HSZ7.out;have:=HQ.out;have:=HSZ.out;omega);clear hm8 hg8;go_wp2_with fail;go_roundg (gk-1);case measure=>have:=HR.out;omega
    case rel=>
     refine⟨r+1,by have:=HR.out;omega,by go_num,?_,fun i hi=> ?_,HM8.out,HM28.out,HPV8.out,HB8.out,HS8.out⟩
     ·unfold Fj;rw[if_neg (by omega),fP,←HX.out]
     ·by_cases e:i=r
      ·rw[e,←HX.out,←HP.out];exact HXP.out
      ·exact HRI.out i (by omega)
  ·obtain rfl:r=n:=(by have:=HR.out;omega);have hlt':decide (r<r)=false:=decide_eq_false hlt;have c3:=(HBX.out.below HB.out (by omega)).cell 3;have c2:=(HBX.out.below HB.out (by omega)).cell 2;simp only[bN,bO,bP]at c2 c3;obtain⟨wo,rfl⟩:∃wo:World,wo=wr:=⟨_,rfl⟩;clear hlt;go_wp2_with fail;clear c2 c3
   go_loopg [5,41] m (fun q lastv iv wr=>∃i:Nat,i+q=m∧iv=.int .i64 (i:Nat)∧lastv=.int .i64 (Fj k i)∧(∀j,j<i→Fj k j<k j)∧MapF wr (h+1+1) r (fun y=>(Ew f r y).map fun i=> .agg (C i))∧MapF wr (h+1+1+1) i (fun y=>(Ew k i y).map fun i=>U i)∧Blk wr (h+1+1+1+1) 101 #[.int .i64 lv,.int .i64 ow,.map (some (h+1+1)),.map (some (h+1+1+1))]∧Below (h+1+1) w5 wr∧h+5≤wr.heap.size)
   case atStart=>exact⟨0,by omega,rfl,rfl,fun i hi=>by omega,HM1.out,HM2.out,HPV.out,HB.out,HSZ.out⟩
   case round=>
    obtain⟨i,hr,rfl,rfl,hri,hm1,hm2,hpv,hb,hsz⟩:=hrel;have HR:=Hd hr;have HRI2:=Hd hri;have HM1:=Hd hm1;have HM2:=Hd hm2;have HPV:=Hd hpv;have HB:=Hd hb;have HSZ:=Hd hsz;have HBC:=Hd (HB5.out.trans (hb.mono (show h≤h+1+1 by omega)));have HRB:=Hd (HRB0.out.below hb (cZ _));clear hr hri hm1 hm2 hpv hb hsz
    by_cases hlt:i<m
    ·have hlt':decide (i<m)=true:=decide_eq_true hlt;have hltI:(i:Int)<(m:Int):=(by omega);obtain⟨b,off,rfl,hbl,hnc,hra⟩:=HU.out i hlt;obtain⟨ua,un,uc,hcr⟩:∃a n c,U i=.slice a n c:=(by obtain⟨a,c,e,_⟩:=hnc;exact⟨_,_,_,e⟩);rw[hcr]at hra;have HCR:=Hd hcr;have HRA:=Hd (Af hra (HW0.out.trans (HBC.out.mono (by rw[HH.out];exact HW0.out.size))) hbl);obtain⟨hx1,hx2⟩:=HKH.out i hlt;have HIN:=Hd (show inI (k i)from HKH.out i hlt);have HRBA:=Hd (HRB.out.alloc (.cells #[.int .i64 (k i),.slice ua un uc] 89));obtain⟨x,hx⟩:=eX (k i);rw[←hx]at HRA hx1 hx2 HIN HRBA;have HX:=Hd hx;obtain⟨p,hp⟩:=eX (Fj k i);rw[←hp];have HP:=Hd hp;clear hnc hra hcr hx hp
     by_cases hxp:x≤p
     ·have hxp':decide (x≤p)=true:=decide_eq_true hxp;have HE:=Hd (fun(w':World) (hb:Below w.heap.size w w')=>HNP.out w' (HNO2.out i hlt (by rw[←HX.out,←HP.out];exact hxp)) hb);clear hxp;go_wp2_with (first|(refine wpList_load_mid rfl 89 (.tmp 43) rfl b (off+i*2) rfl [.int .i64 x,.slice ua un uc] _ HRA.out Tryz.underlying89 rfl Cf ?_)|(refine Ab rfl 101 (.tmp 2) (.tmp 49) rfl (h+1) #[.int .i64 0,.int .i64 0,.map none,.map none] rfl rfl 101 #[.int .i64 0,.int .i64 0,.map none,.map none] HRBA.out (by kernel_rfl) rfl rfl ?_));rintro w9 hblk hbl hoth hsize;have HK:=Hd hblk;have HB9:=Hd ((HBC.out.alloc (by have:=HSZ.out;omega) (.cells #[.int .i64 x,.slice ua un uc] 89)).trans (hbl h (fQ h)));clear hblk hbl hoth hsize;go_wp2_with fail;refine bodyPost_ret (v:=.tuple #[.agg #[.int .i64 0,.int .i64 0,.map none,.map none],.bool false]) (Bi Tryz.results148 _ _ (h+1) _ _ _ rfl HK.out Tryz.underlying101 rfl (by kernel_rfl)) rfl ?_;exact HE.out _ (by rw[←HH.out];exact HB9.out)
     ·have hxp':decide (x≤p)=false:=decide_eq_false hxp;have HXP:=Hd (show p<x by omega);have hn1:i<maxLen:=(by unfold maxLen;omega);have p3:=HPV.out.cell 3;simp only[bN,bO,bP]at p3;have hpl:=HPV.out.lt;clear hxp;go_wp2_with (first|(refine wpList_load_mid rfl 89 (.tmp 43) rfl b (off+i*2) rfl [.int .i64 x,.slice ua un uc] _ HRA.out Tryz.underlying89 rfl Cf ?_)|(refine In rfl (.tmp 53) (.tmp 55) (.tmp 57) rfl Tryz.underlying99 rfl (HM2.out.alloc _) rfl HIN.out hn1 _ rfl ?_));rintro w8 hm8 hg8;have HM8:=Hd (hm8.congr (G:=fun y=>(Ew k (i+1) y).map fun i=>U i) (fun y=>by
       show(Ew k (i+1) y).map _=_;rw[Ew,←HX.out]
       by_cases e:y=x
       ·rw[if_pos e,if_pos e,←HCR.out];rfl
       ·rw[if_neg e,if_neg e]))
      have HM28:=Hd ((HM1.out.alloc (.cells #[.int .i64 x,.slice ua un uc] 89)).grown hg8 (by intro e;simp at e));have HPV8:=Hd ((HPV.out.alloc (.cells #[.int .i64 x,.slice ua un uc] 89)).grownR hg8 (by omega));have HB8:=Hd ((HB.out.alloc (by have:=HSZ.out;omega) (.cells #[.int .i64 x,.slice ua un uc] 89)).trans ((Below.refl (h+1+1) _).grown hg8 (by have:=HSZ.out;simp;omega) (by intro k e;cases e;omega)));have HS8:=Hd (show h+5≤w8.heap.size from by have:=hg8.size;simp at this;have:=HSZ.out;omega);clear hm8 hg8;go_wp2_with fail;go_roundg (gk-1);case measure=>have:=HR.out;omega
      case rel=>
       refine⟨i+1,by have:=HR.out;omega,by go_num,?_,fun j hj=> ?_,HM28.out,HM8.out,HPV8.out,HB8.out,HS8.out⟩
       ·unfold Fj;rw[if_neg (by omega),fP,←HX.out]
       ·by_cases e:j=i
        ·rw[e,←HX.out,←HP.out];exact HXP.out
        ·exact HRI2.out j (by omega)
    ·obtain rfl:i=m:=(by have:=HR.out;omega);have hlt':decide (i<i)=false:=decide_eq_false hlt;have p0:=HPV.out.cell 0;have p1:=HPV.out.cell 1;have p2:=HPV.out.cell 2;have p3:=HPV.out.cell 3;simp only[bN,bO,bP]at p0 p1 p2 p3;clear hlt;go_wp2_with (refine Ab rfl 101 (.tmp 2) (.tmp 59) rfl (h+1) #[.int .i64 lv,.int .i64 ow,.map (some (h+1+1)),.map (some (h+1+1+1))] rfl rfl 101 #[.int .i64 0,.int .i64 0,.map none,.map none] HRB.out (by kernel_rfl) rfl rfl ?_);rintro w9 hblk hbl hoth hsize;have HK:=Hd hblk;have HB9:=Hd (HBC.out.trans (hbl h (fQ h)));have hmk:∀ {b:Nat} {n:Nat} {G:Int→Option Value},MapF wr b n G→b≠h+1→MapF w9 b n G:=fun {b n G} hm hne=>by
      obtain⟨D,⟨es,clock,h0,h1⟩,h2⟩:=hm;exact⟨D,⟨es,clock,(hoth b hne).trans h0,h1⟩,h2⟩
     have HMA:=Hd (hmk HM1.out (by omega));have HMB:=Hd (hmk HM2.out (by omega));clear hblk hbl hoth hsize hmk;go_wp2_with fail;refine bodyPost_ret (v:=.tuple #[.agg #[.int .i64 lv,.int .i64 ow,.map (some (h+1+1)),.map (some (h+1+1+1))],.bool true]) (Bi Tryz.results148 _ _ (h+1) _ _ _ rfl HK.out Tryz.underlying101 rfl (by kernel_rfl)) rfl ?_;exact HFIN.out _ _ _ (by rw[←HH.out];exact HB9.out) HRI.out HRI2.out (by rw[←HH.out];omega) (by rw[←HH.out];omega) (by omega) HMA.out HMB.out
theorem Zc9 {α:Type} {f:Nat→List α} {k:Nat}(hf:∀i,(f i).length=k):∀r,((aF r).flatMap f).length=r*k:=by
 intro r
 induction r with
 |zero=>simp
 |succ r ih=>rw[fK,fI,List.length_append,ih];simp[hf,fR]
theorem Iv {α:Type}(f:Nat→List α)(r:Nat):(aF (r+1)).flatMap f=(aF r).flatMap f++f r:=by
 rw[fK,fI];simp
theorem Vp {α:Type} {f:Nat→List α} {k:Nat}(hf:∀i,(f i).length=k) {i j:Nat}(hj:j<k):∀ {r:Nat},i<r→((aF r).flatMap f)[i*k+j]? =(f i)[j]? :=by
 intro r
 induction r with
 |zero=>intro h;omega
 |succ r ih=>
  intro h;rw[Iv];have hl:=Zc9 hf r
  by_cases e:i=r
  ·rw[List.getElem?_append_right (by rw[hl,e];omega),hl,e,Nat.add_sub_cancel_left]
  ·have:i*k+j<r*k:=by
    have:=Nat.mul_le_mul_right k (show i+1≤r by omega);rw[fR]at this;omega
   rw[List.getElem?_append_left (by rw[hl];exact this)];exact ih (by omega)
def Dn (l:List (Int×NodeD))(C:Nat→Array Value)(i:Nat):List Value:=.int .i64 (spt l i).1::(C i).toList
def Gv (l:List (Int×List Nat))(U:Nat→Value)(i:Nat):List Value:=[.int .i64 (stb l i).1,U i]
theorem Pq {w:World} {B:Nat} {v:Value} {l:List (Int×NodeD)} {C:Nat→Array Value}(h10:∀i,(C i).size=10)(hC:∀i,i<l.length→NodeC w (spt l i).2 (C i))(h:OwnK w B 87 11 v l.length ((aF l.length).flatMap (Dn l C))):SpotsR w v l:=by
 rcases fS l.length with h0|hp
 ·have e:l=[]:=bK h0;subst e;rcases h.2 with⟨rfl,_⟩|⟨g,cap,cur,rfl,hg,hh,hn,hm,hs,ht⟩
  ·exact SpotsR.nil w
  ·exact⟨_,cap,rfl,hn,hm,fun i hi=>absurd hi (by simp)⟩
 ·obtain⟨g,cap,rfl,hB,hlt,hn,hm,hc,_⟩:=h.out hp;refine⟨_,cap,rfl,hn,hm,fun i hi=>⟨g,0,C i,rfl,hlt,hC i hi,?_⟩⟩;intro j u hu;have hlen:∀i,(Dn l C i).length=11:=fun i=>(by rw[Dn,List.length_cons,Array.length_toList,h10]);have hj:j<11:=by
   rcases aB j 11 with h|h
   ·exact h
   ·rw[aK (by have:=hlen i;rw[Dn]at this;omega)]at hu;cases hu
  have:=hc (i*11+j) u (by rw[Vp hlen hj hi];exact hu);rw[show 0+i*11+j=i*11+j by omega];exact this
theorem Vq {w:World} {B:Nat} {v:Value} {l:List (Int×List Nat)} {U:Nat→Value}(hC:∀i,i<l.length→Rd w (U i) (bvs (stb l i).2))(h:OwnK w B 89 2 v l.length ((aF l.length).flatMap (Gv l U))):StubsR w v l:=by
 rcases fS l.length with h0|hp
 ·have e:l=[]:=bK h0;subst e;rcases h.2 with⟨rfl,_⟩|⟨g,cap,cur,rfl,hg,hh,hn,hm,hs,ht⟩
  ·exact StubsR.nil w
  ·exact⟨_,cap,rfl,hn,hm,fun i hi=>absurd hi (by simp)⟩
 ·obtain⟨g,cap,rfl,hB,hlt,hn,hm,hc,_⟩:=h.out hp;refine⟨_,cap,rfl,hn,hm,fun i hi=>⟨g,0,U i,rfl,hlt,hC i hi,?_⟩⟩;intro j u hu;have hlen:∀i,(Gv l U i).length=2:=fun i=>rfl;have hj:j<2:=by
   rcases aB j 2 with h|h
   ·exact h
   ·rw[aK (by simp;omega)]at hu;cases hu
  have:=hc (i*2+j) u (by rw[Vp hlen hj hi];exact hu);rw[show 0+i*2+j=i*2+j by omega];exact this
theorem Vr:ElemK Tryz.prog 22 87 (.agg #[.int .i64 0,.int .u8 0,.slice none 0 0,.slice none 0 0,.slice none 0 0,.int .u8 0,.slice none 0 0,.slice none 0 0,.slice none 0 0,.slice none 0 0,.slice none 0 0]) 11 216:=⟨Tryz.underlying22,by kernel_rfl,rfl,by omega,by omega⟩
theorem Zav:ElemK Tryz.prog 23 89 (.agg #[.int .i64 0,.slice none 0 0]) 2 32:=⟨Tryz.underlying23,by kernel_rfl,rfl,by omega,by omega⟩
def Er (t:List NodeD):List (Int×NodeD):=(aF t.length).map fun i=>(((i:Nat):Int),nd t i)
theorem Nu (t:List NodeD):(Er t).length=t.length:=by simp[Er]
theorem Rj {t:List NodeD} {i:Nat}(h:i<t.length):spt (Er t) i=(((i:Nat):Int),nd t i):=by
 rw[spt,Er,List.getD_eq_getElem?_getD,List.getElem?_map,List.getElem?_range h];rfl
theorem Tr (v:Value)(t:List NodeD)(w:World)(h:TreeR w v t)(hn:t.length≤1000000):
  Calls Tryz.prog 80 #[v] w fun e w'=>∃v',e=.returned v'∧SpotsR w' v' (Er t)∧Below w.heap.size w w':=by
 obtain⟨a,cp,rfl,hc,hc2⟩:=h.sl;obtain⟨C,hC⟩:=Ci (n:=t.length) (P:=fun i c=>∃b off,a=some ⟨b,off,none⟩∧b<w.heap.size∧NodeC w (nd t i) c∧w.rangeAt b (off+i*10) c.toList) fun i hi=>by
  obtain⟨b,off,c,h1,h2,h3,h4⟩:=h.node hi;exact⟨c,b,off,h1,h2,h3,h4⟩
 have FIN:=fun(w':World) (v':Value) (hb:Below w.heap.size w w') (ho:OwnK w' w.heap.size 87 11 v' t.length ((aF t.length).flatMap fun i=> .int .i64 (i:Nat)::(C i).toList))=>(show SpotsR w' v' (Er t)from by
  refine Pq (B:=w.heap.size) (C:=fun i=>if i<t.length then C i else#[.int .u8 0,.slice none 0 0,.slice none 0 0,.slice none 0 0,.int .u8 0,.slice none 0 0,.slice none 0 0,.slice none 0 0,.slice none 0 0,.slice none 0 0]) (fun i=> ?_) (fun i hi=> ?_) ?_
  ·split
   ·rename_i hi;obtain⟨b,off,-,-,hn,-⟩:=hC i hi;exact hn.size
   ·rfl
  ·rw[Nu]at hi;rw[Rj hi,if_pos hi];obtain⟨b,off,-,-,hn,-⟩:=hC i hi;exact hn.below hb lR
  ·rw[Nu];have e:(aF t.length).flatMap (Dn (Er t) fun i=>if i<t.length then C i else#[.int .u8 0,.slice none 0 0,.slice none 0 0,.slice none 0 0,.int .u8 0,.slice none 0 0,.slice none 0 0,.slice none 0 0,.slice none 0 0,.slice none 0 0])=(aF t.length).flatMap fun i=> .int .i64 (i:Nat)::(C i).toList:=by
    rw[fM,fM]
    congr 1
    refine fN fun i hi=> ?_;have hi:=List.mem_range.1 hi;rw[Dn,Rj hi,if_pos hi]
   rw[e];exact ho)
 obtain⟨n,hnn⟩:=eX t.length;rw[←hnn]at hC FIN hc hn⊢;obtain⟨f,hf⟩:∃f:Nat→List Value,f=fun i=> .int .i64 (i:Nat)::(C i).toList:=⟨_,rfl⟩;rw[←hf]at FIN;have HF:=Hd (show∀i,f i=.int .i64 (i:Nat)::(C i).toList from fun i=>by rw[hf]);have HC:=Hd hC;have HFIN:=Hd FIN;clear hC FIN hnn hf h;go_enter Tryz.func80,Tryz.ntmps80;go_wp2_with fail
 go_loopg [3,4] n (fun q ov iv wr=>∃r:Nat,r+q=n∧iv=.int .i64 (r:Nat)∧OwnK wr w.heap.size 87 11 ov r ((aF r).flatMap f)∧Below w.heap.size w wr)
 case atStart=>exact⟨0,by omega,rfl,OwnK.nil _ _ _ _,bR⟩
 case round=>
  obtain⟨r,hr,rfl,hown,hb⟩:=hrel;have HR:=Hd hr;have HO:=Hd hown;have HB:=Hd hb;clear hr hown hb
  by_cases hlt:r<n
  ·have hlt':decide (r<n)=true:=decide_eq_true hlt;have hltI:(r:Int)<(n:Int):=(by omega);obtain⟨b,off,rfl,hbl,hnc,hra⟩:=HC.out r hlt;have HRA:=Hd (Af hra HB.out hbl);have HONE:=Hd hnc.oneL;have HFR:=Hd (HF.out r);obtain⟨x0,x1,x2,x3,x4,x5,x6,x7,x8,x9,hcr⟩:=hnc.ten;rw[hcr]at HRA HONE HFR;clear hnc hra hcr hbl;go_wp2_with (first|(refine wpList_load_mid rfl 52 (.tmp 15) rfl b (off+r*10) rfl [x0,x1,x2,x3,x4,x5,x6,x7,x8,x9] _ HRA.out Tryz.underlying52 rfl Ba ?_)|(at_builtin;refine Qr rfl (.tmp 11) (.tmp 18) 22 rfl w.heap.size 87 _ 11 216 Vr _ r _ rfl (HO.out.alloc _) wr.heap.size [.int .i64 (r:Nat),x0,x1,x2,x3,x4,x5,x6,x7,x8,x9] rfl rfl ?c1 ?c4 ?c2 ?c3 ?_));case c4=>exact⟨rfl,by simpa using HONE.out⟩
   case c2=>omega
   case c3=>have:=HB.out.size;simp;omega
   rintro v' w3 hown3 hg3 hb3;have HO3:=Hd (show OwnK w3 w.heap.size 87 11 v' (r+1) ((aF (r+1)).flatMap f)from by rw[Iv,HFR.out];exact hown3);have HB3:=Hd ((HB.out.alloc HB.out.size (.cells #[.int .i64 (r:Nat),x0,x1,x2,x3,x4,x5,x6,x7,x8,x9] 87)).trans hb3);clear hown3 hg3 hb3;go_wp2_with fail;go_roundg (gk-1);case measure=>have:=HR.out;omega
   case rel=>exact⟨r+1,by have:=HR.out;omega,by go_num,HO3.out,HB3.out⟩
  ·obtain rfl:r=n:=(by have:=HR.out;omega);have hlt':decide (r<r)=false:=decide_eq_false hlt;clear hlt;go_wp2_with fail;go_ret;exact⟨_,rfl,HFIN.out _ _ HB.out HO.out,HB.out⟩
structure ButO (w:World) (V:Value) (B:Nat) (X:World):Prop where
 low:Below B w X
 blk:∀i,i<w.heap.size→V.ownBlock≠some i→X.heap[i]? =w.heap[i]?
def StepO (V:Value)(B:Nat)(X Y:World):Prop:=Below B X Y∧∀i,i<X.heap.size→V.ownBlock≠some i→Y.heap[i]? =X.heap[i]?
theorem ButO.start (w:World)(V:Value)(B:Nat):ButO w V B w.drew:=⟨⟨rfl,rfl,rfl,lR,fun _ _=>rfl⟩,fun _ _ _=>rfl⟩
theorem StepO.of {V:Value} {B:Nat} {X Y:World}(h:Below X.heap.size X Y)(hB:B≤X.heap.size):StepO V B X Y:=⟨h.mono hB,fun i hi _=>h.block i hi⟩
theorem ButO.step {w:World} {V:Value} {B:Nat} {X Y:World}(h:ButO w V B X)(k:StepO V B X Y):ButO w V B Y:=⟨h.low.trans k.1,fun i hi hne=>(k.2 i (dP hi h.low.size) hne).trans (h.blk i hi hne)⟩
theorem OwnK.lt {w:World} {B:Nat} {e:TypeId} {k n:Nat} {v:Value} {xs:List Value}(h:OwnK w B e k v n xs) {g:Nat}(hg:v.ownBlock=some g):g<w.heap.size∧B≤g:=by
 rcases h.2 with⟨rfl,_⟩|⟨g',cp,cur,rfl,hb,hh,_⟩
 ·simp[Value.ownBlock]at hg
 ·simp[Value.ownBlock]at hg;subst hg;refine⟨?_,hb⟩;rcases aB g' w.heap.size with h|h
  ·exact h
  ·rw[Array.getElem?_eq_none h]at hh;cases hh
theorem OwnK.onlyQ {w w':World} {B C:Nat} {e:TypeId} {k n:Nat} {v:Value} {xs:List Value}(h:OwnK w B e k v n xs)(hb:Only C w w')(hC:C<B):OwnK w' B e k v n xs:=
 World.ownsRow.kept h hb (.inr fun e=>by have:=(h.lt e).2;omega)
theorem OwnK.sl {w:World} {B:Nat} {e:TypeId} {k n:Nat} {v:Value} {xs:List Value}(h:OwnK w B e k v n xs):∃a c,v=.slice a n c:=by
 rcases h.2 with⟨rfl,h0⟩|⟨g',cp,cur,rfl,hb,hh,_⟩
 ·exact⟨none,0,by rw[h0]⟩
 ·exact⟨_,_,rfl⟩
theorem Iw {P:Program} {w:World} {o:Oper} {a:Act} {K:Act→World→Prop} {Q:Exit→Act→World→Prop} (s x:Operand) (t:TypeId)
  (ho:o.op=.call {callee:=.builtin .append,args:=#[s,x],argTypes:=#[t,t]})
  (B:Nat) (e:TypeId) (z:Value) (k bytes:Nat) (F:ElemK P t e z k bytes) (v:Value) (n:Nat) (xs:List Value) (hs:a.eval s=v) (hown:OwnK w B e k v n xs)
  (g:Nat) (ys:List Value) (hx:a.eval x=.slice (some ⟨g,0,none⟩) 1 1) (hl:ys.length=k) (hu:∀(j:Nat) u,ys[j]? =some u→w.cell? ⟨g,j,none⟩=some u) (h1:∀u∈ys,u.oneCell'=true) (hn:n<137438953472) (hB:B≤w.heap.size)
  (h:∀v' w',OwnK w' B e k v' (n+1) (xs++ys)→StepO v B w w'→K (a.put o.dst v') w'):o.wp P a w K Q:=by
 obtain⟨i,hi,hz,hsz,hby⟩:=Fx F.inf;have low:=F.low;refine wp_append_own w s x t ho B e i z k bytes F.ty hi hz hsz hby F.one F.pos v n xs hs hown ⟨g,0,none⟩ 1 1 ys hx (by rw[hl,Nat.one_mul]) (fun j u hj=>by rw[Addr.add_lit,Nat.zero_add];exact hu j u hj) h1 ?_ ?_ hB ?_
 ·unfold maxLen;omega
 ·have:(n+1)*bytes≤(n+1)*512:=Nat.mul_le_mul_left _ low;omega
 ·intro v' w' h2 h3 _;refine h v' w' h2 ⟨(Below.refl B w).grown h3 hB fun j hj=>(hown.lt hj).2,fun i hi hne=>h3.block i hi (fun e=>hne e.symm)⟩
theorem StepO.grown {V:Value} {B:Nat} {X Y:World}(h:StepO V B X Y):X.grownBy Y V.ownBlock:=⟨h.1.os,h.1.tape,h.1.output,h.1.size,fun i hi hne=>h.2 i hi fun e=>hne e.symm⟩
theorem StepO.own {V:Value} {B B':Nat} {X Y:World} {T:TypeId} {v:Value} {xs:List Value}(h:StepO V B X Y)(k:Own X B' T v xs)(hV:∀g,V.ownBlock=some g→g<B'):Own Y B' T v xs:=by
 refine Own.grown k h.grown fun g hg e=> ?_;have:=(k.blockLt hg).2;have:=hV g e;omega
structure CutS (w:World) (V:Value) (q:Nat) (X:World):Prop where
 low:Below q w X
 blk:∀i,i<w.heap.size→i≠q→V.ownBlock≠some i→X.heap[i]? =w.heap[i]?
theorem ButO.put {w:World} {V:Value} {q:Nat} {X:World}(h:ButO w V (q+1) X)(hq:q≤X.heap.size)(j:Nat)(u:Value):CutS w V q (X.setCell ⟨q,j,none⟩ u):=by
 refine⟨(h.low.mono (fQ q)).trans ((Only.set (a:=X) (B:=q) j u).below lR hq),fun i hi hne hV=> ?_⟩;rw[Below.heap_setCell X ⟨q,j,none⟩ u i hne];exact h.blk i hi hV
theorem OwnK.apartK {w:World} {B B':Nat} {e e':TypeId} {k k' n n':Nat} {v v':Value} {xs ys:List Value}(h:OwnK w B e k v n xs)(h':OwnK w B' e' k' v' n' ys)(he:e≠e'):∀g,v.ownBlock=some g→v'.ownBlock≠some g:=by
 intro g hg hg';rcases h.2 with⟨rfl,_⟩|⟨g1,cp,cur,rfl,hb,hh,_⟩
 ·simp[Value.ownBlock]at hg
 rcases h'.2 with⟨rfl,_⟩|⟨g2,cp2,cur2,rfl,hb2,hh2,_⟩
 ·simp[Value.ownBlock]at hg'
 simp[Value.ownBlock]at hg hg';subst hg hg';have:=hh.symm.trans hh2;simp only[Option.some.injEq,Obj.cells.injEq]at this;exact he this.2.1
theorem CutS.ownK {w X:World} {V:Value} {q B:Nat} {e:TypeId} {k n:Nat} {v:Value} {xs:List Value}(h:CutS w V q X)(o:OwnK w B e k v n xs)(hB:q<B)(hne:∀g,v.ownBlock=some g→V.ownBlock≠some g):OwnK X B e k v n xs:=by
 have hl:= @OwnK.lt _ _ _ _ _ _ _ o;obtain⟨h1,h2|⟨g,cp,cur,rfl,hg,hh,rest⟩⟩:=o
 ·exact⟨h1,.inl h2⟩
 ·refine⟨h1,.inr ⟨g,cp,cur,rfl,hg,?_,rest⟩⟩;rw[h.blk g (hl rfl).1 (by omega) (hne g rfl)];exact hh
theorem Only.storeQ {g:Nat} {w w2:World}(h:∀B,B≤g→Below B w w2)(hot:∀i,i≠g→w2.heap[i]? =w.heap[i]?):Only g w w2:=
 ⟨(h 0 (aA _)).os,(h 0 (aA _)).tape,(h 0 (aA _)).output,(h 0 (aA _)).size,fun i hi hne=>hot i fun e=>hne (by rw[e])⟩
theorem Zda {U:Nat→Value} {g:Nat→Value→List Value}(r:Nat)(u:Value):((aF (r+1)).flatMap fun k=>g k (if k<r then U k else u))=((aF r).flatMap fun k=>g k (U k))++g r u:=by
 rw[Iv,if_neg (Nat.lt_irrefl r)]
 congr 1
 rw[fM,fM]
 congr 1
 exact fN fun k hk=>by rw[if_pos (List.mem_range.1 hk)]
def Zd9 (x:Int):Nat:=if eV x 2=1 then 1 else 2
def Bz (x:Int)(d:NodeD):Bool:=Aw d&&(decide (d.kind≠Zd9 x)&& !(d.par.late.any fun u=> !Bl (2*u) x))
theorem Zfd {d:NodeD}(h:Aw d=true):∀u∈d.par.late,0≤u∧u<1000000:=fun u hu=>by have:=Dt (Bn h) u hu;omega
theorem Ts (x:Int)(d:NodeD)(c:Array Value)(w:World)(h:NodeC w d c)(hk:NodeOk d)(hs:Cc d=true)(hx:inI x):
  Calls Tryz.prog 180 #[.int .i64 x,.agg c] w fun e w'=>e=.returned (.bool (Bz x d))∧Below w.heap.size w w':=by
 have HNB:=Hd fun(W:World) (hw:Below w.heap.size w W) (r:Bool) (hr:Aw d=r)=>Su d c W (h.below hw lR) hk hs r hr;have hk256:=hk.kind;have HLM:=Hd (Zfd (d:=d));have HLL:=Hd (show d.par.late.length≤1000000 by have:=of_decide_eq_true hs;omega);obtain⟨x1,x2,x3,x4,x5,x6,x7,x8,b3,e3,rfl,hrd⟩:=h.frame;unfold Bz;obtain⟨kd,hkd⟩:=eX d.kind;obtain⟨L,hL⟩:=eX d.par.late;rw[←hkd]at HNB hk256⊢;rw[←hL]at HNB HLM HLL hrd⊢;obtain⟨l8,hl8⟩:=eX L.length;rw[←hl8]at HNB hrd⊢;have HL8:=Hd hl8;have HRD:=Hd hrd;obtain⟨rb,hrb⟩:=eX (Aw d);have HNB2:=Hd fun(W:World) (hw:Below w.heap.size w W)=>HNB.out W hw rb hrb.symm;rw[←hrb]at HLM⊢;unfold inI at hx;obtain⟨nk,hnk⟩:=eX (Zd9 x);rw[←hnk];have HNK:=Hd hnk;have H2:=Hd (show Below w.heap.size w ((w.alloc (.cells #[.int .i64 x] 3)).alloc (.cells #[.int .u8 (kd:Nat),x1,x2,x3,x4,x5,x6,x7,x8,.slice b3 l8 e3] 52))from(bR.alloc lR _).alloc (by simp) _);have HB0:=Hd (show Blk ((w.alloc (.cells #[.int .i64 x] 3)).alloc (.cells #[.int .u8 (kd:Nat),x1,x2,x3,x4,x5,x6,x7,x8,.slice b3 l8 e3] 52)) w.heap.size 3 #[.int .i64 x]from(Blk.new w _ _).alloc _);have HB1:=Hd (show Blk ((w.alloc (.cells #[.int .i64 x] 3)).alloc (.cells #[.int .u8 (kd:Nat),x1,x2,x3,x4,x5,x6,x7,x8,.slice b3 l8 e3] 52)) (w.heap.size+1) 52 #[.int .u8 (kd:Nat),x1,x2,x3,x4,x5,x6,x7,x8,.slice b3 l8 e3]from by
  have h1:=Blk.new (w.alloc (.cells #[.int .i64 x] 3)) 52 #[.int .u8 (kd:Nat),x1,x2,x3,x4,x5,x6,x7,x8,.slice b3 l8 e3];simpa using h1)
 clear HNB hk hs h hrd hkd hL hl8 hrb hnk;cases rb with
 |false=>
  have HE:=Hd (show(false&&(decide (kd≠nk)&& !(L.any fun u=> !Bl (2*u) x)))=false from rfl)
  by_cases ht:eV x 2=1
  ·have ht':(eV x 2==1)=true:=(by rw[beq_iff_eq];exact ht);clear ht;go_enter Tryz.func180,Tryz.ntmps180;go_wp2_with fail;refine(HNB2.out _ H2.out).mono ?_;rintro e w3 ⟨hb3,v3,rfl,ho3⟩;have HB3:=Hd (H2.out.trans (hb3.mono H2.out.size));have HK0:=Hd (HB0.out.below hb3 HB0.out.lt);have HK1:=Hd (HB1.out.below hb3 HB1.out.lt);have c0:=HK0.out.cell 0;have k0:=HK1.out.cell 0;have k9:=HK1.out.cell 9;simp only[bN,bO,bP]at c0 k0 k9;obtain⟨p1,p2,p3,rfl⟩:=Dp ho3;clear hb3 ho3;go_wp2_with fail;go_ret;exact⟨Ek (by simp),HB3.out⟩
  ·have ht':(eV x 2==1)=false:=(by rw[beq_eq_false_iff_ne];exact ht);clear ht;go_enter Tryz.func180,Tryz.ntmps180;go_wp2_with fail;refine(HNB2.out _ H2.out).mono ?_;rintro e w3 ⟨hb3,v3,rfl,ho3⟩;have HB3:=Hd (H2.out.trans (hb3.mono H2.out.size));have HK0:=Hd (HB0.out.below hb3 HB0.out.lt);have HK1:=Hd (HB1.out.below hb3 HB1.out.lt);have c0:=HK0.out.cell 0;have k0:=HK1.out.cell 0;have k9:=HK1.out.cell 9;simp only[bN,bO,bP]at c0 k0 k9;obtain⟨p1,p2,p3,rfl⟩:=Dp ho3;clear hb3 ho3;go_wp2_with fail;go_ret;exact⟨Ek (by simp),HB3.out⟩
 |true=>
  have HLM2:=Hd (HLM.out rfl);obtain⟨AN,hAN⟩:=eX (L.any fun u=> !Bl (2*u) x);have HCF:=Hd fun(v:Value) (W:World) (g:Nat) (h:Rd W v (ivs .i64 L)) (hx:W.cell? ⟨g,0,none⟩=some (.int .i64 x))=>Yv v L x g W h hx HLM2.out HLL.out;rw[←hAN]at HCF⊢;clear hAN
  by_cases ht:eV x 2=1
  ·have ht':(eV x 2==1)=true:=(by rw[beq_iff_eq];exact ht);have hn:nk=1:=(by rw[HNK.out,Zd9,if_pos ht]);subst hn;clear ht
   by_cases hq:kd=1
   ·have hq':((kd:Int) !=1)=false:=(by simp;omega);have HQ:=Hd (show decide (kd≠1)=false from by simpa using hq);clear hq;go_enter Tryz.func180,Tryz.ntmps180;go_wp2_with fail;refine(HNB2.out _ H2.out).mono ?_;rintro e w3 ⟨hb3,v3,rfl,ho3⟩;have HB3:=Hd (H2.out.trans (hb3.mono H2.out.size));have HK0:=Hd (HB0.out.below hb3 HB0.out.lt);have HK1:=Hd (HB1.out.below hb3 HB1.out.lt);have c0:=HK0.out.cell 0;have k0:=HK1.out.cell 0;have k9:=HK1.out.cell 9;simp only[bN,bO,bP]at c0 k0 k9;obtain⟨p1,p2,p3,rfl⟩:=Dp ho3;clear hb3 ho3;go_wp2_with fail;go_ret;exact⟨Ek (by rw[HQ.out];rfl),HB3.out⟩
   ·have hq':((kd:Int) !=1)=true:=(by simp;omega);have HQ:=Hd (show decide (kd≠1)=true from by simpa using hq);clear hq;go_enter Tryz.func180,Tryz.ntmps180;go_wp2_with fail;refine(HNB2.out _ H2.out).mono ?_;rintro e w3 ⟨hb3,v3,rfl,ho3⟩;have HB3:=Hd (H2.out.trans (hb3.mono H2.out.size));have HK0:=Hd (HB0.out.below hb3 HB0.out.lt);have HK1:=Hd (HB1.out.below hb3 HB1.out.lt);have c0:=HK0.out.cell 0;have k0:=HK1.out.cell 0;have k9:=HK1.out.cell 9;simp only[bN,bO,bP]at c0 k0 k9;obtain⟨p1,p2,p3,rfl⟩:=Dp ho3;clear hb3 ho3;go_wp2_with fail;refine(HCF.out _ _ _ (HRD.out.below HB3.out lR) c0).mono ?_;rintro e w4 ⟨rfl,rfl⟩;go_wp2_with fail;go_ret;exact⟨Ek (by rw[HQ.out];rfl),HB3.out⟩
  ·have ht':(eV x 2==1)=false:=(by rw[beq_eq_false_iff_ne];exact ht);have hn:nk=2:=(by rw[HNK.out,Zd9,if_neg ht]);subst hn;clear ht
   by_cases hq:kd=2
   ·have hq':((kd:Int) !=2)=false:=(by simp;omega);have HQ:=Hd (show decide (kd≠2)=false from by simpa using hq);clear hq;go_enter Tryz.func180,Tryz.ntmps180;go_wp2_with fail;refine(HNB2.out _ H2.out).mono ?_;rintro e w3 ⟨hb3,v3,rfl,ho3⟩;have HB3:=Hd (H2.out.trans (hb3.mono H2.out.size));have HK0:=Hd (HB0.out.below hb3 HB0.out.lt);have HK1:=Hd (HB1.out.below hb3 HB1.out.lt);have c0:=HK0.out.cell 0;have k0:=HK1.out.cell 0;have k9:=HK1.out.cell 9;simp only[bN,bO,bP]at c0 k0 k9;obtain⟨p1,p2,p3,rfl⟩:=Dp ho3;clear hb3 ho3;go_wp2_with fail;go_ret;exact⟨Ek (by rw[HQ.out];rfl),HB3.out⟩
   ·have hq':((kd:Int) !=2)=true:=(by simp;omega);have HQ:=Hd (show decide (kd≠2)=true from by simpa using hq);clear hq;go_enter Tryz.func180,Tryz.ntmps180;go_wp2_with fail;refine(HNB2.out _ H2.out).mono ?_;rintro e w3 ⟨hb3,v3,rfl,ho3⟩;have HB3:=Hd (H2.out.trans (hb3.mono H2.out.size));have HK0:=Hd (HB0.out.below hb3 HB0.out.lt);have HK1:=Hd (HB1.out.below hb3 HB1.out.lt);have c0:=HK0.out.cell 0;have k0:=HK1.out.cell 0;have k9:=HK1.out.cell 9;simp only[bN,bO,bP]at c0 k0 k9;obtain⟨p1,p2,p3,rfl⟩:=Dp ho3;clear hb3 ho3;go_wp2_with fail;refine(HCF.out _ _ _ (HRD.out.below HB3.out lR) c0).mono ?_;rintro e w4 ⟨rfl,rfl⟩;go_wp2_with fail;go_ret;exact⟨Ek (by rw[HQ.out];rfl),HB3.out⟩
section
def Fs (H:Int→Option (List Nat))(x:Nat):List Nat:=(H (x:Int)).getD []
section
variable {F:Int→Option NodeD} {H:Int→Option (List Nat)} {k x:Nat} {d:NodeD}
structure PieceOk (F:Int→Option NodeD) (H:Int→Option (List Nat)):Prop where
 ok:∀x d,F x=some d→NodeOk d∧Cc d=true∧Aw d=true
 hash:∀x L,H x=some L→L.length≤32∧∀y∈L,y<256
theorem Gw (h:PieceOk F H)(x:Nat):(Fs H x).length≤32:=by
 unfold Fs;cases e:H (x:Int)with
 |none=>simp
 |some L=>exact(h.hash _ _ e).1
end
structure Grow (W:World) (V:Value) (B:Nat) (w:World) (v:Value) (ys:List Value):Prop where
 own:Own w B 5 v ys
 step:StepO V B W w
 near:Pd W V v
theorem Grow.start {w:World} {B:Nat} {v:Value} {ys:List Value}(h:Own w B 5 v ys)(hB:B≤w.heap.size):Grow w v B w v ys:=⟨h,StepO.of bR hB,.inl rfl⟩
theorem Grow.size {W:World} {V:Value} {B:Nat} {w:World} {v:Value} {ys:List Value}(h:Grow W V B w v ys):W.heap.size≤w.heap.size:=h.step.1.size
theorem StepO.next {V:Value} {B:Nat} {a b c:World}(h:StepO V B a b)(k:Below b.heap.size b c)(hB:B≤b.heap.size):StepO V B a c:=
 ⟨h.1.trans (k.mono hB),fun i hi hne=>(k.block i (dP hi h.1.size)).trans (h.2 i hi hne)⟩
theorem Grow.next {W:World} {V:Value} {B:Nat} {w w':World} {v:Value} {ys:List Value}(h:Grow W V B w v ys)(k:Below w.heap.size w w')(hB:B≤W.heap.size):Grow W V B w' v ys:=
 ⟨h.own.below k lR,h.step.next k (Nat.le_trans hB h.size),h.near⟩
theorem Grow.trans {W:World} {V:Value} {B:Nat} {w w':World} {v v':Value} {ys zs:List Value}(h:Grow W V B w v ys)(k:Grow w v B w' v' zs):Grow W V B w' v' zs:=by
 have hs:=h.size;refine⟨k.own,⟨h.step.1.trans k.step.1,fun i hi hne=>(k.step.2 i (by omega) ?_).trans (h.step.2 i hi hne)⟩,?_⟩
 ·rcases h.near with e|⟨g,e,hg⟩
  ·rw[e];exact hne
  ·rw[e];intro e2;cases e2;omega
 ·rcases k.near with e|⟨g,e,hg⟩
  ·rcases h.near with e2|⟨g,e2,hg⟩
   ·exact .inl (e.trans e2)
   ·exact .inr ⟨g,e.trans e2,hg⟩
  ·exact .inr ⟨g,e,by omega⟩
theorem Grow.app {B:Nat} {w w':World} {v v':Value} {ys:List Value}(ho:Own w' B 5 v' ys)(hg:w.grownBy w' v.ownBlock)(hb:Below B w w')(hn:Pd w v v'):Grow w v B w' v' ys:=
 ⟨ho,⟨hb,fun i hi hne=>hg.block i hi fun e=>hne e.symm⟩,hn⟩
end
theorem Ft (x y:Value)(A B:List Nat)(w:World)(hx:Rd w x (bvs A))(hy:Rd w y (bvs B))(hl:A.length+B.length<1000000000):
  Calls Tryz.prog 77 #[x,y] w fun e w'=>∃v',e=.returned v'∧Own w' w.heap.size 5 v' (bvs (A++B))∧Below w.heap.size w w':=by
 have HX:=Hd hx;have HY:=Hd hy;clear hx hy;go_enter Tryz.func77,Tryz.ntmps77;go_wp2_with (at_builtin;refine Am rfl (.tmp 5) (.tmp 6) 28 rfl w.heap.size 5 _ 1 Cm _ [] rfl (Own.lit0 rfl lR) _ (bvs A) rfl (HX.out.alloc _) (Ck _) ?c2 ?c3 ?_);case c2=>rw[bvs_len];simp;omega
 case c3=>simp
 rintro v2 w2 hown-hb2;have hbt:=((Below.refl w.heap.size w).alloc lR (.cells #[] 5)).trans hb2;have HO:=Hd hown;have HB:=Hd hbt;have HY2:=Hd (HY.out.below hbt lR);clear hown hb2 hbt;go_wp2_with (at_builtin;refine Am rfl (.tmp 7) (.tmp 8) 28 rfl w.heap.size 5 _ 1 Cm _ _ rfl HO.out _ (bvs B) rfl HY2.out (Ck _) ?c4 ?c5 ?_);case c4=>simp only[bvs_len];omega
 case c5=>exact HB.out.size
 rintro v3 w3 hown-hb3;have HO3:=Hd hown;have HB3:=Hd (HB.out.trans hb3);clear hown hb3;go_wp2_with fail;go_ret;refine⟨_,rfl,?_,HB3.out⟩;rw[Cg];exact HO3.out
theorem Nv (lv ow:Int)(o v:Value)(l:List (Int×List Nat))(x:Int)(w:World)(h:StubsR w v l):
  Calls Tryz.prog 136 #[.agg #[.int .i64 lv,.int .i64 ow,o,v],.int .i64 x] w fun e w'=>∃u,e=.returned u∧Rd w' u (bvs ((Ap l x).getD []))∧Below w.heap.size w w':=by
 obtain⟨a,cp,rfl,hc,hc2⟩:=h.sl;have G:=fun(i:Nat) (hi:i<l.length)=>h.at hi;have F1:=fun(r:Nat) (hr:r<l.length) (hno:∀i,i<r→(stb l i).1≠x) (he:(stb l r).1=x)=>Pp hr hno he;have F2:=Nt (l:=l) (x:=x);obtain⟨n,hn⟩:=eX l.length;obtain⟨R,hR⟩:=eX (Ap l x);obtain⟨S,hS⟩:∃S:Nat→Int×List Nat,S=stb l:=⟨_,rfl⟩;rw[←hn]at G F1 F2 hc⊢;rw[←hR]at F1 F2⊢;rw[←hS]at G F1 F2;have HG:=Hd G;have HF1:=Hd F1;have HF2:=Hd F2;obtain⟨p,hp⟩:=eX w.heap.size;have HP:=Hd hp;have HBK:=Hd (Blk.new w 25 #[.int .i64 lv,.int .i64 ow,o,.slice a n cp]);have HB:=Hd ((Below.refl w.heap.size w).alloc lR (.cells #[.int .i64 lv,.int .i64 ow,o,.slice a n cp] 25));clear G F1 F2 h hn hR hS hp;go_enter Tryz.func136,Tryz.ntmps136;go_wp2_with fail;generalize hw1:w.alloc (.cells #[.int .i64 lv,.int .i64 ow,o,.slice a n cp] 25)=w1 at HBK HB⊢;clear hw1;have c3:=HBK.out.cell 3;simp only[bN,bO,bP]at c3
 go_loopg [5] n (fun q iv wr=>∃r:Nat,r+q=n∧iv=.int .i64 (r:Nat)∧(∀i,i<r→(S i).1≠x)∧wr=w1)
 case atStart=>exact⟨0,by omega,rfl,fun k hk=>by omega,rfl⟩
 case round=>
  obtain⟨r,hr,rfl,hno,rfl⟩:=hrel;have HR:=Hd hr;have HNO:=Hd hno;clear hr hno
  by_cases hlt:r<n
  ·have hlt':decide (r<n)=true:=decide_eq_true hlt;have hltI:(r:Int)<(n:Int):=(by omega);obtain⟨b,off,u,rfl,hbl,hru,hra⟩:=HG.out r hlt;have hcell:=(HB.out.cell (p:=⟨b,off+r*2,none⟩) hbl).trans (Bf hra);have hcell2:=Af (Bv hra) HB.out hbl 0 u rfl;obtain⟨y,hy⟩:=eX ((S r).1);rw[←hy]at hcell;have HY:=Hd hy;have HRU:=Hd (hru.below HB.out lR);clear hy hra hru
   by_cases he:y=x
   ·have hq:(y==x)=true:=(by rw[beq_iff_eq];exact he);have HE:=Hd he;clear he;go_wp2_with fail;go_ret;rw[HF1.out r hlt HNO.out (by rw[←HY.out];exact HE.out)];exact⟨_,rfl,HRU.out,HB.out⟩
   ·have hq:(y==x)=false:=(by rw[beq_eq_false_iff_ne];exact he);have HE:=Hd he;clear he;go_wp2_with fail;go_roundg (gk-1);case measure=>have:=HR.out;omega
    case rel=>
     refine⟨r+1,by have:=HR.out;omega,by go_num,fun i hi=> ?_,rfl⟩
     by_cases e:i=r
     ·rw[e,←HY.out];exact HE.out
     ·exact HNO.out i (by omega)
  ·obtain rfl:r=n:=(by have:=HR.out;omega);have hlt':decide (r<r)=false:=decide_eq_false hlt;go_wp2_with fail;go_ret;rw[HF2.out HNO.out];exact⟨_,rfl,(Own.nil _ 0 5).rd,HB.out⟩
end Go.Proofs.YtfofaiommeckbaaGreat
