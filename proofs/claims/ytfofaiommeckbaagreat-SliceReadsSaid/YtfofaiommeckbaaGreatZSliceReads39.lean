/- Walks: slice.pieceOf. -/
import Derived.Test.YtfofaiommeckbaaGreatZSliceReadsB
import Derived.Test.YtfofaiommeckbaaGreatZSliceReads38
open List renaming all_eq_true → fE, getElem?_toArray → bK, getElem?_cons_zero → bL, getElem?_cons_succ → bM
open Nat renaming add_sub_cancel → fM, lt_succ_self → fL, le_succ → fN
open Int renaming tmod → eH
set_option linter.unusedVariables false
set_option maxRecDepth 100000
set_option maxHeartbeats 40000000
namespace Go.Proofs.YtfofaiommeckbaaGreat
open Go.RowKit WalkM WireM
def Fi (f:Nat→Int)(i:Nat):Int:=if i=0 then-1 else f (i-1)
def Gq (f:Nat→Int)(n:Nat):Bool:=(List.range n).all fun i=>decide (Fi f i<f i)
theorem Ti {f:Nat→Int} {n i:Nat}(hi:i<n)(h:f i≤Fi f i):Gq f n=false:=by
 rw[Gq,List.all_eq_false];exact⟨i,List.mem_range.2 hi,by simpa using h⟩
theorem Kn {f:Nat→Int} {n:Nat}(h:∀i,i<n→Fi f i<f i):Gq f n=true:=by
 rw[Gq,fE];exact fun i hi=>decide_eq_true (h i (List.mem_range.1 hi))
theorem Ko {f:Nat→Int} {n:Nat}(h:Gq f n=true):∀i,i<n→Fi f i<f i:=by
 rw[Gq,fE]at h;exact fun i hi=>of_decide_eq_true (h i (List.mem_range.2 hi))
theorem Rb {f:Nat→Int} {n:Nat}(h:∀i,i<n→Fi f i<f i):∀j,j<n→0≤f j∧∀i,i<j→f i<f j:=by
 intro j
 induction j with
 |zero=>intro hj;have:=h 0 hj;unfold Fi at this;rw[if_pos rfl]at this;exact⟨by omega,fun i hi=>by omega⟩
 |succ j ih=>
  intro hj;have h1:=h (j+1) hj;unfold Fi at h1;rw[if_neg (by omega),fM]at h1;obtain⟨h2,h3⟩:=ih (by omega);refine⟨by omega,fun i hi=> ?_⟩
  by_cases e:i=j
  ·rw[e];exact h1
  ·have:=h3 i (by omega);omega
def Ez (f:Nat→Int):Nat→Int→Option Nat
 |0,_=>none
 |r+1,y=>if y=f r then some r else Ez f r y
theorem Ia {f:Nat→Int}:∀ {n:Nat} {y:Int} {i:Nat},Ez f n y=some i→i<n∧f i=y:=by
 intro n
 induction n with
 |zero=>intro y i h;cases h
 |succ n ih=>
  intro y i h;rw[Ez]at h
  split at h
  ·rename_i e;cases h;exact⟨by omega,e.symm⟩
  ·obtain⟨h1,h2⟩:=ih h;exact⟨by omega,h2⟩
theorem Ph {f:Nat→Int}:∀ {n:Nat} {y:Int},Ez f n y=none→∀i,i<n→f i≠y:=by
 intro n
 induction n with
 |zero=>intro y _ i hi;omega
 |succ n ih=>
  intro y h i hi;rw[Ez]at h
  split at h
  ·cases h
  ·rename_i e
   by_cases e2:i=n
   ·rw[e2];exact fun h=>e h.symm
   ·exact ih h i (by omega)
def By:List (Int×List Nat)→Int→Option (List Nat)
 |[],_=>none
 |p::l,x=>if p.1=x then some p.2 else By l x
theorem Xr {l:List (Int×List Nat)} {x:Int}:∀ {r:Nat},r<l.length→(∀i,i<r→(stb l i).1≠x)→(stb l r).1=x→By l x=some (stb l r).2:=by
 induction l with
 |nil=>intro r hr;simp at hr
 |cons p l ih=>
  intro r hr hno he;cases r with
  |zero=>have e:p.1=x:=he;rw[By,if_pos e];rfl
  |succ r=>
   have h0:p.1≠x:=hno 0 (by omega);rw[By,if_neg h0];exact ih (r:=r) (by simpa using hr) (fun i hi=>hno (i+1) (by omega)) he
theorem Zu {l:List (Int×List Nat)} {x:Int}:(∀i,i<l.length→(stb l i).1≠x)→By l x=none:=by
 induction l with
 |nil=>intro _;rfl
 |cons p l ih=>
  intro h;rw[By,if_neg (show¬p.1=x from h 0 (by simp))];exact ih fun i hi=>h (i+1) (by simp;omega)
def spK (l:List (Int×NodeD))(i:Nat):Int:=(spt l i).1
def stK (l:List (Int×List Nat))(i:Nat):Int:=(stb l i).1
theorem Zcu {l:List (Int×NodeD)}(h:Gq (spK l) l.length=true)(y:Int):Am l y=(Ez (spK l) l.length y).map fun i=>(spt l i).2:=by
 have hr:=Rb (Ko h);cases hl:Ez (spK l) l.length y with
 |none=>exact Oz fun i hi=>Ph hl i hi
 |some i=>
  obtain⟨h1,h2⟩:=Ia hl;exact Qt h1 (fun j hj e=>by have h3:spK l j<spK l i:=(hr i h1).2 j hj;have h4:spK l j=y:=e;omega) h2
theorem Zv {l:List (Int×List Nat)}(h:Gq (stK l) l.length=true)(y:Int):By l y=(Ez (stK l) l.length y).map fun i=>(stb l i).2:=by
 have hr:=Rb (Ko h);cases hl:Ez (stK l) l.length y with
 |none=>exact Zu fun i hi=>Ph hl i hi
 |some i=>
  obtain⟨h1,h2⟩:=Ia hl;exact Xr h1 (fun j hj e=>by have h3:stK l j<stK l i:=(hr i h1).2 j hj;have h4:stK l j=y:=e;omega) h2
theorem Blk.range {w:World} {g:Nat} {t:TypeId} {cs:List Value}(h:Blk w g t cs.toArray)(o:Nat):w.rangeAt g (0+o) (cs.drop o):=by
 intro j u hu;rw[h.cell];rw[List.getElem?_drop]at hu;simpa [Nat.add_comm]using hu
def Cp (s:SparseD):Bool:=Gq (spK s.op) s.op.length&&Gq (stK s.sh) s.sh.length
def NodesG (w:World)(G:Int→Option Value)(F:Int→Option NodeD):Prop:=∀x,match F x with
 |none=>G x=none
 |some d=>∃c,G x=some (.agg c)∧NodeC w d c
def RunsH (w:World)(G:Int→Option Value)(H:Int→Option (List Nat)):Prop:=∀x,match H x with
 |none=>G x=none
 |some L=>∃v,G x=some v∧Rd w v (bvs L)
theorem NodesG.below {w w':World} {G:Int→Option Value} {B:Nat} {F:Int→Option NodeD}(h:NodesG w G F)(hb:Below B w w')(hB:w.heap.size≤B):NodesG w' G F:=by
 intro x;have:=h x;revert this;cases F x with
 |none=>exact id
 |some d=>rintro⟨c,hc,hn⟩;exact⟨c,hc,hn.below hb hB⟩
theorem RunsH.below {w w':World} {G:Int→Option Value} {B:Nat} {F:Int→Option (List Nat)}(h:RunsH w G F)(hb:Below B w w')(hB:w.heap.size≤B):RunsH w' G F:=by
 intro x;have:=h x;revert this;cases F x with
 |none=>exact id
 |some d=>rintro⟨c,hc,hn⟩;exact⟨c,hc,hn.below hb hB⟩
def PieceN (w:World)(b n:Nat)(F:Int→Option NodeD):Prop:=∃G:Int→Option Value,MapF w b n G∧∀x,match F x with
 |none=>G x=none
 |some d=>∃c,G x=some (.agg c)∧NodeC w d c
def PieceH (w:World)(b n:Nat)(H:Int→Option (List Nat)):Prop:=∃G:Int→Option Value,MapF w b n G∧∀x,match H x with
 |none=>G x=none
 |some L=>∃v,G x=some v∧Rd w v (bvs L)
theorem PieceN.below {w w':World} {b n B:Nat} {F:Int→Option NodeD}(h:PieceN w b n F)(hb:Below B w w')(hB:w.heap.size≤B):PieceN w' b n F:=by
 obtain⟨G,h1,h2⟩:=h;refine⟨G,h1.below hb hB,fun x=> ?_⟩;have:=h2 x;revert this;cases F x with
 |none=>exact id
 |some d=>rintro⟨c,hc,hn⟩;exact⟨c,hc,hn.below hb hB⟩
theorem PieceH.below {w w':World} {b n B:Nat} {F:Int→Option (List Nat)}(h:PieceH w b n F)(hb:Below B w w')(hB:w.heap.size≤B):PieceH w' b n F:=by
 obtain⟨G,h1,h2⟩:=h;refine⟨G,h1.below hb hB,fun x=> ?_⟩;have:=h2 x;revert this;cases F x with
 |none=>exact id
 |some d=>rintro⟨c,hc,hn⟩;exact⟨c,hc,hn.below hb hB⟩
theorem Tj:(Tryz.prog.info? 87).map (·.size)=some 11:=by kernel_rfl
theorem Tk:(Tryz.prog.info? 89).map (·.size)=some 2:=by kernel_rfl
theorem Ib {α:Type} [Inhabited α] {n:Nat} {P:Nat→α→Prop}(h:∀i,i<n→∃c,P i c):∃C:Nat→α,∀i,i<n→P i (C i):=by
 refine⟨fun i=>if hi:i<n then Classical.choose (h i hi)else default,fun i hi=> ?_⟩;simp only[hi,dif_pos];exact Classical.choose_spec (h i hi)
theorem Blk.grownR {w w':World} {g:Nat} {t:TypeId} {cs:Array Value} {row:Nat}(h:Blk w g t cs)(hg:w.grownBy w' (some row))(hne:g≠row):Blk w' g t cs:=(hg.block g h.lt fun e=>hne (by cases e;rfl)).trans h
def Js (s:SparseD)(w0 w:World)(e:Ending)(w':World):Prop:=Below w.heap.size w w'∧
 if Cp s=true then∃ob sb,e=.returned (.tuple #[.agg #[.int .i64 s.leaves,.int .i64 s.own,.map (some ob),.map (some sb)],.bool true])∧w.heap.size≤ob∧w.heap.size≤sb∧ob≠sb∧∃G G',MapF w' ob s.op.length G∧NodesG w0 G (Am s.op)∧MapF w' sb s.sh.length G'∧RunsH w0 G' (By s.sh)
 else e=.returned (.tuple #[.agg #[.int .i64 0,.int .i64 0,.map none,.map none],.bool false])
theorem Zcv {s:SparseD} {w0 w w':World}(h:Cp s=false)(hb:Below w.heap.size w w'):Js s w0 w (.returned (.tuple #[.agg #[.int .i64 0,.int .i64 0,.map none,.map none],.bool false])) w':=⟨hb,by rw[if_neg (by rw[h];simp)]⟩
theorem Vg (w:World)(lv ow:Int)(oa ga:Option Addr)(n oc m gc h:Nat)(hh:h=w.heap.size)(cs:Array Value)(hcs:cs=#[.int .i64 lv,.int .i64 ow,.map (some (h+1+1)),.map (some (h+1+1+1))]):
  Blk (((((w.alloc (.cells #[.int .i64 lv,.int .i64 ow,.slice oa n oc,.slice ga m gc] 25)).alloc (.cells #[.int .i64 0,.int .i64 0,.map none,.map none] 101)).alloc (.map #[] 0)).alloc (.map #[] 0)).alloc (.cells cs 101)) h 25 #[.int .i64 lv,.int .i64 ow,.slice oa n oc,.slice ga m gc]∧Blk (((((w.alloc (.cells #[.int .i64 lv,.int .i64 ow,.slice oa n oc,.slice ga m gc] 25)).alloc (.cells #[.int .i64 0,.int .i64 0,.map none,.map none] 101)).alloc (.map #[] 0)).alloc (.map #[] 0)).alloc (.cells cs 101)) (h+1) 101 #[.int .i64 0,.int .i64 0,.map none,.map none]∧MapF (((((w.alloc (.cells #[.int .i64 lv,.int .i64 ow,.slice oa n oc,.slice ga m gc] 25)).alloc (.cells #[.int .i64 0,.int .i64 0,.map none,.map none] 101)).alloc (.map #[] 0)).alloc (.map #[] 0)).alloc (.cells cs 101)) (h+1+1) 0 (fun _=>none)∧MapF (((((w.alloc (.cells #[.int .i64 lv,.int .i64 ow,.slice oa n oc,.slice ga m gc] 25)).alloc (.cells #[.int .i64 0,.int .i64 0,.map none,.map none] 101)).alloc (.map #[] 0)).alloc (.map #[] 0)).alloc (.cells cs 101)) (h+1+1+1) 0 (fun _=>none)∧Blk (((((w.alloc (.cells #[.int .i64 lv,.int .i64 ow,.slice oa n oc,.slice ga m gc] 25)).alloc (.cells #[.int .i64 0,.int .i64 0,.map none,.map none] 101)).alloc (.map #[] 0)).alloc (.map #[] 0)).alloc (.cells cs 101)) (h+1+1+1+1) 101 cs∧Below h w (((((w.alloc (.cells #[.int .i64 lv,.int .i64 ow,.slice oa n oc,.slice ga m gc] 25)).alloc (.cells #[.int .i64 0,.int .i64 0,.map none,.map none] 101)).alloc (.map #[] 0)).alloc (.map #[] 0)).alloc (.cells cs 101))∧(((((w.alloc (.cells #[.int .i64 lv,.int .i64 ow,.slice oa n oc,.slice ga m gc] 25)).alloc (.cells #[.int .i64 0,.int .i64 0,.map none,.map none] 101)).alloc (.map #[] 0)).alloc (.map #[] 0)).alloc (.cells cs 101)).heap.size=h+5:=by
 have s1:(w.alloc (.cells #[.int .i64 lv,.int .i64 ow,.slice oa n oc,.slice ga m gc] 25)).heap.size=h+1:=(by simp[hh]);have s2:((w.alloc (.cells #[.int .i64 lv,.int .i64 ow,.slice oa n oc,.slice ga m gc] 25)).alloc (.cells #[.int .i64 0,.int .i64 0,.map none,.map none] 101)).heap.size=h+1+1:=(by simp[hh]);have s3:(((w.alloc (.cells #[.int .i64 lv,.int .i64 ow,.slice oa n oc,.slice ga m gc] 25)).alloc (.cells #[.int .i64 0,.int .i64 0,.map none,.map none] 101)).alloc (.map #[] 0)).heap.size=h+1+1+1:=(by simp[hh]);have s4:((((w.alloc (.cells #[.int .i64 lv,.int .i64 ow,.slice oa n oc,.slice ga m gc] 25)).alloc (.cells #[.int .i64 0,.int .i64 0,.map none,.map none] 101)).alloc (.map #[] 0)).alloc (.map #[] 0)).heap.size=h+1+1+1+1:=(by simp[hh]);have b0:=Blk.new w 25 #[.int .i64 lv,.int .i64 ow,.slice oa n oc,.slice ga m gc];have b1:=Blk.new (w.alloc (.cells #[.int .i64 lv,.int .i64 ow,.slice oa n oc,.slice ga m gc] 25)) 101 #[.int .i64 0,.int .i64 0,.map none,.map none];have b2:=MapF.made ((w.alloc (.cells #[.int .i64 lv,.int .i64 ow,.slice oa n oc,.slice ga m gc] 25)).alloc (.cells #[.int .i64 0,.int .i64 0,.map none,.map none] 101));have b3:=MapF.made (((w.alloc (.cells #[.int .i64 lv,.int .i64 ow,.slice oa n oc,.slice ga m gc] 25)).alloc (.cells #[.int .i64 0,.int .i64 0,.map none,.map none] 101)).alloc (.map #[] 0));have b4:=Blk.new ((((w.alloc (.cells #[.int .i64 lv,.int .i64 ow,.slice oa n oc,.slice ga m gc] 25)).alloc (.cells #[.int .i64 0,.int .i64 0,.map none,.map none] 101)).alloc (.map #[] 0)).alloc (.map #[] 0)) 101 cs;rw[←hh]at b0;rw[s1]at b1;rw[s2]at b2;rw[s3]at b3;rw[s4]at b4;have B:=(((((Below.refl h w).alloc (by omega) (.cells #[.int .i64 lv,.int .i64 ow,.slice oa n oc,.slice ga m gc] 25)).alloc (by omega) (.cells #[.int .i64 0,.int .i64 0,.map none,.map none] 101)).alloc (by omega) (.map #[] 0)).alloc (by omega) (.map #[] 0)).alloc (by omega) (.cells cs 101);exact⟨(((b0.alloc _).alloc _).alloc _).alloc _,((b1.alloc _).alloc _).alloc _,(b2.alloc _).alloc _,b3.alloc _,b4,B,by simp[hh]⟩
theorem Vh (v:Value)(s:SparseD)(w0 w:World)(h:SparseR w0 v s)(hw0:Below w0.heap.size w0 w)(hok:SparseOk s)(h1:s.op.length≤10000)(h2:s.sh.length≤10000):
  Calls Tryz.prog 148 #[v] w (Js s w0 w):=by
 obtain⟨o,g,rfl,ho,hg⟩:=h;obtain⟨oa,oc,rfl,hoc,hoc2⟩:=ho.sl;obtain⟨ga,gc,rfl,hgc,hgc2⟩:=hg.sl;obtain⟨C,hC⟩:=Ib (n:=s.op.length) (P:=fun i c=>∃b off,oa=some ⟨b,off,none⟩∧b<w0.heap.size∧NodeC w0 (spt s.op i).2 c∧w0.rangeAt b (off+i*11) (.int .i64 (spK s.op i)::c.toList)) fun i hi=>by
  obtain⟨b,off,c,e,h1,h2,h3⟩:=ho.at hi;exact⟨c,b,off,e,h1,h2,h3⟩
 obtain⟨U,hU⟩:=Ib (n:=s.sh.length) (P:=fun i u=>∃b off,ga=some ⟨b,off,none⟩∧b<w0.heap.size∧Rd w0 u (bvs (stb s.sh i).2)∧w0.rangeAt b (off+i*2) [.int .i64 (stK s.sh i),u]) fun i hi=>by
  obtain⟨b,off,c,e,h1,h2,h3⟩:=hg.at hi;exact⟨c,b,off,e,h1,h2,h3⟩
 have HW0:=Hd hw0;have HC:=Hd hC;have HU:=Hd hU;have HKN:=Hd fun(i:Nat) (hi:i<s.op.length)=>(show inI (spK s.op i)from(hok.op _ (Kk hi)).1);have HKH:=Hd fun(i:Nat) (hi:i<s.sh.length)=>(show inI (stK s.sh i)from(hok.sh _ (Qs hi)).1);have NO1:=fun(i:Nat) (hi:i<s.op.length) (h:spK s.op i≤Fi (spK s.op) i)=>(show Cp s=false from by rw[Cp,Ti hi h];rfl);have NO2:=fun(i:Nat) (hi:i<s.sh.length) (h:stK s.sh i≤Fi (stK s.sh) i)=>(show Cp s=false from by rw[Cp,Ti hi h];simp);have FIN:=fun(w':World) (ob sb:Nat) (hb:Below w.heap.size w w') (r1:∀i,i<s.op.length→Fi (spK s.op) i<spK s.op i) (r2:∀i,i<s.sh.length→Fi (stK s.sh) i<stK s.sh i) (k1:w.heap.size≤ob) (k2:w.heap.size≤sb) (k3:ob≠sb)
   (m1:MapF w' ob s.op.length fun y=>(Ez (spK s.op) s.op.length y).map fun i=> .agg (C i)) (m2:MapF w' sb s.sh.length fun y=>(Ez (stK s.sh) s.sh.length y).map fun i=>U i)=>
  (show Js s w0 w (.returned (.tuple #[.agg #[.int .i64 s.leaves,.int .i64 s.own,.map (some ob),.map (some sb)],.bool true])) w' from by
   have f1:=Kn r1;have f2:=Kn r2;refine⟨hb,?_⟩;rw[if_pos (by rw[Cp,f1,f2];rfl)];refine⟨ob,sb,rfl,k1,k2,k3,_,_,m1,fun x=> ?_,m2,fun x=> ?_⟩
   ·rw[Zcu f1];try dsimp only
    cases hl:Ez (spK s.op) s.op.length x with
    |none=>rfl
    |some i=>
     obtain⟨b,off,-,-,hn,-⟩:=hC i (Ia hl).1;exact⟨C i,rfl,hn⟩
   ·rw[Zv f2];try dsimp only
    cases hl:Ez (stK s.sh) s.sh.length x with
    |none=>rfl
    |some i=>
     obtain⟨b,off,-,-,hn,-⟩:=hU i (Ia hl).1;exact⟨U i,rfl,hn⟩)
 have HNO1:=Hd NO1;have HNO2:=Hd NO2;have HFIN:=Hd FIN;have HNP:=Hd fun(w':World)=>Zcv (s:=s) (w0:=w0) (w:=w) (w':=w');clear NO1 NO2 FIN hC hU hok;obtain⟨PB,hPB⟩:=eX (Cp s);rw[←hPB]at HNO1 HNO2 HNP;obtain⟨QP,hQP⟩:=eX (Js s w0 w);rw[←hQP]at HFIN HNP⊢;obtain⟨lv,hlv⟩:=eX s.leaves;obtain⟨ow,how⟩:=eX s.own;obtain⟨f,hf⟩:=eX (spK s.op);obtain⟨k,hk⟩:=eX (stK s.sh);obtain⟨n,hn⟩:=eX s.op.length;obtain⟨m,hm⟩:=eX s.sh.length;rw[←hlv,←how]at HFIN⊢;rw[←hf]at HC HKN HNO1 HFIN;rw[←hk]at HU HKH HNO2 HFIN;rw[←hn]at HC HKN HNO1 HFIN hoc h1⊢;rw[←hm]at HU HKH HNO2 HFIN hgc h2⊢;clear hPB hQP hlv how hf hk hn hm ho hg;obtain⟨N,hN⟩:=eX w.heap.size;have HNE:=Hd hN;have MM1:∀w,(Instr.makeMap 98 none).run Tryz.prog w=.ok (.map (some w.heap.size)) (w.alloc (.map #[] 0)):=fun w=>rfl;have MM2:∀w,(Instr.makeMap 99 none).run Tryz.prog w=.ok (.map (some w.heap.size)) (w.alloc (.map #[] 0)):=fun w=>rfl;go_enter Tryz.func148,Tryz.ntmps148;go_wp2_with fail;obtain⟨h,hh⟩:=eX w.heap.size;have HH:=Hd hh;have ST:=Vg w lv ow oa ga n oc m gc h hh #[.int .i64 lv,.int .i64 ow,.map (some (h+1+1)),.map (some (h+1+1+1))] rfl;rw[←hh];generalize hw5:(((((w.alloc (.cells #[.int .i64 lv,.int .i64 ow,.slice oa n oc,.slice ga m gc] 25)).alloc (.cells #[.int .i64 0,.int .i64 0,.map none,.map none] 101)).alloc (.map #[] 0)).alloc (.map #[] 0)).alloc (.cells #[.int .i64 lv,.int .i64 ow,.map (some (h+1+1)),.map (some (h+1+1+1))] 101))=w5 at ST⊢;obtain⟨b0,b1,b2,b3,b4,B5,hs5⟩:=ST;have HBX:=Hd b0;have HRB0:=Hd b1;have HM0:=Hd b2;have HN0:=Hd b3;have HPV0:=Hd b4;have HB5:=Hd B5;have HS5:=Hd hs5;clear hw5 hh b0 b1 b2 b3 b4 B5 hs5 MM1 MM2
 go_loopg [5,20] n (fun q lastv iv wr=>∃r:Nat,r+q=n∧iv=.int .i64 (r:Nat)∧lastv=.int .i64 (Fi f r)∧(∀i,i<r→Fi f i<f i)∧MapF wr (h+1+1) r (fun y=>(Ez f r y).map fun i=> .agg (C i))∧MapF wr (h+1+1+1) 0 (fun _=>none)∧Blk wr (h+1+1+1+1) 101 #[.int .i64 lv,.int .i64 ow,.map (some (h+1+1)),.map (some (h+1+1+1))]∧Below (h+1+1) w5 wr∧h+5≤wr.heap.size)
 case atStart=>exact⟨0,by omega,rfl,rfl,fun i hi=>by omega,HM0.out,HN0.out,HPV0.out,bR,by rw[HS5.out];exact lR⟩
 case round=>
  obtain⟨r,hr,rfl,rfl,hri,hm1,hm2,hpv,hb,hsz⟩:=hrel;have HR:=Hd hr;have HRI:=Hd hri;have HM1:=Hd hm1;have HM2:=Hd hm2;have HPV:=Hd hpv;have HB:=Hd hb;have HSZ:=Hd hsz;have HBC:=Hd (HB5.out.trans (hb.mono (show h≤h+1+1 by omega)));have HRB:=Hd (HRB0.out.below hb (fL _));clear hr hri hm1 hm2 hpv hb hsz
  by_cases hlt:r<n
  ·have hlt':decide (r<n)=true:=decide_eq_true hlt;have hltI:(r:Int)<(n:Int):=(by omega);obtain⟨b,off,rfl,hbl,hnc,hra⟩:=HC.out r hlt;obtain⟨x0,x1,x2,x3,x4,x5,x6,x7,x8,x9,hcr⟩:=hnc.ten;have HONE:=Hd hnc.oneL;rw[hcr]at hra HONE;have HONE:=Hd (show(#[Value.int .i64 (f r),x0,x1,x2,x3,x4,x5,x6,x7,x8,x9]:Array Value).toList.all (·.oneCell')=true from by
    change(true&&(#[x0,x1,x2,x3,x4,x5,x6,x7,x8,x9]:Array Value).toList.all (·.oneCell'))=true;rw[Bool.true_and];exact HONE.out)
   have HCR:=Hd hcr;have HRA:=Hd (An hra (HW0.out.trans (HBC.out.mono (by rw[HH.out];exact HW0.out.size))) hbl);obtain⟨hx1,hx2⟩:=HKN.out r hlt;have HIN:=Hd (show inI (f r)from HKN.out r hlt);have HSTP:=Hd (show∀i,i<r+1→i≠r→Fi f i<f i from fun i hi hne=>HRI.out i (by omega));obtain⟨x,hx⟩:=eX (f r);rw[←hx]at HRA HONE hx1 hx2 HIN;have HX:=Hd hx;obtain⟨p,hp⟩:=eX (Fi f r);rw[←hp];have HP:=Hd hp;clear hnc hra hcr hx hp
   by_cases hxp:x≤p
   ·have hxp':decide (x≤p)=true:=decide_eq_true hxp;have HE:=Hd (fun(w':World) (hb:Below w.heap.size w w')=>HNP.out w' (HNO1.out r hlt (by rw[←HX.out,←HP.out];exact hxp)) hb);clear hxp;obtain⟨q,hq⟩:=eX wr.heap.size;have HQ:=Hd hq;have HQK:=Hd (show Blk (wr.alloc (.cells #[.int .i64 0,.int .u8 0,.slice none 0 0,.slice none 0 0,.slice none 0 0,.int .u8 0,.slice none 0 0,.slice none 0 0,.slice none 0 0,.slice none 0 0,.slice none 0 0] 87)) q 87 #[.int .i64 0,.int .u8 0,.slice none 0 0,.slice none 0 0,.slice none 0 0,.int .u8 0,.slice none 0 0,.slice none 0 0,.slice none 0 0,.slice none 0 0,.slice none 0 0] by rw[hq];exact Blk.new _ _ _);clear hq;go_wp2_with (first|(refine wpList_load_mid rfl 87 (.tmp 22) rfl b (off+r*11) rfl [.int .i64 x,x0,x1,x2,x3,x4,x5,x6,x7,x8,x9] _ HRA.out Tryz.underlying87 rfl Tj ?_)|(refine Aa rfl 87 (.tmp 7) (.tmp 23) rfl wr.heap.size #[.int .i64 x,x0,x1,x2,x3,x4,x5,x6,x7,x8,x9] rfl rfl 87 #[.int .i64 0,.int .u8 0,.slice none 0 0,.slice none 0 0,.slice none 0 0,.int .u8 0,.slice none 0 0,.slice none 0 0,.slice none 0 0,.slice none 0 0,.slice none 0 0] (HQ.out▸HQK.out) (by kernel_rfl) rfl HONE.out ?_));rintro w7 hblk hbl7 hoth hsize;rw[←HQ.out]at hblk⊢;have HB7:=Hd (((Below.refl wr.heap.size wr).alloc lR (.cells #[.int .i64 0,.int .u8 0,.slice none 0 0,.slice none 0 0,.slice none 0 0,.int .u8 0,.slice none 0 0,.slice none 0 0,.slice none 0 0,.slice none 0 0,.slice none 0 0] 87)).trans (hbl7 wr.heap.size lR));have HBC:=Hd (HBC.out.trans (HB7.out.mono (by have:=HSZ.out;omega)));have HRB:=Hd (HRB.out.below HB7.out HRB.out.lt);have HSZ7:=Hd (show w7.heap.size=q+1 from by rw[hsize];simp[HQ.out]);have HK7:=Hd hblk;have HM1:=Hd (HM1.out.below HB7.out lR);have HM2:=Hd (HM2.out.below HB7.out lR);have HPV:=Hd (HPV.out.below HB7.out HPV.out.lt);have HBN:=Hd (HB.out.trans (HB7.out.mono (by have:=HSZ.out;omega)));have k0:=hblk.cell 0;simp only[bK,bL]at k0;have HRN:=Hd (show w7.rangeAt q (0+1) [x0,x1,x2,x3,x4,x5,x6,x7,x8,x9]from hblk.range 1);clear hblk hbl7 hoth hsize;go_wp2_with (refine Aa rfl 101 (.tmp 2) (.tmp 28) rfl (h+1) #[.int .i64 0,.int .i64 0,.map none,.map none] rfl rfl 101 #[.int .i64 0,.int .i64 0,.map none,.map none] HRB.out (by kernel_rfl) rfl rfl ?_);rintro w9 hblk hbl hoth hsize;have HK:=Hd hblk;have HB9:=Hd (HBC.out.trans (hbl h (fN h)));clear hblk hbl hoth hsize;go_wp2_with fail;refine bodyPost_ret (v:=.tuple #[.agg #[.int .i64 0,.int .i64 0,.map none,.map none],.bool false]) (Af Tryz.results148 _ _ (h+1) _ _ _ rfl HK.out Tryz.underlying101 rfl (by kernel_rfl)) rfl ?_;exact HE.out _ (by rw[←HH.out];exact HB9.out)
   ·have hxp':decide (x≤p)=false:=decide_eq_false hxp;have HXP:=Hd (show p<x by omega);clear hxp;obtain⟨q,hq⟩:=eX wr.heap.size;have HQ:=Hd hq;have HQK:=Hd (show Blk (wr.alloc (.cells #[.int .i64 0,.int .u8 0,.slice none 0 0,.slice none 0 0,.slice none 0 0,.int .u8 0,.slice none 0 0,.slice none 0 0,.slice none 0 0,.slice none 0 0,.slice none 0 0] 87)) q 87 #[.int .i64 0,.int .u8 0,.slice none 0 0,.slice none 0 0,.slice none 0 0,.int .u8 0,.slice none 0 0,.slice none 0 0,.slice none 0 0,.slice none 0 0,.slice none 0 0] by rw[hq];exact Blk.new _ _ _);clear hq;go_wp2_with (first|(refine wpList_load_mid rfl 87 (.tmp 22) rfl b (off+r*11) rfl [.int .i64 x,x0,x1,x2,x3,x4,x5,x6,x7,x8,x9] _ HRA.out Tryz.underlying87 rfl Tj ?_)|(refine Aa rfl 87 (.tmp 7) (.tmp 23) rfl wr.heap.size #[.int .i64 x,x0,x1,x2,x3,x4,x5,x6,x7,x8,x9] rfl rfl 87 #[.int .i64 0,.int .u8 0,.slice none 0 0,.slice none 0 0,.slice none 0 0,.int .u8 0,.slice none 0 0,.slice none 0 0,.slice none 0 0,.slice none 0 0,.slice none 0 0] (HQ.out▸HQK.out) (by kernel_rfl) rfl HONE.out ?_));rintro w7 hblk hbl7 hoth hsize;rw[←HQ.out]at hblk⊢;have HB7:=Hd (((Below.refl wr.heap.size wr).alloc lR (.cells #[.int .i64 0,.int .u8 0,.slice none 0 0,.slice none 0 0,.slice none 0 0,.int .u8 0,.slice none 0 0,.slice none 0 0,.slice none 0 0,.slice none 0 0,.slice none 0 0] 87)).trans (hbl7 wr.heap.size lR));have HBC:=Hd (HBC.out.trans (HB7.out.mono (by have:=HSZ.out;omega)));have HRB:=Hd (HRB.out.below HB7.out HRB.out.lt);have HSZ7:=Hd (show w7.heap.size=q+1 from by rw[hsize];simp[HQ.out]);have HK7:=Hd hblk;have HM1:=Hd (HM1.out.below HB7.out lR);have HM2:=Hd (HM2.out.below HB7.out lR);have HPV:=Hd (HPV.out.below HB7.out HPV.out.lt);have HBN:=Hd (HB.out.trans (HB7.out.mono (by have:=HSZ.out;omega)));have k0:=hblk.cell 0;simp only[bK,bL]at k0;have HRN:=Hd (show w7.rangeAt q (0+1) [x0,x1,x2,x3,x4,x5,x6,x7,x8,x9]from hblk.range 1);clear hblk hbl7 hoth hsize;have hn1:r<maxLen:=(by unfold maxLen;omega);have p2:=HPV.out.cell 2;simp only[bK,bL,bM]at p2;go_wp2_with (first|(refine wpList_load_mid rfl 52 (.tmp 35) rfl q 1 rfl [x0,x1,x2,x3,x4,x5,x6,x7,x8,x9] _ HRN.out Tryz.underlying52 rfl Be ?_)|(refine Ej rfl (.tmp 32) (.tmp 34) (.tmp 36) rfl Tryz.underlying98 rfl HM1.out rfl HIN.out hn1 _ rfl ?_));rintro w8 hm8 hg8;have HM8:=Hd (hm8.congr (G:=fun y=>(Ez f (r+1) y).map fun i=>Value.agg (C i)) (fun y=>by
     show(Ez f (r+1) y).map _=_;rw[Ez,←HX.out]
     by_cases e:y=x
     ·rw[if_pos e,if_pos e,←HCR.out];rfl
     ·rw[if_neg e,if_neg e]))
    have HM28:=Hd (HM2.out.grown hg8 (by intro e;cases e));have HPV8:=Hd (HPV.out.grownR hg8 (by omega));have HB8:=Hd (HBN.out.trans ((Below.refl (h+1+1) w7).grown hg8 (by have:=HSZ7.out;have:=HQ.out;have:=HSZ.out;omega) (by intro k e;cases e;exact lR)));have HS8:=Hd (show h+5≤w8.heap.size from by have:=hg8.size;have:=HSZ7.out;have:=HQ.out;have:=HSZ.out;omega);clear hm8 hg8;go_wp2_with fail;go_roundg (gk-1);case measure=>have:=HR.out;omega
    case rel=>
     refine⟨r+1,by have:=HR.out;omega,by go_num,?_,fun i hi=> ?_,HM8.out,HM28.out,HPV8.out,HB8.out,HS8.out⟩
     ·unfold Fi;rw[if_neg (by omega),fM,←HX.out]
     ·by_cases e:i=r
      ·rw[e,←HX.out,←HP.out];exact HXP.out
      ·exact HRI.out i (by omega)
  ·obtain rfl:r=n:=(by have:=HR.out;omega);have hlt':decide (r<r)=false:=decide_eq_false hlt;have c3:=(HBX.out.below HB.out (by omega)).cell 3;have c2:=(HBX.out.below HB.out (by omega)).cell 2;simp only[bK,bL,bM]at c2 c3;obtain⟨wo,rfl⟩:∃wo:World,wo=wr:=⟨_,rfl⟩;clear hlt;go_wp2_with fail;clear c2 c3
   go_loopg [5,41] m (fun q lastv iv wr=>∃i:Nat,i+q=m∧iv=.int .i64 (i:Nat)∧lastv=.int .i64 (Fi k i)∧(∀j,j<i→Fi k j<k j)∧MapF wr (h+1+1) r (fun y=>(Ez f r y).map fun i=> .agg (C i))∧MapF wr (h+1+1+1) i (fun y=>(Ez k i y).map fun i=>U i)∧Blk wr (h+1+1+1+1) 101 #[.int .i64 lv,.int .i64 ow,.map (some (h+1+1)),.map (some (h+1+1+1))]∧Below (h+1+1) w5 wr∧h+5≤wr.heap.size)
   case atStart=>exact⟨0,by omega,rfl,rfl,fun i hi=>by omega,HM1.out,HM2.out,HPV.out,HB.out,HSZ.out⟩
   case round=>
    obtain⟨i,hr,rfl,rfl,hri,hm1,hm2,hpv,hb,hsz⟩:=hrel;have HR:=Hd hr;have HRI2:=Hd hri;have HM1:=Hd hm1;have HM2:=Hd hm2;have HPV:=Hd hpv;have HB:=Hd hb;have HSZ:=Hd hsz;have HBC:=Hd (HB5.out.trans (hb.mono (show h≤h+1+1 by omega)));have HRB:=Hd (HRB0.out.below hb (fL _));clear hr hri hm1 hm2 hpv hb hsz
    by_cases hlt:i<m
    ·have hlt':decide (i<m)=true:=decide_eq_true hlt;have hltI:(i:Int)<(m:Int):=(by omega);obtain⟨b,off,rfl,hbl,hnc,hra⟩:=HU.out i hlt;obtain⟨ua,un,uc,hcr⟩:∃a n c,U i=.slice a n c:=(by obtain⟨a,c,e,_⟩:=hnc;exact⟨_,_,_,e⟩);rw[hcr]at hra;have HCR:=Hd hcr;have HRA:=Hd (An hra (HW0.out.trans (HBC.out.mono (by rw[HH.out];exact HW0.out.size))) hbl);obtain⟨hx1,hx2⟩:=HKH.out i hlt;have HIN:=Hd (show inI (k i)from HKH.out i hlt);have HRBA:=Hd (HRB.out.alloc (.cells #[.int .i64 (k i),.slice ua un uc] 89));obtain⟨x,hx⟩:=eX (k i);rw[←hx]at HRA hx1 hx2 HIN HRBA;have HX:=Hd hx;obtain⟨p,hp⟩:=eX (Fi k i);rw[←hp];have HP:=Hd hp;clear hnc hra hcr hx hp
     by_cases hxp:x≤p
     ·have hxp':decide (x≤p)=true:=decide_eq_true hxp;have HE:=Hd (fun(w':World) (hb:Below w.heap.size w w')=>HNP.out w' (HNO2.out i hlt (by rw[←HX.out,←HP.out];exact hxp)) hb);clear hxp;go_wp2_with (first|(refine wpList_load_mid rfl 89 (.tmp 43) rfl b (off+i*2) rfl [.int .i64 x,.slice ua un uc] _ HRA.out Tryz.underlying89 rfl Tk ?_)|(refine Aa rfl 101 (.tmp 2) (.tmp 49) rfl (h+1) #[.int .i64 0,.int .i64 0,.map none,.map none] rfl rfl 101 #[.int .i64 0,.int .i64 0,.map none,.map none] HRBA.out (by kernel_rfl) rfl rfl ?_));rintro w9 hblk hbl hoth hsize;have HK:=Hd hblk;have HB9:=Hd ((HBC.out.alloc (by have:=HSZ.out;omega) (.cells #[.int .i64 x,.slice ua un uc] 89)).trans (hbl h (fN h)));clear hblk hbl hoth hsize;go_wp2_with fail;refine bodyPost_ret (v:=.tuple #[.agg #[.int .i64 0,.int .i64 0,.map none,.map none],.bool false]) (Af Tryz.results148 _ _ (h+1) _ _ _ rfl HK.out Tryz.underlying101 rfl (by kernel_rfl)) rfl ?_;exact HE.out _ (by rw[←HH.out];exact HB9.out)
     ·have hxp':decide (x≤p)=false:=decide_eq_false hxp;have HXP:=Hd (show p<x by omega);have hn1:i<maxLen:=(by unfold maxLen;omega);have p3:=HPV.out.cell 3;simp only[bK,bL,bM]at p3;have hpl:=HPV.out.lt;clear hxp;go_wp2_with (first|(refine wpList_load_mid rfl 89 (.tmp 43) rfl b (off+i*2) rfl [.int .i64 x,.slice ua un uc] _ HRA.out Tryz.underlying89 rfl Tk ?_)|(refine Ej rfl (.tmp 53) (.tmp 55) (.tmp 57) rfl Tryz.underlying99 rfl (HM2.out.alloc _) rfl HIN.out hn1 _ rfl ?_));rintro w8 hm8 hg8;have HM8:=Hd (hm8.congr (G:=fun y=>(Ez k (i+1) y).map fun i=>U i) (fun y=>by
       show(Ez k (i+1) y).map _=_;rw[Ez,←HX.out]
       by_cases e:y=x
       ·rw[if_pos e,if_pos e,←HCR.out];rfl
       ·rw[if_neg e,if_neg e]))
      have HM28:=Hd ((HM1.out.alloc (.cells #[.int .i64 x,.slice ua un uc] 89)).grown hg8 (by intro e;simp at e));have HPV8:=Hd ((HPV.out.alloc (.cells #[.int .i64 x,.slice ua un uc] 89)).grownR hg8 (by omega));have HB8:=Hd ((HB.out.alloc (by have:=HSZ.out;omega) (.cells #[.int .i64 x,.slice ua un uc] 89)).trans ((Below.refl (h+1+1) _).grown hg8 (by have:=HSZ.out;simp;omega) (by intro k e;cases e;omega)));have HS8:=Hd (show h+5≤w8.heap.size from by have:=hg8.size;simp at this;have:=HSZ.out;omega);clear hm8 hg8;go_wp2_with fail;go_roundg (gk-1);case measure=>have:=HR.out;omega
      case rel=>
       refine⟨i+1,by have:=HR.out;omega,by go_num,?_,fun j hj=> ?_,HM28.out,HM8.out,HPV8.out,HB8.out,HS8.out⟩
       ·unfold Fi;rw[if_neg (by omega),fM,←HX.out]
       ·by_cases e:j=i
        ·rw[e,←HX.out,←HP.out];exact HXP.out
        ·exact HRI2.out j (by omega)
    ·obtain rfl:i=m:=(by have:=HR.out;omega);have hlt':decide (i<i)=false:=decide_eq_false hlt;have p0:=HPV.out.cell 0;have p1:=HPV.out.cell 1;have p2:=HPV.out.cell 2;have p3:=HPV.out.cell 3;simp only[bK,bL,bM]at p0 p1 p2 p3;clear hlt;go_wp2_with (refine Aa rfl 101 (.tmp 2) (.tmp 59) rfl (h+1) #[.int .i64 lv,.int .i64 ow,.map (some (h+1+1)),.map (some (h+1+1+1))] rfl rfl 101 #[.int .i64 0,.int .i64 0,.map none,.map none] HRB.out (by kernel_rfl) rfl rfl ?_);rintro w9 hblk hbl hoth hsize;have HK:=Hd hblk;have HB9:=Hd (HBC.out.trans (hbl h (fN h)));have hmk:∀ {b:Nat} {n:Nat} {G:Int→Option Value},MapF wr b n G→b≠h+1→MapF w9 b n G:=fun {b n G} hm hne=>by
      obtain⟨D,⟨es,clock,h0,h1⟩,h2⟩:=hm;exact⟨D,⟨es,clock,(hoth b hne).trans h0,h1⟩,h2⟩
     have HMA:=Hd (hmk HM1.out (by omega));have HMB:=Hd (hmk HM2.out (by omega));clear hblk hbl hoth hsize hmk;go_wp2_with fail;refine bodyPost_ret (v:=.tuple #[.agg #[.int .i64 lv,.int .i64 ow,.map (some (h+1+1)),.map (some (h+1+1+1))],.bool true]) (Af Tryz.results148 _ _ (h+1) _ _ _ rfl HK.out Tryz.underlying101 rfl (by kernel_rfl)) rfl ?_;exact HFIN.out _ _ _ (by rw[←HH.out];exact HB9.out) HRI.out HRI2.out (by rw[←HH.out];omega) (by rw[←HH.out];omega) (by omega) HMA.out HMB.out
def Zhn (x:Int):Nat:=if eH x 2=1 then 1 else 2
def Ce (x:Int)(d:NodeD):Bool:=Aq d&&(decide (d.kind≠Zhn x)&& !(d.par.late.any fun u=> !Bt (2*u) x))
theorem Ziw {d:NodeD}(h:Aq d=true):∀u∈d.par.late,0≤u∧u<1000000:=fun u hu=>by have:=Eo (Ck h) u hu;omega
theorem Vi (x:Int)(d:NodeD)(c:Array Value)(w:World)(h:NodeC w d c)(hk:NodeOk d)(hs:Cb d=true)(hx:inI x):
  Calls Tryz.prog 180 #[.int .i64 x,.agg c] w fun e w'=>e=.returned (.bool (Ce x d))∧Below w.heap.size w w':=by
 have HNB:=Hd fun(W:World) (hw:Below w.heap.size w W) (r:Bool) (hr:Aq d=r)=>Mp d c W (h.below hw lR) hk hs r hr;have hk256:=hk.kind;have HLM:=Hd (Ziw (d:=d));have HLL:=Hd (show d.par.late.length≤1000000 by have:=of_decide_eq_true hs;omega);obtain⟨x1,x2,x3,x4,x5,x6,x7,x8,b3,e3,rfl,hrd⟩:=h.frame;unfold Ce;obtain⟨kd,hkd⟩:=eX d.kind;obtain⟨L,hL⟩:=eX d.par.late;rw[←hkd]at HNB hk256⊢;rw[←hL]at HNB HLM HLL hrd⊢;obtain⟨l8,hl8⟩:=eX L.length;rw[←hl8]at HNB hrd⊢;have HL8:=Hd hl8;have HRD:=Hd hrd;obtain⟨rb,hrb⟩:=eX (Aq d);have HNB2:=Hd fun(W:World) (hw:Below w.heap.size w W)=>HNB.out W hw rb hrb.symm;rw[←hrb]at HLM⊢;unfold inI at hx;obtain⟨nk,hnk⟩:=eX (Zhn x);rw[←hnk];have HNK:=Hd hnk;have H2:=Hd (show Below w.heap.size w ((w.alloc (.cells #[.int .i64 x] 3)).alloc (.cells #[.int .u8 (kd:Nat),x1,x2,x3,x4,x5,x6,x7,x8,.slice b3 l8 e3] 52))from(bR.alloc lR _).alloc (by simp) _);have HB0:=Hd (show Blk ((w.alloc (.cells #[.int .i64 x] 3)).alloc (.cells #[.int .u8 (kd:Nat),x1,x2,x3,x4,x5,x6,x7,x8,.slice b3 l8 e3] 52)) w.heap.size 3 #[.int .i64 x]from(Blk.new w _ _).alloc _);have HB1:=Hd (show Blk ((w.alloc (.cells #[.int .i64 x] 3)).alloc (.cells #[.int .u8 (kd:Nat),x1,x2,x3,x4,x5,x6,x7,x8,.slice b3 l8 e3] 52)) (w.heap.size+1) 52 #[.int .u8 (kd:Nat),x1,x2,x3,x4,x5,x6,x7,x8,.slice b3 l8 e3]from by
  have h1:=Blk.new (w.alloc (.cells #[.int .i64 x] 3)) 52 #[.int .u8 (kd:Nat),x1,x2,x3,x4,x5,x6,x7,x8,.slice b3 l8 e3];simpa using h1)
 clear HNB hk hs h hrd hkd hL hl8 hrb hnk;cases rb with
 |false=>
  have HE:=Hd (show(false&&(decide (kd≠nk)&& !(L.any fun u=> !Bt (2*u) x)))=false from rfl)
  by_cases ht:eH x 2=1
  ·have ht':(eH x 2==1)=true:=(by rw[beq_iff_eq];exact ht);clear ht;go_enter Tryz.func180,Tryz.ntmps180;go_wp2_with fail;refine(HNB2.out _ H2.out).mono ?_;rintro e w3 ⟨hb3,v3,rfl,ho3⟩;have HB3:=Hd (H2.out.trans (hb3.mono H2.out.size));have HK0:=Hd (HB0.out.below hb3 HB0.out.lt);have HK1:=Hd (HB1.out.below hb3 HB1.out.lt);have c0:=HK0.out.cell 0;have k0:=HK1.out.cell 0;have k9:=HK1.out.cell 9;simp only[bK,bL,bM]at c0 k0 k9;obtain⟨p1,p2,p3,rfl⟩:=Dl ho3;clear hb3 ho3;go_wp2_with fail;go_ret;exact⟨Dg (by simp),HB3.out⟩
  ·have ht':(eH x 2==1)=false:=(by rw[beq_eq_false_iff_ne];exact ht);clear ht;go_enter Tryz.func180,Tryz.ntmps180;go_wp2_with fail;refine(HNB2.out _ H2.out).mono ?_;rintro e w3 ⟨hb3,v3,rfl,ho3⟩;have HB3:=Hd (H2.out.trans (hb3.mono H2.out.size));have HK0:=Hd (HB0.out.below hb3 HB0.out.lt);have HK1:=Hd (HB1.out.below hb3 HB1.out.lt);have c0:=HK0.out.cell 0;have k0:=HK1.out.cell 0;have k9:=HK1.out.cell 9;simp only[bK,bL,bM]at c0 k0 k9;obtain⟨p1,p2,p3,rfl⟩:=Dl ho3;clear hb3 ho3;go_wp2_with fail;go_ret;exact⟨Dg (by simp),HB3.out⟩
 |true=>
  have HLM2:=Hd (HLM.out rfl);obtain⟨AN,hAN⟩:=eX (L.any fun u=> !Bt (2*u) x);have HCF:=Hd fun(v:Value) (W:World) (g:Nat) (h:Rd W v (ivs .i64 L)) (hx:W.cell? ⟨g,0,none⟩=some (.int .i64 x))=>Zbb v L x g W h hx HLM2.out HLL.out;rw[←hAN]at HCF⊢;clear hAN
  by_cases ht:eH x 2=1
  ·have ht':(eH x 2==1)=true:=(by rw[beq_iff_eq];exact ht);have hn:nk=1:=(by rw[HNK.out,Zhn,if_pos ht]);subst hn;clear ht
   by_cases hq:kd=1
   ·have hq':((kd:Int) !=1)=false:=(by simp;omega);have HQ:=Hd (show decide (kd≠1)=false from by simpa using hq);clear hq;go_enter Tryz.func180,Tryz.ntmps180;go_wp2_with fail;refine(HNB2.out _ H2.out).mono ?_;rintro e w3 ⟨hb3,v3,rfl,ho3⟩;have HB3:=Hd (H2.out.trans (hb3.mono H2.out.size));have HK0:=Hd (HB0.out.below hb3 HB0.out.lt);have HK1:=Hd (HB1.out.below hb3 HB1.out.lt);have c0:=HK0.out.cell 0;have k0:=HK1.out.cell 0;have k9:=HK1.out.cell 9;simp only[bK,bL,bM]at c0 k0 k9;obtain⟨p1,p2,p3,rfl⟩:=Dl ho3;clear hb3 ho3;go_wp2_with fail;go_ret;exact⟨Dg (by rw[HQ.out];rfl),HB3.out⟩
   ·have hq':((kd:Int) !=1)=true:=(by simp;omega);have HQ:=Hd (show decide (kd≠1)=true from by simpa using hq);clear hq;go_enter Tryz.func180,Tryz.ntmps180;go_wp2_with fail;refine(HNB2.out _ H2.out).mono ?_;rintro e w3 ⟨hb3,v3,rfl,ho3⟩;have HB3:=Hd (H2.out.trans (hb3.mono H2.out.size));have HK0:=Hd (HB0.out.below hb3 HB0.out.lt);have HK1:=Hd (HB1.out.below hb3 HB1.out.lt);have c0:=HK0.out.cell 0;have k0:=HK1.out.cell 0;have k9:=HK1.out.cell 9;simp only[bK,bL,bM]at c0 k0 k9;obtain⟨p1,p2,p3,rfl⟩:=Dl ho3;clear hb3 ho3;go_wp2_with fail;refine(HCF.out _ _ _ (HRD.out.below HB3.out lR) c0).mono ?_;rintro e w4 ⟨rfl,rfl⟩;go_wp2_with fail;go_ret;exact⟨Dg (by rw[HQ.out];rfl),HB3.out⟩
  ·have ht':(eH x 2==1)=false:=(by rw[beq_eq_false_iff_ne];exact ht);have hn:nk=2:=(by rw[HNK.out,Zhn,if_neg ht]);subst hn;clear ht
   by_cases hq:kd=2
   ·have hq':((kd:Int) !=2)=false:=(by simp;omega);have HQ:=Hd (show decide (kd≠2)=false from by simpa using hq);clear hq;go_enter Tryz.func180,Tryz.ntmps180;go_wp2_with fail;refine(HNB2.out _ H2.out).mono ?_;rintro e w3 ⟨hb3,v3,rfl,ho3⟩;have HB3:=Hd (H2.out.trans (hb3.mono H2.out.size));have HK0:=Hd (HB0.out.below hb3 HB0.out.lt);have HK1:=Hd (HB1.out.below hb3 HB1.out.lt);have c0:=HK0.out.cell 0;have k0:=HK1.out.cell 0;have k9:=HK1.out.cell 9;simp only[bK,bL,bM]at c0 k0 k9;obtain⟨p1,p2,p3,rfl⟩:=Dl ho3;clear hb3 ho3;go_wp2_with fail;go_ret;exact⟨Dg (by rw[HQ.out];rfl),HB3.out⟩
   ·have hq':((kd:Int) !=2)=true:=(by simp;omega);have HQ:=Hd (show decide (kd≠2)=true from by simpa using hq);clear hq;go_enter Tryz.func180,Tryz.ntmps180;go_wp2_with fail;refine(HNB2.out _ H2.out).mono ?_;rintro e w3 ⟨hb3,v3,rfl,ho3⟩;have HB3:=Hd (H2.out.trans (hb3.mono H2.out.size));have HK0:=Hd (HB0.out.below hb3 HB0.out.lt);have HK1:=Hd (HB1.out.below hb3 HB1.out.lt);have c0:=HK0.out.cell 0;have k0:=HK1.out.cell 0;have k9:=HK1.out.cell 9;simp only[bK,bL,bM]at c0 k0 k9;obtain⟨p1,p2,p3,rfl⟩:=Dl ho3;clear hb3 ho3;go_wp2_with fail;refine(HCF.out _ _ _ (HRD.out.below HB3.out lR) c0).mono ?_;rintro e w4 ⟨rfl,rfl⟩;go_wp2_with fail;go_ret;exact⟨Dg (by rw[HQ.out];rfl),HB3.out⟩
end Go.Proofs.YtfofaiommeckbaaGreat
