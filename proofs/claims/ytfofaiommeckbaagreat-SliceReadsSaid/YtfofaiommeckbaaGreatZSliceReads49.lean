/- Walks: the tree of one member. -/
import Derived.Test.YtfofaiommeckbaaGreatZSliceReadsB
import Derived.Test.YtfofaiommeckbaaGreatZSliceReads44
import Derived.Test.YtfofaiommeckbaaGreatZSliceReads48
open List renaming replicate → cS, filterMap_cons → cH, filterMap_nil → cI, contains_cons → cJ, contains_nil → cK, getElem?_toArray → bK, getElem?_cons_zero → bL, getElem?_cons_succ → bM, cons_append → gN, mem_cons_of_mem → gE, length_append → aG, length_cons → bO
open Bool renaming or_false → cL, or_true → cM, eq_iff_iff → fG
open Nat renaming le_trans → dG, lt_of_lt_of_le → dH, two_pow_pos → eG, log2 → aV
open Int renaming tmod → eH, tmod_eq_emod_of_nonneg → eI
set_option linter.unusedVariables false
set_option maxRecDepth 100000
set_option maxHeartbeats 40000000
namespace Go.Proofs.YtfofaiommeckbaaGreat
open Go.RowKit WireM
def Rn:NodeD:=⟨1,⟨cS 32 0,cS 32 0,[1],1,[],cS 64 0⟩,noParD⟩
theorem Pn {n:Nat} {N:Int}(hN:N=(n:Int))(hn:n≤4000000):∀w:World,(Instr.makeSlice 28 (.int .i64 N) (.int .i64 N)).run Tryz.prog w=.ok (.slice (some ⟨w.heap.size,0,none⟩) n n) (w.alloc (.cells (madeCells (Value.int .u8 0).cells (n*1)) 5)):=by
 intro w;subst hN;obtain⟨i,hi,hz,hsz,hby⟩:∃i,Tryz.prog.info? 5=some i∧i.zero=some (.int .u8 0)∧i.size=1∧i.bytes=1:=info_parts (by kernel_rfl);have hr:=run_make (P:=Tryz.prog) w 28 5 i (.int .u8 0) Tryz.underlying28 hi hz .i64 .i64 n n (by omega) (by omega) (by rw[hby];omega) (by omega);simp only[Int.toNat_natCast,hsz]at hr;exact hr
theorem Ri (w:World)(n:Nat)(hn:n≤4000000:=by omega):Own (w.alloc (.cells (madeCells (Value.int .u8 0).cells (n*1)) 5)) w.heap.size 5 (.slice (some ⟨w.heap.size,0,none⟩) n n) (bvs (cS n 0)):=by
 have e:bvs (cS n 0)=(madeCells (Value.int .u8 0).cells (n*1)).toList:=by
  rw[Nat.mul_one];have:=toList_madeCells_one (.int .u8 0) n;rw[show(Value.int .u8 0).cells=#[.int .u8 0]from rfl,this];simp[bvs]
 rw[e];exact Own.full (B:=w.heap.size) rfl lR (by unfold maxLen;simp[madeCells];omega) (by simp[madeCells])
theorem Zgt {w:World} {B:Nat} {x1 x2 x3 x4:Value}(k1:Own w B 5 x1 (bvs (cS 32 0)))(k2:Own w B 5 x2 (bvs (cS 32 0)))(k3:Own w B 5 x3 (bvs [1]))(k4:Own w B 5 x4 (bvs (cS 64 0))):
  TreeR (w.alloc (.cells #[.int .u8 1,x1,x2,x3,.int .u8 1,.slice none 0 0,x4,.slice none 0 0,.slice none 0 0,.slice none 0 0] 52)) (.slice (some ⟨w.heap.size,0,none⟩) 1 1) [Rn]:=by
 have hno:NodeO (w.alloc (.cells #[.int .u8 1,x1,x2,x3,.int .u8 1,.slice none 0 0,x4,.slice none 0 0,.slice none 0 0,.slice none 0 0] 52)) B Rn #[.int .u8 1,x1,x2,x3,.int .u8 1,.slice none 0 0,x4,.slice none 0 0,.slice none 0 0,.slice none 0 0]:=
  ⟨_,_,_,_,_,_,_,_,rfl,k1.alloc _,k2.alloc _,k3.alloc _,Own.nil _ _ _,k4.alloc _,Own.nil _ _ _,Own.nil _ _ _,Own.nil _ _ _⟩
 refine⟨_,1,rfl,lR,by unfold maxLen;omega,fun i hi=>⟨w.heap.size,0,#[.int .u8 1,x1,x2,x3,.int .u8 1,.slice none 0 0,x4,.slice none 0 0,.slice none 0 0,.slice none 0 0],rfl,by simp,?_,?_⟩⟩
 ·have:i=0:=(by simpa using hi);subst this;exact hno.c
 ·have:i=0:=(by simpa using hi);subst this;intro j u hu;have:=(Blk.new w 52 #[.int .u8 1,x1,x2,x3,.int .u8 1,.slice none 0 0,x4,.slice none 0 0,.slice none 0 0,.slice none 0 0]).cell j;rw[show 0+0*10+j=j by omega,this];simpa using hu
open WalkM
theorem Vw:Eg [Rn]=true:=by decide
theorem Yc:TreeOk [Rn]:=by
 intro d hd;rw[List.mem_singleton]at hd;subst hd;refine⟨by decide,by decide,?_,?_,?_,?_,?_,?_,?_,?_⟩<;>decide
theorem Vx:Fr [Rn]=true:=by decide+kernel
def Zjf:SparseD:=Zht [Rn] (2^0) 0 [0] []
theorem Zag:Az Zjf false=true:=by decide+kernel
theorem Zah:Fv Zjf=true:=by decide+kernel
theorem Zi9:SparseOk Zjf:=by
 refine⟨by unfold inI;decide,by unfold inI;decide,fun p hp=> ?_,fun p hp=>by cases hp⟩;have:p=(((0:Nat):Int),Rn):=(by simpa [Zjf,Zht,nd]using hp);subst this;exact⟨by unfold inI;decide,Yc Rn (by simp)⟩
theorem Zja (w:World):Calls Tryz.prog 21 #[] w fun e w'=>e=.returned (.bool true)∧Below w.heap.size w w':=by
 have HMK32:=Hd (Pn (n:=32) (N:=32) rfl (by omega));have HMK64:=Hd (Pn (n:=64) (N:=64) rfl (by omega));obtain⟨Z32,hZ32⟩:=eX (madeCells (Value.int .u8 0).cells (32*1));obtain⟨Z64,hZ64⟩:=eX (madeCells (Value.int .u8 0).cells (64*1));have HCUT:=Hd fun(v:Value) (W:World) (hw:TreeR W v [Rn])=>Zdd v [Rn] 0 0 0 [0] [] W hw Vw Yc Vx rfl (by decide) (by omega) rfl (by decide+kernel) (by decide+kernel) (by decide+kernel) (by simp) (by simp) (by simp) (by simp) (by simp) (by simp) (fun x=>by rw[Zc0];omega);have HRT:=Hd fun(v:Value) (W:World) (hw:SparseR W v Zjf)=>Vk v Zjf W hw Zi9 Zah;rw[Zag]at HRT;go_enter Tryz.func21,Tryz.ntmps21;go_wp2_with fail;refine Jd [fun v w'=>Own w' w.heap.size 5 v (bvs (cS 32 0)),fun v w'=>Own w' w.heap.size 5 v (bvs (cS 32 0)),fun v w'=>Own w' w.heap.size 5 v (bvs [1]),fun v w'=>Own w' w.heap.size 5 v (bvs (cS 64 0)),fun v w'=>∃x1 x2 x3 x4,v=.agg #[x1,x2,x3,.int .u8 1,.slice none 0 0,x4]∧Own w' w.heap.size 5 x1 (bvs (cS 32 0))∧Own w' w.heap.size 5 x2 (bvs (cS 32 0))∧Own w' w.heap.size 5 x3 (bvs [1])∧Own w' w.heap.size 5 x4 (bvs (cS 64 0)),fun v w'=>∃x1 x2 x3 x4,v=.agg #[.int .u8 1,x1,x2,x3,.int .u8 1,.slice none 0 0,x4,.slice none 0 0,.slice none 0 0,.slice none 0 0]∧Own w' w.heap.size 5 x1 (bvs (cS 32 0))∧Own w' w.heap.size 5 x2 (bvs (cS 32 0))∧Own w' w.heap.size 5 x3 (bvs [1])∧Own w' w.heap.size 5 x4 (bvs (cS 64 0)),fun v w'=>TreeR w' v [Rn],fun v w'=>TreeR w' v [Rn]] (by kernel_rfl) (by kernel_rfl) (by kernel_rfl) (Ad (fun v x y h _ hs=>Own.below h hs lR) (Ad (fun v x y h _ hs=>Own.below h hs lR) (Ad (fun v x y h _ hs=>Own.below h hs lR) (Ad (fun v x y h _ hs=>Own.below h hs lR) (Ad (fun v x y h _ hs=>let⟨x1,x2,x3,x4,e,k1,k2,k3,k4⟩:=h;⟨x1,x2,x3,x4,e,k1.below hs lR,k2.below hs lR,k3.below hs lR,k4.below hs lR⟩) (Ad (fun v x y h _ hs=>let⟨x1,x2,x3,x4,e,k1,k2,k3,k4⟩:=h;⟨x1,x2,x3,x4,e,k1.below hs lR,k2.below hs lR,k3.below hs lR,k4.below hs lR⟩) (Ad (fun v x y h _ hs=>TreeR.below h hs lR) (Ad (fun v x y h _ hs=>TreeR.below h hs lR) (Aj))))))))) ?_ ?_
 ·refine gB ?_ (gB ?_ (gB ?_ (gB ?_ (gB ?_ (gB ?_ (gB ?_ (gB ?_ .nil)))))));all_goals
   intro a wx hbx ho hf;refine⟨rfl,?_⟩;intro K hK;try have D0:=HMK32.out
   try have D1:=HMK64.out
   try(refine Hd ?_;go_simp;exact hK _ rfl)
  ·go_simp;exact hK _ _ ((Ri wx 32).mono hbx.size) (bR.alloc lR _)
  ·go_simp;exact hK _ _ ((Ri wx 32).mono hbx.size) (bR.alloc lR _)
  ·
   go_simp;exact hK _ _ (Own.full (B:=w.heap.size) (cs:=#[.int .u8 1]) rfl (hbx.size) (by unfold maxLen;simp) rfl) (bR.alloc lR _)
  ·go_simp;exact hK _ _ ((Ri wx 64).mono hbx.size) (bR.alloc lR _)
  ·have o0:Own wx w.heap.size 5 (a.tmps[4]?.getD undef) (bvs (cS 32 0)):=hf.1;obtain⟨v0,hv0⟩:=eX (a.tmps[4]?.getD undef);rw[←hv0]at o0;have e0:=hv0.symm;clear hv0;have o1:Own wx w.heap.size 5 (a.tmps[5]?.getD undef) (bvs (cS 32 0)):=hf.2.1;obtain⟨v1,hv1⟩:=eX (a.tmps[5]?.getD undef);rw[←hv1]at o1;have e1:=hv1.symm;clear hv1;have o2:Own wx w.heap.size 5 (a.tmps[6]?.getD undef) (bvs [1]):=hf.2.2.1;obtain⟨v2,hv2⟩:=eX (a.tmps[6]?.getD undef);rw[←hv2]at o2;have e2:=hv2.symm;clear hv2;have o3:Own wx w.heap.size 5 (a.tmps[7]?.getD undef) (bvs (cS 64 0)):=hf.2.2.2.1;obtain⟨v3,hv3⟩:=eX (a.tmps[7]?.getD undef);rw[←hv3]at o3;have e3:=hv3.symm;clear hv3;obtain⟨a1,m1,d1,rfl⟩:=Da o0;obtain⟨a2,m2,d2,rfl⟩:=Da o1;obtain⟨a3,m3,d3,rfl⟩:=Da o2;obtain⟨a4,m4,d4,rfl⟩:=Da o3;go_simp;exact hK _ _ ⟨_,_,_,_,rfl,o0,o1,o2,o3⟩ bR
  ·have o0:∃x1 x2 x3 x4,(a.tmps[8]?.getD undef)=.agg #[x1,x2,x3,.int .u8 1,.slice none 0 0,x4]∧Own wx w.heap.size 5 x1 (bvs (cS 32 0))∧Own wx w.heap.size 5 x2 (bvs (cS 32 0))∧Own wx w.heap.size 5 x3 (bvs [1])∧Own wx w.heap.size 5 x4 (bvs (cS 64 0)):=hf.1;obtain⟨v0,hv0⟩:=eX (a.tmps[8]?.getD undef);rw[←hv0]at o0;have e0:=hv0.symm;clear hv0;obtain⟨x1,x2,x3,x4,rfl,k1,k2,k3,k4⟩:=o0;obtain⟨a1,m1,d1,rfl⟩:=Da k1;obtain⟨a2,m2,d2,rfl⟩:=Da k2;obtain⟨a3,m3,d3,rfl⟩:=Da k3;obtain⟨a4,m4,d4,rfl⟩:=Da k4;go_simp;exact hK _ _ ⟨_,_,_,_,rfl,k1,k2,k3,k4⟩ bR
  ·have o0:∃x1 x2 x3 x4,(a.tmps[9]?.getD undef)=.agg #[.int .u8 1,x1,x2,x3,.int .u8 1,.slice none 0 0,x4,.slice none 0 0,.slice none 0 0,.slice none 0 0]∧Own wx w.heap.size 5 x1 (bvs (cS 32 0))∧Own wx w.heap.size 5 x2 (bvs (cS 32 0))∧Own wx w.heap.size 5 x3 (bvs [1])∧Own wx w.heap.size 5 x4 (bvs (cS 64 0)):=hf.1;obtain⟨v0,hv0⟩:=eX (a.tmps[9]?.getD undef);rw[←hv0]at o0;have e0:=hv0.symm;clear hv0;obtain⟨x1,x2,x3,x4,rfl,k1,k2,k3,k4⟩:=o0;have HT:=Zgt k1 k2 k3 k4;obtain⟨a1,m1,d1,rfl⟩:=Da k1;obtain⟨a2,m2,d2,rfl⟩:=Da k2;obtain⟨a3,m3,d3,rfl⟩:=Da k3;obtain⟨a4,m4,d4,rfl⟩:=Da k4;go_simp;exact hK _ _ HT (bR.alloc lR _)
  ·have o0:TreeR wx (a.tmps[10]?.getD undef) [Rn]:=hf.1;obtain⟨v0,hv0⟩:=eX (a.tmps[10]?.getD undef);rw[←hv0]at o0;have e0:=hv0.symm;clear hv0;go_simp;exact hK _ _ o0 bR
 ·rintro f w9 hb9 hfin;have hb9:Below w.heap.size w w9:=hb9;have S1:TreeR w9 (f 1) [Rn]:=hfin.2.2.2.2.2.2.2.1;clear hfin;simp only[Aw,Bl,Ga,cH,cI,cJ,cK,Nat.reduceBEq,Nat.reduceAdd,cL,cM,cond_true];obtain⟨u1,hu1⟩:=eX (f 1);rw[←hu1]at S1⊢;clear hu1;have HT9:=Hd S1;have HB9:=Hd hb9;clear S1 hb9;go_wp2_with fail;refine(HCUT.out _ _ HT9.out).mono ?_;rintro e w1 ⟨vr,rfl,hsp,hb1⟩;have HSP:=Hd hsp;have HB1:=Hd (HB9.out.trans (hb1.mono HB9.out.size));obtain⟨o,g,rfl,ho,hg⟩:=hsp;obtain⟨a1,c1,rfl,-⟩:=ho;obtain⟨a2,c2,rfl,-⟩:=hg;have el:(Zht [Rn] (2^0) 0 [0] []).leaves=1:=rfl;have eo:(Zht [Rn] (2^0) 0 [0] []).own=0:=rfl;have e1:(Zht [Rn] (2^0) 0 [0] []).op.length=1:=rfl;have e2:(Zht [Rn] (2^0) 0 [0] []).sh.length=0:=rfl;rw[el,eo,e1,e2]at HSP⊢;clear el eo e1 e2 hb1;have HA:=Hd ((Below.refl w1.heap.size w1).alloc lR (.cells #[.int .i64 1,.int .i64 0,.slice a1 1 c1,.slice a2 0 c2] 25));have HRX:=Hd (HRT.out _ _ (HSP.out.below HA.out lR));have HBA:=Hd (HB1.out.trans (HA.out.mono HB1.out.size));have hbk:=Blk.new w1 25 #[.int .i64 1,.int .i64 0,.slice a1 1 c1,.slice a2 0 c2];have d0:=hbk.cell 0;have d1:=hbk.cell 1;have d2:=hbk.cell 2;have d3:=hbk.cell 3;simp only[bK,bL,bM]at d0 d1 d2 d3;clear hbk;go_wp2_with fail;refine(HRX.out).mono ?_;rintro e w5 ⟨rfl,hb5⟩;have HB5:=Hd (HBA.out.trans (hb5.mono HBA.out.size));clear hb5;go_wp2_with fail;go_ret;exact⟨rfl,HB5.out⟩
open Go.Maps
section
structure On3 (B ob sb:Nat) (w w':World):Prop where
 os:w'.os=w.os
 tape:w'.tape=w.tape
 output:w'.output=w.output
 size:w.heap.size≤w'.heap.size
 block:∀i,i<w.heap.size→i≠B→i≠ob→i≠sb→w'.heap[i]? =w.heap[i]?
section
variable {B ob sb g n m:Nat} {w w' w2:World} {F:Int→Option NodeD} {H:Int→Option (List Nat)}
theorem On3.trans (h:On3 B ob sb w w')(k:On3 B ob sb w' w2):On3 B ob sb w w2:=
 ⟨k.os.trans h.os,k.tape.trans h.tape,k.output.trans h.output,dG h.size k.size,fun i hi h1 h2 h3=>(k.block i (dH hi h.size) h1 h2 h3).trans (h.block i hi h1 h2 h3)⟩
theorem On3.of {C:Nat}(h:Only C w w')(hC:C=B∨C=ob∨C=sb):On3 B ob sb w w':=
 ⟨h.os,h.tape,h.output,h.size,fun i hi h1 h2 h3=>h.block i hi fun e=>by cases e;rcases hC with rfl|rfl|rfl<;>contradiction⟩
theorem On3.below (h:Below w.heap.size w w'):On3 B ob sb w w':=On3.of (C:=B) (Only.of h) (.inl rfl)
theorem Blk.on3 {p:Nat} {t:TypeId} {cs:Array Value}(h:Blk w p t cs)(k:On3 B ob sb w w')(h1:p≠B)(h2:p≠ob)(h3:p≠sb):Blk w' p t cs:=(k.block p h.lt h1 h2 h3).trans h
theorem On3.low {C:Nat}(h:On3 B ob sb w w')(h1:C≤B)(h2:C≤ob)(h3:C≤sb)(h4:C≤w.heap.size):Below C w w':=
 ⟨h.os,h.tape,h.output,h.size,fun i hi=>h.block i (by omega) (by omega) (by omega) (by omega)⟩
structure PcS (w:World) (ob sb g n m:Nat) (F:Int→Option NodeD) (H:Int→Option (List Nat)):Prop where
 nodes:∃G:Int→Option Value,MapF w ob n G∧∀x,match F x with
  |none=>G x=none
  |some d=>∃c,G x=some (.agg c)∧NodeO w g d c
 runs:∃G:Int→Option Value,MapF w sb m G∧∀x,match H x with
  |none=>G x=none
  |some L=>∃v,G x=some v∧Own w g 5 v (bvs L)
theorem Ic {G:Int→Option Value} (h:∀x,match F x with
  |none=>G x=none
  |some d=>∃c,G x=some (.agg c)∧NodeO w g d c) (k:∀d c,NodeO w g d c→NodeO w' g d c):∀x,match F x with
  |none=>G x=none
  |some d=>∃c,G x=some (.agg c)∧NodeO w' g d c:=by
 intro x;have:=h x;revert this;cases F x with
 |none=>exact fun h=>h
 |some d=>rintro⟨c,h1,h2⟩;exact⟨c,h1,k d c h2⟩
theorem Hl {G:Int→Option Value} (h:∀x,match H x with
  |none=>G x=none
  |some L=>∃v,G x=some v∧Own w g 5 v (bvs L)) (k:∀v xs,Own w g 5 v xs→Own w' g 5 v xs):∀x,match H x with
  |none=>G x=none
  |some L=>∃v,G x=some v∧Own w' g 5 v (bvs L):=by
 intro x;have:=h x;revert this;cases H x with
 |none=>exact fun h=>h
 |some L=>rintro⟨v,h1,h2⟩;exact⟨v,h1,k v _ h2⟩
theorem PcS.only {C:Nat}(h:PcS w ob sb g n m F H)(k:Only C w w')(hC:C<g)(h1:C≠ob)(h2:C≠sb):PcS w' ob sb g n m F H:=by
 obtain⟨⟨G,a,b⟩,⟨G',c,d⟩⟩:=h;exact⟨⟨G,a.grown k (fun e=>by cases e;exact h1 rfl),Ic b fun d c hd=>hd.onlyQ k hC⟩,⟨G',c.grown k (fun e=>by cases e;exact h2 rfl),Hl d fun v xs hv=>hv.only k hC⟩⟩
theorem PcS.below (h:PcS w ob sb g n m F H)(k:Below w.heap.size w w'):PcS w' ob sb g n m F H:=by
 obtain⟨⟨G,a,b⟩,⟨G',c,d⟩⟩:=h;exact⟨⟨G,a.below k lR,Ic b fun d c hd=>hd.below k lR⟩,⟨G',c.below k lR,Hl d fun v xs hv=>hv.below k lR⟩⟩
theorem PcS.le {n' m':Nat}(h:PcS w ob sb g n m F H)(h1:n≤n')(h2:m≤m'):PcS w ob sb g n' m' F H:=by
 obtain⟨⟨G,a,b⟩,⟨G',c,d⟩⟩:=h;exact⟨⟨G,a.mono h1,b⟩,⟨G',c.mono h2,d⟩⟩
end
def Lf (F:Int→Option NodeD)(l:List (Int×NodeD)):Int→Option NodeD:=fun y=>(Am l y).or (F y)
def Ok (H:Int→Option (List Nat))(l:List (Int×List Nat)):Int→Option (List Nat):=fun y=>(By l y).or (H y)
theorem Zgu (F:Int→Option NodeD):Lf F []=F:=by funext y;rfl
theorem Zgv (H:Int→Option (List Nat)):Ok H []=H:=by funext y;rfl
theorem Zdw (l m:List (Int×NodeD))(y:Int):Am (l++m) y=(Am l y).or (Am m y):=by
 induction l with
 |nil=>rfl
 |cons p l ih=>
  rw[gN,Am,Am]
  split
  ·rfl
  ·exact ih
theorem Zdx (l m:List (Int×List Nat))(y:Int):By (l++m) y=(By l y).or (By m y):=by
 induction l with
 |nil=>rfl
 |cons p l ih=>
  rw[gN,By,By]
  split
  ·rfl
  ·exact ih
theorem Nw {l:List (Int×NodeD)} {y:Int} {d:NodeD}(h:Am l y=some d) {P:Int→Prop}(hP:∀p∈l,P p.1):P y:=hP _ (Cv h)
theorem Tu {l:List (Int×List Nat)} {y:Int} {L:List Nat}(h:By l y=some L) {P:Int→Prop}(hP:∀p∈l,P p.1):P y:=by
 induction l with
 |nil=>cases h
 |cons p l ih=>
  rw[By]at h
  split at h
  ·rename_i e;rw[←e];exact hP p (by simp)
  ·exact ih h fun q hq=>hP q (gE _ hq)
theorem Zgw (F:Int→Option NodeD) {l r:List (Int×NodeD)} {x:Int} {d:NodeD}(hl:∀p∈l,p.1<x)(hr:∀p∈r,x<p.1):Lf (Lf (Lf F [(x,d)]) l) r=Lf F (l++(x,d)::r):=by
 funext y
 unfold Lf;rw[Zdw,Am,Am];cases h1:Am l y with
 |some a=>
  have hy:y<x:=Nw (P:=fun z=>z<x) h1 hl;have h2:Am r y=none:=by
   cases h2:Am r y with
   |none=>rfl
   |some b=>have:x<y:=Nw (P:=fun z=>x<z) h2 hr;omega
  rw[h2];rfl
 |none=>
  by_cases e:x=y
  ·have h2:Am r y=none:=by
    cases h2:Am r y with
    |none=>rfl
    |some b=>have:x<y:=Nw (P:=fun z=>x<z) h2 hr;omega
   rw[h2];simp[Am,e]
  ·simp[Am,e]
theorem Zgx (H:Int→Option (List Nat)) {l r:List (Int×List Nat)} {x:Int}(hl:∀p∈l,p.1<x)(hr:∀p∈r,x<p.1):Ok (Ok H l) r=Ok H (l++r):=by
 funext y
 unfold Ok;rw[Zdx];cases h1:By l y with
 |some a=>
  have hy:y<x:=Tu (P:=fun z=>z<x) h1 hl;have h2:By r y=none:=by
   cases h2:By r y with
   |none=>rfl
   |some b=>have:x<y:=Tu (P:=fun z=>x<z) h2 hr;omega
  rw[h2];rfl
 |none=>simp
section
variable {B ob sb g n m:Nat} {w w':World} {F:Int→Option NodeD} {H:Int→Option (List Nat)} {x:Int}
theorem PcS.putN {d:NodeD} {c:Array Value} {G:Int→Option Value} (h:PcS w ob sb g n m F H) (hG:∀x,match F x with
  |none=>G x=none
  |some d=>∃c,G x=some (.agg c)∧NodeO w g d c) (hm:MapF w' ob (n+1) (fun y=>if y=x then some (.agg c)else G y)) (k:Only ob w w') (hd:NodeO w g d c) (h1:ob<g) (h2:ob≠sb):PcS w' ob sb g (n+1) m (Lf F [(x,d)]) H:=by
 obtain⟨-,⟨G',e,f⟩⟩:=h;refine⟨⟨_,hm,fun y=> ?_⟩,⟨G',e.grown k (fun e=>by cases e;exact h2 rfl),Hl f fun v xs hv=>hv.only k h1⟩⟩;unfold Lf;rw[Am,Am]
 by_cases e:x=y
 ·rw[if_pos e,if_pos e.symm];exact⟨c,rfl,hd.onlyQ k h1⟩
 ·rw[if_neg e,if_neg (fun e2=>e e2.symm)];exact Ic hG (fun d c hd=>hd.onlyQ k h1) y
theorem PcS.putS {L:List Nat} {v:Value} {G:Int→Option Value} (h:PcS w ob sb g n m F H) (hG:∀x,match H x with
  |none=>G x=none
  |some L=>∃v,G x=some v∧Own w g 5 v (bvs L)) (hm:MapF w' sb (m+1) (fun y=>if y=x then some v else G y)) (k:Only sb w w') (hd:Own w g 5 v (bvs L)) (h1:sb<g) (h2:ob≠sb):PcS w' ob sb g n (m+1) F (Ok H [(x,L)]):=by
 obtain⟨⟨G',e,f⟩,-⟩:=h;refine⟨⟨G',e.grown k (fun e=>by cases e;exact h2 rfl),Ic f fun v xs hv=>hv.onlyQ k h1⟩,⟨_,hm,fun y=> ?_⟩⟩;unfold Ok;rw[By,By]
 by_cases e:x=y
 ·rw[if_pos e,if_pos e.symm];exact⟨v,rfl,hd.only k h1⟩
 ·rw[if_neg e,if_neg (fun e2=>e e2.symm)];exact Hl hG (fun v xs hv=>hv.only k h1) y
end
end
def Zdy (B ob sb g n m:Nat)(F:Int→Option NodeD)(H:Int→Option (List Nat))(r:RdR)(w:World)(e:Ending)(w':World):Prop:=
 e=.returned (.int .u8 (r.er:Nat))∧On3 B ob sb w w'∧(r.er=0→RS w' B r.rest 0∧PcS w' ob sb g (n+r.op.length) (m+r.sh.length) (Lf F r.op) (Ok H r.sh))
def Zgy (k:Nat):Prop:=
 ∀(x:Nat) (lv ow:Int) (B ob sb g n m:Nat) (L:List Nat) (F:Int→Option NodeD) (H:Int→Option (List Nat)) (w:World),IsLev x k→x+2^k≤131071→2^k≤x+1→B<ob→B<sb→ob≠sb→ob<g→sb<g→g≤w.heap.size→
  RS w B L 0→PcS w ob sb g n m F H→n+m+L.length≤900000000→(∀y∈L,y<256)→
  Calls Tryz.prog 121 #[.agg #[.int .i64 lv,.int .i64 ow,.map (some ob),.map (some sb)],.pointer (some ⟨B,0,none⟩),.int .i64 (x:Nat)] w (Zdy B ob sb g n m F H (rdP k x L) w)
theorem Zdz (k x:Nat)(L:List Nat):∃K,rdP k x L=Rm x L K:=by cases k<;>exact⟨_,rfl⟩
theorem Zai (L:List Nat):(∃fe M,fe≠0∧Oi L 0=(false,M,fe)∧∀x K,Rm x L K=If fe)∨(∃M,L=0::M∧Oi L 0=(false,M,0))∨∃M,L=1::M∧Oi L 0=(true,M,0):=by
 cases L with
 |nil=>exact .inl ⟨4,[],by decide,rfl,fun _ _=>rfl⟩
 |cons b M=>
  by_cases h1:1<b
  ·exact .inl ⟨3,M,by decide,by simp[Oi,h1],fun x K=>by simp[Rm,h1]⟩
  ·by_cases h0:b=0
   ·subst h0;exact .inr (.inl ⟨M,rfl,rfl⟩)
   ·obtain rfl:b=1:=(by omega);exact .inr (.inr ⟨M,rfl,rfl⟩)
theorem Zj9 (M:List Nat):(M.length<32∧Bw M 0 32=([],M,4))∨(¬M.length<32∧Bw M 0 32=(M.take 32,M.drop 32,0)):=by
 unfold Bw
 by_cases h:M.length<32
 ·exact .inl ⟨h,by rw[if_neg (by simp),if_neg (by omega),if_pos (by omega)]⟩
 ·exact .inr ⟨h,by rw[if_neg (by simp),if_neg (by omega),if_neg (by omega)];rfl⟩
theorem NodeO.shape {w:World} {B:Nat} {d:NodeD} {c:Array Value}(h:NodeO w B d c):∃x0 x1 x2 x3 x4 u0 u1 u2,c=#[.int .u8 (d.kind:Nat),x0,x1,x2,.int .u8 (d.leaf.source:Nat),x3,x4,u0,u1,u2]:=by
 obtain⟨x0,x1,x2,x3,x4,u0,u1,u2,e,-⟩:=h;exact⟨x0,x1,x2,x3,x4,u0,u1,u2,e⟩
theorem Zd0 (k x:Nat)(lv ow:Int)(B ob sb g n m fe:Nat)(L M:List Nat)(F:Int→Option NodeD)(H:Int→Option (List Nat))(w:World)(hR:RS w B L 0)(hL:∀y∈L,y<256)(hfe:fe≠0)(hf:Oi L 0=(false,M,fe)):
  Calls Tryz.prog 121 #[.agg #[.int .i64 lv,.int .i64 ow,.map (some ob),.map (some sb)],.pointer (some ⟨B,0,none⟩),.int .i64 (x:Nat)] w (Zdy B ob sb g n m F H (If fe) w):=by
 have HF:=Hd (show Calls Tryz.prog 177 #[.pointer (some ⟨B,0,none⟩)] (w.alloc (.cells #[.int .i64 lv,.int .i64 ow,.map (some ob),.map (some sb)] 101)) (Zfs B (w.alloc (.cells #[.int .i64 lv,.int .i64 ow,.map (some ob),.map (some sb)] 101)) (false,M,fe))from by
  have:=Qm B L 0 (w.alloc (.cells #[.int .i64 lv,.int .i64 ow,.map (some ob),.map (some sb)] 101)) (hR.below ((Below.refl w.heap.size w).alloc lR _)) hL
  rwa [hf]at this)
 have HER:=Hd fun(L:List Nat) (er:Nat) W=>Gh B L er W;have HO1:=Hd (On3.below (B:=B) (ob:=ob) (sb:=sb) ((Below.refl w.heap.size w).alloc lR (.cells #[.int .i64 lv,.int .i64 ow,.map (some ob),.map (some sb)] 101)));have h1b:((fe:Int) !=0)=true:=(by rw[bne_iff_ne];omega);have HFE:=Hd hfe;clear hR hL hf hfe;go_enter Tryz.func121,Tryz.ntmps121;go_wp2_with fail;refine HF.out.mono ?_;rintro e w2 ⟨rfl,hrs,honly⟩;have R2:=Hd hrs;have HO2:=Hd (HO1.out.trans (On3.of honly (.inl rfl)));clear hrs honly;go_wp2_with fail;refine(HER.out _ _ _ R2.out).mono ?_;rintro e w' ⟨rfl,rfl⟩;go_wp2_with fail;go_ret;exact⟨rfl,HO2.out,fun h=>absurd h HFE.out⟩
theorem Zd1 (k x:Nat)(lv ow:Int)(B ob sb g n m:Nat)(M:List Nat)(F:Int→Option NodeD)(H:Int→Option (List Nat))(w:World)(hx:x≤131071)(hb1:B<ob)(hb2:B<sb)(hb3:ob≠sb)(hb4:ob<g)(hb5:sb<g)(hb6:g≤w.heap.size)(hR:RS w B (0::M) 0)(hP:PcS w ob sb g n m F H)(hn:n+m+M.length≤900000000)(hL:∀y∈0::M,y<256):
  Calls Tryz.prog 121 #[.agg #[.int .i64 lv,.int .i64 ow,.map (some ob),.map (some sb)],.pointer (some ⟨B,0,none⟩),.int .i64 (x:Nat)] w (Zdy B ob sb g n m F H (if M.length<32 then If 4 else⟨0,[],[((x:Int),M.take 32)],M.drop 32⟩) w):=by
 have HF:=Hd (show Calls Tryz.prog 177 #[.pointer (some ⟨B,0,none⟩)] (w.alloc (.cells #[.int .i64 lv,.int .i64 ow,.map (some ob),.map (some sb)] 101)) (Zfs B (w.alloc (.cells #[.int .i64 lv,.int .i64 ow,.map (some ob),.map (some sb)] 101)) (false,M,0))from Qm B (0::M) 0 (w.alloc (.cells #[.int .i64 lv,.int .i64 ow,.map (some ob),.map (some sb)] 101)) (hR.below ((Below.refl w.heap.size w).alloc lR _)) hL);have HER:=Hd fun(L:List Nat) (er:Nat) W=>Gh B L er W;have HTK:=Hd fun(W:World) (h:RS W B M 0)=>Sk B M 0 32 W h (by omega);obtain⟨p,hp⟩:=eX w.heap.size;have HP:=Hd hp;have HO1:=Hd (On3.below (B:=B) (ob:=ob) (sb:=sb) ((Below.refl w.heap.size w).alloc lR (.cells #[.int .i64 lv,.int .i64 ow,.map (some ob),.map (some sb)] 101)));have P1:=Hd (show Blk (w.alloc (.cells #[.int .i64 lv,.int .i64 ow,.map (some ob),.map (some sb)] 101)) w.heap.size 101 #[.int .i64 lv,.int .i64 ow,.map (some ob),.map (some sb)]from Blk.new _ _ _);have HPS:=Hd (hP.below ((Below.refl w.heap.size w).alloc lR (.cells #[.int .i64 lv,.int .i64 ow,.map (some ob),.map (some sb)] 101)));have HBS:=Hd (show B<ob∧B<sb∧ob≠sb∧ob<g∧sb<g∧g≤p∧m+1≤900000001 from⟨hb1,hb2,hb3,hb4,hb5,by omega,by omega⟩);have HXI:=Hd (show inI (x:Int)from by unfold inI;omega);have HTC:=Hd (Zj9 M);obtain⟨RR,hRR⟩:=eX (if M.length<32 then If 4 else⟨0,[],[((x:Int),M.take 32)],M.drop 32⟩);rw[←hRR];have HRR:=Hd hRR;obtain⟨tv,tr,te,hte⟩:∃a b c,Bw M 0 32=(a,b,c):=⟨_,_,_,rfl⟩;rw[hte]at HTK HTC;clear hR hL hP hp hb1 hb2 hb3 hb4 hb5 hb6 hn hx hte hRR;go_enter Tryz.func121,Tryz.ntmps121;go_wp2_with fail;refine HF.out.mono ?_;rintro e w2 ⟨rfl,hrs,honly⟩;have R2:=Hd hrs;have HO2:=Hd (HO1.out.trans (On3.of honly (.inl rfl)));have P2:=Hd (P1.out.only honly (by obtain⟨a1,a2,a3,a4,a5,a6,a7⟩:=HBS.out;have:=HP.out;omega));have S2:=Hd (HPS.out.only honly (by obtain⟨a1,a2,a3,a4,a5,a6,a7⟩:=HBS.out;omega) (by obtain⟨a1,a2,a3,a4,a5,a6,a7⟩:=HBS.out;omega) (by obtain⟨a1,a2,a3,a4,a5,a6,a7⟩:=HBS.out;omega));have HZ2:=Hd (show g≤w2.heap.size from by obtain⟨a1,a2,a3,a4,a5,a6,a7⟩:=HBS.out;have:=P2.out.lt;have:=HP.out;omega);rw[←HP.out]at P2⊢;clear hrs honly;go_wp2_with fail;refine(HER.out _ _ _ R2.out).mono ?_;rintro e w' ⟨rfl,rfl⟩;go_wp2_with fail;obtain⟨⟨G,hG1,hG2⟩,⟨G',hH1,hH2⟩⟩:=id S2.out;have HGM:=Hd hH1;have HG2:=Hd hH2;clear hG1 hG2 hH1 hH2;refine Ay [eF (.pointer (some ⟨p,3,none⟩)),eF (.map (some sb)),eF (.int .i64 (x:Nat)),eF (.pointer (some ⟨B,0,none⟩)),fun v w'=>Own w' w2.heap.size 5 v (bvs tv)∧RS w' B tr te,fun v w'=>RS w' B tr te∧PcS w' ob sb g n (m+1) F (Ok H [((x:Int),tv)])∧On3 B ob sb w2 w']
  ((cS 6 false).set 5 true) (fun x=>Only B w2 x) (fun x y=>Only B x y) (some 4) 5 (by kernel_rfl) ?_ ⟨rfl,rfl,rfl,lR,fun _ _ _=>rfl⟩ (fun x y _ h=>Only.of h) (fun x y hx hs=>hx.trans hs) (by kernel_rfl) (by kernel_rfl) (by kernel_rfl) ?_ ?_
 ·exact kE (kE (kE (kE (Cs (fun v x y h _ hb=>⟨h.1.below hb lR,h.2.below hb⟩) (Ad (fun _ _ _ _ _ _=>trivial) Aj)))))
 ·refine gP8 ?_ rfl (gP8 ?_ rfl (gP8 ?_ rfl (gP8 ?_ rfl (Oc (by kernel_rfl) ?_ (gO8 ?_ .nil)))));all_goals
   intro a wx hbx hbq ho hf;have hbx:Only B w2 wx:=hbx;refine⟨rfl,?_⟩;intro K hK;try have Pf3:a.tmps[3]?.getD undef=.pointer (some ⟨p,0,none⟩):=ho 3 (by kernel_rfl)
   try have Pf1:a.tmps[1]?.getD undef=.pointer (some ⟨B,0,none⟩):=ho 1 (by kernel_rfl)
   try have Pf2:a.tmps[2]?.getD undef=.int .i64 (x:Nat):=ho 2 (by kernel_rfl)
   try have Ef0:=eqn hf.1
   try have Ef1:=eqn hf.2.1
   have hpx:=P2.out.only hbx (by obtain⟨a1,a2,a3,a4,a5,a6,a7⟩:=HBS.out;omega);have Ce3:=hpx.cell 3;simp only[bK,bL,bM]at Ce3;try(refine Hd ?_;go_simp;exact hK _ rfl)
  ·go_simp;refine(HTK.out wx (R2.out.below hbq)).mono ?_;rintro e w7 ⟨v,rfl,h1,h2,h3⟩;exact hK _ _ ⟨h1.mono hbq.size,h2⟩ (fun _=>Cc rfl h3)
  ·obtain⟨o1,r1⟩:Own wx w2.heap.size 5 (a.tmps[25]?.getD undef) (bvs tv)∧RS wx B tr te:=hf.2.2.1;obtain⟨v1,hv1⟩:=eX (a.tmps[25]?.getD undef);rw[←hv1]at o1;have e25:=hv1.symm;clear hv1;obtain⟨b1,b2,b3,b4,b5,b6,b7⟩:=HBS.out;obtain⟨w',hrun,hmf,hgr⟩:=(HGM.out.grown hbx (fun e=>by cases e;omega)).run_put Tryz.underlying99 HXI.out (by unfold maxLen;omega) v1;have hps:=(S2.out.only hbx (by omega) (by omega) (by omega)).putS (Hl HG2.out (fun v xs hv=>hv.only hbx (by omega))) hmf hgr (o1.mono HZ2.out) (by omega) b3;have hrr:=r1.only hgr b2 (by have:=hbx.size;have:=HZ2.out;omega);go_simp;exact hK undef _ ⟨hrr,hps,(On3.of hbx (.inl rfl)).trans (On3.of hgr (.inr (.inr rfl)))⟩ (fun h=>absurd rfl h)
 ·rintro f w5 hfin;obtain⟨hr5,hs5,ho5⟩:RS w5 B tr te∧PcS w5 ob sb g n (m+1) F (Ok H [((x:Int),tv)])∧On3 B ob sb w2 w5:=hfin.2.2.2.2.2.1;clear hfin;simp only[Aw,Bl,Ga,cH,cI,cJ,cK,Nat.reduceBEq,Nat.reduceAdd,cL,cM,cond_true,cond_false];have R5:=Hd hr5;have S5:=Hd hs5;have HO5:=Hd (HO2.out.trans ho5);clear hr5 hs5 ho5;go_wp2_with fail;refine(HER.out _ _ _ R5.out).mono ?_;rintro e w' ⟨rfl,rfl⟩;go_wp2_with fail;go_ret;rw[HRR.out];rcases HTC.out with⟨h,e⟩|⟨h,e⟩
  ·cases e;simp only[if_pos h];exact⟨rfl,HO5.out,fun h=>absurd h (by decide)⟩
  ·cases e;simp only[if_neg h];exact⟨rfl,HO5.out,fun _=>⟨R5.out,by have:=S5.out;rw[Zgu];exact this⟩⟩
theorem Zd2 (k x:Nat)(hk16:k≤16)(IH:∀j,k=j+1→Zgy j)(lv ow:Int)(B ob sb g n m:Nat)(M:List Nat)(F:Int→Option NodeD)(H:Int→Option (List Nat))(w:World)(hlv:IsLev x k)(hx:x+2^k≤131071)(hxl:2^k≤x+1)(hb1:B<ob)(hb2:B<sb)(hb3:ob≠sb)(hb4:ob<g)(hb5:sb<g)(hb6:g≤w.heap.size)(hR:RS w B (1::M) 0)(hP:PcS w ob sb g n m F H)(hn:n+m+(1::M).length≤900000000)(hL:∀y∈1::M,y<256):
  Calls Tryz.prog 121 #[.agg #[.int .i64 lv,.int .i64 ow,.map (some ob),.map (some sb)],.pointer (some ⟨B,0,none⟩),.int .i64 (x:Nat)] w (Zdy B ob sb g n m F H (rdP k x (1::M)) w):=by
 have hlM:M.length+1=(1::M).length:=rfl;have HF:=Hd (show Calls Tryz.prog 177 #[.pointer (some ⟨B,0,none⟩)] (w.alloc (.cells #[.int .i64 lv,.int .i64 ow,.map (some ob),.map (some sb)] 101)) (Zfs B (w.alloc (.cells #[.int .i64 lv,.int .i64 ow,.map (some ob),.map (some sb)] 101)) (true,M,0))from Qm B (1::M) 0 (w.alloc (.cells #[.int .i64 lv,.int .i64 ow,.map (some ob),.map (some sb)] 101)) (hR.below ((Below.refl w.heap.size w).alloc lR _)) hL);have HER:=Hd fun(L:List Nat) (er:Nat) W=>Gh B L er W;have hLM:∀y∈M,y<256:=fun y hy=>hL y (gE _ hy);have HTN:=Hd fun(W:World) (h:RS W B M 0)=>Zaf B M W h (by omega) hLM;have HOK:=Hd fun(h:(Av M 0).1=0)=>Tr h;have HKX:Hid (∀K,Rm x (1::M) K=Jv x M K):=Hd fun K=>rfl;have HRO:Hid (∀K,Jv x M K=if(Av M 0).1≠0 then If (Av M 0).1 else if x%2=0∧(Av M 0).2.1.kind=2∨x%2=1∧(Av M 0).2.1.kind=1 then If 3 else K (Av M 0).2.1 (Av M 0).2.2.1):=Hd fun K=>rfl;obtain⟨te,d,R,re,hq⟩:∃a b c d,Av M 0=(a,b,c,d):=⟨_,_,_,_,rfl⟩;rw[hq]at HTN HOK;simp only[hq]at HRO;have hnM:n+m+M.length+1≤900000000:=(by omega);obtain⟨p,hp⟩:=eX w.heap.size;have HP:=Hd hp;have HO1:=Hd (On3.below (B:=B) (ob:=ob) (sb:=sb) ((Below.refl w.heap.size w).alloc lR (.cells #[.int .i64 lv,.int .i64 ow,.map (some ob),.map (some sb)] 101)));have P1:=Hd (show Blk (w.alloc (.cells #[.int .i64 lv,.int .i64 ow,.map (some ob),.map (some sb)] 101)) w.heap.size 101 #[.int .i64 lv,.int .i64 ow,.map (some ob),.map (some sb)]from Blk.new _ _ _);have HPS:=Hd (hP.below ((Below.refl w.heap.size w).alloc lR (.cells #[.int .i64 lv,.int .i64 ow,.map (some ob),.map (some sb)] 101)));have HBS:=Hd (show B<ob∧B<sb∧ob≠sb∧ob<g∧sb<g∧g≤p∧n+1≤900000001 from⟨hb1,hb2,hb3,hb4,hb5,by omega,by omega⟩);have hx1:x≤131071:=(by have:=eG k;omega);have HXI:=Hd (show inI (x:Int)from by unfold inI;omega);clear hx1;have HXB:=Hd hx;have HXL:=Hd hxl;have HLV:=Hd hlv;have HNM:=Hd hnM;have HLM:=Hd hLM;clear hR hL hP hp hb1 hb2 hb3 hb4 hb5 hb6 hn hx hxl hlv hq hlM hLM hnM;go_enter Tryz.func121,Tryz.ntmps121;go_wp2_with fail;refine HF.out.mono ?_;rintro e w2 ⟨rfl,hrs,honly⟩;have R2:=Hd hrs;have HO2:=Hd (HO1.out.trans (On3.of honly (.inl rfl)));have P2:=Hd (P1.out.only honly (by obtain⟨a1,a2,a3,a4,a5,a6,a7⟩:=HBS.out;have:=HP.out;omega));have S2:=Hd (HPS.out.only honly (by obtain⟨a1,a2,a3,a4,a5,a6,a7⟩:=HBS.out;omega) (by obtain⟨a1,a2,a3,a4,a5,a6,a7⟩:=HBS.out;omega) (by obtain⟨a1,a2,a3,a4,a5,a6,a7⟩:=HBS.out;omega));have HZ2:=Hd (show p+1≤w2.heap.size from by have:=P2.out.lt;have:=HP.out;omega);rw[←HP.out]at P2⊢;clear hrs honly;go_wp2_with fail;refine(HER.out _ _ _ R2.out).mono ?_;rintro e w' ⟨rfl,rfl⟩;go_wp2_with fail;refine(HTN.out w2 R2.out).mono ?_;rintro e w3 ⟨c,rfl,hno,hrs,honly⟩;replace hno:NodeO w3 w2.heap.size d c:=hno;have HONE:=Hd hno.c.oneL;have NO3:=Hd (hno.mono (B':=p) (by have:=HZ2.out;omega));obtain⟨x0,x1,x2,x3,x4,u0,u1,u2,rfl⟩:=hno.shape;have R3:=Hd hrs;have HO3:=Hd (HO2.out.trans (On3.of honly (.inl rfl)));have P3:=Hd (P2.out.only honly (by obtain⟨a1,a2,a3,a4,a5,a6,a7⟩:=HBS.out;omega));have S3:=Hd (S2.out.only honly (by obtain⟨a1,a2,a3,a4,a5,a6,a7⟩:=HBS.out;omega) (by obtain⟨a1,a2,a3,a4,a5,a6,a7⟩:=HBS.out;omega) (by obtain⟨a1,a2,a3,a4,a5,a6,a7⟩:=HBS.out;omega));have HZ3:=Hd (dG HZ2.out honly.size);clear hrs honly hno;obtain⟨kd,hkd⟩:=eX d.kind;obtain⟨sr,hsr⟩:=eX d.leaf.source;rw[←hkd,←hsr]at NO3 HONE⊢;have HKD:=Hd hkd;clear hkd hsr;obtain⟨q,hq⟩:=eX w3.heap.size;have HQ:=Hd hq;clear hq;go_wp2_with (refine Aa rfl 52 (.tmp 9) (.tmp 31) rfl w3.heap.size #[.int .u8 kd,x0,x1,x2,.int .u8 sr,x3,x4,u0,u1,u2] rfl rfl 52 #[.int .u8 0,.slice none 0 0,.slice none 0 0,.slice none 0 0,.int .u8 0,.slice none 0 0,.slice none 0 0,.slice none 0 0,.slice none 0 0,.slice none 0 0] (Blk.new _ _ _) (by kernel_rfl) rfl HONE.out ?_);rintro w4 hblk hbl hoth hsize;have hb:Below w3.heap.size w3 w4:=((Below.refl w3.heap.size w3).alloc lR (.cells #[.int .u8 0,.slice none 0 0,.slice none 0 0,.slice none 0 0,.int .u8 0,.slice none 0 0,.slice none 0 0,.slice none 0 0,.slice none 0 0,.slice none 0 0] 52)).trans (hbl w3.heap.size lR);have R4:=Hd (R3.out.below hb);have HO4:=Hd (HO3.out.trans (On3.below hb));have P4:=Hd (P3.out.below hb P3.out.lt);have S4:=Hd (S3.out.below hb);have NO4:=Hd (NO3.out.below hb lR);have HZ4:=Hd (dG HZ3.out hb.size);rw[←HQ.out]at hblk⊢;have Q4:=Hd hblk;have y0:=hblk.cell 0;simp only[bK,bL]at y0;clear hblk hbl hoth hsize hb;have HRD:Hid (∀K,rdP k x (1::M)=Rm x (1::M) K→rdP k x (1::M)=if te≠0 then If te else if x%2=0∧kd=2∨x%2=1∧kd=1 then If 3 else K d R):=Hd fun K e=>by
  rw[e,HKX.out,HRO.out,HKD.out]
 by_cases h1:te=0
 ·have h1b:((te:Int) !=0)=false:=(by rw[bne_eq_false_iff_eq];omega);obtain⟨hre,hok⟩:=HOK.out h1;have hre:re=0:=hre;have hok:TkOk M d R:=hok;subst hre;have HTE:=Hd h1;have HLR:=Hd (show R.length<M.length∧Sub R M from⟨hok.len,hok.sub⟩);clear h1 hok;cases k with
  |zero=>
   have heven:x%2=0:=Gj HLV.out;have hmod:eH (x:Int) 2=0:=(by rw[eI (by omega)];omega);have hmodE:(x:Int)%2=0:=(by omega);have HRZ:=Hd (HRD.out _ rfl)
   by_cases hk2:kd=2
   ·have e2:((kd:Int)==2)=true:=(by rw[beq_iff_eq];omega);have HRX:=Hd (show rdP 0 x (1::M)=If 3 from by rw[HRZ.out,if_neg (by have:=HTE.out;omega),if_pos (.inl ⟨heven,hk2⟩)]);clear hk2 heven;go_wp2_with fail;go_ret;rw[HRX.out];exact⟨rfl,HO4.out,fun h=>absurd h (by decide)⟩
   ·have e2:((kd:Int)==2)=false:=(by rw[beq_eq_false_iff_ne];omega);have HRX:=Hd (show rdP 0 x (1::M)=⟨0,[((x:Int),d)],[],R⟩from by rw[HRZ.out,if_neg (by have:=HTE.out;omega),if_neg (by omega)]);obtain⟨⟨G,hG1,hG2⟩,-⟩:=id S4.out;have hmP:=P4.out.cell 2;simp only[bK,bL,bM]at hmP;have HG1:=Hd hG1;have HG2:=Hd hG2;clear hk2 heven hG1 hG2;go_wp2_with (first
     |(refine Ai rfl 52 (.tmp 9) rfl q rfl 52 #[.int .u8 kd,x0,x1,x2,.int .u8 sr,x3,x4,u0,u1,u2] (0,0) _ Q4.out Tryz.underlying52 rfl (by kernel_rfl) ?_)
     |(refine Ej rfl (.tmp 57) (.tmp 58) (.tmp 59) rfl Tryz.underlying98 rfl HG1.out rfl HXI.out (by obtain⟨a1,a2,a3,a4,a5,a6,a7⟩:=HBS.out;unfold maxLen;omega) _ rfl ?_))
    intro w5 hmf hgr;have S5:=Hd (S4.out.putN HG2.out hmf hgr (NO4.out.mono (by obtain⟨a1,a2,a3,a4,a5,a6,a7⟩:=HBS.out;omega)) (by obtain⟨a1,a2,a3,a4,a5,a6,a7⟩:=HBS.out;omega) (by obtain⟨a1,a2,a3,a4,a5,a6,a7⟩:=HBS.out;exact a3));have R5:=Hd (R4.out.only hgr (by obtain⟨a1,a2,a3,a4,a5,a6,a7⟩:=HBS.out;omega) (by obtain⟨a1,a2,a3,a4,a5,a6,a7⟩:=HBS.out;have:=HZ4.out;omega));have HO5:=Hd (HO4.out.trans (On3.of hgr (.inr (.inl rfl))));clear hmf hgr y0;go_wp2_with fail;go_ret;rw[HRX.out];exact⟨rfl,HO5.out,fun _=>⟨R5.out,by have:=S5.out;rw[Zgv];exact this⟩⟩
  |succ j=>
   have hodd:x%2=1:=Jn HLV.out;have hmod:eH (x:Int) 2=1:=(by rw[eI (by omega)];omega);have hmodE:(x:Int)%2=1:=(by omega);have HRZ:=Hd (HRD.out _ rfl)
   by_cases hk2:kd=1
   ·have e2:((kd:Int)==1)=true:=(by rw[beq_iff_eq];omega);have HRX:=Hd (show rdP (j+1) x (1::M)=If 3 from by rw[HRZ.out,if_neg (by have:=HTE.out;omega),if_pos (.inr ⟨hodd,hk2⟩)]);clear hk2 hodd;go_wp2_with fail;go_ret;rw[HRX.out];exact⟨rfl,HO4.out,fun h=>absurd h (by decide)⟩
   ·have e2:((kd:Int)==1)=false:=(by rw[beq_eq_false_iff_ne];omega);have HRX:=Hd (show rdP (j+1) x (1::M)=Ll x d (rdP j (x-2^j) R) (rdP j (x+2^j) (rdP j (x-2^j) R).rest)from by rw[HRZ.out,if_neg (by have:=HTE.out;omega),if_neg (by omega)]);have ek2:2^(j+1)=2*2^j:=(by rw[Nat.pow_succ];omega);have hjp:=eG j;have hX:=HXB.out;have hXL:=HXL.out;have hx131:x≤131070:=(by omega);obtain⟨kl,kr,lvl,lvr,kx⟩:=kids_lev hx131 HLV.out;have LFT:=fun(W:World)=>Mg (x:Int) W;have RGT:=fun(W:World)=>Jx (x:Int) W;rw[kl]at LFT;rw[kr]at RGT;have hlr:=HLR.out;have hnm:=HNM.out;have hRL:∀y∈R,y<256:=fun y hy=>HLM.out y (hlr.2.2 y hy);have I1:=fun(W:World) (n' m':Nat) (F':Int→Option NodeD) (H':Int→Option (List Nat)) (hn':n'+m'+R.length≤900000000) (h1:g≤W.heap.size) (h2:RS W B R 0) (h3:PcS W ob sb g n' m' F' H')=>IH j rfl (x-2^j) lv ow B ob sb g n' m' R F' H' W lvl (by omega) (by omega) (by obtain⟨a1,a2,a3,a4,a5,a6,a7⟩:=HBS.out;omega) (by obtain⟨a1,a2,a3,a4,a5,a6,a7⟩:=HBS.out;omega) (by obtain⟨a1,a2,a3,a4,a5,a6,a7⟩:=HBS.out;exact a3) (by obtain⟨a1,a2,a3,a4,a5,a6,a7⟩:=HBS.out;omega) (by obtain⟨a1,a2,a3,a4,a5,a6,a7⟩:=HBS.out;omega) h1 h2 h3 hn' hRL;have OK1:=fun(h:(rdP j (x-2^j) R).er=0)=>Tt j (x-2^j) R (by omega) h;obtain⟨rl,hrl⟩:=eX (rdP j (x-2^j) R);rw[←hrl]at I1 OK1 HRX;have I2:=fun(W:World) (n' m':Nat) (F':Int→Option NodeD) (H':Int→Option (List Nat)) (he:rl.er=0) (hn':n'+m'+rl.rest.length≤900000000) (h1:g≤W.heap.size) (h2:RS W B rl.rest 0) (h3:PcS W ob sb g n' m' F' H')=>IH j rfl (x+2^j) lv ow B ob sb g n' m' rl.rest F' H' W lvr (by omega) (by omega) (by obtain⟨a1,a2,a3,a4,a5,a6,a7⟩:=HBS.out;omega) (by obtain⟨a1,a2,a3,a4,a5,a6,a7⟩:=HBS.out;omega) (by obtain⟨a1,a2,a3,a4,a5,a6,a7⟩:=HBS.out;exact a3) (by obtain⟨a1,a2,a3,a4,a5,a6,a7⟩:=HBS.out;omega) (by obtain⟨a1,a2,a3,a4,a5,a6,a7⟩:=HBS.out;omega) h1 h2 h3 hn' fun y hy=>hRL y ((OK1 he).sub.2 y hy);have OK2:=fun(h:(rdP j (x+2^j) rl.rest).er=0)=>Tt j (x+2^j) rl.rest (by omega) h;obtain⟨rr,hrr⟩:=eX (rdP j (x+2^j) rl.rest);rw[←hrr]at I2 OK2 HRX;have B1:rl.er=0→(∀p∈rl.op,p.1<(x:Int))∧(∀p∈rl.sh,p.1<(x:Int))∧rl.op.length+rl.sh.length+rl.rest.length≤R.length:=fun h=>by
     have o:=OK1 h;exact⟨fun p hp=>by have:=(o.opIn p hp).2;omega,fun p hp=>by have:=(o.shIn p hp).2;omega,o.len⟩
    have B2:rr.er=0→(∀p∈rr.op,(x:Int)<p.1)∧(∀p∈rr.sh,(x:Int)<p.1):=fun h=>by
     have o:=OK2 h;exact⟨fun p hp=>by have:=(o.opIn p hp).1;omega,fun p hp=>by have:=(o.shIn p hp).1;omega⟩
    obtain⟨xl,hxl⟩:=eX (x-2^j);obtain⟨xr,hxr⟩:=eX (x+2^j);rw[←hxl]at I1 LFT;rw[←hxr]at I2 RGT;have HI1:=Hd I1;have HI2:=Hd I2;have HCHL:=Hd LFT;have HCHR:=Hd RGT;have HB1:=Hd B1;have HB2:=Hd B2;obtain⟨⟨G,hG1,hG2⟩,-⟩:=id S4.out;have hmP:=P4.out.cell 2;simp only[bK,bL,bM]at hmP;have HG1:=Hd hG1;have HG2:=Hd hG2;clear hk2 hodd hG1 hG2 I1 I2 LFT RGT B1 B2 OK1 OK2 hrl hrr hxl hxr kl kr lvl lvr kx hX hXL hx131 ek2 hjp hlr hnm hRL;go_wp2_with (first
     |(refine Ai rfl 52 (.tmp 9) rfl q rfl 52 #[.int .u8 kd,x0,x1,x2,.int .u8 sr,x3,x4,u0,u1,u2] (0,0) _ Q4.out Tryz.underlying52 rfl (by kernel_rfl) ?_)
     |(refine Ej rfl (.tmp 57) (.tmp 58) (.tmp 59) rfl Tryz.underlying98 rfl HG1.out rfl HXI.out (by obtain⟨a1,a2,a3,a4,a5,a6,a7⟩:=HBS.out;unfold maxLen;omega) _ rfl ?_))
    intro w5 hmf hgr;have S5:=Hd (S4.out.putN HG2.out hmf hgr (NO4.out.mono (by obtain⟨a1,a2,a3,a4,a5,a6,a7⟩:=HBS.out;omega)) (by obtain⟨a1,a2,a3,a4,a5,a6,a7⟩:=HBS.out;omega) (by obtain⟨a1,a2,a3,a4,a5,a6,a7⟩:=HBS.out;exact a3));have R5:=Hd (R4.out.only hgr (by obtain⟨a1,a2,a3,a4,a5,a6,a7⟩:=HBS.out;omega) (by obtain⟨a1,a2,a3,a4,a5,a6,a7⟩:=HBS.out;have:=HZ4.out;omega));have HO5:=Hd (HO4.out.trans (On3.of hgr (.inr (.inl rfl))));have Pw5:=Hd (P4.out.only hgr (by obtain⟨a1,a2,a3,a4,a5,a6,a7⟩:=HBS.out;omega));have HZ5:=Hd (dG HZ4.out hgr.size);have HIHL:=Hd fun(W:World) (hw:Below w5.heap.size w5 W)=>HI1.out W (n+1) m (Lf F [((x:Int),d)]) H (by have:=HLR.out.1;have:=HNM.out;omega) (by obtain⟨a1,a2,a3,a4,a5,a6,a7⟩:=HBS.out;have:=HZ5.out;have:=hw.size;omega) (R5.out.below hw) (S5.out.below hw);clear hmf hgr y0 hmP;go_wp2_with fail;refine Ax [eF (.agg #[.int .i64 lv,.int .i64 ow,.map (some ob),.map (some sb)]),eF (.pointer (some ⟨B,0,none⟩)),eF (.int .i64 (x:Nat)),eF (.int .i64 (xl:Nat)),fun v w'=>v=.int .u8 (rl.er:Nat)∧(rl.er=0→RS w' B rl.rest 0∧PcS w' ob sb g (n+1+rl.op.length) (m+rl.sh.length) (Lf (Lf F [((x:Int),d)]) rl.op) (Ok (H) rl.sh)),eF (.int .u8 (rl.er:Nat))]
     (cS 6 true) (fun x=>On3 B ob sb w5 x) (fun x y=>On3 B ob sb x y) (some 4) (by kernel_rfl) ?_ ⟨rfl,rfl,rfl,lR,fun _ _ _ _ _=>rfl⟩ (fun x y _ h=>On3.below h) (fun x y hx hs=>hx.trans hs) (by kernel_rfl) (by kernel_rfl) ?_ ?_
    ·exact kE (kE (kE (kE (Cs (fun v x y h _ hb=>⟨h.1,fun e=>⟨(h.2 e).1.below hb,(h.2 e).2.below hb⟩⟩) (Ad (fun _ _ _ h _ _=>h) Aj)))))
    ·refine gO ?_ (gP ?_ rfl (gP ?_ rfl (gO ?_ (gOw (by kernel_rfl) ?_ (gP ?_ rfl .nil)))));all_goals
      intro a wx hbx hbq ho hf;have hbx:On3 B ob sb w5 wx:=hbx;refine⟨rfl,?_⟩;intro K hK;try have Pf3:a.tmps[3]?.getD undef=.pointer (some ⟨p,0,none⟩):=ho 3 (by kernel_rfl)
      try have Pf1:a.tmps[1]?.getD undef=.pointer (some ⟨B,0,none⟩):=ho 1 (by kernel_rfl)
      try have Pf2:a.tmps[2]?.getD undef=.int .i64 (x:Nat):=ho 2 (by kernel_rfl)
      try have Ef0:=eqn hf.1
      try have Ef1:=eqn hf.2.1
      try have Ef2:=eqn hf.2.2.1
      try(refine Hd ?_;go_simp;exact hK _ rfl)
     ·have hpx:=Pw5.out.on3 hbx (by obtain⟨a1,a2,a3,a4,a5,a6,a7⟩:=HBS.out;omega) (by obtain⟨a1,a2,a3,a4,a5,a6,a7⟩:=HBS.out;omega) (by obtain⟨a1,a2,a3,a4,a5,a6,a7⟩:=HBS.out;omega);exact wp_load_row 101 (.tmp 3) rfl _ (evs Pf3) _ _ (0,0) _ hpx Tryz.underlying101 rfl (by kernel_rfl) (hK _ _ rfl (Ab rfl bR))
     ·go_simp;refine(HCHL.out wx).mono ?_;rintro e w7 ⟨rfl,rfl⟩;exact hK _ _ rfl (Ab rfl bR)
     ·go_simp;refine(HIHL.out wx hbq).mono ?_;rintro e w7 ⟨rfl,h2,h3⟩;exact hK _ _ ⟨rfl,h3⟩ (Cc rfl h2)
     ·refine Hd ?_;have Ef4:a.tmps[67]?.getD undef=.int .u8 (rl.er:Nat):=hf.1.1;go_simp;exact hK _ rfl
    ·rintro f w6 hb hfin;have hb:On3 B ob sb w5 w6:=hb;have hpost:rl.er=0→RS w6 B rl.rest 0∧PcS w6 ob sb g (n+1+rl.op.length) (m+rl.sh.length) (Lf (Lf F [((x:Int),d)]) rl.op) (Ok (H) rl.sh):=hfin.2.2.2.2.1.2;have Sr:f 11=.int .u8 (rl.er:Nat):=hfin.2.2.2.2.2.1;clear hfin;simp only[Aw,Bl,Ga,cH,cI,cJ,cK,Nat.reduceBEq,Nat.reduceAdd,cL,cM,cond_true,cond_false];rw[Sr];clear Sr;have HO6:=Hd (HO5.out.trans hb);have Pw6:=Hd (Pw5.out.on3 hb (by obtain⟨a1,a2,a3,a4,a5,a6,a7⟩:=HBS.out;omega) (by obtain⟨a1,a2,a3,a4,a5,a6,a7⟩:=HBS.out;omega) (by obtain⟨a1,a2,a3,a4,a5,a6,a7⟩:=HBS.out;omega));have HZ6:=Hd (dG HZ5.out hb.size);have HPO:=Hd hpost;clear hb hpost
     by_cases hl0:rl.er=0
     ·have hl1:((rl.er:Int) !=0)=false:=(by rw[bne_eq_false_iff_eq];omega);have HL0:=Hd hl0;have HIHR:=Hd fun(W:World) (hw:Below w6.heap.size w6 W)=>HI2.out W (n+1+rl.op.length) (m+rl.sh.length) (Lf (Lf F [((x:Int),d)]) rl.op) (Ok H rl.sh) hl0 (by have:=HLR.out.1;have:=HNM.out;have:=(HB1.out hl0).2.2;omega) (by obtain⟨a1,a2,a3,a4,a5,a6,a7⟩:=HBS.out;have:=HZ6.out;have:=hw.size;omega) ((HPO.out hl0).1.below hw) ((HPO.out hl0).2.below hw);clear hl0;go_wp2_with fail;refine Ax [eF (.agg #[.int .i64 lv,.int .i64 ow,.map (some ob),.map (some sb)]),eF (.pointer (some ⟨B,0,none⟩)),eF (.int .i64 (x:Nat)),eF (.int .i64 (xr:Nat)),fun v w'=>v=.int .u8 (rr.er:Nat)∧(rr.er=0→RS w' B rr.rest 0∧PcS w' ob sb g (n+1+rl.op.length+rr.op.length) (m+rl.sh.length+rr.sh.length) (Lf (Lf (Lf F [((x:Int),d)]) rl.op) rr.op) (Ok (Ok H rl.sh) rr.sh)),eF (.int .u8 (rr.er:Nat))]
       (cS 6 true) (fun x=>On3 B ob sb w6 x) (fun x y=>On3 B ob sb x y) (some 4) (by kernel_rfl) ?_ ⟨rfl,rfl,rfl,lR,fun _ _ _ _ _=>rfl⟩ (fun x y _ h=>On3.below h) (fun x y hx hs=>hx.trans hs) (by kernel_rfl) (by kernel_rfl) ?_ ?_
      ·exact kE (kE (kE (kE (Cs (fun v x y h _ hb=>⟨h.1,fun e=>⟨(h.2 e).1.below hb,(h.2 e).2.below hb⟩⟩) (Ad (fun _ _ _ h _ _=>h) Aj)))))
      ·refine gO ?_ (gP ?_ rfl (gP ?_ rfl (gO ?_ (gOw (by kernel_rfl) ?_ (gP ?_ rfl .nil)))));all_goals
        intro a wx hbx hbq ho hf;have hbx:On3 B ob sb w6 wx:=hbx;refine⟨rfl,?_⟩;intro K hK;try have Pf3:a.tmps[3]?.getD undef=.pointer (some ⟨p,0,none⟩):=ho 3 (by kernel_rfl)
        try have Pf1:a.tmps[1]?.getD undef=.pointer (some ⟨B,0,none⟩):=ho 1 (by kernel_rfl)
        try have Pf2:a.tmps[2]?.getD undef=.int .i64 (x:Nat):=ho 2 (by kernel_rfl)
        try have Ef0:=eqn hf.1
        try have Ef1:=eqn hf.2.1
        try have Ef2:=eqn hf.2.2.1
        try(refine Hd ?_;go_simp;exact hK _ rfl)
       ·have hpx:=Pw6.out.on3 hbx (by obtain⟨a1,a2,a3,a4,a5,a6,a7⟩:=HBS.out;omega) (by obtain⟨a1,a2,a3,a4,a5,a6,a7⟩:=HBS.out;omega) (by obtain⟨a1,a2,a3,a4,a5,a6,a7⟩:=HBS.out;omega);exact wp_load_row 101 (.tmp 3) rfl _ (evs Pf3) _ _ (0,0) _ hpx Tryz.underlying101 rfl (by kernel_rfl) (hK _ _ rfl (Ab rfl bR))
       ·go_simp;refine(HCHR.out wx).mono ?_;rintro e w7 ⟨rfl,rfl⟩;exact hK _ _ rfl (Ab rfl bR)
       ·go_simp;refine(HIHR.out wx hbq).mono ?_;rintro e w7 ⟨rfl,h2,h3⟩;exact hK _ _ ⟨rfl,h3⟩ (Cc rfl h2)
       ·refine Hd ?_;have Ef4:a.tmps[75]?.getD undef=.int .u8 (rr.er:Nat):=hf.1.1;go_simp;exact hK _ rfl
      ·rintro f w7 hb hfin;have hb:On3 B ob sb w6 w7:=hb;have hpost:rr.er=0→RS w7 B rr.rest 0∧PcS w7 ob sb g (n+1+rl.op.length+rr.op.length) (m+rl.sh.length+rr.sh.length) (Lf (Lf (Lf F [((x:Int),d)]) rl.op) rr.op) (Ok (Ok H rl.sh) rr.sh):=hfin.2.2.2.2.1.2;have Sr:f 6=.int .u8 (rr.er:Nat):=hfin.2.2.2.2.2.1;clear hfin;simp only[Aw,Bl,Ga,cH,cI,cJ,cK,Nat.reduceBEq,Nat.reduceAdd,cL,cM,cond_true,cond_false];rw[Sr];clear Sr;have HO7:=Hd (HO6.out.trans hb);have HPO2:=Hd hpost;clear hb hpost;go_wp2_with fail;go_ret;rw[HRX.out];unfold Ll;rw[if_neg (by have:=HL0.out;omega)]
       by_cases hr0:rr.er=0
       ·obtain⟨l1,l2,l3⟩:=HB1.out HL0.out;obtain⟨r1,r2⟩:=HB2.out hr0;obtain⟨p1,p2⟩:=HPO2.out hr0;rw[if_neg (by omega)];refine⟨by rw[hr0];rfl,HO7.out,fun _=>⟨p1,?_⟩⟩;have e1:=Zgw F (d:=d) l1 r1;have e2:=Zgx H l2 r2;rw[e1,e2]at p2;exact p2.le (by simp only[aG,bO];omega) (by simp only[aG];omega)
       ·rw[if_pos hr0];exact⟨rfl,HO7.out,fun h=>absurd h hr0⟩
     ·have hl1:((rl.er:Int) !=0)=true:=(by rw[bne_iff_ne];omega);have HL0:=Hd hl0;clear hl0;go_wp2_with fail;go_ret;rw[HRX.out];unfold Ll;rw[if_pos HL0.out];exact⟨rfl,HO6.out,fun h=>absurd h HL0.out⟩
 ·have h1b:((te:Int) !=0)=true:=(by rw[bne_iff_ne];omega);obtain⟨K,hK⟩:=Zdz k x (1::M);have HRX:=Hd (show rdP k x (1::M)=If te from by rw[HRD.out K hK,if_pos h1]);have HTE:=Hd h1;clear h1 hK;go_wp2_with fail;go_ret;rw[HRX.out];exact⟨rfl,HO4.out,fun h=>absurd h HTE.out⟩
theorem Zgz:∀k,k≤16→Zgy k:=by
 have step:∀k,k≤16→(∀j,k=j+1→Zgy j)→Zgy k:=by
  intro k hk IH x lv ow B ob sb g n m L F H w h1 h2 h2' h3 h4 h5 h6 h7 h8 h9 h10 h11 h12;rcases Zai L with⟨fe,M,hfe,hf,hr⟩|⟨M,rfl,hf⟩|⟨M,rfl,hf⟩
  ·obtain⟨K,hK⟩:=Zdz k x L;rw[hK,hr];exact Zd0 k x lv ow B ob sb g n m fe L M F H w h9 h12 hfe hf
  ·obtain⟨K,hK⟩:=Zdz k x (0::M);rw[hK];exact Zd1 k x lv ow B ob sb g n m M F H w (by have:=eG k;omega) h3 h4 h5 h6 h7 h8 h9 h10 (by simp only[bO]at h11;omega) h12
  ·exact Zd2 k x hk IH lv ow B ob sb g n m M F H w h1 h2 h2' h3 h4 h5 h6 h7 h8 h9 h10 h11 h12
 intro k
 induction k with
 |zero=>intro h;exact step 0 h fun j e=>by cases e
 |succ k ih=>intro h;exact step (k+1) h fun j e=>by cases e;exact ih (by omega)
def Ig (L:List Nat)(s:Int)(P:Nat→Bool):Nat×Nat×List Nat×Nat:=
 if(Eb L 0 s).2.2≠0 then(0,(Eb L 0 s).2.2,(Eb L 0 s).2)else if P (Ct (Eb L 0 s).1)=true then(Ct (Eb L 0 s).1,0,(Eb L 0 s).2)else(0,3,(Eb L 0 s).2)
def Zd3 (B:Nat)(w:World)(r:Nat×Nat×List Nat×Nat)(e:Ending)(w':World):Prop:=
 e=.returned (.tuple #[.int .i64 (r.1:Nat),.int .u8 (r.2.1:Nat)])∧RS w' B r.2.2.1 r.2.2.2∧Only B w w'
theorem Zd4 {L:List Nat} {er:Nat} {n:Int}(h:(Bw L er n).2.2≠0):(Bw L er n).1=[]:=by
 unfold Bw at h⊢
 by_cases h1:er≠0
 ·rw[if_pos h1]
 ·rw[if_neg h1]at h⊢
  by_cases h2:n<0
  ·rw[if_pos h2]
  ·rw[if_neg h2]at h⊢
   by_cases h3:(L.length:Int)<n
   ·rw[if_pos h3]
   ·rw[if_neg h3]at h;exact absurd rfl h
theorem Zd5 {L:List Nat} {s:Int}(hL:∀n∈L,n<256)(hs:s=1∨s=4):Ct (Eb L 0 s).1<4294967296:=by
 have p:=Fx L 0 s
 by_cases h:(Eb L 0 s).2.2=0
 ·have:=Rh (L:=L) (er:=0) (n:=if Zej s=true then s else-1) h;have hm:Zej s=true:=by rcases hs with rfl|rfl<;>decide
  rw[if_pos hm]at this;have e:Eb L 0 s=Bw L 0 s:=(by rw[Eb,if_pos hm]);rw[e,this.2.2.2];have hl:(L.take s.toNat).length≤4:=(by rw[List.length_take];omega);have h1:=Mr _ _ rfl fun n hn=>hL n (List.mem_of_mem_take (i:=s.toNat) hn);have h2:256^(L.take s.toNat).length≤256^4:=Nat.pow_le_pow_right (by omega) hl;exact dH h1 (dG h2 (by decide))
 ·have:(Eb L 0 s).1=[]:=Zd4 h;rw[this];decide
theorem Po (g:Nat) (c:Value) (eg:∀args w,(callFunc g args).run Tryz.prog w=.ok (.enter g args) w) (B:Nat) (L:List Nat) (s:Int) (P:Nat→Bool) (w:World) (h:RS w B L 0) (hs:s=1∨s=4) (hL:∀n∈L,n<256)
  (CG:∀(n:Nat) (W:World),n<4294967296→Only B w W→Calls Tryz.prog g #[.int .i64 (n:Nat),c] W fun e W'=>e=.returned (.bool (P n))∧W'=W):
  Calls Tryz.prog 118 #[.pointer (some ⟨B,0,none⟩),.int .i64 s,.func (.func g) #[] #[c]] w (Zd3 B w (Ig L s P)):=by
 have HN:=Hd (Mx B L 0 s w h hL);have hb:=Zd5 hL hs;have HER:=Hd fun(L:List Nat) (er:Nat) W=>Gh B L er W;unfold Ig;obtain⟨m,hm⟩:=eX (Ct (Eb L 0 s).1);obtain⟨M,hM⟩:=eX ((Eb L 0 s).2.1);obtain⟨er,her⟩:=eX ((Eb L 0 s).2.2);have HN2:Hid (Calls Tryz.prog 154 #[.pointer (some ⟨B,0,none⟩),.int .i64 s] w fun e w'=>e=.returned (.int .u64 (m:Nat))∧RS w' B M er∧Only B w w'):=Hd (by rw[hm,hM,her];exact HN.out);have e2:(Eb L 0 s).2=(M,er):=(by rw[hM,her]);rw[←hm]at hb;rw[←her,←hm,e2];have HCG:=Hd fun(W:World) (hW:Only B w W)=>CG m W hb hW;have hwm:IntKind.i64.wrap (m:Int)=(m:Int):=IntWalk.i64_in _ ⟨by omega,by omega⟩;obtain⟨R,hS⟩:=eX ((if er≠0 then(0,er,M,er)else if P m=true then(m,0,M,er)else(0,3,M,er):Nat×Nat×List Nat×Nat));rw[←hS];have HS:=Hd hS;obtain⟨pb,hpb⟩:=eX (P m);rw[←hpb]at HCG HS;clear HN h hs hL hb CG hm hM her e2 hS hpb;go_enter Tryz.func118,Tryz.ntmps118;go_wp2_with fail;refine HN2.out.mono ?_;rintro e w1 ⟨rfl,hrs,honly⟩;have R1:=Hd hrs;have O1:=Hd honly;clear hrs honly;go_wp2_with fail;refine(HER.out _ _ _ R1.out).mono ?_;rintro e w' ⟨rfl,rfl⟩
 by_cases h1:er=0
 ·have h1b:((er:Int) !=0)=false:=(by rw[bne_eq_false_iff_eq];omega);have HE:=Hd h1;clear h1;go_wp2_with fail;refine(HCG.out _ O1.out).mono ?_;rintro e w' ⟨rfl,rfl⟩;cases pb with
  |true=>
   go_wp2_with fail;go_ret2;rw[HS.out,if_neg (by have:=HE.out;omega),if_pos trivial];exact⟨rfl,R1.out,O1.out⟩
  |false=>
   go_wp2_with fail;go_ret2;rw[HS.out,if_neg (by have:=HE.out;omega),if_neg (by simp)];exact⟨rfl,R1.out,O1.out⟩
 ·have h1b:((er:Int) !=0)=true:=(by rw[bne_iff_ne];omega);have HE:=Hd h1;clear h1;go_wp2_with fail;go_ret2;rw[HS.out,if_pos HE.out];exact⟨rfl,R1.out,O1.out⟩
theorem Zd6 (g:Nat) (eg:∀args w,(callFunc g args).run Tryz.prog w=.ok (.enter g args) w) (B:Nat) (L:List Nat) (s:Int) (P:Nat→Bool) (w:World) (h:RS w B L 0) (hs:s=1∨s=4) (hL:∀n∈L,n<256)
  (CG:∀(n:Nat) (W:World),n<4294967296→Only B w W→Calls Tryz.prog g #[.int .i64 (n:Nat)] W fun e W'=>e=.returned (.bool (P n))∧W'=W):
  Calls Tryz.prog 118 #[.pointer (some ⟨B,0,none⟩),.int .i64 s,.func (.func g) #[] #[]] w (Zd3 B w (Ig L s P)):=by
 have HN:=Hd (Mx B L 0 s w h hL);have hb:=Zd5 hL hs;have HER:=Hd fun(L:List Nat) (er:Nat) W=>Gh B L er W;unfold Ig;obtain⟨m,hm⟩:=eX (Ct (Eb L 0 s).1);obtain⟨M,hM⟩:=eX ((Eb L 0 s).2.1);obtain⟨er,her⟩:=eX ((Eb L 0 s).2.2);have HN2:Hid (Calls Tryz.prog 154 #[.pointer (some ⟨B,0,none⟩),.int .i64 s] w fun e w'=>e=.returned (.int .u64 (m:Nat))∧RS w' B M er∧Only B w w'):=Hd (by rw[hm,hM,her];exact HN.out);have e2:(Eb L 0 s).2=(M,er):=(by rw[hM,her]);rw[←hm]at hb;rw[←her,←hm,e2];have HCG:=Hd fun(W:World) (hW:Only B w W)=>CG m W hb hW;have hwm:IntKind.i64.wrap (m:Int)=(m:Int):=IntWalk.i64_in _ ⟨by omega,by omega⟩;obtain⟨R,hS⟩:=eX ((if er≠0 then(0,er,M,er)else if P m=true then(m,0,M,er)else(0,3,M,er):Nat×Nat×List Nat×Nat));rw[←hS];have HS:=Hd hS;obtain⟨pb,hpb⟩:=eX (P m);rw[←hpb]at HCG HS;clear HN h hs hL hb CG hm hM her e2 hS hpb;go_enter Tryz.func118,Tryz.ntmps118;go_wp2_with fail;refine HN2.out.mono ?_;rintro e w1 ⟨rfl,hrs,honly⟩;have R1:=Hd hrs;have O1:=Hd honly;clear hrs honly;go_wp2_with fail;refine(HER.out _ _ _ R1.out).mono ?_;rintro e w' ⟨rfl,rfl⟩
 by_cases h1:er=0
 ·have h1b:((er:Int) !=0)=false:=(by rw[bne_eq_false_iff_eq];omega);have HE:=Hd h1;clear h1;go_wp2_with fail;refine(HCG.out _ O1.out).mono ?_;rintro e w' ⟨rfl,rfl⟩;cases pb with
  |true=>
   go_wp2_with fail;go_ret2;rw[HS.out,if_neg (by have:=HE.out;omega),if_pos trivial];exact⟨rfl,R1.out,O1.out⟩
  |false=>
   go_wp2_with fail;go_ret2;rw[HS.out,if_neg (by have:=HE.out;omega),if_neg (by simp)];exact⟨rfl,R1.out,O1.out⟩
 ·have h1b:((er:Int) !=0)=true:=(by rw[bne_iff_ne];omega);have HE:=Hd h1;clear h1;go_wp2_with fail;go_ret2;rw[HS.out,if_pos HE.out];exact⟨rfl,R1.out,O1.out⟩
def Zka (only:Bool)(n i:Nat)(L:List Nat):Nat×SparseD:=
 if(rdP (aV n) (n-1) L).er≠0 then((rdP (aV n) (n-1) L).er,Ex)else
 if Ze8 (rdP (aV n) (n-1) L).rest 0≠0 then(Ze8 (rdP (aV n) (n-1) L).rest 0,Ex)else
 if Az ⟨n,i,(rdP (aV n) (n-1) L).op,(rdP (aV n) (n-1) L).sh⟩ only=true then(0,⟨n,i,(rdP (aV n) (n-1) L).op,(rdP (aV n) (n-1) L).sh⟩)else(3,Ex)
def Zkb (only:Bool)(n:Nat)(L:List Nat):Nat×SparseD:=
 if(Ig L 4 fun i=>decide (i<n)).2.1≠0 then((Ig L 4 fun i=>decide (i<n)).2.1,Ex)else
 Zka only n (Ig L 4 fun i=>decide (i<n)).1 (Ig L 4 fun i=>decide (i<n)).2.2.1
def Zkc (only:Bool)(L:List Nat):Nat×SparseD:=
 if(Ig L 4 fits).2.1≠0 then((Ig L 4 fits).2.1,Ex)else
 Zkb only (Ig L 4 fits).1 (Ig L 4 fits).2.2.1
def ofT (only:Bool)(mk:Nat)(b:List Nat):Nat×SparseD:=
 if 1048576<b.length then(6,Ex)else
 if(Ig b 1 fun n=>n==mk).2.1≠0 then((Ig b 1 fun n=>n==mk).2.1,Ex)else
 Zkc only (Ig b 1 fun n=>n==mk).2.2.1
def Zkd (r:Nat×SparseD)(w:World)(e:Ending)(w':World):Prop:=Below w.heap.size w w'∧
 if r.1=0 then∃ob sb gg,e=.returned (.tuple #[.agg #[.int .i64 r.2.leaves,.int .i64 r.2.own,.map (some ob),.map (some sb)],.int .u8 0])∧w.heap.size≤ob∧w.heap.size≤sb∧ob≠sb∧ob<gg∧sb<gg∧PcS w' ob sb gg r.2.op.length r.2.sh.length (Am r.2.op) (By r.2.sh)
 else e=.returned (.tuple #[.agg #[.int .i64 0,.int .i64 0,.map none,.map none],.int .u8 (r.1:Nat)])
theorem PcS.pieceN {w:World} {ob sb g n m:Nat} {F:Int→Option NodeD} {H:Int→Option (List Nat)}(h:PcS w ob sb g n m F H):PieceN w ob n F:=by
 obtain⟨⟨G,h1,h2⟩,-⟩:=h;refine⟨G,h1,fun x=> ?_⟩;have:=h2 x;revert this;cases F x with
 |none=>exact fun h=>h
 |some d=>rintro⟨c,h3,h4⟩;exact⟨c,h3,h4.c⟩
theorem PcS.pieceH {w:World} {ob sb g n m:Nat} {F:Int→Option NodeD} {H:Int→Option (List Nat)}(h:PcS w ob sb g n m F H):PieceH w sb m H:=by
 obtain⟨-,G,h1,h2⟩:=h;refine⟨G,h1,fun x=> ?_⟩;have:=h2 x;revert this;cases H x with
 |none=>exact fun h=>h
 |some d=>rintro⟨c,h3,h4⟩;exact⟨c,h3,h4.rd⟩
theorem Zd7 (n g mk:Nat)(w:World)(hg:w.cell? ⟨g,0,none⟩=some (.int .i64 (mk:Nat))):
  Calls Tryz.prog 119 #[.int .i64 (n:Nat),.pointer (some ⟨g,0,none⟩)] w fun e w'=>e=.returned (.bool (n==mk))∧w'=w:=by
 obtain⟨b,hb⟩:=eX ((n==mk));have hb2:((n:Int)==(mk:Int))=b:=(by rw[hb,fG,beq_iff_eq,beq_iff_eq];omega);rw[←hb];clear hb;go_enter Tryz.func119,Tryz.ntmps119;go_wp2_with fail;go_ret;exact⟨by first|rfl|(rw[hb2]),rfl⟩
theorem Zd8 (n g lv:Nat)(w:World)(hg:w.cell? ⟨g,0,none⟩=some (.int .i64 (lv:Nat))):
  Calls Tryz.prog 120 #[.int .i64 (n:Nat),.pointer (some ⟨g,0,none⟩)] w fun e w'=>e=.returned (.bool (decide (n<lv)))∧w'=w:=by
 obtain⟨b,hb⟩:=eX (decide (n<lv));have hb1:decide (n<lv)=b:=hb.symm;have hb2:decide ((n:Int)<(lv:Int))=b:=(by rw[hb,fG,decide_eq_true_iff,decide_eq_true_iff];omega);rw[←hb];clear hb;go_enter Tryz.func120,Tryz.ntmps120;go_wp2_with fail;go_ret;exact⟨by first|rfl|(rw[hb1])|(rw[hb2]),rfl⟩
end Go.Proofs.YtfofaiommeckbaaGreat
