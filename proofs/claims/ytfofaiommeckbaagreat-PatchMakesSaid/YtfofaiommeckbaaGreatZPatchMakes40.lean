/- Walk: bytes.Equal. -/
import Derived.Test.YtfofaiommeckbaaGreatZPatchMakesB
import Derived.Laws.BytesArg
import Derived.Lib.Bytes
import Derived.Test.YtfofaiommeckbaaGreatZPatchMakes34
open Bool renaming eq_iff_iff → fG, and_eq_true → cC
open List renaming range → aF, getElem?_toArray → bN, getElem?_cons_zero → bO, getElem?_cons_succ → bP
set_option linter.unusedVariables false
set_option maxRecDepth 100000
set_option maxHeartbeats 40000000
namespace Go.Proofs.YtfofaiommeckbaaGreat
open Go.RowKit
theorem Oc {w:World} {v:Value} {L:List Nat}(h:Rd w v (bvs L)):(convert 28 9 v).run Tryz.prog w=.ok (.string (strOfNums (L.map fun(n:Nat)=>(n:Int)))) w:=by
 obtain⟨a,cap,rfl,h1,h2,h3⟩:=h;rcases h3 with⟨e,hn⟩|⟨b,off,rfl,hc⟩
 ·have hL:L=[]:=by
   have:=congrArg List.length e;rw[bvs_len]at this;exact List.eq_nil_of_length_eq_zero this
  subst hL;cases a with
  |none=>exact run_convert_bytes_nil w 28 5 Tryz.underlying28 Tryz.underlying5 _ _ 9 Tryz.underlying9
  |some a=>
   obtain⟨b,off,spot⟩:=a;rw[run_convert_bytes_string w 28 9 5 _ _ _ Tryz.underlying28 Tryz.underlying5 Tryz.underlying9]
   rfl
 ·refine run_convert_bytes_arg w 28 5 Tryz.underlying28 Tryz.underlying5 b off _ _ _ ?_ ?_ 9 Tryz.underlying9
  ·rw[List.length_map,bvs_len]
  ·intro i hi;rw[bvs_len]at hi;rw[hc i _ (Zeh hi)]
   congr 2
   rw[List.getD_eq_getElem?_getD,List.getElem?_map,List.getElem?_eq_getElem hi];rfl
theorem Tw {L M:List Nat}(hL:∀n∈L,n<256)(hM:∀n∈M,n<256)(h:(strOfNums (L.map fun(n:Nat)=>(n:Int))).toList=(strOfNums (M.map fun(n:Nat)=>(n:Int))).toList):L=M:=by
 rw[Lib.strOfNums_toList,Lib.strOfNums_toList]at h;have h2:=congrArg (List.map UInt8.toNat) h;unfold Lib.bytesOf at h2;simp only[List.map_map]at h2;have e:∀(K:List Nat),(∀n∈K,n<256)→K.map (UInt8.toNat∘((fun(n:Int)=>UInt8.ofNat n.toNat)∘fun(n:Nat)=>(n:Int)))=K:=by
  intro K hK
  conv=>rhs;rw[←List.map_id K]
  apply List.map_congr_left;intro n hn;simp[Nat.mod_eq_of_lt (hK n hn)]
 rw[e L hL,e M hM]at h2;exact h2
theorem Ff (v1 v2:Value)(L M:List Nat)(w:World)(h1:Rd w v1 (bvs L))(h2:Rd w v2 (bvs M))(hL:∀n∈L,n<256)(hM:∀n∈M,n<256):
  Calls Tryz.prog 96 #[v1,v2] w fun e w'=>e=.returned (.bool (decide (L=M)))∧w'=w:=by
 have g1:=Oc h1;have g2:=Oc h2;have hiff:decide (L=M)=((strOfNums (L.map fun(n:Nat)=>(n:Int))).toList==(strOfNums (M.map fun(n:Nat)=>(n:Int))).toList):=by
  by_cases e:L=M
  ·subst e;simp
  ·rw[decide_eq_false e,Eq.comm,beq_eq_false_iff_ne];exact fun h=>e (Tw hL hM h)
 rw[hiff];obtain⟨S,hS⟩:=eX (strOfNums (L.map fun(n:Nat)=>(n:Int)));obtain⟨T,hT⟩:=eX (strOfNums (M.map fun(n:Nat)=>(n:Int)));rw[←hS]at g1⊢;rw[←hT]at g2⊢;obtain⟨a1,n1,k1,rfl⟩:∃a n c,v1=.slice a n c:=(by obtain⟨a,c,e,_⟩:=h1;exact⟨_,_,_,e⟩);obtain⟨a2,n2,k2,rfl⟩:∃a n c,v2=.slice a n c:=(by obtain⟨a,c,e,_⟩:=h2;exact⟨_,_,_,e⟩);clear hS hT h1 h2 hiff;go_enter Tryz.func96,Tryz.ntmps96;go_wp2_with fail;go_ret;exact⟨rfl,rfl⟩
open WalkM WireM
def Od (d:NodeD):Prop:=d.par.late.length≤1000000
theorem Xs (D E:NodeD)(c c':Array Value)(w:World)(h1:NodeC w D c)(h2:NodeC w E c')(hD:NodeOk D)(hE:NodeOk E)(sD:Od D)(sE:Od E):
  Calls Tryz.prog 93 #[.agg c,.agg c'] w fun e w'=>e=.returned (.bool (Cr D E))∧Below w.heap.size w w':=by
 obtain⟨a1,ac1,a2,ac2,a3,ac3,a4,ac4,a5,ac5,a6,ac6,a7,ac7,a8,ac8,rfl,h11,h12,h13,h14,h15,h16,h17,h18⟩:=h1;obtain⟨b1,bc1,b2,bc2,b3,bc3,b4,bc4,b5,bc5,b6,bc6,b7,bc7,b8,bc8,rfl,h21,h22,h23,h24,h25,h26,h27,h28⟩:=h2;have HE1:=Hd fun(W:World) (hw:Below w.heap.size w W)=>Ff _ _ _ _ W (h11.below hw lR) (h21.below hw lR) hD.box hE.box;have HE2:=Hd fun(W:World) (hw:Below w.heap.size w W)=>Ff _ _ _ _ W (h12.below hw lR) (h22.below hw lR) hD.sign hE.sign;have HE3:=Hd fun(W:World) (hw:Below w.heap.size w W)=>Ff _ _ _ _ W (h13.below hw lR) (h23.below hw lR) hD.ident hE.ident;have HE4:=Hd fun(W:World) (hw:Below w.heap.size w W)=>Ff _ _ _ _ W (h14.below hw lR) (h24.below hw lR) hD.par hE.par;have HE5:=Hd fun(W:World) (hw:Below w.heap.size w W)=>Ff _ _ _ _ W (h15.below hw lR) (h25.below hw lR) hD.sig hE.sig;have HE6:=Hd fun(W:World) (hw:Below w.heap.size w W)=>Ff _ _ _ _ W (h16.below hw lR) (h26.below hw lR) hD.pbox hE.pbox;have HE7:=Hd fun(W:World) (hw:Below w.heap.size w W)=>Ff _ _ _ _ W (h17.below hw lR) (h27.below hw lR) hD.hash hE.hash;have HE8:=Hd fun(W:World) (hw:Below w.heap.size w W)=>Ox _ _ _ _ W (h18.below hw lR) (h28.below hw lR) sD sE;have hS:Cr D E=(decide (D.kind=E.kind)&&decide (D.leaf.source=E.leaf.source)&&decide (D.par.late=E.par.late)&&decide (D.leaf.box=E.leaf.box)&&decide (D.leaf.sign=E.leaf.sign)&&decide (D.leaf.ident=E.leaf.ident)&&decide (D.leaf.par=E.leaf.par)&&decide (D.leaf.sig=E.leaf.sig)&&decide (D.par.box=E.par.box)&&decide (D.par.hash=E.par.hash)):=by
  rw[Cr,Hp,fG];simp only[decide_eq_true_eq,cC];constructor
  ·rintro⟨h1,⟨h2,h3,h4,h5,h6,h7⟩,h8,h9,h10⟩;exact⟨⟨⟨⟨⟨⟨⟨⟨⟨h1,h5⟩,h10⟩,h2⟩,h3⟩,h4⟩,h6⟩,h7⟩,h8⟩,h9⟩
  ·rintro⟨⟨⟨⟨⟨⟨⟨⟨⟨h1,h5⟩,h10⟩,h2⟩,h3⟩,h4⟩,h6⟩,h7⟩,h8⟩,h9⟩;exact⟨h1,⟨h2,h3,h4,h5,h6,h7⟩,h8,h9,h10⟩
 generalize hz1:decide (D.leaf.box=E.leaf.box)=z1 at hS HE1;obtain⟨l1,hl1⟩:=eX D.leaf.box.length;obtain⟨m1,hm1⟩:=eX E.leaf.box.length;rw[←hl1,←hm1]at HE1;rw[←hl1,←hm1];generalize hz2:decide (D.leaf.sign=E.leaf.sign)=z2 at hS HE2;obtain⟨l2,hl2⟩:=eX D.leaf.sign.length;obtain⟨m2,hm2⟩:=eX E.leaf.sign.length;rw[←hl2,←hm2]at HE2;rw[←hl2,←hm2];generalize hz3:decide (D.leaf.ident=E.leaf.ident)=z3 at hS HE3;obtain⟨l3,hl3⟩:=eX D.leaf.ident.length;obtain⟨m3,hm3⟩:=eX E.leaf.ident.length;rw[←hl3,←hm3]at HE3;rw[←hl3,←hm3];generalize hz4:decide (D.leaf.par=E.leaf.par)=z4 at hS HE4;obtain⟨l4,hl4⟩:=eX D.leaf.par.length;obtain⟨m4,hm4⟩:=eX E.leaf.par.length;rw[←hl4,←hm4]at HE4;rw[←hl4,←hm4];generalize hz5:decide (D.leaf.sig=E.leaf.sig)=z5 at hS HE5;obtain⟨l5,hl5⟩:=eX D.leaf.sig.length;obtain⟨m5,hm5⟩:=eX E.leaf.sig.length;rw[←hl5,←hm5]at HE5;rw[←hl5,←hm5];generalize hz6:decide (D.par.box=E.par.box)=z6 at hS HE6;obtain⟨l6,hl6⟩:=eX D.par.box.length;obtain⟨m6,hm6⟩:=eX E.par.box.length;rw[←hl6,←hm6]at HE6;rw[←hl6,←hm6];generalize hz7:decide (D.par.hash=E.par.hash)=z7 at hS HE7;obtain⟨l7,hl7⟩:=eX D.par.hash.length;obtain⟨m7,hm7⟩:=eX E.par.hash.length;rw[←hl7,←hm7]at HE7;rw[←hl7,←hm7];generalize hz8:decide (D.par.late=E.par.late)=z8 at hS HE8;obtain⟨l8,hl8⟩:=eX D.par.late.length;obtain⟨m8,hm8⟩:=eX E.par.late.length;rw[←hl8,←hm8]at HE8;rw[←hl8,←hm8];rw[hS];generalize D.kind=kd at hS⊢;generalize E.kind=ke at hS⊢;generalize D.leaf.source=s at hS⊢;generalize E.leaf.source=s' at hS⊢;clear hS hD hE sD sE h11 h12 h13 h14 h15 h16 h17 h18 h21 h22 h23 h24 h25 h26 h27 h28 hl1 hm1 hz1 hl2 hm2 hz2 hl3 hm3 hz3 hl4 hm4 hz4 hl5 hm5 hz5 hl6 hm6 hz6 hl7 hm7 hz7 hl8 hm8 hz8
 by_cases hk:kd=ke
 ·subst hk
  by_cases hs:s=s'
  ·subst hs;go_enter Tryz.func93,Tryz.ntmps93;go_wp2_with fail
   go_region
   all_goals
    go_wp2_with fail;refine(HE8.out _ ?_).mono ?_
    ·(repeat any_goals(first|exact bR|exact lR|refine Below.alloc ?_ ?_ _|refine Below.draw1 ?_|refine Aa ?_ _|refine Below.setCell ?_ ?_ _|(simp;done)|(simp;omega)))
    rintro e w10 ⟨rfl,k,rfl⟩;cases z8 with
    |false=>go_wp2_with fail;go_ret;refine⟨by simp,?_⟩;(repeat any_goals(first|exact bR|exact lR|refine Below.alloc ?_ ?_ _|refine Below.draw1 ?_|refine Aa ?_ _|refine Below.setCell ?_ ?_ _|(simp;done)|(simp;omega)))
    |true=>
    go_wp2_with fail;refine(HE1.out _ ?_).mono ?_
    ·(repeat any_goals(first|exact bR|exact lR|refine Below.alloc ?_ ?_ _|refine Below.draw1 ?_|refine Aa ?_ _|refine Below.setCell ?_ ?_ _|(simp;done)|(simp;omega)))
    rintro e w11 ⟨rfl,rfl⟩;cases z1 with
    |false=>go_wp2_with fail;go_ret;refine⟨by simp,?_⟩;(repeat any_goals(first|exact bR|exact lR|refine Below.alloc ?_ ?_ _|refine Below.draw1 ?_|refine Aa ?_ _|refine Below.setCell ?_ ?_ _|(simp;done)|(simp;omega)))
    |true=>
    go_wp2_with fail;refine(HE2.out _ ?_).mono ?_
    ·(repeat any_goals(first|exact bR|exact lR|refine Below.alloc ?_ ?_ _|refine Below.draw1 ?_|refine Aa ?_ _|refine Below.setCell ?_ ?_ _|(simp;done)|(simp;omega)))
    rintro e w11 ⟨rfl,rfl⟩;cases z2 with
    |false=>go_wp2_with fail;go_ret;refine⟨by simp,?_⟩;(repeat any_goals(first|exact bR|exact lR|refine Below.alloc ?_ ?_ _|refine Below.draw1 ?_|refine Aa ?_ _|refine Below.setCell ?_ ?_ _|(simp;done)|(simp;omega)))
    |true=>
    go_wp2_with fail;refine(HE3.out _ ?_).mono ?_
    ·(repeat any_goals(first|exact bR|exact lR|refine Below.alloc ?_ ?_ _|refine Below.draw1 ?_|refine Aa ?_ _|refine Below.setCell ?_ ?_ _|(simp;done)|(simp;omega)))
    rintro e w11 ⟨rfl,rfl⟩;cases z3 with
    |false=>go_wp2_with fail;go_ret;refine⟨by simp,?_⟩;(repeat any_goals(first|exact bR|exact lR|refine Below.alloc ?_ ?_ _|refine Below.draw1 ?_|refine Aa ?_ _|refine Below.setCell ?_ ?_ _|(simp;done)|(simp;omega)))
    |true=>
    go_wp2_with fail;refine(HE4.out _ ?_).mono ?_
    ·(repeat any_goals(first|exact bR|exact lR|refine Below.alloc ?_ ?_ _|refine Below.draw1 ?_|refine Aa ?_ _|refine Below.setCell ?_ ?_ _|(simp;done)|(simp;omega)))
    rintro e w11 ⟨rfl,rfl⟩;cases z4 with
    |false=>go_wp2_with fail;go_ret;refine⟨by simp,?_⟩;(repeat any_goals(first|exact bR|exact lR|refine Below.alloc ?_ ?_ _|refine Below.draw1 ?_|refine Aa ?_ _|refine Below.setCell ?_ ?_ _|(simp;done)|(simp;omega)))
    |true=>
    go_wp2_with fail;refine(HE5.out _ ?_).mono ?_
    ·(repeat any_goals(first|exact bR|exact lR|refine Below.alloc ?_ ?_ _|refine Below.draw1 ?_|refine Aa ?_ _|refine Below.setCell ?_ ?_ _|(simp;done)|(simp;omega)))
    rintro e w11 ⟨rfl,rfl⟩;cases z5 with
    |false=>go_wp2_with fail;go_ret;refine⟨by simp,?_⟩;(repeat any_goals(first|exact bR|exact lR|refine Below.alloc ?_ ?_ _|refine Below.draw1 ?_|refine Aa ?_ _|refine Below.setCell ?_ ?_ _|(simp;done)|(simp;omega)))
    |true=>
    go_wp2_with fail;refine(HE6.out _ ?_).mono ?_
    ·(repeat any_goals(first|exact bR|exact lR|refine Below.alloc ?_ ?_ _|refine Below.draw1 ?_|refine Aa ?_ _|refine Below.setCell ?_ ?_ _|(simp;done)|(simp;omega)))
    rintro e w11 ⟨rfl,rfl⟩;cases z6 with
    |false=>go_wp2_with fail;go_ret;refine⟨by simp,?_⟩;(repeat any_goals(first|exact bR|exact lR|refine Below.alloc ?_ ?_ _|refine Below.draw1 ?_|refine Aa ?_ _|refine Below.setCell ?_ ?_ _|(simp;done)|(simp;omega)))
    |true=>
    go_wp2_with fail;refine(HE7.out _ ?_).mono ?_
    ·(repeat any_goals(first|exact bR|exact lR|refine Below.alloc ?_ ?_ _|refine Below.draw1 ?_|refine Aa ?_ _|refine Below.setCell ?_ ?_ _|(simp;done)|(simp;omega)))
    rintro e w11 ⟨rfl,rfl⟩;go_wp2_with fail;go_ret;refine⟨by simp,?_⟩;(repeat any_goals(first|exact bR|exact lR|refine Below.alloc ?_ ?_ _|refine Below.draw1 ?_|refine Aa ?_ _|refine Below.setCell ?_ ?_ _|(simp;done)|(simp;omega)))
  ·have hne:¬((s:Int)=(s':Int)):=(by omega);go_enter Tryz.func93,Tryz.ntmps93;go_wp2_with fail
   go_region
   all_goals(go_wp2_with fail;go_ret;refine⟨by simp[hs],?_⟩;(repeat any_goals(first|exact bR|exact lR|refine Below.alloc ?_ ?_ _|refine Below.draw1 ?_|refine Aa ?_ _|refine Below.setCell ?_ ?_ _|(simp;done)|(simp;omega))))
 ·have hne:¬((kd:Int)=(ke:Int)):=(by omega);go_enter Tryz.func93,Tryz.ntmps93;go_wp2_with fail
  go_region
  all_goals(go_wp2_with fail;go_ret;refine⟨by simp[hk],?_⟩;(repeat any_goals(first|exact bR|exact lR|refine Below.alloc ?_ ?_ _|refine Below.draw1 ?_|refine Aa ?_ _|refine Below.setCell ?_ ?_ _|(simp;done)|(simp;omega))))
def Nd (f:Nat→Bool)(n m:Nat):Bool:=decide (n=m)&&(aF n).all f
theorem Wd {f:Nat→Bool} {n m:Nat}(h:n≠m):Nd f n m=false:=by rw[Nd,decide_eq_false h];rfl
theorem We {f:Nat→Bool} {n m i:Nat}(hi:i<n)(h:f i=false):Nd f n m=false:=by
 have:(aF n).all f=false:=List.all_eq_false.2 ⟨i,List.mem_range.2 hi,by rw[h];simp⟩;rw[Nd,this,Bool.and_false]
theorem Rz {f:Nat→Bool} {n:Nat}(h:∀i,i<n→f i=true):Nd f n n=true:=by
 rw[Nd,decide_eq_true rfl,Bool.true_and,List.all_eq_true];exact fun i hi=>h i (List.mem_range.1 hi)
def Zbk (l m:List (Int×NodeD)):Bool:=Nd (fun i=>decide ((spt l i).1=(spt m i).1)&&Cr (spt l i).2 (spt m i).2) l.length m.length
def Zbl (l m:List (Int×List Nat)):Bool:=Nd (fun i=>decide ((stb l i).1=(stb m i).1)&&decide ((stb l i).2=(stb m i).2)) l.length m.length
theorem Sa (a b:SparseD):Dq a b=(decide (a.leaves=b.leaves)&&decide (a.own=b.own)&&Zbk a.op b.op&&Zbl a.sh b.sh):=by
 rw[Dq,Zbk,Zbl,Nd,Nd,fG];simp only[decide_eq_true_eq,cC];constructor
 ·rintro⟨⟨⟨h1,h2,h3,h4⟩,h5⟩,h6⟩;exact⟨⟨⟨h1,h2⟩,h3,h5⟩,h4,h6⟩
 ·rintro⟨⟨⟨h1,h2⟩,h3,h5⟩,h4,h6⟩;exact⟨⟨⟨h1,h2,h3,h4⟩,h5⟩,h6⟩
theorem Sb (x y:Int) (x0 x1 x2 x3 x4 x5 x6 x7 x8 x9 y0 y1 y2 y3 y4 y5 y6 y7 y8 y9:Value) (z:Bool) (w:World)
  (SN:∀W,Below w.heap.size w W→Calls Tryz.prog 93 #[.agg #[x0,x1,x2,x3,x4,x5,x6,x7,x8,x9],.agg #[y0,y1,y2,y3,y4,y5,y6,y7,y8,y9]] W fun e w'=>e=.returned (.bool z)∧Below W.heap.size W w'):
  Calls Tryz.prog 92 #[.agg #[.int .i64 x,x0,x1,x2,x3,x4,x5,x6,x7,x8,x9],.agg #[.int .i64 y,y0,y1,y2,y3,y4,y5,y6,y7,y8,y9]] w fun e w'=>e=.returned (.bool (decide (x=y)&&z))∧Below w.heap.size w w':=by
 have HSN:=Hd SN;clear SN
 by_cases hxy:x=y
 ·subst hxy;go_enter Tryz.func92,Tryz.ntmps92;go_wp2_with fail;have hba:=fun(o1 o2:Obj)=>((Below.refl w.heap.size w).alloc lR o1).alloc (by simp) o2;refine(HSN.out _ (hba _ _)).mono ?_;rintro e w2 ⟨rfl,hb2⟩;have HB2:=Hd ((hba _ _).trans (hb2.mono (hba _ _).size));clear hb2 hba;go_wp2_with fail;go_ret;exact⟨by simp,HB2.out⟩
 ·go_enter Tryz.func92,Tryz.ntmps92;go_wp2_with fail;go_ret;exact⟨by simp[hxy],((Below.refl w.heap.size w).alloc lR _).alloc (by simp) _⟩
theorem Sc (x y:Int) (xa ya:Option Addr) (xn xc yn yc:Nat) (z:Bool) (w:World)
  (SN:∀W,Below w.heap.size w W→Calls Tryz.prog 96 #[.slice xa xn xc,.slice ya yn yc] W fun e w'=>e=.returned (.bool z)∧w'=W):
  Calls Tryz.prog 95 #[.agg #[.int .i64 x,.slice xa xn xc],.agg #[.int .i64 y,.slice ya yn yc]] w fun e w'=>e=.returned (.bool (decide (x=y)&&z))∧Below w.heap.size w w':=by
 have HSN:=Hd SN;clear SN
 by_cases hxy:x=y
 ·subst hxy;go_enter Tryz.func95,Tryz.ntmps95;go_wp2_with fail;have hba:=fun(o1 o2:Obj)=>((Below.refl w.heap.size w).alloc lR o1).alloc (by simp) o2;refine(HSN.out _ (hba _ _)).mono ?_;rintro e w2 ⟨rfl,rfl⟩;have HB2:=Hd (hba (.cells #[.int .i64 x,.slice xa xn xc] 89) (.cells #[.int .i64 x,.slice ya yn yc] 89));clear hba;go_wp2_with fail;go_ret;exact⟨by simp,HB2.out⟩
 ·go_enter Tryz.func95,Tryz.ntmps95;go_wp2_with fail;go_ret;exact⟨by simp[hxy],((Below.refl w.heap.size w).alloc lR _).alloc (by simp) _⟩
theorem Tx (v v':Value)(l m:List (Int×NodeD))(w:World)(h:SpotsR w v l)(h':SpotsR w v' m)(hd:∀p∈l,NodeOk p.2∧Od p.2)(he:∀p∈m,NodeOk p.2∧Od p.2)(hl:l.length≤1000000)(hm:m.length≤1000000):
  Calls Tryz.prog 91 #[v,v',.func (.func 92) #[] #[]] w fun e w'=>e=.returned (.bool (Zbk l m))∧Below w.heap.size w w':=by
 obtain⟨a1,q1,rfl,hq1,hq12⟩:=h.sl;obtain⟨a2,q2,rfl,hq2,hq22⟩:=h'.sl;have SN:=fun(i:Nat) (hi:i<l.length) (hi':i<m.length) (c c':Array Value) (W:World) (hc:NodeC W (spt l i).2 c) (hc':NodeC W (spt m i).2 c')=>Xs _ _ c c' W hc hc' (hd _ (Dy hi)).1 (he _ (Dy hi')).1 (hd _ (Dy hi)).2 (he _ (Dy hi')).2;have G1:=fun(W:World) (hw:Below w.heap.size w W) (i:Nat) (hi:i<l.length)=>(h.below hw lR).at hi;have G2:=fun(W:World) (hw:Below w.heap.size w W) (i:Nat) (hi:i<m.length)=>(h'.below hw lR).at hi;rw[Zbk];obtain⟨f,hf⟩:=eX (fun i=>decide ((spt l i).1=(spt m i).1)&&Cr (spt l i).2 (spt m i).2);rw[←hf];obtain⟨n,hn⟩:=eX l.length;obtain⟨n',hn'⟩:∃n,n=m.length:=⟨_,rfl⟩;rw[←hn]at G1 hq1 hl⊢;rw[←hn']at G2 hq2 hm⊢;rw[←hn,←hn']at SN;have HSN:=Hd SN;have HG1:=Hd G1;have HG2:=Hd G2;have HFF:=Hd hf;clear SN G1 G2 h h' hn hn' hf hd he
 by_cases hnn:n=n'
 ·subst hnn;go_enter Tryz.func91,Tryz.ntmps91;go_wp2_with fail
  go_loopg [17] n (fun q iv wr=>∃i:Nat,i+q=n∧iv=.int .i64 (i:Nat)∧Below w.heap.size w wr∧∀j,j<i→f j=true)
  case atStart=>exact⟨0,by omega,rfl,bR,fun j hj=>absurd hj (Nat.not_lt_zero _)⟩
  case round=>
   obtain⟨i,hi,rfl,hb,hj⟩:=hrel;have HI:=Hd hi;have HB:=Hd hb;have HJ:=Hd hj
   by_cases hlt:i<n
   ·have hlt':decide (i<n)=true:=decide_eq_true hlt;have hltI:(i:Int)<(n:Int):=(by omega);have HLT:=Hd hlt;obtain⟨b1,f1,C1,rfl,hl1,hn1,hr1⟩:=HG1.out wr hb i hlt;obtain⟨b2,f2,C2,rfl,hl2,hn2,hr2⟩:=HG2.out wr hb i hlt;have HN1:=Hd hn1;have HN2:=Hd hn2;obtain⟨kd,sd,k1,k2,k3,k4,k5,k6,k7,k8,d1,d2,d3,d4,d5,e1,e2,e3,n1,n2,n3,n4,n5,m1,m2,m3,rfl,-,-,-⟩:=hn1.flat;obtain⟨kd',sd',k1',k2',k3',k4',k5',k6',k7',k8',d1',d2',d3',d4',d5',e1',e2',e3',n1',n2',n3',n4',n5',m1',m2',m3',rfl,-,-,-⟩:=hn2.flat;have HR1:=Hd hr1;have HR2:=Hd (fun(o:Obj)=>Af hr2 ((Below.refl wr.heap.size wr).alloc lR o) hl2);have hfi:f i=(decide ((spt l i).1=(spt m i).1)&&Cr (spt l i).2 (spt m i).2):=(by rw[HFF.out]);have HS:=Hd (fun(W:World) (hw:Below wr.heap.size wr W)=>Sb (spt l i).1 (spt m i).1 _ _ _ _ _ _ _ _ _ _ _ _ _ _ _ _ _ _ _ _ _ W fun W2 hw2=>HSN.out i HLT.out HLT.out _ _ W2 (HN1.out.below (hw.trans (hw2.mono hw.size)) lR) (HN2.out.below (hw.trans (hw2.mono hw.size)) lR));have hba:=fun(o1 o2:Obj)=>((Below.refl wr.heap.size wr).alloc lR o1).alloc (by simp) o2;have HBA:=Hd hba;generalize(decide ((spt l i).1=(spt m i).1)&&Cr (spt l i).2 (spt m i).2)=B at hfi HS;have HFI:=Hd hfi.symm;clear hi hb hj hr1 hr2 hn1 hn2 hba hfi;go_wp2_with (first|(refine wpList_load_mid rfl 87 (.tmp 20) rfl b1 (f1+i*11) rfl _ _ HR1.out Tryz.underlying87 rfl Ce ?_)|(refine wpList_load_mid rfl 87 (.tmp 24) rfl b2 (f2+i*11) rfl _ _ (HR2.out _) Tryz.underlying87 rfl Ce ?_));refine(HS.out _ (HBA.out _ _)).mono ?_;rintro e w2 ⟨rfl,hb2⟩;have HB2:=Hd (HB.out.trans ((HBA.out _ _).trans (hb2.mono (HBA.out _ _).size)|>.mono HB.out.size));clear hb2;cases B with
    |true=>
     go_wp2_with fail;go_roundg (gk-1);case measure=>have:=HI.out;omega
     case rel=>exact⟨i+1,by have:=HI.out;omega,by go_num,HB2.out,fun j hj=>(Nat.lt_succ_iff_lt_or_eq.1 hj).elim (HJ.out j) fun e=>e▸HFI.out.symm⟩
    |false=>
     go_wp2_with fail;go_ret;exact⟨by rw[We HLT.out HFI.out.symm];rfl,HB2.out⟩
   ·obtain rfl:i=n:=(by omega);have hlt':decide (i<i)=false:=decide_eq_false hlt;clear hi hb hj hlt;go_wp2_with fail;go_ret;exact⟨by rw[Rz HJ.out];rfl,HB.out⟩
 ·have hne:¬((n:Int)=(n':Int)):=(by omega);go_enter Tryz.func91,Tryz.ntmps91;go_wp2_with fail;go_ret;exact⟨by rw[Wd hnn];rfl,bR⟩
theorem Ty (v v':Value)(l m:List (Int×List Nat))(w:World)(h:StubsR w v l)(h':StubsR w v' m)(hd:∀p∈l,∀x∈p.2,x<256)(he:∀p∈m,∀x∈p.2,x<256)(hl:l.length≤1000000)(hm:m.length≤1000000):
  Calls Tryz.prog 94 #[v,v',.func (.func 95) #[] #[]] w fun e w'=>e=.returned (.bool (Zbl l m))∧Below w.heap.size w w':=by
 obtain⟨a1,q1,rfl,hq1,hq12⟩:=h.sl;obtain⟨a2,q2,rfl,hq2,hq22⟩:=h'.sl;have SN:=fun(i:Nat) (hi:i<l.length) (hi':i<m.length) (u u':Value) (W:World) (hc:Rd W u (bvs (stb l i).2)) (hc':Rd W u' (bvs (stb m i).2))=>Ff u u' _ _ W hc hc' (hd _ (Gs hi)) (he _ (Gs hi'));have G1:=fun(W:World) (hw:Below w.heap.size w W) (i:Nat) (hi:i<l.length)=>(h.below hw lR).at hi;have G2:=fun(W:World) (hw:Below w.heap.size w W) (i:Nat) (hi:i<m.length)=>(h'.below hw lR).at hi;rw[Zbl];obtain⟨f,hf⟩:=eX (fun i=>decide ((stb l i).1=(stb m i).1)&&decide ((stb l i).2=(stb m i).2));rw[←hf];obtain⟨n,hn⟩:=eX l.length;obtain⟨n',hn'⟩:∃n,n=m.length:=⟨_,rfl⟩;rw[←hn]at G1 hq1 hl⊢;rw[←hn']at G2 hq2 hm⊢;rw[←hn,←hn']at SN;have HSN:=Hd SN;have HG1:=Hd G1;have HG2:=Hd G2;have HFF:=Hd hf;clear SN G1 G2 h h' hn hn' hf hd he
 by_cases hnn:n=n'
 ·subst hnn;go_enter Tryz.func94,Tryz.ntmps94;go_wp2_with fail
  go_loopg [17] n (fun q iv wr=>∃i:Nat,i+q=n∧iv=.int .i64 (i:Nat)∧Below w.heap.size w wr∧∀j,j<i→f j=true)
  case atStart=>exact⟨0,by omega,rfl,bR,fun j hj=>absurd hj (Nat.not_lt_zero _)⟩
  case round=>
   obtain⟨i,hi,rfl,hb,hj⟩:=hrel;have HI:=Hd hi;have HB:=Hd hb;have HJ:=Hd hj
   by_cases hlt:i<n
   ·have hlt':decide (i<n)=true:=decide_eq_true hlt;have hltI:(i:Int)<(n:Int):=(by omega);have HLT:=Hd hlt;obtain⟨b1,f1,u1,rfl,hl1,hn1,hr1⟩:=HG1.out wr hb i hlt;obtain⟨b2,f2,u2,rfl,hl2,hn2,hr2⟩:=HG2.out wr hb i hlt;have HN1:=Hd hn1;have HN2:=Hd hn2;obtain⟨ua,un,uc,rfl⟩:∃a n c,u1=.slice a n c:=(by obtain⟨a,c,e,_⟩:=hn1;exact⟨_,_,_,e⟩);obtain⟨va,vn,vc,rfl⟩:∃a n c,u2=.slice a n c:=(by obtain⟨a,c,e,_⟩:=hn2;exact⟨_,_,_,e⟩);have HR1:=Hd hr1;have HR2:=Hd (fun(o:Obj)=>Af hr2 ((Below.refl wr.heap.size wr).alloc lR o) hl2);have hfi:f i=(decide ((stb l i).1=(stb m i).1)&&decide ((stb l i).2=(stb m i).2)):=(by rw[HFF.out]);have HS:=Hd (fun(W:World) (hw:Below wr.heap.size wr W)=>Sc (stb l i).1 (stb m i).1 ua va un uc vn vc _ W fun W2 hw2=>HSN.out i HLT.out HLT.out _ _ W2 (HN1.out.below (hw.trans (hw2.mono hw.size)) lR) (HN2.out.below (hw.trans (hw2.mono hw.size)) lR));have hba:=fun(o1 o2:Obj)=>((Below.refl wr.heap.size wr).alloc lR o1).alloc (by simp) o2;have HBA:=Hd hba;generalize(decide ((stb l i).1=(stb m i).1)&&decide ((stb l i).2=(stb m i).2))=B at hfi HS;have HFI:=Hd hfi.symm;clear hi hb hj hr1 hr2 hn1 hn2 hba hfi;go_wp2_with (first|(refine wpList_load_mid rfl 89 (.tmp 20) rfl b1 (f1+i*2) rfl _ _ HR1.out Tryz.underlying89 rfl Cf ?_)|(refine wpList_load_mid rfl 89 (.tmp 24) rfl b2 (f2+i*2) rfl _ _ (HR2.out _) Tryz.underlying89 rfl Cf ?_));refine(HS.out _ (HBA.out _ _)).mono ?_;rintro e w2 ⟨rfl,hb2⟩;have HB2:=Hd (HB.out.trans ((HBA.out _ _).trans (hb2.mono (HBA.out _ _).size)|>.mono HB.out.size));clear hb2;cases B with
    |true=>
     go_wp2_with fail;go_roundg (gk-1);case measure=>have:=HI.out;omega
     case rel=>exact⟨i+1,by have:=HI.out;omega,by go_num,HB2.out,fun j hj=>(Nat.lt_succ_iff_lt_or_eq.1 hj).elim (HJ.out j) fun e=>e▸HFI.out.symm⟩
    |false=>
     go_wp2_with fail;go_ret;exact⟨by rw[We HLT.out HFI.out.symm];rfl,HB2.out⟩
   ·obtain rfl:i=n:=(by omega);have hlt':decide (i<i)=false:=decide_eq_false hlt;clear hi hb hj hlt;go_wp2_with fail;go_ret;exact⟨by rw[Rz HJ.out];rfl,HB.out⟩
 ·have hne:¬((n:Int)=(n':Int)):=(by omega);go_enter Tryz.func94,Tryz.ntmps94;go_wp2_with fail;go_ret;exact⟨by rw[Wd hnn];rfl,bR⟩
theorem Tz (v v':Value)(s t:SparseD)(w:World)(h:SparseR w v s)(h':SparseR w v' t)(hok:SparseOk s)(hok':SparseOk t)(hs:Bg s=true)(ht:Bg t=true):
  Calls Tryz.prog 45 #[v,v'] w fun e w'=>e=.returned (.bool (Dq s t))∧Below w.heap.size w w':=by
 obtain⟨o,g,rfl,ho,hg⟩:=h;obtain⟨o',g',rfl,ho',hg'⟩:=h';have hb:∀ {s:SparseD},Bg s=true→s.op.length≤1000000∧s.sh.length≤1000000∧∀p∈s.op,Od p.2:=by
  intro s hs;simp only[Bg,cC,decide_eq_true_eq]at hs;refine⟨by omega,by omega,fun p hp=> ?_⟩;have:=of_decide_eq_true (List.all_eq_true.1 hs.1.2 _ hp);unfold Od;omega
 have E1:=fun(W:World) (hw:Below w.heap.size w W)=>Tx o o' s.op t.op W (ho.below hw lR) (ho'.below hw lR) (fun p hp=>⟨(hok.op p hp).2,(hb hs).2.2 p hp⟩) (fun p hp=>⟨(hok'.op p hp).2,(hb ht).2.2 p hp⟩) (hb hs).1 (hb ht).1;have E2:=fun(W:World) (hw:Below w.heap.size w W)=>Ty g g' s.sh t.sh W (hg.below hw lR) (hg'.below hw lR) (fun p hp=>(hok.sh p hp).2) (fun p hp=>(hok'.sh p hp).2) (hb hs).2.1 (hb ht).2.1;obtain⟨oa,oc,rfl,-,-⟩:=ho.sl;obtain⟨ga,gc,rfl,-,-⟩:=hg.sl;obtain⟨oa',oc',rfl,-,-⟩:=ho'.sl;obtain⟨ga',gc',rfl,-,-⟩:=hg'.sl;rw[Sa];generalize Zbk s.op t.op=z1 at E1⊢;generalize Zbl s.sh t.sh=z2 at E2⊢;generalize s.op.length=n1 at E1⊢;generalize s.sh.length=n2 at E2⊢;generalize t.op.length=n3 at E1⊢;generalize t.sh.length=n4 at E2⊢;generalize s.leaves=x at hok⊢;generalize s.own=y;generalize t.leaves=x';generalize t.own=y';have HE1:=Hd E1;have HE2:=Hd E2;have hba:=fun(o1 o2:Obj)=>((Below.refl w.heap.size w).alloc lR o1).alloc (by simp) o2;have HBA:=Hd hba;clear E1 E2 ho hg ho' hg' hok hok' hs ht hb hba;go_enter Tryz.func45,Tryz.ntmps45;go_wp2_with fail;refine(HE1.out _ (HBA.out _ _)).mono ?_;rintro e w1 ⟨rfl,hb1⟩;have HB1:=Hd ((HBA.out _ _).trans (hb1.mono (HBA.out _ _).size));have HX1:=Hd (Blk.below (Blk.new (w.alloc (.cells #[.int .i64 x,.int .i64 y,.slice oa n1 oc,.slice ga n2 gc] 25)) 25 #[.int .i64 x',.int .i64 y',.slice oa' n3 oc',.slice ga' n4 gc']) hb1 (by simp));have HX2:=Hd (Blk.below ((Blk.new w 25 #[.int .i64 x,.int .i64 y,.slice oa n1 oc,.slice ga n2 gc]).alloc (.cells #[.int .i64 x',.int .i64 y',.slice oa' n3 oc',.slice ga' n4 gc'] 25)) hb1 (by simp;omega));have p0:=HX1.out.cell 0;have p1:=HX1.out.cell 1;have p3:=HX1.out.cell 3;have q0:=HX2.out.cell 0;have q1:=HX2.out.cell 1;have q3:=HX2.out.cell 3;simp only[bN,bO,bP]at p0 p1 p3 q0 q1 q3;have esz:(w.alloc (.cells #[.int .i64 x,.int .i64 y,.slice oa n1 oc,.slice ga n2 gc] 25)).heap.size=w.heap.size+1:=(by simp);rw[esz]at p0 p1 p3;clear hb1 esz;go_wp2_with fail;refine(HE2.out _ HB1.out).mono ?_;rintro e w2 ⟨rfl,hb2⟩;have HB2:=Hd (HB1.out.trans (hb2.mono HB1.out.size));have r0:=(HX1.out.below hb2 HX1.out.lt).cell 0;have r1:=(HX1.out.below hb2 HX1.out.lt).cell 1;have t0:=(HX2.out.below hb2 HX2.out.lt).cell 0;have t1:=(HX2.out.below hb2 HX2.out.lt).cell 1;simp only[bN,bO,bP]at r0 r1 t0 t1;have esz:(w.alloc (.cells #[.int .i64 x,.int .i64 y,.slice oa n1 oc,.slice ga n2 gc] 25)).heap.size=w.heap.size+1:=(by simp);rw[esz]at r0 r1;clear hb2 esz p0 p1 p3 q0 q1 q3
 by_cases h1:x=x'
 ·subst h1
  by_cases h2:y=y'
  ·subst h2;cases z1<;>cases z2;all_goals(go_wp2_with fail;go_ret;exact⟨by simp,HB2.out⟩)
  ·go_wp2_with fail;go_ret;exact⟨by simp,HB2.out⟩
 ·go_wp2_with fail;go_ret;exact⟨by simp[h1],HB2.out⟩
end Go.Proofs.YtfofaiommeckbaaGreat
