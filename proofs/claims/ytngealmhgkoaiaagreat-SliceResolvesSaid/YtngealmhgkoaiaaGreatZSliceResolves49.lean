/- Walks: the tree of one member. -/
import Derived.Test.YtngealmhgkoaiaaGreatZSliceResolvesB
import Derived.Laws.OwnMore
import Derived.Test.YtngealmhgkoaiaaGreatZSliceResolves48
open List renaming replicate → dB
set_option linter.unusedVariables false
set_option maxRecDepth 100000
set_option maxHeartbeats 40000000
namespace Go.Proofs.YtngealmhgkoaiaaGreat
open Go.RowKit WireM
def Qp:NodeD:=⟨1,⟨dB 32 0,dB 32 0,[1],1,[],dB 64 0⟩,noParD⟩
theorem Ow {n:Nat} {N:Int}(hN:N=(n:Int))(hn:n≤4000000):∀w:World,(Instr.makeSlice 25 (.int .i64 N) (.int .i64 N)).run Tryz.prog w=.ok (.slice (some ⟨w.heap.size,0,none⟩) n n) (w.alloc (.cells (madeCells (Value.int .u8 0).cells (n*1)) 5)):=by
 intro w;subst hN;obtain⟨i,hi,hz,hsz,hby⟩:∃i,Tryz.prog.info? 5=some i∧i.zero=some (.int .u8 0)∧i.size=1∧i.bytes=1:=info_parts (by kernel_rfl);have hr:=run_make (P:=Tryz.prog) w 25 5 i (.int .u8 0) Tryz.underlying25 hi hz .i64 .i64 n n (by omega) (by omega) (by rw[hby];omega) (by omega);simp only[Int.toNat_natCast,hsz]at hr;exact hr
theorem Qo (w:World)(n:Nat)(hn:n≤4000000:=by omega):Own (w.alloc (.cells (madeCells (Value.int .u8 0).cells (n*1)) 5)) w.heap.size 5 (.slice (some ⟨w.heap.size,0,none⟩) n n) (bvs (dB n 0)):=by
 have e:bvs (dB n 0)=(madeCells (Value.int .u8 0).cells (n*1)).toList:=by
  rw[Nat.mul_one];have:=toList_madeCells_one (.int .u8 0) n;rw[show(Value.int .u8 0).cells=#[.int .u8 0]from rfl,this];simp[bvs]
 rw[e];exact Own.full (B:=w.heap.size) rfl lR (by unfold maxLen;simp[madeCells];omega) (by simp[madeCells])
theorem Zfn {w:World} {B:Nat} {x1 x2 x3 x4:Value}(k1:Own w B 5 x1 (bvs (dB 32 0)))(k2:Own w B 5 x2 (bvs (dB 32 0)))(k3:Own w B 5 x3 (bvs [1]))(k4:Own w B 5 x4 (bvs (dB 64 0))):
  TreeR (w.alloc (.cells #[.int .u8 1,x1,x2,x3,.int .u8 1,.slice none 0 0,x4,.slice none 0 0,.slice none 0 0,.slice none 0 0] 54)) (.slice (some ⟨w.heap.size,0,none⟩) 1 1) [Qp]:=by
 have hno:NodeO (w.alloc (.cells #[.int .u8 1,x1,x2,x3,.int .u8 1,.slice none 0 0,x4,.slice none 0 0,.slice none 0 0,.slice none 0 0] 54)) B Qp #[.int .u8 1,x1,x2,x3,.int .u8 1,.slice none 0 0,x4,.slice none 0 0,.slice none 0 0,.slice none 0 0]:=
  ⟨_,_,_,_,_,_,_,_,rfl,k1.alloc _,k2.alloc _,k3.alloc _,Own.nil _ _ _,k4.alloc _,Own.nil _ _ _,Own.nil _ _ _,Own.nil _ _ _⟩
 refine⟨_,1,rfl,lR,by unfold maxLen;omega,fun i hi=>⟨w.heap.size,0,#[.int .u8 1,x1,x2,x3,.int .u8 1,.slice none 0 0,x4,.slice none 0 0,.slice none 0 0,.slice none 0 0],rfl,by simp,?_,?_⟩⟩
 ·have:i=0:=(by simpa using hi);subst this;exact hno.c
 ·have:i=0:=(by simpa using hi);subst this;intro j u hu;have:=(Blk.new w 54 #[.int .u8 1,x1,x2,x3,.int .u8 1,.slice none 0 0,x4,.slice none 0 0,.slice none 0 0,.slice none 0 0]).cell j;rw[show 0+0*10+j=j by omega,this];simpa using hu
open WalkM
theorem Uy:Ed [Qp]=true:=by decide
theorem Xg:TreeOk [Qp]:=by
 intro d hd;rw[List.mem_singleton]at hd;subst hd;refine⟨by decide,by decide,?_,?_,?_,?_,?_,?_,?_,?_⟩<;>decide
theorem Uz:Fq [Qp]=true:=by decide+kernel
def Zhu:SparseD:=Zgb [Qp] (2^0) 0 [0] []
theorem Zi:Ai Zhu false=true:=by decide+kernel
theorem Zj:By Zhu=true:=by decide+kernel
theorem Zhq:SparseOk Zhu:=by
 refine⟨by unfold inI;decide,by unfold inI;decide,fun p hp=> ?_,fun p hp=>by cases hp⟩;have:p=(((0:Nat):Int),Qp):=(by simpa [Zhu,Zgb,nd]using hp);subst this;exact⟨by unfold inI;decide,Xg Qp (by simp)⟩
theorem Zhr (w:World):Calls Tryz.prog 26 #[] w fun e w'=>e=.returned (.bool true)∧Below w.heap.size w w':=by
 have HMK32:=Hd (Ow (n:=32) (N:=32) rfl (by omega));have HMK64:=Hd (Ow (n:=64) (N:=64) rfl (by omega));obtain⟨Z32,hZ32⟩:=eX (madeCells (Value.int .u8 0).cells (32*1));obtain⟨Z64,hZ64⟩:=eX (madeCells (Value.int .u8 0).cells (64*1));have HCUT:=Hd fun(v:Value) (W:World) (hw:TreeR W v [Qp])=>Zda v [Qp] 0 0 0 [0] [] W hw Uy Xg Uz rfl (by decide) (by omega) rfl (by decide+kernel) (by decide+kernel) (by decide+kernel) (by simp) (by simp) (by simp) (by simp) (by simp) (by simp) (fun x=>by rw[Zcs];omega);have HRT:=Hd fun(v:Value) (W:World) (hw:SparseR W v Zhu)=>Uv v Zhu W hw Zhq Zj;rw[Zi]at HRT;go_enter Tryz.func26,Tryz.ntmps26;go_wp2_with fail;refine Dc [fun v w'=>Own w' w.heap.size 5 v (bvs (dB 32 0)),fun v w'=>Own w' w.heap.size 5 v (bvs (dB 32 0)),fun v w'=>Own w' w.heap.size 5 v (bvs [1]),fun v w'=>Own w' w.heap.size 5 v (bvs (dB 64 0)),fun v w'=>∃x1 x2 x3 x4,v=.agg #[x1,x2,x3,.int .u8 1,.slice none 0 0,x4]∧Own w' w.heap.size 5 x1 (bvs (dB 32 0))∧Own w' w.heap.size 5 x2 (bvs (dB 32 0))∧Own w' w.heap.size 5 x3 (bvs [1])∧Own w' w.heap.size 5 x4 (bvs (dB 64 0)),fun v w'=>∃x1 x2 x3 x4,v=.agg #[.int .u8 1,x1,x2,x3,.int .u8 1,.slice none 0 0,x4,.slice none 0 0,.slice none 0 0,.slice none 0 0]∧Own w' w.heap.size 5 x1 (bvs (dB 32 0))∧Own w' w.heap.size 5 x2 (bvs (dB 32 0))∧Own w' w.heap.size 5 x3 (bvs [1])∧Own w' w.heap.size 5 x4 (bvs (dB 64 0)),fun v w'=>TreeR w' v [Qp],fun v w'=>TreeR w' v [Qp]] (by kernel_rfl) (by kernel_rfl) (by kernel_rfl) (Bc (fun v x y h _ hs=>Own.below h hs lR) (Bc (fun v x y h _ hs=>Own.below h hs lR) (Bc (fun v x y h _ hs=>Own.below h hs lR) (Bc (fun v x y h _ hs=>Own.below h hs lR) (Bc (fun v x y h _ hs=>let⟨x1,x2,x3,x4,e,k1,k2,k3,k4⟩:=h;⟨x1,x2,x3,x4,e,k1.below hs lR,k2.below hs lR,k3.below hs lR,k4.below hs lR⟩) (Bc (fun v x y h _ hs=>let⟨x1,x2,x3,x4,e,k1,k2,k3,k4⟩:=h;⟨x1,x2,x3,x4,e,k1.below hs lR,k2.below hs lR,k3.below hs lR,k4.below hs lR⟩) (Bc (fun v x y h _ hs=>TreeR.below h hs lR) (Bc (fun v x y h _ hs=>TreeR.below h hs lR) (Ag))))))))) ?_ ?_
 ·refine gB ?_ (gB ?_ (gB ?_ (gB ?_ (gB ?_ (gB ?_ (gB ?_ (gB ?_ .nil)))))));all_goals
   intro a wx hbx ho hf;refine⟨rfl,?_⟩;intro K hK;try have D0:=HMK32.out
   try have D1:=HMK64.out
   try(refine Hd ?_;go_simp;exact hK _ rfl)
  ·go_simp;exact hK _ _ ((Qo wx 32).mono hbx.size) (bR.alloc lR _)
  ·go_simp;exact hK _ _ ((Qo wx 32).mono hbx.size) (bR.alloc lR _)
  ·
   go_simp;exact hK _ _ (Own.full (B:=w.heap.size) (cs:=#[.int .u8 1]) rfl (hbx.size) (by unfold maxLen;simp) rfl) (bR.alloc lR _)
  ·go_simp;exact hK _ _ ((Qo wx 64).mono hbx.size) (bR.alloc lR _)
  ·have o0:Own wx w.heap.size 5 (a.tmps[4]?.getD undef) (bvs (dB 32 0)):=hf.1;obtain⟨v0,hv0⟩:=eX (a.tmps[4]?.getD undef);rw[←hv0]at o0;have e0:=hv0.symm;clear hv0;have o1:Own wx w.heap.size 5 (a.tmps[5]?.getD undef) (bvs (dB 32 0)):=hf.2.1;obtain⟨v1,hv1⟩:=eX (a.tmps[5]?.getD undef);rw[←hv1]at o1;have e1:=hv1.symm;clear hv1;have o2:Own wx w.heap.size 5 (a.tmps[6]?.getD undef) (bvs [1]):=hf.2.2.1;obtain⟨v2,hv2⟩:=eX (a.tmps[6]?.getD undef);rw[←hv2]at o2;have e2:=hv2.symm;clear hv2;have o3:Own wx w.heap.size 5 (a.tmps[7]?.getD undef) (bvs (dB 64 0)):=hf.2.2.2.1;obtain⟨v3,hv3⟩:=eX (a.tmps[7]?.getD undef);rw[←hv3]at o3;have e3:=hv3.symm;clear hv3;obtain⟨a1,m1,d1,rfl⟩:=Dg o0;obtain⟨a2,m2,d2,rfl⟩:=Dg o1;obtain⟨a3,m3,d3,rfl⟩:=Dg o2;obtain⟨a4,m4,d4,rfl⟩:=Dg o3;go_simp;exact hK _ _ ⟨_,_,_,_,rfl,o0,o1,o2,o3⟩ bR
  ·have o0:∃x1 x2 x3 x4,(a.tmps[8]?.getD undef)=.agg #[x1,x2,x3,.int .u8 1,.slice none 0 0,x4]∧Own wx w.heap.size 5 x1 (bvs (dB 32 0))∧Own wx w.heap.size 5 x2 (bvs (dB 32 0))∧Own wx w.heap.size 5 x3 (bvs [1])∧Own wx w.heap.size 5 x4 (bvs (dB 64 0)):=hf.1;obtain⟨v0,hv0⟩:=eX (a.tmps[8]?.getD undef);rw[←hv0]at o0;have e0:=hv0.symm;clear hv0;obtain⟨x1,x2,x3,x4,rfl,k1,k2,k3,k4⟩:=o0;obtain⟨a1,m1,d1,rfl⟩:=Dg k1;obtain⟨a2,m2,d2,rfl⟩:=Dg k2;obtain⟨a3,m3,d3,rfl⟩:=Dg k3;obtain⟨a4,m4,d4,rfl⟩:=Dg k4;go_simp;exact hK _ _ ⟨_,_,_,_,rfl,k1,k2,k3,k4⟩ bR
  ·have o0:∃x1 x2 x3 x4,(a.tmps[9]?.getD undef)=.agg #[.int .u8 1,x1,x2,x3,.int .u8 1,.slice none 0 0,x4,.slice none 0 0,.slice none 0 0,.slice none 0 0]∧Own wx w.heap.size 5 x1 (bvs (dB 32 0))∧Own wx w.heap.size 5 x2 (bvs (dB 32 0))∧Own wx w.heap.size 5 x3 (bvs [1])∧Own wx w.heap.size 5 x4 (bvs (dB 64 0)):=hf.1;obtain⟨v0,hv0⟩:=eX (a.tmps[9]?.getD undef);rw[←hv0]at o0;have e0:=hv0.symm;clear hv0;obtain⟨x1,x2,x3,x4,rfl,k1,k2,k3,k4⟩:=o0;have HT:=Zfn k1 k2 k3 k4;obtain⟨a1,m1,d1,rfl⟩:=Dg k1;obtain⟨a2,m2,d2,rfl⟩:=Dg k2;obtain⟨a3,m3,d3,rfl⟩:=Dg k3;obtain⟨a4,m4,d4,rfl⟩:=Dg k4;go_simp;exact hK _ _ HT (bR.alloc lR _)
  ·have o0:TreeR wx (a.tmps[10]?.getD undef) [Qp]:=hf.1;obtain⟨v0,hv0⟩:=eX (a.tmps[10]?.getD undef);rw[←hv0]at o0;have e0:=hv0.symm;clear hv0;go_simp;exact hK _ _ o0 bR
 ·rintro f w9 hb9 hfin;have hb9:Below w.heap.size w w9:=hb9;have S1:TreeR w9 (f 1) [Qp]:=hfin.2.2.2.2.2.2.2.1;clear hfin;simp only[Am,Ax,Ew,List.filterMap_cons,List.filterMap_nil,List.contains_cons,List.contains_nil,Nat.reduceBEq,Nat.reduceAdd,Bool.or_false,Bool.or_true,cond_true];obtain⟨u1,hu1⟩:=eX (f 1);rw[←hu1]at S1⊢;clear hu1;have HT9:=Hd S1;have HB9:=Hd hb9;clear S1 hb9;go_wp2_with fail;refine(HCUT.out _ _ HT9.out).mono ?_;rintro e w1 ⟨vr,rfl,hsp,hb1⟩;have HSP:=Hd hsp;have HB1:=Hd (HB9.out.trans (hb1.mono HB9.out.size));obtain⟨o,g,rfl,ho,hg⟩:=hsp;obtain⟨a1,c1,rfl,-⟩:=ho;obtain⟨a2,c2,rfl,-⟩:=hg;have el:(Zgb [Qp] (2^0) 0 [0] []).leaves=1:=rfl;have eo:(Zgb [Qp] (2^0) 0 [0] []).own=0:=rfl;have e1:(Zgb [Qp] (2^0) 0 [0] []).op.length=1:=rfl;have e2:(Zgb [Qp] (2^0) 0 [0] []).sh.length=0:=rfl;rw[el,eo,e1,e2]at HSP⊢;clear el eo e1 e2 hb1;have HA:=Hd ((Below.refl w1.heap.size w1).alloc lR (.cells #[.int .i64 1,.int .i64 0,.slice a1 1 c1,.slice a2 0 c2] 37));have HRX:=Hd (HRT.out _ _ (HSP.out.below HA.out lR));have HBA:=Hd (HB1.out.trans (HA.out.mono HB1.out.size));have hbk:=Blk.new w1 37 #[.int .i64 1,.int .i64 0,.slice a1 1 c1,.slice a2 0 c2];have d0:=hbk.cell 0;have d1:=hbk.cell 1;have d2:=hbk.cell 2;have d3:=hbk.cell 3;simp only[List.getElem?_toArray,List.getElem?_cons_zero,List.getElem?_cons_succ]at d0 d1 d2 d3;clear hbk;go_wp2_with fail;refine(HRX.out).mono ?_;rintro e w5 ⟨rfl,hb5⟩;have HB5:=Hd (HBA.out.trans (hb5.mono HBA.out.size));clear hb5;go_wp2_with fail;go_ret;exact⟨rfl,HB5.out⟩
end Go.Proofs.YtngealmhgkoaiaaGreat
