import Derived.Laws.BytesArg
import Derived.Lib.Bytes
import Derived.Test.YtfofaiommeckbaaGreatZSliceProves49
open Go.Value renaming slice → q9, int → rA, pointer → rB
open Go.IntKind renaming i64 → rC
open Option renaming none → rF
open Go.Proofs.Tryz
set_option linter.unusedVariables false
set_option maxRecDepth 100000
set_option maxHeartbeats 40000000
namespace Go.Proofs.YtfofaiommeckbaaGreat
open Go.RowKit
theorem Rh {w:World} {v:Value} {L:List Nat}(h:Rd w v (bvs L)):(convert 28 9 v).run prog w=.ok (.string (strOfNums (L.map fun(n:Nat)=>(n:Int)))) w:=by
 obtain⟨a,cap,rfl,h1,h2,h3⟩:=h;rcases h3 with⟨e,k⟩|⟨b,c,rfl,j⟩
 ·have g:L=[]:=by
   have:=congrArg List.length e;rw[bvs_len]at this;exact List.eq_nil_of_length_eq_zero this
  subst g;cases a with
  |none=>exact run_convert_bytes_nil w 28 5 underlying28 underlying5 _ _ 9 underlying9
  |some a=>
   obtain⟨b,c,f⟩:=a;rw[run_convert_bytes_string w 28 9 5 _ _ _ underlying28 underlying5 underlying9]
   rfl
 ·refine run_convert_bytes_arg w 28 5 underlying28 underlying5 b c _ _ _ ?_ ?_ 9 underlying9
  ·rw[List.length_map,bvs_len]
  ·intro i d;rw[bvs_len]at d;rw[j i _ (Zkk d)]
   congr 2
   rw[List.getD_eq_getElem?_getD,List.getElem?_map,List.getElem?_eq_getElem d];rfl
theorem Yi {L M:List Nat}(b:∀n∈L,n<256)(a:∀n∈M,n<256)(h:(strOfNums (L.map fun(n:Nat)=>(n:Int))).toList=(strOfNums (M.map fun(n:Nat)=>(n:Int))).toList):L=M:=by
 rw[Lib.strOfNums_toList,Lib.strOfNums_toList]at h;have h2:=congrArg (List.map UInt8.toNat) h;unfold Lib.bytesOf at h2;simp only[List.map_map]at h2;have e:∀(K:List Nat),(∀n∈K,n<256)→K.map (UInt8.toNat∘((fun(n:Int)=>UInt8.ofNat n.toNat)∘fun(n:Nat)=>(n:Int)))=K:=by
  intro K d
  conv=>rhs;rw[←List.map_id K]
  apply List.map_congr_left;intro n c;simp[Nat.mod_eq_of_lt (d n c)]
 rw[e L b,e M a]at h2;exact h2
theorem Zjy (d f:Value)(L M:List Nat)(w:World)(h1:Rd w d (bvs L))(h2:Rd w f (bvs M))(j:∀n∈L,n<256)(l:∀n∈M,n<256):
  Calls prog 96 #[d,f] w fun e w'=>e=.returned (.bool (decide (L=M)))∧w'=w:=by
 have k:=Rh h1;have g2:=Rh h2;have b:decide (L=M)=((strOfNums (L.map fun(n:Nat)=>(n:Int))).toList==(strOfNums (M.map fun(n:Nat)=>(n:Int))).toList):=by
  by_cases e:L=M
  ·subst e;simp
  ·rw[decide_eq_false e,Eq.comm,beq_eq_false_iff_ne];exact fun h=>e (Yi j l h)
 rw[b];obtain⟨S,g⟩:=eX (strOfNums (L.map fun(n:Nat)=>(n:Int)));obtain⟨T,i⟩:=eX (strOfNums (M.map fun(n:Nat)=>(n:Int)));rw[←g]at k⊢;rw[←i]at g2⊢;obtain⟨r,s,p,rfl⟩:∃a n c,d=.slice a n c:=(by obtain⟨a,c,e,_⟩:=h1;exact⟨_,_,_,e⟩);obtain⟨o,q,m,rfl⟩:∃a n c,f=.slice a n c:=(by obtain⟨a,c,e,_⟩:=h2;exact⟨_,_,_,e⟩);clear g i h1 h2 b;go_enter func96,ntmps96;go_wp2_with fail;go_ret;exact⟨rfl,rfl⟩
open Go.Maps WalkM ShaM WireM
def Pd (r:Nat×SparseD)(hx:List Nat)(i:Int):Nat×SparseD:=
 if r.1≠0 then(r.1,Kd)else if r.2.own≠i then(7,Kd)else if Ir r.2≠hx then(17,Kd)else(0,r.2)
theorem Wb {only:Bool} {mk:Nat} {L hx:List Nat} {i:Int}(b:∀y∈L,y<256)(a:BL mk L)(h:(Pd (ofS only mk L) hx i).1=0):ofS only mk L=(0,(Pd (ofS only mk L) hx i).2)∧(ofS only mk L).2.own=i∧Ir (ofS only mk L).2=hx:=by
 unfold Pd at h⊢;generalize ofS only mk L=R at h⊢;obtain⟨e,s⟩:=R;simp only at h⊢
 by_cases c0:e=0
 ·rw[if_neg (by omega)]at h⊢
  by_cases c1:s.own=i
  ·rw[if_neg (by omega)]at h⊢
   by_cases c2:Ir s=hx
   ·rw[if_neg (by simp[c2])];exact⟨by rw[c0],c1,c2⟩
   ·rw[if_pos c2]at h;cases h
  ·rw[if_pos c1]at h;cases h
 ·rw[if_pos c0]at h;exact absurd h c0
theorem Zl7 (v hv:Value)(L hx:List Nat)(i:Int)(mk:Nat)(only:Bool)(w:World)(h:Rd w v (bvs L))(hh:Rd w hv (bvs hx))(hl:BL mk L)(hL:∀n∈L,n<256)(aJ:∀n∈hx,n<256)(aU:((mk:Int)==2)=only)(hm:mk<256):
  Calls prog 72 #[v,hv,rA rC i,rA rC (mk:Nat)] w (Zjo (Pd (ofS only mk L) hx i) w):=by
 have RD:=fun(W:World) (hw:Below w.heap.size w W)=>Zjw v L mk only W (h.below hw lR) hl hL aU hm;have GO:=fun hq=>Zaz (only:=only) (mk:=mk) hL hl hq;rw[Ye]at RD GO;obtain⟨R,hR⟩:=eX (ofS only mk L);rw[←hR]at RD GO⊢;obtain⟨er,s⟩:=R;simp only at RD GO;have BE:=fun(u:Value) (z:List Nat) (hy:∀n∈z,n<256) (W:World) (hw:Below w.heap.size w W) (hu:Rd W u (bvs z))=>Zjy u hv z hx W hu (hh.below hw lR) hy aJ;have a5:=Hd RD;have a1:=Hd GO;have aS:=Hd BE;obtain⟨va,vn,vc,rfl⟩:∃a n c,v=.slice a n c:=(by obtain⟨a,c,e,-⟩:=h;exact⟨_,_,_,e⟩);obtain⟨aB,aD,X,rfl⟩:∃a n c,hv=.slice a n c:=(by obtain⟨a,c,e,-⟩:=hh;exact⟨_,_,_,e⟩);obtain⟨S,hS⟩:=eX (Zjo (Pd (er,s) hx i) w);rw[←hS];have aH:=Hd (show∀(e:Ending) (w':World) (k:Nat),e=.returned (.tuple #[.agg #[rA rC 0,rA rC 0,.map none,.map none],rA .u8 (k:Nat)])→k≠0→Pd (er,s) hx i=(k,Kd)→Below w.heap.size w w'→S e w' from by
  rintro e w' k rfl h0 h1 h2;rw[hS,h1];exact⟨h2,by rw[if_neg h0]⟩)
 have aK:=Hd (show∀(e:Ending) (w':World) (ob sb p:Nat),e=.returned (.tuple #[.agg #[rA rC s.leaves,rA rC s.own,.map (some ob),.map (some sb)],rA .u8 0])→Pd (er,s) hx i=(0,s)→w.heap.size≤ob→w.heap.size≤sb→ob≠sb→ob<p→sb<p→PcS w' ob sb p s.op.length s.sh.length (Ag s.op) (Ax s.sh)→Below w.heap.size w w'→S e w' from by
  rintro e w' ob sb p rfl h1 k1 k2 k3 k4 k5 k6 h2;rw[hS,h1];exact⟨h2,by rw[if_pos rfl];exact⟨ob,sb,p,rfl,k1,k2,k3,k4,k5,k6⟩⟩)
 obtain⟨g,hg⟩:=eX w.heap.size;have HG:=Hd hg;have G0:=Hd (show Blk (w.alloc (.cells #[rA rC 0,rA rC 0,.map none,.map none] 101)) g 101 #[rA rC 0,rA rC 0,.map none,.map none] by rw[hg];exact Blk.new _ _ _);have aC:=Hd ((Below.refl w.heap.size w).alloc lR (.cells #[rA rC 0,rA rC 0,.map none,.map none] 101));clear RD GO BE hR hg h hh hL aJ hl aU hm hS;go_enter func72,ntmps72;go_wp2_with fail;refine(a5.out _ aC.out).mono ?_;rintro e w1 ⟨hb,hr⟩;have I:=Hd (aC.out.trans (hb.mono aC.out.size));have G1:=Hd (G0.out.below hb G0.out.lt);rw[←HG.out];clear hb
 by_cases h0:er=0
 ·rw[if_pos h0]at hr;obtain⟨ob,sb,p,rfl,k1,k2,k3,k4,k5,aV⟩:=hr;have o:=Hd (show g<ob∧g<sb∧ob≠sb∧ob<p∧sb<p from by
   have:=G0.out.lt;exact⟨by omega,by omega,k3,k4,k5⟩)
  have bA:=Hd h0;subst h0;obtain⟨Y,T⟩:=a1.out rfl;obtain⟨lv,H⟩:=eX s.leaves;obtain⟨ow,how⟩:=eX s.own;have aE:=Hd how;rw[←H,←how];rw[←H,←how]at aK;have D:=Kb T Y.ok Y.small;have M:=Vx T;obtain⟨x,Q⟩:=eX (2^Nat.log2 s.leaves.toNat-1);have a7:=Hd fun(W:World)=>(show Calls prog 61 #[rA rC lv] W fun e w'=>e=.returned (rA rC (x:Nat))∧W=w' from by
   obtain⟨hP,d,i,hd,h1,h2,h3,h4,h5⟩:=D;have aZ:2^d≤65536:=Nat.le_trans (Nat.pow_le_pow_right (by omega) hd) (by decide);have:=Mx ((2^d:Nat):Int) W (by omega) (by omega);rw[Vs hd]at this;rw[Q,h4,H,h1];exact this)
  have aP:=Hd fun(ob sb p:Nat) (W:World) (hp:PcS W ob sb p s.op.length s.sh.length (Ag s.op) (Ax s.sh))=>(show Calls prog 90 #[.agg #[rA rC lv,rA rC ow,.map (some ob),.map (some sb)],rA rC (x:Nat)] W fun e w'=>∃v',e=.returned v'∧Rd w' v' (bvs (Ir s))∧Below W.heap.size W w' from by
   obtain⟨hP,d,i,hd,h1,h2,h3,h4,h5⟩:=D;have aZ:2^d≤65536:=Nat.le_trans (Nat.pow_le_pow_right (by omega) hd) (by decide);have bC:=Nat.two_pow_pos d;obtain⟨G,hm,hg⟩:=hp.pieceN;obtain⟨G',aW,a4⟩:=hp.pieceH;unfold Ir;rw[Q,h4];exact Zgn _ _ hP M d (2^d-1) lv ow ob sb _ _ G G' W (Ca d) (by omega) hm hg aW a4)
  have aG:∀n∈Ir s,n<256:=(by unfold Ir;exact Td D.1);obtain⟨z,Z⟩:=eX (Ir s);rw[←Z]at aP aG;have aN:=Hd Z;obtain⟨bq,P⟩:=eX (decide (z=hx));have aX:=Hd fun(u:Value) (W:World) (hw:Below w.heap.size w W) (hu:Rd W u (bvs z))=>(show Calls prog 96 #[u,q9 aB aD X] W fun e w'=>e=.returned (.bool bq)∧w'=W from by rw[P];exact aS.out u z aG W hw hu);have aR:=Hd P;have aT:=Hd aV;clear H how aV Y T D M Q aG Z P k1 k2 k3 k4 k5;obtain⟨q,hq⟩:=eX w1.heap.size;have a2:=Hd hq;obtain⟨w3,C⟩:=eX (w1.alloc (.cells #[rA rC lv,rA rC ow,.map (some ob),.map (some sb)] 101));have A:Below w1.heap.size w1 w3:=(by rw[C];exact bR.alloc lR _);have B:=Hd (show Blk w3 q 101 #[rA rC lv,rA rC ow,.map (some ob),.map (some sb)] by rw[C,hq];exact Blk.new _ _ _);have r:=Hd (I.out.trans (A.mono I.out.size));have G3:=Hd (G1.out.below A G1.out.lt);have N:=Hd (aT.out.below A);have U:=Hd C;clear A hq C
  by_cases hoi:ow=i
  ·have a3:((ow:Int) !=i)=false:=(by rw[bne_eq_false_iff_eq];exact hoi);have aQ:=Hd hoi;clear hoi;go_wp2_with fail;rw[←U.out,←a2.out];refine Dv [eF (.agg #[rA rC lv,rA rC ow,.map (some ob),.map (some sb)]),eF (rB (some ⟨q,0,rF⟩)),eF (rA rC lv),eF (rA rC (x:Nat)),fun u w'=>Rd w' u (bvs z),eF (q9 aB aD X),eF (.bool bq),eF (.bool (!bq)),eF (.bool (!bq))] (by kernel_rfl) (by kernel_rfl) (by kernel_rfl)
    (kE (kE (kE (kE (bX (fun v x y h hb=>Rd.below h hb lR) (kE (kE (kE (kE Ah))))))))) ?_ ?_
   ·refine gB ?_ (gQ ?_ (gQ ?_ (gB ?_ (gB ?_ (gQ ?_ (gB ?_ (gQ ?_ (gQ ?_ .nil))))))));all_goals
     intro a wx aA ha J;refine⟨rfl,?_⟩;intro K E;try have aM:a.tmps[10]?.getD undef=rB (some ⟨q,0,rF⟩):=ha 10 (by kernel_rfl)
     try have bB:a.tmps[1]?.getD undef=.slice aB aD X:=ha 1 (by kernel_rfl)
     have aL:=B.out.below aA B.out.lt;try(have a8:=aL.cell 0;simp only[List.getElem?_toArray,List.getElem?_cons_zero]at a8)
    ·exact wp_load_row 101 (.tmp 10) rfl _ (evs aM) _ _ (0,0) _ aL underlying101 rfl (by kernel_rfl) (E _ _ rfl bR)
    ·go_simp;exact E _ rfl
    ·have F:=eqn J.1
     go_simp;exact E _ rfl
    ·have F:=eqn J.1;go_simp;refine(a7.out wx).mono ?_;rintro e w2 ⟨rfl,rfl⟩;exact E _ _ rfl bR
    ·have F:=eqn J.1;have a6:=eqn J.2.1;go_simp;refine(aP.out ob sb p wx (N.out.below aA)).mono ?_;rintro e w7 ⟨u,rfl,hu,a0⟩;exact E _ _ hu a0
    ·go_simp;exact E _ rfl
    ·have o0:Rd wx (a.tmps[34]?.getD undef) (bvs z):=J.1;have a6:=eqn J.2.1;obtain⟨v1,aF⟩:=eX (a.tmps[34]?.getD undef);rw[←aF]at o0;have e1:=aF.symm;clear aF;go_simp;refine(aX.out v1 wx (r.out.trans (aA.mono r.out.size)) o0).mono ?_;rintro e w7 ⟨rfl,rfl⟩;exact E _ _ rfl bR
    ·have F:=eqn J.1
     go_simp;exact E _ rfl
    ·have F:=eqn J.1
     go_simp;exact E _ rfl
   ·rintro f w4 t O;have Sr:f 29=.bool (!bq):=O.2.2.2.2.2.2.2.2.1;clear O;simp only[Am,Az,Ex,List.filterMap_cons,List.filterMap_nil,List.contains_cons,List.contains_nil,Nat.reduceBEq,Nat.reduceAdd,Bool.or_false,Bool.or_true,cond_true,cond_false];rw[Sr];clear Sr;have aI:=Hd (r.out.trans (t.mono r.out.size));have G4:=Hd (G3.out.below t G3.out.lt);have aY:=Hd (B.out.below t B.out.lt);have aO:=Hd (N.out.below t);clear t;cases bq with
    |true=>
     have V:=Hd (show Pd (0,s) hx i=(0,s)from by unfold Pd;simp only;rw[if_neg (by simp),if_neg (by rw[←aE.out,aQ.out];simp),if_neg (by rw[←aN.out,of_decide_eq_true aR.out.symm];simp)]);go_wp2_with (first
      |(refine Aw rfl 101 (.tmp 10) rfl q rfl 101 #[rA rC lv,rA rC ow,.map (some ob),.map (some sb)] (0,0) _ aY.out underlying101 rfl (by kernel_rfl) ?_)
      |(refine Aa rfl 101 (.tmp 8) (.tmp 39) rfl g #[rA rC lv,rA rC ow,.map (some ob),.map (some sb)] rfl rfl 101 #[rA rC 0,rA rC 0,.map none,.map none] G4.out (by kernel_rfl) rfl rfl ?_))
     rintro w9 b m l j;have P9:=Hd b;have B9:=Hd (aI.out.trans (m w.heap.size (by rw[HG.out];exact lR)));have S9:=Hd (aO.out.only (Only.storeQ m l) (by have:=o.out;omega) (by have:=o.out;omega) (by have:=o.out;omega));clear b m l j;go_wp2_with fail;refine bodyPost_ret (v:=.tuple #[.agg #[rA rC lv,rA rC ow,.map (some ob),.map (some sb)],rA .u8 0]) (Ad results72 _ _ g _ _ _ rfl P9.out underlying101 rfl (by kernel_rfl)) rfl ?_;exact aK.out _ _ ob sb p rfl V.out (by have:=o.out;have:=HG.out;omega) (by have:=o.out;have:=HG.out;omega) o.out.2.2.1 o.out.2.2.2.1 o.out.2.2.2.2 S9.out B9.out
    |false=>
     have V:=Hd (show Pd (0,s) hx i=(17,Kd)from by unfold Pd;simp only;rw[if_neg (by simp),if_neg (by rw[←aE.out,aQ.out];simp),if_pos (by rw[←aN.out];exact of_decide_eq_false aR.out.symm)]);go_wp2_with (refine Aa rfl 101 (.tmp 8) (.tmp 38) rfl g #[rA rC 0,rA rC 0,.map none,.map none] rfl rfl 101 #[rA rC 0,rA rC 0,.map none,.map none] G4.out (by kernel_rfl) rfl rfl ?_);rintro w9 b m l j;have P9:=Hd b;have B9:=Hd (aI.out.trans (m w.heap.size (by rw[HG.out];exact lR)));clear b m l j;go_wp2_with fail;refine bodyPost_ret (v:=.tuple #[.agg #[rA rC 0,rA rC 0,.map none,.map none],rA .u8 17]) (Ad results72 _ _ g _ _ _ rfl P9.out underlying101 rfl (by kernel_rfl)) rfl ?_;exact aH.out _ _ 17 rfl (by decide) V.out B9.out
  ·have a3:((ow:Int) !=i)=true:=(by rw[bne_iff_ne];exact hoi);have V:=Hd (show Pd (0,s) hx i=(7,Kd)from by unfold Pd;simp only;rw[if_neg (by simp),if_pos (by rw[←aE.out];exact hoi)]);clear hoi;go_wp2_with (refine Aa rfl 101 (.tmp 8) (.tmp 28) rfl g #[rA rC 0,rA rC 0,.map none,.map none] rfl rfl 101 #[rA rC 0,rA rC 0,.map none,.map none] (by rw[←U.out];exact G3.out) (by kernel_rfl) rfl rfl ?_);rintro w9 b m l j;have P9:=Hd b;have B9:=Hd (r.out.trans (by rw[U.out];exact m w.heap.size (by rw[HG.out];exact lR)));clear b m l j;go_wp2_with fail;refine bodyPost_ret (v:=.tuple #[.agg #[rA rC 0,rA rC 0,.map none,.map none],rA .u8 7]) (Ad results72 _ _ g _ _ _ rfl P9.out underlying101 rfl (by kernel_rfl)) rfl ?_;exact aH.out _ _ 7 rfl (by decide) V.out B9.out
 ·rw[if_neg h0]at hr;have bD:((er:Int) !=0)=true:=(by rw[bne_iff_ne];omega);have a9:=Hd h0;have V:=Hd (show Pd (er,s) hx i=(er,Kd)from by unfold Pd;rw[if_pos h0]);obtain rfl:=hr;clear h0;go_wp2_with (refine Aa rfl 101 (.tmp 8) (.tmp 21) rfl g #[rA rC 0,rA rC 0,.map none,.map none] rfl rfl 101 #[rA rC 0,rA rC 0,.map none,.map none] (G1.out.alloc _) (by kernel_rfl) rfl rfl ?_);rintro w9 b m l j;have P9:=Hd b;have B9:=Hd ((I.out.alloc I.out.size _).trans (m w.heap.size (by rw[HG.out];exact lR)));clear b m l j;go_wp2_with fail;refine bodyPost_ret (v:=.tuple #[.agg #[rA rC 0,rA rC 0,.map none,.map none],rA .u8 (er:Nat)]) (Ad results72 _ _ g _ _ _ rfl P9.out underlying101 rfl (by kernel_rfl)) rfl ?_;exact aH.out _ _ er rfl a9.out V.out B9.out
end Go.Proofs.YtfofaiommeckbaaGreat
