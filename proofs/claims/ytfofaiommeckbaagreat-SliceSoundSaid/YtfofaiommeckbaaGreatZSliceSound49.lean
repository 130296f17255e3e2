/- Walk: bytes.Equal. -/
import Derived.Test.YtfofaiommeckbaaGreatZSliceSoundB
import Derived.Laws.BytesArg
import Derived.Lib.Bytes
import Derived.Test.YtfofaiommeckbaaGreatZSliceSound48
set_option linter.unusedVariables false
set_option maxRecDepth 100000
set_option maxHeartbeats 40000000
namespace Go.Proofs.YtfofaiommeckbaaGreat
open Go.RowKit
theorem Qf {w:World} {v:Value} {L:List Nat}(h:Rd w v (bvs L)):(convert 28 9 v).run Tryz.prog w=.ok (.string (strOfNums (L.map fun(n:Nat)=>(n:Int)))) w:=by
 obtain⟨a,cap,rfl,l,h2,h3⟩:=h;rcases h3 with⟨e,k⟩|⟨b,c,rfl,j⟩
 ·have g:L=[]:=by
   have:=congrArg List.length e;rw[bvs_len]at this;exact List.eq_nil_of_length_eq_zero this
  subst g;cases a with
  |none=>exact run_convert_bytes_nil w 28 5 Tryz.underlying28 Tryz.underlying5 _ _ 9 Tryz.underlying9
  |some a=>
   obtain⟨b,c,f⟩:=a;rw[run_convert_bytes_string w 28 9 5 _ _ _ Tryz.underlying28 Tryz.underlying5 Tryz.underlying9]
   rfl
 ·refine run_convert_bytes_arg w 28 5 Tryz.underlying28 Tryz.underlying5 b c _ _ _ ?_ ?_ 9 Tryz.underlying9
  ·rw[List.length_map,bvs_len]
  ·intro i d;rw[bvs_len]at d;rw[j i _ (Zjv d)]
   congr 2
   rw[List.getD_eq_getElem?_getD,List.getElem?_map,List.getElem?_eq_getElem d];rfl
theorem Xp {L M:List Nat}(a:∀n∈L,n<256)(b:∀n∈M,n<256)(h:(strOfNums (L.map fun(n:Nat)=>(n:Int))).toList=(strOfNums (M.map fun(n:Nat)=>(n:Int))).toList):L=M:=by
 rw[Lib.strOfNums_toList,Lib.strOfNums_toList]at h;have h2:=congrArg (List.map UInt8.toNat) h;unfold Lib.bytesOf at h2;simp only[List.map_map]at h2;have e:∀(K:List Nat),(∀n∈K,n<256)→K.map (UInt8.toNat∘((fun(n:Int)=>UInt8.ofNat n.toNat)∘fun(n:Nat)=>(n:Int)))=K:=by
  intro K d
  conv=>rhs;rw[←List.map_id K]
  apply List.map_congr_left;intro n c;simp[Nat.mod_eq_of_lt (d n c)]
 rw[e L a,e M b]at h2;exact h2
theorem Zjb (d g:Value)(L M:List Nat)(w:World)(f:Rd w d (bvs L))(h2:Rd w g (bvs M))(m:∀n∈L,n<256)(l:∀n∈M,n<256):
  Calls Tryz.prog 96 #[d,g] w fun e w'=>e=.returned (.bool (decide (L=M)))∧w'=w:=by
 have k:=Qf f;have g2:=Qf h2;have b:decide (L=M)=((strOfNums (L.map fun(n:Nat)=>(n:Int))).toList==(strOfNums (M.map fun(n:Nat)=>(n:Int))).toList):=by
  by_cases e:L=M
  ·subst e;simp
  ·rw[decide_eq_false e,Eq.comm,beq_eq_false_iff_ne];exact fun h=>e (Xp m l h)
 rw[b];obtain⟨S,j⟩:=eX (strOfNums (L.map fun(n:Nat)=>(n:Int)));obtain⟨T,i⟩:=eX (strOfNums (M.map fun(n:Nat)=>(n:Int)));rw[←j]at k⊢;rw[←i]at g2⊢;obtain⟨p,r,o,rfl⟩:∃a n c,d=.slice a n c:=(by obtain⟨a,c,e,_⟩:=f;exact⟨_,_,_,e⟩);obtain⟨t,s,q,rfl⟩:∃a n c,g=.slice a n c:=(by obtain⟨a,c,e,_⟩:=h2;exact⟨_,_,_,e⟩);clear j i f h2 b;go_enter Tryz.func96,Tryz.ntmps96;go_wp2_with fail;go_ret;exact⟨rfl,rfl⟩
open Go.Maps WalkM ShaM WireM
def Jb (r:Nat×SparseD)(hx:List Nat)(i:Int):Nat×SparseD:=
 if r.1≠0 then(r.1,Ja)else if r.2.own≠i then(7,Ja)else if Iz r.2≠hx then(17,Ja)else(0,r.2)
theorem Ux {only:Bool} {mk:Nat} {L hx:List Nat} {i:Int}(a:∀y∈L,y<256)(b:L.length≤4000)(h:(Jb (ofS only mk L) hx i).1=0):ofS only mk L=(0,(Jb (ofS only mk L) hx i).2)∧(ofS only mk L).2.own=i∧Iz (ofS only mk L).2=hx:=by
 unfold Jb at h⊢;generalize ofS only mk L=R at h⊢;obtain⟨e,s⟩:=R;simp only at h⊢
 by_cases c0:e=0
 ·rw[if_neg (by omega)]at h⊢
  by_cases c1:s.own=i
  ·rw[if_neg (by omega)]at h⊢
   by_cases c2:Iz s=hx
   ·rw[if_neg (by simp[c2])];exact⟨by rw[c0],c1,c2⟩
   ·rw[if_pos c2]at h;cases h
  ·rw[if_pos c1]at h;cases h
 ·rw[if_pos c0]at h;exact absurd h c0
theorem Zac {r:Nat×SparseD} {hx:List Nat} {i:Int}(h:(Jb r hx i).1≠0):(Jb r hx i).2=Ja:=by
 unfold Jb at h⊢
 split
 ·rfl
 ·split
  ·rfl
  ·split
   ·rfl
   ·rename_i c0 c1 c2
    rw[if_neg c0,if_neg c1,if_neg c2]at h;exact absurd rfl h
theorem Zlf (v hv:Value)(L hx:List Nat)(i:Int)(mk:Nat)(only:Bool)(w:World)(h:Rd w v (bvs L))(hh:Rd w hv (bvs hx))(hl:L.length≤4000)(hL:∀n∈L,n<256)(aQ:∀n∈hx,n<256)(aN:((mk:Int)==2)=only)(hm:mk<256):
  Calls Tryz.prog 72 #[v,hv,.int .i64 i,.int .i64 (mk:Nat)] w (Ziy (Jb (ofS only mk L) hx i) w):=by
 have RD:=fun(W:World) (hw:Below w.heap.size w W)=>Zi7 v L mk only W (h.below hw lR) hl hL aN hm;have GO:=fun hq=>Zy (only:=only) (mk:=mk) hL hl hq;rw[Xg]at RD GO;obtain⟨R,hR⟩:=eX (ofS only mk L);rw[←hR]at RD GO⊢;obtain⟨er,s⟩:=R;simp only at RD GO;have BE:=fun(u:Value) (C:List Nat) (hy:∀n∈C,n<256) (W:World) (hw:Below w.heap.size w W) (hu:Rd W u (bvs C))=>Zjb u hv C hx W hu (hh.below hw lR) hy aQ;have a3:=Hd RD;have a9:=Hd GO;have aX:=Hd BE;obtain⟨va,vn,vc,rfl⟩:∃a n c,v=.slice a n c:=(by obtain⟨a,c,e,-⟩:=h;exact⟨_,_,_,e⟩);obtain⟨Z,aE,V,rfl⟩:∃a n c,hv=.slice a n c:=(by obtain⟨a,c,e,-⟩:=hh;exact⟨_,_,_,e⟩);obtain⟨S,hS⟩:=eX (Ziy (Jb (er,s) hx i) w);rw[←hS];have aC:=Hd (show∀(e:Ending) (w':World) (k:Nat),e=.returned (.tuple #[.agg #[.int .i64 0,.int .i64 0,.map none,.map none],.int .u8 (k:Nat)])→k≠0→Jb (er,s) hx i=(k,Ja)→Below w.heap.size w w'→S e w' from by
  rintro e w' k rfl z h1 h2;rw[hS,h1];exact⟨h2,by rw[if_neg z]⟩)
 have aR:=Hd (show∀(e:Ending) (w':World) (ob sb p:Nat),e=.returned (.tuple #[.agg #[.int .i64 s.leaves,.int .i64 s.own,.map (some ob),.map (some sb)],.int .u8 0])→Jb (er,s) hx i=(0,s)→w.heap.size≤ob→w.heap.size≤sb→ob≠sb→ob<p→sb<p→PcS w' ob sb p s.op.length s.sh.length (Ai s.op) (Ax s.sh)→Below w.heap.size w w'→S e w' from by
  rintro e w' ob sb p rfl h1 k1 k2 k3 k4 k5 k6 h2;rw[hS,h1];exact⟨h2,by rw[if_pos rfl];exact⟨ob,sb,p,rfl,k1,k2,k3,k4,k5,k6⟩⟩)
 obtain⟨g,hg⟩:=eX w.heap.size;have HG:=Hd hg;have G0:=Hd (show Blk (w.alloc (.cells #[.int .i64 0,.int .i64 0,.map none,.map none] 101)) g 101 #[.int .i64 0,.int .i64 0,.map none,.map none] by rw[hg];exact Blk.new _ _ _);have Q:=Hd ((Below.refl w.heap.size w).alloc lR (.cells #[.int .i64 0,.int .i64 0,.map none,.map none] 101));clear RD GO BE hR hg h hh hL aQ hl aN hm hS;go_enter Tryz.func72,Tryz.ntmps72;go_wp2_with fail;refine(a3.out _ Q.out).mono ?_;rintro e w1 ⟨hb,hr⟩;have H:=Hd (Q.out.trans (hb.mono Q.out.size));have G1:=Hd (G0.out.below hb G0.out.lt);rw[←HG.out];clear hb
 by_cases z:er=0
 ·rw[if_pos z]at hr;obtain⟨ob,sb,p,rfl,k1,k2,k3,k4,k5,aK⟩:=hr;have o:=Hd (show g<ob∧g<sb∧ob≠sb∧ob<p∧sb<p from by
   have:=G0.out.lt;exact⟨by omega,by omega,k3,k4,k5⟩)
  have bD:=Hd z;subst z;obtain⟨aD,X⟩:=a9.out rfl;obtain⟨lv,E⟩:=eX s.leaves;obtain⟨ow,how⟩:=eX s.own;have aA:=Hd how;rw[←E,←how];rw[←E,←how]at aR;have D:=Fo X aD.ok aD.small;have N:=Zej X;obtain⟨x,aH⟩:=eX (2^Nat.log2 s.leaves.toNat-1);have a4:=Hd fun(W:World)=>(show Calls Tryz.prog 61 #[.int .i64 lv] W fun e w'=>e=.returned (.int .i64 (x:Nat))∧W=w' from by
   obtain⟨hP,d,i,hd,h1,h2,h3,h4,h5⟩:=D;have bA:2^d≤65536:=Nat.le_trans (Nat.pow_le_pow_right (by omega) hd) (by decide);have:=Lw ((2^d:Nat):Int) W (by omega) (by omega);rw[Uk hd]at this;rw[aH,h4,E,h1];exact this)
  have aT:=Hd fun(ob sb p:Nat) (W:World) (hp:PcS W ob sb p s.op.length s.sh.length (Ai s.op) (Ax s.sh))=>(show Calls Tryz.prog 90 #[.agg #[.int .i64 lv,.int .i64 ow,.map (some ob),.map (some sb)],.int .i64 (x:Nat)] W fun e w'=>∃v',e=.returned v'∧Rd w' v' (bvs (Iz s))∧Below W.heap.size W w' from by
   obtain⟨hP,d,i,hd,h1,h2,h3,h4,h5⟩:=D;have bA:2^d≤65536:=Nat.le_trans (Nat.pow_le_pow_right (by omega) hd) (by decide);have bE:=Nat.two_pow_pos d;obtain⟨G,hm,hg⟩:=hp.pieceN;obtain⟨G',a6,bB⟩:=hp.pieceH;unfold Iz;rw[aH,h4];exact Zei _ _ hP N d (2^d-1) lv ow ob sb _ _ G G' W (Cp d) (by omega) hm hg a6 bB)
  have aF:∀n∈Iz s,n<256:=(by unfold Iz;exact Rw D.1);obtain⟨C,aB⟩:=eX (Iz s);rw[←aB]at aT aF;have aM:=Hd aB;obtain⟨bq,aG⟩:=eX (decide (C=hx));have a7:=Hd fun(u:Value) (W:World) (hw:Below w.heap.size w W) (hu:Rd W u (bvs C))=>(show Calls Tryz.prog 96 #[u,.slice Z aE V] W fun e w'=>e=.returned (.bool bq)∧w'=W from by rw[aG];exact aX.out u C aF W hw hu);have aW:=Hd aG;have aU:=Hd aK;clear E how aK aD X D N aH aF aB aG k1 k2 k3 k4 k5;obtain⟨q,hq⟩:=eX w1.heap.size;have aY:=Hd hq;obtain⟨w3,F⟩:=eX (w1.alloc (.cells #[.int .i64 lv,.int .i64 ow,.map (some ob),.map (some sb)] 101));have B:Below w1.heap.size w1 w3:=(by rw[F];exact bR.alloc lR _);have I:=Hd (show Blk w3 q 101 #[.int .i64 lv,.int .i64 ow,.map (some ob),.map (some sb)] by rw[F,hq];exact Blk.new _ _ _);have t:=Hd (H.out.trans (B.mono H.out.size));have G3:=Hd (G1.out.below B G1.out.lt);have M:=Hd (aU.out.below B);have T:=Hd F;clear B hq F
  by_cases hoi:ow=i
  ·have a5:((ow:Int) !=i)=false:=(by rw[bne_eq_false_iff_eq];exact hoi);have aS:=Hd hoi;clear hoi;go_wp2_with fail;rw[←T.out,←aY.out];refine Cb [eF (.agg #[.int .i64 lv,.int .i64 ow,.map (some ob),.map (some sb)]),eF (.pointer (some ⟨q,0,none⟩)),eF (.int .i64 lv),eF (.int .i64 (x:Nat)),fun u w'=>Rd w' u (bvs C),eF (.slice Z aE V),eF (.bool bq),eF (.bool (!bq)),eF (.bool (!bq))] (by kernel_rfl) (by kernel_rfl) (by kernel_rfl)
    (kE (kE (kE (kE (bX (fun v x y h hb=>Rd.below h hb lR) (kE (kE (kE (kE Ae))))))))) ?_ ?_
   ·refine gB ?_ (gQ ?_ (gQ ?_ (gB ?_ (gB ?_ (gQ ?_ (gB ?_ (gQ ?_ (gQ ?_ .nil))))))));all_goals
     intro a wx aI ha O;refine⟨rfl,?_⟩;intro K J;try have aP:a.tmps[10]?.getD undef=.pointer (some ⟨q,0,none⟩):=ha 10 (by kernel_rfl)
     try have bF:a.tmps[1]?.getD undef=.slice Z aE V:=ha 1 (by kernel_rfl)
     have aV:=I.out.below aI I.out.lt;try(have a1:=aV.cell 0;simp only[List.getElem?_toArray,List.getElem?_cons_zero]at a1)
    ·exact wp_load_row 101 (.tmp 10) rfl _ (evs aP) _ _ (0,0) _ aV Tryz.underlying101 rfl (by kernel_rfl) (J _ _ rfl bR)
    ·go_simp;exact J _ rfl
    ·have A:=eqn O.1
     go_simp;exact J _ rfl
    ·have A:=eqn O.1;go_simp;refine(a4.out wx).mono ?_;rintro e w2 ⟨rfl,rfl⟩;exact J _ _ rfl bR
    ·have A:=eqn O.1;have aZ:=eqn O.2.1;go_simp;refine(aT.out ob sb p wx (M.out.below aI)).mono ?_;rintro e w7 ⟨u,rfl,hu,a2⟩;exact J _ _ hu a2
    ·go_simp;exact J _ rfl
    ·have o0:Rd wx (a.tmps[34]?.getD undef) (bvs C):=O.1;have aZ:=eqn O.2.1;obtain⟨v1,aJ⟩:=eX (a.tmps[34]?.getD undef);rw[←aJ]at o0;have e1:=aJ.symm;clear aJ;go_simp;refine(a7.out v1 wx (t.out.trans (aI.mono t.out.size)) o0).mono ?_;rintro e w7 ⟨rfl,rfl⟩;exact J _ _ rfl bR
    ·have A:=eqn O.1
     go_simp;exact J _ rfl
    ·have A:=eqn O.1
     go_simp;exact J _ rfl
   ·rintro f w4 r P;have Sr:f 29=.bool (!bq):=P.2.2.2.2.2.2.2.2.1;clear P;simp only[Aj,Aq,Dr,List.filterMap_cons,List.filterMap_nil,List.contains_cons,List.contains_nil,Nat.reduceBEq,Nat.reduceAdd,Bool.or_false,Bool.or_true,cond_true,cond_false];rw[Sr];clear Sr;have aL:=Hd (t.out.trans (r.mono t.out.size));have G4:=Hd (G3.out.below r G3.out.lt);have a8:=Hd (I.out.below r I.out.lt);have aO:=Hd (M.out.below r);clear r;cases bq with
    |true=>
     have U:=Hd (show Jb (0,s) hx i=(0,s)from by unfold Jb;simp only;rw[if_neg (by simp),if_neg (by rw[←aA.out,aS.out];simp),if_neg (by rw[←aM.out,of_decide_eq_true aW.out.symm];simp)]);go_wp2_with (first
      |(refine Au rfl 101 (.tmp 10) rfl q rfl 101 #[.int .i64 lv,.int .i64 ow,.map (some ob),.map (some sb)] (0,0) _ a8.out Tryz.underlying101 rfl (by kernel_rfl) ?_)
      |(refine Aa rfl 101 (.tmp 8) (.tmp 39) rfl g #[.int .i64 lv,.int .i64 ow,.map (some ob),.map (some sb)] rfl rfl 101 #[.int .i64 0,.int .i64 0,.map none,.map none] G4.out (by kernel_rfl) rfl rfl ?_))
     rintro w9 b m l j;have Y:=Hd b;have B9:=Hd (aL.out.trans (m w.heap.size (by rw[HG.out];exact lR)));have S9:=Hd (aO.out.only (Only.storeQ m l) (by have:=o.out;omega) (by have:=o.out;omega) (by have:=o.out;omega));clear b m l j;go_wp2_with fail;refine bodyPost_ret (v:=.tuple #[.agg #[.int .i64 lv,.int .i64 ow,.map (some ob),.map (some sb)],.int .u8 0]) (Ad Tryz.results72 _ _ g _ _ _ rfl Y.out Tryz.underlying101 rfl (by kernel_rfl)) rfl ?_;exact aR.out _ _ ob sb p rfl U.out (by have:=o.out;have:=HG.out;omega) (by have:=o.out;have:=HG.out;omega) o.out.2.2.1 o.out.2.2.2.1 o.out.2.2.2.2 S9.out B9.out
    |false=>
     have U:=Hd (show Jb (0,s) hx i=(17,Ja)from by unfold Jb;simp only;rw[if_neg (by simp),if_neg (by rw[←aA.out,aS.out];simp),if_pos (by rw[←aM.out];exact of_decide_eq_false aW.out.symm)]);go_wp2_with (refine Aa rfl 101 (.tmp 8) (.tmp 38) rfl g #[.int .i64 0,.int .i64 0,.map none,.map none] rfl rfl 101 #[.int .i64 0,.int .i64 0,.map none,.map none] G4.out (by kernel_rfl) rfl rfl ?_);rintro w9 b m l j;have Y:=Hd b;have B9:=Hd (aL.out.trans (m w.heap.size (by rw[HG.out];exact lR)));clear b m l j;go_wp2_with fail;refine bodyPost_ret (v:=.tuple #[.agg #[.int .i64 0,.int .i64 0,.map none,.map none],.int .u8 17]) (Ad Tryz.results72 _ _ g _ _ _ rfl Y.out Tryz.underlying101 rfl (by kernel_rfl)) rfl ?_;exact aC.out _ _ 17 rfl (by decide) U.out B9.out
  ·have a5:((ow:Int) !=i)=true:=(by rw[bne_iff_ne];exact hoi);have U:=Hd (show Jb (0,s) hx i=(7,Ja)from by unfold Jb;simp only;rw[if_neg (by simp),if_pos (by rw[←aA.out];exact hoi)]);clear hoi;go_wp2_with (refine Aa rfl 101 (.tmp 8) (.tmp 28) rfl g #[.int .i64 0,.int .i64 0,.map none,.map none] rfl rfl 101 #[.int .i64 0,.int .i64 0,.map none,.map none] (by rw[←T.out];exact G3.out) (by kernel_rfl) rfl rfl ?_);rintro w9 b m l j;have Y:=Hd b;have B9:=Hd (t.out.trans (by rw[T.out];exact m w.heap.size (by rw[HG.out];exact lR)));clear b m l j;go_wp2_with fail;refine bodyPost_ret (v:=.tuple #[.agg #[.int .i64 0,.int .i64 0,.map none,.map none],.int .u8 7]) (Ad Tryz.results72 _ _ g _ _ _ rfl Y.out Tryz.underlying101 rfl (by kernel_rfl)) rfl ?_;exact aC.out _ _ 7 rfl (by decide) U.out B9.out
 ·rw[if_neg z]at hr;have bC:((er:Int) !=0)=true:=(by rw[bne_iff_ne];omega);have a0:=Hd z;have U:=Hd (show Jb (er,s) hx i=(er,Ja)from by unfold Jb;rw[if_pos z]);obtain rfl:=hr;clear z;go_wp2_with (refine Aa rfl 101 (.tmp 8) (.tmp 21) rfl g #[.int .i64 0,.int .i64 0,.map none,.map none] rfl rfl 101 #[.int .i64 0,.int .i64 0,.map none,.map none] (G1.out.alloc _) (by kernel_rfl) rfl rfl ?_);rintro w9 b m l j;have Y:=Hd b;have B9:=Hd ((H.out.alloc H.out.size _).trans (m w.heap.size (by rw[HG.out];exact lR)));clear b m l j;go_wp2_with fail;refine bodyPost_ret (v:=.tuple #[.agg #[.int .i64 0,.int .i64 0,.map none,.map none],.int .u8 (er:Nat)]) (Ad Tryz.results72 _ _ g _ _ _ rfl Y.out Tryz.underlying101 rfl (by kernel_rfl)) rfl ?_;exact aC.out _ _ er rfl a0.out U.out B9.out
end Go.Proofs.YtfofaiommeckbaaGreat
namespace Go.Proofs.YtfofaiommeckbaaGreat
open Go.RowKit Go.Maps WalkM WireM
theorem Oc {only:Bool} {mk:Nat} {L hx:List Nat} {i:Int}(hL:∀y∈L,y<256)(hl:L.length≤4000)(h:(Jb (ofS only mk L) hx i).1=0):SpGood (Jb (ofS only mk L) hx i).2∧Ar (Jb (ofS only mk L) hx i).2 only=true:=by
 have e:=(Ux hL hl h).1;have g:=Zy (only:=only) (mk:=mk) hL hl (by rw[Xg,e]);rw[Xg,e]at g;exact g
theorem Xq (v K:Value)(L hx:List Nat)(i:Int)(w:World)(h:Rd w v (bvs L))(hh:Rd w K (bvs hx))(hl:L.length≤4000)(S:∀n∈L,n<256)(C:∀n∈hx,n<256):
  Calls Tryz.prog 25 #[v,K,.int .i64 i] w fun e w'=>(∃c,e=.returned (.tuple #[.agg c,.int .u8 ((Jb (ofS false 1 L) hx i).1:Nat)])∧SparseR w' (.agg c) (Jb (ofS false 1 L) hx i).2)∧Below w.heap.size w w':=by
 have Q:=fun(W:World) (hw:Below w.heap.size w W)=>Zlf v K L hx i 1 false W (h.below hw lR) (hh.below hw lR) hl S C rfl (by omega);have GO:=fun h=>(Oc (only:=false) (mk:=1) (hx:=hx) (i:=i) S hl h).1;have X:=fun h=>Zac (r:=ofS false 1 L) (hx:=hx) (i:=i) h;obtain⟨va,vn,vc,rfl⟩:∃a n c,v=.slice a n c:=(by obtain⟨a,c,e,-⟩:=h;exact⟨_,_,_,e⟩);obtain⟨aG,aH,aF,rfl⟩:∃a n c,K=.slice a n c:=(by obtain⟨a,c,e,-⟩:=hh;exact⟨_,_,_,e⟩);obtain⟨R,hR⟩:=eX ((Jb (ofS false 1 L) hx i));rw[←hR]at Q GO X⊢;obtain⟨g,hg⟩:=eX w.heap.size;have HG:=Hd hg;have aB:=Hd (Q (w.alloc (.cells #[.int .i64 0,.int .i64 0,.slice none 0 0,.slice none 0 0] 25)) ((Below.refl w.heap.size w).alloc lR _));have G0:=Hd (show Blk (w.alloc (.cells #[.int .i64 0,.int .i64 0,.slice none 0 0,.slice none 0 0] 25)) g 25 #[.int .i64 0,.int .i64 0,.slice none 0 0,.slice none 0 0] by rw[hg];exact Blk.new _ _ _);have u:=Hd ((Below.refl w.heap.size w).alloc lR (.cells #[.int .i64 0,.int .i64 0,.slice none 0 0,.slice none 0 0] 25));have aD:=Hd GO;have J:=Hd X;obtain⟨er,q⟩:=eX R.1;rw[←q];have V:=Hd q;clear Q GO X hR hg q h hh hl S C;go_enter Tryz.func25,Tryz.ntmps25;go_wp2_with fail;refine aB.out.mono ?_;rintro e t ⟨p,E⟩;have m:=Hd (u.out.trans (p.mono u.out.size));have D:=Hd (G0.out.below p G0.out.lt);rw[←HG.out];rw[←V.out]at E;clear p
 by_cases h0:er=0
 ·rw[if_pos h0]at E;have Z:((er:Int) !=0)=false:=(by rw[bne_eq_false_iff_eq];omega);have H:=Hd (aD.out (by rw[←V.out];exact h0));obtain⟨ob,sb,gg,rfl,h1,h2,h3,-,-,o⟩:=E;have hN:=o.pieceN;have hH:=o.pieceH;clear o;obtain⟨s,N⟩:=eX R.2;rw[←N]at hN hH H;have aA:=Hd N;rw[←N];have z:=Hd fun(W:World) (O:Below t.heap.size t W)=>Zi9 s H.out ob sb W (hN.below O lR) (hH.below O lR);obtain⟨lv,F⟩:=eX s.leaves;obtain⟨ow,how⟩:=eX s.own;rw[←F,←how]at z⊢;have aC:er=0:=h0;subst aC;clear h0 h1 h2 h3 hN hH N F how;go_wp2_with fail;refine(z.out _ ((Below.refl t.heap.size t).alloc lR _)).mono ?_;rintro e w2 ⟨v,rfl,l,p,I⟩;have k:=(Below.refl t.heap.size t).alloc lR (.cells #[.int .i64 lv,.int .i64 ow,.map (some ob),.map (some sb)] 101);have U:=Hd (m.out.trans (((k).trans (p.mono k.size)).mono m.out.size));have G2:=Hd ((D.out.below k D.out.lt).below p (by have:=D.out.lt;simp;omega));have aE:=Hd fun(W:World) (O:Only g w2 W)=>I g W (by have:=D.out.lt;simp;omega) O;obtain⟨P,M,rfl,-,-⟩:=id l;have B:P.oneCell'=true:=(by obtain⟨x,y,e,T,-⟩:=l;cases e;obtain⟨a,c,rfl,-⟩:=T;rfl);have G:M.oneCell'=true:=(by obtain⟨x,y,e,-,T⟩:=l;cases e;obtain⟨a,c,rfl,-⟩:=T;rfl);have A:=Hd (show(#[.int .i64 s.leaves,.int .i64 s.own,P,M]:Array Value).toList.all (·.oneCell')=true by simp only[List.all_cons,List.all_nil,B,G];rfl);clear l p I k B G;go_wp2_with (refine Aa rfl 25 (.tmp 6) (.tmp 22) rfl g #[.int .i64 s.leaves,.int .i64 s.own,P,M] rfl rfl 25 #[.int .i64 0,.int .i64 0,.slice none 0 0,.slice none 0 0] G2.out (by kernel_rfl) rfl A.out ?_);rintro w3 b j f d;have P3:=Hd b;have S3:=Hd (aE.out w3 (Only.storeQ j f));have B3:=Hd (U.out.trans (j w.heap.size (by rw[HG.out];exact lR)));clear b j f d;go_wp2_with fail;refine bodyPost_ret (v:=.tuple #[.agg #[.int .i64 s.leaves,.int .i64 s.own,P,M],.int .u8 0]) (Ad Tryz.results25 _ _ g _ _ _ rfl P3.out Tryz.underlying25 rfl (by kernel_rfl)) rfl ?_;exact⟨⟨_,rfl,by rw[←aA.out];exact S3.out⟩,B3.out⟩
 ·rw[if_neg h0]at E;have Z:((er:Int) !=0)=true:=(by rw[bne_iff_ne];omega);have Y:=Hd (J.out (by rw[←V.out];exact h0));obtain rfl:=E;clear h0;go_wp2_with (refine Aa rfl 25 (.tmp 6) (.tmp 19) rfl g #[.int .i64 0,.int .i64 0,.slice none 0 0,.slice none 0 0] rfl rfl 25 #[.int .i64 0,.int .i64 0,.slice none 0 0,.slice none 0 0] (D.out.alloc _) (by kernel_rfl) rfl rfl ?_);rintro w3 b j f d;have P3:=Hd b;have B3:=Hd ((m.out.alloc m.out.size _).trans (j w.heap.size (by rw[HG.out];exact lR)));clear b j f d;go_wp2_with fail;refine bodyPost_ret (v:=.tuple #[.agg #[.int .i64 0,.int .i64 0,.slice none 0 0,.slice none 0 0],.int .u8 (er:Nat)]) (Ad Tryz.results25 _ _ g _ _ _ rfl P3.out Tryz.underlying25 rfl (by kernel_rfl)) rfl ?_;exact⟨⟨_,rfl,by rw[Y.out];exact Zmg _⟩,B3.out⟩
end Go.Proofs.YtfofaiommeckbaaGreat
