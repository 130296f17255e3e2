import Derived.Laws.BytesArg
import Derived.Lib.Bytes
import Derived.Test.YtfofaiommeckbaaGreatZCk28
import Derived.Test.YtfofaiommeckbaaGreatZCk30
open Go.Obj renaming cells -> rJ
open Go.Ending renaming returned -> rK
open Go.Value renaming slice -> rC, int -> rD, pointer -> rE
open Go.IntKind renaming i64 -> rF
open Option renaming none -> rI
open Go.Proofs.Tryz
open Nat renaming le_trans -> eT, pow_le_pow_right -> bQ, le_of_eq -> iW, zero_le -> aA
open List renaming getElem?_toArray -> cR, getElem?_cons_zero -> cS, getElem?_cons_succ -> aP
set_option linter.unusedVariables false
set_option maxRecDepth 100000
set_option maxHeartbeats 40000000
namespace Go.Proofs.YtfofaiommeckbaaGreat
open Go.RowKit
theorem Qw {w:World} {v:Value} {L:List Nat}(h:Rd w v (bvs L)):(convert 28 9 v).run prog w=.ok (.string (strOfNums (L.map fun(n:Nat)=>(n:Int)))) w:=by
 obtain⟨a,cap,rfl,h1,h2,h3⟩:=h;rcases h3 with⟨e,k⟩|⟨b,c,rfl,j⟩
 ·have g:L=[]:=by
   have:=congrArg List.length e;rw[bvs_len]at this;exact List.eq_nil_of_length_eq_zero this
  subst g;cases a with
  |none=>exact run_convert_bytes_nil w 28 5 underlying28 underlying5 _ _ 9 underlying9
  |some a=>
   obtain⟨b,c,f⟩:=a;rw[run_convert_bytes_string w 28 9 5 _ _ _ underlying28 underlying5 underlying9]
   rfl
 ·refine run_convert_bytes_arg w 28 5 underlying28 underlying5 b c _ _ _ ?_ ?_ 9 underlying9
  ·rw[List.length_map,bvs_len]
  ·intro i d;rw[bvs_len]at d;rw[j i _ (Zj4 d)]
   congr 2
   rw[List.getD_eq_getElem?_getD,List.getElem?_map,List.getElem?_eq_getElem d];rfl
theorem Xr {L M:List Nat}(b:∀n∈L,n<256)(c:∀n∈M,n<256)(h:(strOfNums (L.map fun(n:Nat)=>(n:Int))).toList=(strOfNums (M.map fun(n:Nat)=>(n:Int))).toList):L=M:=by
 rw[Lib.strOfNums_toList,Lib.strOfNums_toList]at h;have h2:=congrArg (List.map UInt8.toNat) h;unfold Lib.bytesOf at h2;simp only[List.map_map]at h2;have e:∀(K:List Nat),(∀n∈K,n<256)->K.map (UInt8.toNat∘((fun(n:Int)=>UInt8.ofNat n.toNat)∘fun(n:Nat)=>(n:Int)))=K:=by
  intro K a
  conv=>rhs;rw[<-List.map_id K]
  apply List.map_congr_left;intro n d;simp[Nat.mod_eq_of_lt (a n d)]
 rw[e L b,e M c]at h2;exact h2
theorem Zi9 (d f:Value)(L M:List Nat)(w:World)(h1:Rd w d (bvs L))(h2:Rd w f (bvs M))(k:∀n∈L,n<256)(l:∀n∈M,n<256):
  Calls prog 96 #[d,f] w fun e w'=>e=rK (.bool (decide (L=M)))/\w'=w:=by
 have j:=Qw h1;have g2:=Qw h2;have b:decide (L=M)=((strOfNums (L.map fun(n:Nat)=>(n:Int))).toList==(strOfNums (M.map fun(n:Nat)=>(n:Int))).toList):=by
  by_cases e:L=M
  ·subst e;simp
  ·rw[dF e,Eq.comm,qN];exact fun h=>e (Xr k l h)
 rw[b];obtain⟨S,g⟩:=eX (strOfNums (L.map fun(n:Nat)=>(n:Int)));obtain⟨T,i⟩:=eX (strOfNums (M.map fun(n:Nat)=>(n:Int)));rw[<-g]at j|-;rw[<-i]at g2|-;obtain⟨m,n1,p,rfl⟩:∃a n c,d=.slice a n c:=(by obtain⟨a,c,e,_⟩:=h1;exact⟨_,_,_,e⟩);obtain⟨o,r,q,rfl⟩:∃a n c,f=.slice a n c:=(by obtain⟨a,c,e,_⟩:=h2;exact⟨_,_,_,e⟩);clear g i h1 h2 b;go_in;go_wp2_with fail;go_ret;exact⟨rfl,rfl⟩
open Go.Maps WalkM ShaM WireM
def Gi (r:Nat×SparseD)(hx:List Nat)(i:Int):Nat×SparseD:=
 if r.1≠0 then(r.1,Ef)else if r.2.own≠i then(7,Ef)else if Fd r.2≠hx then(17,Ef)else(0,r.2)
theorem Zgc {only:Bool} {mk:Nat} {L hx:List Nat} {i:Int}(a:∀y∈L,y<256)(b:BL mk L)(h:(Gi (ofS only mk L) hx i).1=0):ofS only mk L=(0,(Gi (ofS only mk L) hx i).2)/\(ofS only mk L).2.own=i/\Fd (ofS only mk L).2=hx:=by
 unfold Gi at h|-;generalize ofS only mk L=R at h|-;obtain⟨e,s⟩:=R;simp only at h|-
 by_cases c0:e=0
 ·rw[iN (by omega)]at h|-
  by_cases c1:s.own=i
  ·rw[iN (by omega)]at h|-
   by_cases c2:Fd s=hx
   ·rw[iN (by simp[c2])];exact⟨by rw[c0],c1,c2⟩
   ·rw[iP c2]at h;cases h
  ·rw[iP c1]at h;cases h
 ·rw[iP c0]at h;exact absurd h c0
theorem Zad {r:Nat×SparseD} {hx:List Nat} {i:Int}(h:(Gi r hx i).1≠0):(Gi r hx i).2=Ef:=by
 unfold Gi at h|-
 split
 ·rfl
 ·split
  ·rfl
  ·split
   ·rfl
   ·rename_i c0 c1 c2
    rw[iN c0,iN c1,iN c2]at h;exact absurd rfl h
theorem Zln (v hv:Value)(L hx:List Nat)(i:Int)(mk:Nat)(only:Bool)(w:World)(h:Rd w v (bvs L))(hh:Rd w hv (bvs hx))(hl:BL mk L)(hL:∀n∈L,n<256)(aY:∀n∈hx,n<256)(aW:((mk:Int)==2)=only)(hm:mk<256):
  Calls prog 72 #[v,hv,rD rF i,rD rF (mk:Nat)] w (Zi1 (Gi (ofS only mk L) hx i) w):=by
 have RD:=fun(W:World) (hw:Below w.heap.size w W)=>Zi5 v L mk only W (h.below hw lR) hl hL aW hm;have GO:=fun hq=>Sw (only:=only) (mk:=mk) hL hl hq;rw[Sx]at RD GO;obtain⟨R,hR⟩:=eX (ofS only mk L);rw[<-hR]at RD GO|-;obtain⟨er,s⟩:=R;simp only at RD GO;have BE:=fun(u:Value) (C:List Nat) (hy:∀n∈C,n<256) (W:World) (hw:Below w.heap.size w W) (hu:Rd W u (bvs C))=>Zi9 u hv C hx W hu (hh.below hw lR) hy aY;have a6:=Hd RD;have a2:=Hd GO;have aM:=Hd BE;obtain⟨va,vn,vc,rfl⟩:∃a n c,v=.slice a n c:=(by obtain⟨a,c,e,-⟩:=h;exact⟨_,_,_,e⟩);obtain⟨aG,aI,aH,rfl⟩:∃a n c,hv=.slice a n c:=(by obtain⟨a,c,e,-⟩:=hh;exact⟨_,_,_,e⟩);obtain⟨S,hS⟩:=eX (Zi1 (Gi (er,s) hx i) w);rw[<-hS];have U:=Hd (show∀(e:Ending) (w':World) (k:Nat),e=rK (.tuple #[.agg #[rD rF 0,rD rF 0,.map none,.map none],rD .u8 (k:Nat)])->k≠0->Gi (er,s) hx i=(k,Ef)->Below w.heap.size w w'->S e w' from by
  rintro e w' k rfl h0 h1 h2;rw[hS,h1];exact⟨h2,by rw[iN h0]⟩)
 have aS:=Hd (show∀(e:Ending) (w':World) (ob sb p:Nat),e=rK (.tuple #[.agg #[rD rF s.leaves,rD rF s.own,.map (some ob),.map (some sb)],rD .u8 0])->Gi (er,s) hx i=(0,s)->w.heap.size<=ob->w.heap.size<=sb->ob≠sb->ob<p->sb<p->PcS w' ob sb p s.op.length s.sh.length (Ah s.op) (Ba s.sh)->Below w.heap.size w w'->S e w' from by
  rintro e w' ob sb p rfl h1 k1 k2 k3 k4 k5 k6 h2;rw[hS,h1];exact⟨h2,by rw[iP rfl];exact⟨ob,sb,p,rfl,k1,k2,k3,k4,k5,k6⟩⟩)
 obtain⟨g,hg⟩:=eX w.heap.size;have T:=Hd hg;have G0:=Hd (show Blk (w.alloc (rJ #[rD rF 0,rD rF 0,.map none,.map none] 101)) g 101 #[rD rF 0,rD rF 0,.map none,.map none] by rw[hg];exact Blk.new _ _ _);have Q:=Hd ((Below.refl w.heap.size w).alloc lR (rJ #[rD rF 0,rD rF 0,.map none,.map none] 101));clear RD GO BE hR hg h hh hL aY hl aW hm hS;go_in;go_wp2_with fail;refine(a6.out _ Q.out).mono ?_;rintro e w1 ⟨hb,hr⟩;have A:=Hd (Q.out.trans (hb.mono Q.out.size));have G1:=Hd (G0.out.below hb G0.out.lt);rw[<-T.out];clear hb
 by_cases h0:er=0
 ·rw[iP h0]at hr;obtain⟨ob,sb,p,rfl,k1,k2,k3,k4,k5,aV⟩:=hr;have o:=Hd (show g<ob/\g<sb/\ob≠sb/\ob<p/\sb<p from by
   have:=G0.out.lt;exact⟨by omega,by omega,k3,k4,k5⟩)
  have bD:=Hd h0;subst h0;obtain⟨aD,aE⟩:=a2.out rfl;obtain⟨lv,H⟩:=eX s.leaves;obtain⟨ow,how⟩:=eX s.own;have V:=Hd how;rw[<-H,<-how];rw[<-H,<-how]at aS;have E:=Jn aE aD.ok aD.small;have M:=Zga aE;obtain⟨x,aJ⟩:=eX (2^Nat.log2 s.leaves.toNat-1);have a7:=Hd fun(W:World)=>(show Calls prog 61 #[rD rF lv] W fun e w'=>e=rK (rD rF (x:Nat))/\W=w' from by
   obtain⟨hP,d,i,hd,h1,h2,h3,h4,h5⟩:=E;have bC:2^d<=65536:=eT (bQ (by omega) hd) (by decide);have:=Rf ((2^d:Nat):Int) W (by omega) (by omega);rw[Zei hd]at this;rw[aJ,h4,H,h1];exact this)
  have aR:=Hd fun(ob sb p:Nat) (W:World) (hp:PcS W ob sb p s.op.length s.sh.length (Ah s.op) (Ba s.sh))=>(show Calls prog 90 #[.agg #[rD rF lv,rD rF ow,.map (some ob),.map (some sb)],rD rF (x:Nat)] W fun e w'=>∃v',e=rK v'/\Rd w' v' (bvs (Fd s))/\Below W.heap.size W w' from by
   obtain⟨hP,d,i,hd,h1,h2,h3,h4,h5⟩:=E;have bC:2^d<=65536:=eT (bQ (by omega) hd) (by decide);have bG:=Nat.two_pow_pos d;obtain⟨G,hm,hg⟩:=hp.pieceN;obtain⟨G',bA,a9⟩:=hp.pieceH;unfold Fd;rw[aJ,h4];exact Zf9 _ _ hP M d (2^d-1) lv ow ob sb _ _ G G' W (Hq d) (by omega) hm hg bA a9)
  have aK:∀n∈Fd s,n<256:=(by unfold Fd;exact Nf E.1);obtain⟨C,aA⟩:=eX (Fd s);rw[<-aA]at aR aK;have aT:=Hd aA;obtain⟨bq,aB⟩:=eX (decide (C=hx));have a1:=Hd fun(u:Value) (W:World) (hw:Below w.heap.size w W) (hu:Rd W u (bvs C))=>(show Calls prog 96 #[u,rC aG aI aH] W fun e w'=>e=rK (.bool bq)/\w'=W from by rw[aB];exact aM.out u C aK W hw hu);have aN:=Hd aB;have aP:=Hd aV;clear H how aV aD aE E M aJ aK aA aB k1 k2 k3 k4 k5;obtain⟨q,hq⟩:=eX w1.heap.size;have a5:=Hd hq;obtain⟨w3,I⟩:=eX (w1.alloc (rJ #[rD rF lv,rD rF ow,.map (some ob),.map (some sb)] 101));have F:Below w1.heap.size w1 w3:=(by rw[I];exact bR.alloc lR _);have B:=Hd (show Blk w3 q 101 #[rD rF lv,rD rF ow,.map (some ob),.map (some sb)] by rw[I,hq];exact Blk.new _ _ _);have r:=Hd (A.out.trans (F.mono A.out.size));have G3:=Hd (G1.out.below F G1.out.lt);have J:=Hd (aP.out.below F);have X:=Hd I;clear F hq I
  by_cases hoi:ow=i
  ·have bB:((ow:Int) !=i)=false:=(by rw[bne_eq_false_iff_eq];exact hoi);have aO:=Hd hoi;clear hoi;go_wp2_with fail;rw[<-X.out,<-a5.out];refine Dj [eF (.agg #[rD rF lv,rD rF ow,.map (some ob),.map (some sb)]),eF (rE (some ⟨q,0,rI⟩)),eF (rD rF lv),eF (rD rF (x:Nat)),fun u w'=>Rd w' u (bvs C),eF (rC aG aI aH),eF (.bool bq),eF (.bool (!bq)),eF (.bool (!bq))] (by kernel_rfl) (by kernel_rfl) (by kernel_rfl)
    (kE (kE (kE (kE (bX (fun v x y h hb=>Rd.below h hb lR) (kE (kE (kE (kE Ag))))))))) ?_ ?_
   ·refine gB ?_ (gQ ?_ (gQ ?_ (gB ?_ (gB ?_ (gQ ?_ (gB ?_ (gQ ?_ (gQ ?_ .nil))))))));all_goals
     intro a wx aC ha N;refine⟨rfl,?_⟩;intro K D;try have aU:a.tmps[10]?.getD undef=rE (some ⟨q,0,rI⟩):=ha 10 (by kernel_rfl)
     try have bE:a.tmps[1]?.getD undef=.slice aG aI aH:=ha 1 (by kernel_rfl)
     have aX:=B.out.below aC B.out.lt;try(have aZ:=aX.cell 0;simp only[cR,cS]at aZ)
    ·exact wp_load_row 101 (.tmp 10) rfl _ (evs aU) _ _ (0,0) _ aX underlying101 rfl (by kernel_rfl) (D _ _ rfl bR)
    ·go_simp;exact D _ rfl
    ·have z:=eqn N.1
     go_simp;exact D _ rfl
    ·have z:=eqn N.1;go_simp;refine(a7.out wx).mono ?_;rintro e w2 ⟨rfl,rfl⟩;exact D _ _ rfl bR
    ·have z:=eqn N.1;have a0:=eqn N.2.1;go_simp;refine(aR.out ob sb p wx (J.out.below aC)).mono ?_;rintro e w7 ⟨u,rfl,hu,a8⟩;exact D _ _ hu a8
    ·go_simp;exact D _ rfl
    ·have o0:Rd wx (a.tmps[34]?.getD undef) (bvs C):=N.1;have a0:=eqn N.2.1;obtain⟨v1,aF⟩:=eX (a.tmps[34]?.getD undef);rw[<-aF]at o0;have e1:=aF.symm;clear aF;go_simp;refine(a1.out v1 wx (r.out.trans (aC.mono r.out.size)) o0).mono ?_;rintro e w7 ⟨rfl,rfl⟩;exact D _ _ rfl bR
    ·have z:=eqn N.1
     go_simp;exact D _ rfl
    ·have z:=eqn N.1
     go_simp;exact D _ rfl
   ·rintro f w4 t O;have Sr:f 29=.bool (!bq):=O.2.2.2.2.2.2.2.2.1;clear O;simp only[Ao,Av,Ej,List.filterMap_cons,List.filterMap_nil,List.contains_cons,List.contains_nil,Nat.reduceBEq,Nat.reduceAdd,Bool.or_false,Bool.or_true,cond_true,cond_false];rw[Sr];clear Sr;have aL:=Hd (r.out.trans (t.mono r.out.size));have G4:=Hd (G3.out.below t G3.out.lt);have a4:=Hd (B.out.below t B.out.lt);have aQ:=Hd (J.out.below t);clear t;cases bq with
    |true=>
     have Y:=Hd (show Gi (0,s) hx i=(0,s)from by unfold Gi;simp only;rw[iN (by simp),iN (by rw[<-V.out,aO.out];simp),iN (by rw[<-aT.out,oD aN.out.symm];simp)]);go_wp2_with (first
      |(refine Af rfl 101 (.tmp 10) rfl q rfl 101 #[rD rF lv,rD rF ow,.map (some ob),.map (some sb)] (0,0) _ a4.out underlying101 rfl (by kernel_rfl) ?_)
      |(refine Aa rfl 101 (.tmp 8) (.tmp 39) rfl g #[rD rF lv,rD rF ow,.map (some ob),.map (some sb)] rfl rfl 101 #[rD rF 0,rD rF 0,.map none,.map none] G4.out (by kernel_rfl) rfl rfl ?_))
     rintro w9 b m l j;have Z:=Hd b;have P:=Hd (aL.out.trans (m w.heap.size (by rw[T.out];exact lR)));have S9:=Hd (aQ.out.only (Only.storeQ m l) (by have:=o.out;omega) (by have:=o.out;omega) (by have:=o.out;omega));clear b m l j;go_wp2_with fail;refine bodyPost_ret (v:=.tuple #[.agg #[rD rF lv,rD rF ow,.map (some ob),.map (some sb)],rD .u8 0]) (Ac results72 _ _ g _ _ _ rfl Z.out underlying101 rfl (by kernel_rfl)) rfl ?_;exact aS.out _ _ ob sb p rfl Y.out (by have:=o.out;have:=T.out;omega) (by have:=o.out;have:=T.out;omega) o.out.2.2.1 o.out.2.2.2.1 o.out.2.2.2.2 S9.out P.out
    |false=>
     have Y:=Hd (show Gi (0,s) hx i=(17,Ef)from by unfold Gi;simp only;rw[iN (by simp),iN (by rw[<-V.out,aO.out];simp),iP (by rw[<-aT.out];exact of_decide_eq_false aN.out.symm)]);go_wp2_with (refine Aa rfl 101 (.tmp 8) (.tmp 38) rfl g #[rD rF 0,rD rF 0,.map none,.map none] rfl rfl 101 #[rD rF 0,rD rF 0,.map none,.map none] G4.out (by kernel_rfl) rfl rfl ?_);rintro w9 b m l j;have Z:=Hd b;have P:=Hd (aL.out.trans (m w.heap.size (by rw[T.out];exact lR)));clear b m l j;go_wp2_with fail;refine bodyPost_ret (v:=.tuple #[.agg #[rD rF 0,rD rF 0,.map none,.map none],rD .u8 17]) (Ac results72 _ _ g _ _ _ rfl Z.out underlying101 rfl (by kernel_rfl)) rfl ?_;exact U.out _ _ 17 rfl (by decide) Y.out P.out
  ·have bB:((ow:Int) !=i)=true:=(by rw[bne_iff_ne];exact hoi);have Y:=Hd (show Gi (0,s) hx i=(7,Ef)from by unfold Gi;simp only;rw[iN (by simp),iP (by rw[<-V.out];exact hoi)]);clear hoi;go_wp2_with (refine Aa rfl 101 (.tmp 8) (.tmp 28) rfl g #[rD rF 0,rD rF 0,.map none,.map none] rfl rfl 101 #[rD rF 0,rD rF 0,.map none,.map none] (by rw[<-X.out];exact G3.out) (by kernel_rfl) rfl rfl ?_);rintro w9 b m l j;have Z:=Hd b;have P:=Hd (r.out.trans (by rw[X.out];exact m w.heap.size (by rw[T.out];exact lR)));clear b m l j;go_wp2_with fail;refine bodyPost_ret (v:=.tuple #[.agg #[rD rF 0,rD rF 0,.map none,.map none],rD .u8 7]) (Ac results72 _ _ g _ _ _ rfl Z.out underlying101 rfl (by kernel_rfl)) rfl ?_;exact U.out _ _ 7 rfl (by decide) Y.out P.out
 ·rw[iN h0]at hr;have bF:((er:Int) !=0)=true:=(by rw[bne_iff_ne];omega);have a3:=Hd h0;have Y:=Hd (show Gi (er,s) hx i=(er,Ef)from by unfold Gi;rw[iP h0]);obtain rfl:=hr;clear h0;go_wp2_with (refine Aa rfl 101 (.tmp 8) (.tmp 21) rfl g #[rD rF 0,rD rF 0,.map none,.map none] rfl rfl 101 #[rD rF 0,rD rF 0,.map none,.map none] (G1.out.alloc _) (by kernel_rfl) rfl rfl ?_);rintro w9 b m l j;have Z:=Hd b;have P:=Hd ((A.out.alloc A.out.size _).trans (m w.heap.size (by rw[T.out];exact lR)));clear b m l j;go_wp2_with fail;refine bodyPost_ret (v:=.tuple #[.agg #[rD rF 0,rD rF 0,.map none,.map none],rD .u8 (er:Nat)]) (Ac results72 _ _ g _ _ _ rfl Z.out underlying101 rfl (by kernel_rfl)) rfl ?_;exact U.out _ _ er rfl a3.out Y.out P.out
end Go.Proofs.YtfofaiommeckbaaGreat
namespace Go.Proofs.YtfofaiommeckbaaGreat
open Go.RowKit Go.Maps WalkM WireM
theorem Vn {only:Bool} {mk:Nat} {L hx:List Nat} {i:Int}(hL:∀y∈L,y<256)(hl:BL mk L)(h:(Gi (ofS only mk L) hx i).1=0):SpGood (Gi (ofS only mk L) hx i).2/\Ar (Gi (ofS only mk L) hx i).2 only=true:=by
 have e:=(Zgc hL hl h).1;have g:=Sw (only:=only) (mk:=mk) hL hl (by rw[Sx,e]);rw[Sx,e]at g;exact g
theorem Xs (v N:Value)(L hx:List Nat)(i:Int)(w:World)(h:Rd w v (bvs L))(hh:Rd w N (bvs hx))(hl:BL 1 L)(hL:∀n∈L,n<256)(J:∀n∈hx,n<256):
  Calls prog 25 #[v,N,rD rF i] w fun e w'=>(∃c,e=rK (.tuple #[.agg c,rD .u8 ((Gi (ofS false 1 L) hx i).1:Nat)])/\SparseR w' (.agg c) (Gi (ofS false 1 L) hx i).2)/\Below w.heap.size w w':=by
 have RD:=fun(W:World) (hw:Below w.heap.size w W)=>Zln v N L hx i 1 false W (h.below hw lR) (hh.below hw lR) hl hL J rfl (by omega);have T:=fun h=>(Vn (only:=false) (mk:=1) (hx:=hx) (i:=i) hL hl h).1;have S:=fun h=>Zad (r:=ofS false 1 L) (hx:=hx) (i:=i) h;obtain⟨va,vn,vc,rfl⟩:∃a n c,v=.slice a n c:=(by obtain⟨a,c,e,-⟩:=h;exact⟨_,_,_,e⟩);obtain⟨aF,aH,aG,rfl⟩:∃a n c,N=.slice a n c:=(by obtain⟨a,c,e,-⟩:=hh;exact⟨_,_,_,e⟩);obtain⟨R,hR⟩:=eX ((Gi (ofS false 1 L) hx i));rw[<-hR]at RD T S|-;obtain⟨g,hg⟩:=eX w.heap.size;have X:=Hd hg;have aB:=Hd (RD (w.alloc (rJ #[rD rF 0,rD rF 0,rC rI 0 0,rC rI 0 0] 25)) ((Below.refl w.heap.size w).alloc lR _));have G0:=Hd (show Blk (w.alloc (rJ #[rD rF 0,rD rF 0,rC rI 0 0,rC rI 0 0] 25)) g 25 #[rD rF 0,rD rF 0,rC rI 0 0,rC rI 0 0] by rw[hg];exact Blk.new _ _ _);have z:=Hd ((Below.refl w.heap.size w).alloc lR (rJ #[rD rF 0,rD rF 0,rC rI 0 0,rC rI 0 0] 25));have Y:=Hd T;have A:=Hd S;obtain⟨er,q⟩:=eX R.1;rw[<-q];have V:=Hd q;clear RD T S hR hg q h hh hl hL J;go_in;go_wp2_with fail;refine aB.out.mono ?_;rintro e t ⟨p,I⟩;have k:=Hd (z.out.trans (p.mono z.out.size));have u:=Hd (G0.out.below p G0.out.lt);rw[<-X.out];rw[<-V.out]at I;clear p
 by_cases h0:er=0
 ·rw[iP h0]at I;have aD:((er:Int) !=0)=false:=(by rw[bne_eq_false_iff_eq];omega);have B:=Hd (Y.out (by rw[<-V.out];exact h0));obtain⟨ob,sb,gg,rfl,h1,h2,h3,-,-,o⟩:=I;have hN:=o.pieceN;have hH:=o.pieceH;clear o;obtain⟨s,M⟩:=eX R.2;rw[<-M]at hN hH B;have aC:=Hd M;rw[<-M];have D:=Hd fun(W:World) (K:Below t.heap.size t W)=>Zi6 s B.out ob sb W (hN.below K lR) (hH.below K lR);obtain⟨lv,E⟩:=eX s.leaves;obtain⟨ow,how⟩:=eX s.own;rw[<-E,<-how]at D|-;have aE:er=0:=h0;subst aE;clear h0 h1 h2 h3 hN hH M E how;go_wp2_with fail;refine(D.out _ ((Below.refl t.heap.size t).alloc lR _)).mono ?_;rintro e w2 ⟨v,rfl,m,p,H⟩;have l:=(Below.refl t.heap.size t).alloc lR (rJ #[rD rF lv,rD rF ow,.map (some ob),.map (some sb)] 101);have U:=Hd (k.out.trans (((l).trans (p.mono l.size)).mono k.out.size));have G2:=Hd ((u.out.below l u.out.lt).below p (by have:=u.out.lt;simp;omega));have aA:=Hd fun(W:World) (K:Only g w2 W)=>H g W (by have:=u.out.lt;simp;omega) K;obtain⟨O,P,rfl,-,-⟩:=id m;have F:O.oneCell'=true:=(by obtain⟨x,y,e,q1,-⟩:=m;cases e;obtain⟨a,c,rfl,-⟩:=q1;rfl);have G:P.oneCell'=true:=(by obtain⟨x,y,e,-,q1⟩:=m;cases e;obtain⟨a,c,rfl,-⟩:=q1;rfl);have C:=Hd (show(#[rD rF s.leaves,rD rF s.own,O,P]:Array Value).toList.all (·.oneCell')=true by simp only[List.all_cons,List.all_nil,F,G];rfl);clear m p H l F G;go_wp2_with (refine Aa rfl 25 (.tmp 6) (.tmp 22) rfl g #[rD rF s.leaves,rD rF s.own,O,P] rfl rfl 25 #[rD rF 0,rD rF 0,rC rI 0 0,rC rI 0 0] G2.out (by kernel_rfl) rfl C.out ?_);rintro w3 b j f d;have P3:=Hd b;have S3:=Hd (aA.out w3 (Only.storeQ j f));have Q:=Hd (U.out.trans (j w.heap.size (by rw[X.out];exact lR)));clear b j f d;go_wp2_with fail;refine bodyPost_ret (v:=.tuple #[.agg #[rD rF s.leaves,rD rF s.own,O,P],rD .u8 0]) (Ac results25 _ _ g _ _ _ rfl P3.out underlying25 rfl (by kernel_rfl)) rfl ?_;exact⟨⟨_,rfl,by rw[<-aC.out];exact S3.out⟩,Q.out⟩
 ·rw[iN h0]at I;have aD:((er:Int) !=0)=true:=(by rw[bne_iff_ne];omega);have Z:=Hd (A.out (by rw[<-V.out];exact h0));obtain rfl:=I;clear h0;go_wp2_with (refine Aa rfl 25 (.tmp 6) (.tmp 19) rfl g #[rD rF 0,rD rF 0,rC rI 0 0,rC rI 0 0] rfl rfl 25 #[rD rF 0,rD rF 0,rC rI 0 0,rC rI 0 0] (u.out.alloc _) (by kernel_rfl) rfl rfl ?_);rintro w3 b j f d;have P3:=Hd b;have Q:=Hd ((k.out.alloc k.out.size _).trans (j w.heap.size (by rw[X.out];exact lR)));clear b j f d;go_wp2_with fail;refine bodyPost_ret (v:=.tuple #[.agg #[rD rF 0,rD rF 0,rC rI 0 0,rC rI 0 0],rD .u8 (er:Nat)]) (Ac results25 _ _ g _ _ _ rfl P3.out underlying25 rfl (by kernel_rfl)) rfl ?_;exact⟨⟨_,rfl,by rw[Z.out];exact Zmo _⟩,Q.out⟩
open ShaM
theorem Zja (v hv:Value)(L hx:List Nat)(i:Int)(mk:Nat)(only:Bool)(w:World)(h:Rd w v (bvs L))(hh:Rd w hv (bvs hx))(hl:L.length<=4000)(hL:∀n∈L,n<256)(aI:∀n∈hx,n<256)(hm:mk<256)(aH:only=decide (mk=2)):
  Calls prog 26 #[v,hv,rD rF i,rD .u8 (mk:Nat)] w fun e w'=>(∃c,e=rK (.tuple #[.agg c,rD rF ((Gi (ofS only mk L) hx i).1:Nat)])/\SparseR w' (.agg c) (Gi (ofS only mk L) hx i).2)/\Below w.heap.size w w':=by
 have RO:=fun(W:World) (hw:Below w.heap.size w W)=>Zlm v L mk only W (h.below hw lR) hL hl hm aH;have GO:=fun hq=>Sw (only:=only) (mk:=mk) hL (bl4 hl) hq;have C:=Zmj only mk L;rw[Sx]at GO;obtain⟨R,hR⟩:=eX (ofS only mk L);rw[<-hR]at RO GO C|-;unfold Zmt at RO;obtain⟨k,s⟩:=R;simp only at RO GO C;clear hR;obtain⟨va,vn,vc,rfl⟩:∃a n c,v=.slice a n c:=(by obtain⟨a,c,e,-⟩:=h;exact⟨_,_,_,e⟩);obtain⟨xa,xn,xc,rfl⟩:∃a n c,hv=.slice a n c:=(by obtain⟨a,c,e,-⟩:=hh;exact⟨_,_,_,e⟩);have SM:=fun(u:Value) (Y:List Nat) (hY:∀n∈Y,n<256) (W:World) (hw:Below w.heap.size w W) (D:Rd W u (bvs Y))=>Re u (rC xa xn xc) Y hx W D (hh.below hw lR) hY aI;have aV:=Hd SM;have aT:=Hd RO;have aJ:=Hd GO;obtain⟨g,hg⟩:=eX w.heap.size;have HG:=Hd hg;obtain⟨w0,E⟩:=eX (w.alloc (rJ #[rD rF 0,rD rF 0,rC rI 0 0,rC rI 0 0] 25));have G0:=Hd (show Blk w0 g 25 #[rD rF 0,rD rF 0,rC rI 0 0,rC rI 0 0] by rw[E,hg];exact Blk.new _ _ _);have B0:=Hd (show Below w.heap.size w w0 by rw[E];exact bR.alloc lR _);have aX:=Hd E;have aY:=Hd C;clear h hh hL hl aI hm aH RO GO SM hg E C;go_in;go_wp2_with fail;rw[<-aX.out,<-HG.out];refine(aT.out w0 B0.out).mono ?_;rintro e w1 ⟨o,q,rfl,ho,hq,l⟩;obtain⟨U,V,rfl,-,-⟩:=ho.spots.sl;obtain⟨P,Q,rfl,-,-⟩:=hq.stubs.sl;have aB:=Hd ho;have aD:=Hd hq;have B1:=Hd (B0.out.trans (l.mono B0.out.size));have G1:=Hd (G0.out.below l G0.out.lt);have aA:=Hd (show g<w0.heap.size from G0.out.lt);clear ho hq l;obtain⟨lv,J⟩:=eX s.leaves;obtain⟨ow,how⟩:=eX s.own;obtain⟨S,K⟩:=eX s.op.length;obtain⟨T,M⟩:=eX s.sh.length;have F:=Hd J;have m:=Hd how;rw[<-K]at aB;rw[<-M]at aD;rw[<-J,<-how,<-K,<-M];obtain⟨w2,y⟩:=eX (w1.alloc (rJ #[rD rF lv,rD rF ow,rC U S V,rC P T Q] 25));have l:Below w1.heap.size w1 w2:=(by rw[y];exact bR.alloc lR _);have B2:=Hd (B1.out.trans (l.mono B1.out.size));have G2:=Hd (G1.out.below l G1.out.lt);have aC:=Hd (aB.out.below l lR);have aE:=Hd (aD.out.below l lR);obtain⟨p,hp⟩:=eX w1.heap.size;have O:=Hd (show Blk w2 p 25 #[rD rF lv,rD rF ow,rC U S V,rC P T Q] by rw[y,hp];exact Blk.new _ _ _);have x:=Hd y;have HP:=Hd hp;have x0:=O.out.cell 0;have x1:=O.out.cell 1;have x2:=O.out.cell 2;have x3:=O.out.cell 3;simp only[cR,cS,aP]at x0 x1 x2 x3;rw[y,hp]at x0 x1 x2 x3;clear l y hp J how K M
 by_cases h0:k=0
 ·subst h0;obtain⟨gd,hr⟩:=aJ.out rfl;have B:=Hd gd;have aF:=Hd hr;have c0:(((0:Nat):Int) !=0)=false:=rfl;clear gd hr
  by_cases h1:ow=i
  ·have c1:((ow:Int) !=i)=false:=(by rw[bne_eq_false_iff_eq];exact h1);have aU:=Hd (show SparseR w2 (.agg #[rD rF lv,rD rF ow,rC U S V,rC P T Q]) s from⟨_,_,by rw[F.out,m.out],aC.out.spots,aE.out.stubs⟩);have aS:=Hd (Xq (.agg #[rD rF lv,rD rF ow,rC U S V,rC P T Q]) s only w2 aU.out B.out.ok B.out.small aF.out);have aK:=Hd (show∀n∈Fd s,n<256 from Nf (Jn aF.out B.out.ok B.out.small).1);have H1:=Hd h1;clear h1;go_wp2_with fail;rw[<-x.out,<-HP.out];clear x0 x1 x2 x3;refine aS.out.mono ?_;rintro e N ⟨u,rfl,D,l⟩;have aW:=Hd D;obtain⟨ua,un,uc,rfl⟩:∃a n c,u=.slice a n c:=(by obtain⟨a,c,e,-⟩:=D;exact⟨_,_,_,e⟩);have Z:=Hd (B2.out.trans (l.mono B2.out.size));have G3:=Hd (G2.out.below l G2.out.lt);have P3:=Hd (O.out.below l O.out.lt);have aL:=Hd (aC.out.below l lR);have aO:=Hd (aE.out.below l lR);have aG:=Hd (aV.out _ (Fd s) aK.out N Z.out aW.out);clear D l
   by_cases h2:Fd s=hx
   ·have t:=aG.out;rw[dT h2]at t;have H:=Hd t;have r:=Hd (show Gi ((0:Nat),s) hx i=((0:Nat),s) by
     unfold Gi;rw[iN (by simp),iN (by have:=H1.out;rw[m.out]at this;simpa using this),iN (by simpa using h2)])
    clear t h2;go_wp2_with fail;refine H.out.mono ?_;rintro e w4 ⟨rfl,A,rfl⟩;have l:=Ab (Below.refl N.heap.size N) A;obtain⟨w4,z⟩:=eX (N.drewN A);rw[<-z]at l|-;have B4:=Hd (Z.out.trans (l.mono Z.out.size));have G4:=Hd (G3.out.below l G3.out.lt);have P4:=Hd (P3.out.below l P3.out.lt);have aM:=Hd (aL.out.below l lR);have aQ:=Hd (aO.out.below l lR);clear l z;have y0:=P4.out.cell 0;have y1:=P4.out.cell 1;have y2:=P4.out.cell 2;have y3:=P4.out.cell 3;simp only[cR,cS,aP]at y0 y1 y2 y3;go_wp2_with (refine Aa rfl 25 (.tmp 8) (.tmp 33) rfl g #[rD rF lv,rD rF ow,rC U S V,rC P T Q] rfl rfl 25 #[rD rF 0,rD rF 0,rC rI 0 0,rC rI 0 0] G4.out (by kernel_rfl) rfl rfl ?_);rintro X b f d j;have D:∀(i:Nat) k,(#[rD rF 0,rD rF 0,rC rI 0 0,rC rI 0 0]:Array Value)[i]?≠some (rD .u8 k):=by
     intro i k e
     match i,e with
     |0,e=>cases e
     |1,e=>cases e
     |2,e=>cases e
     |3,e=>cases e
     |n+4,e=>simp at e
    have aN:=Hd (aM.out.offG aA.out G4.out D f d);have aR:=Hd (aQ.out.offG aA.out G4.out D f d);have I:=Hd b;have G:=Hd (B4.out.trans (f w.heap.size (iW HG.out.symm)));clear b f d j D y0 y1 y2 y3;go_wp2_with fail;refine bodyPost_ret (v:=.tuple #[.agg #[rD rF lv,rD rF ow,rC U S V,rC P T Q],rD rF 0]) (Ac results26 _ _ g _ _ _ rfl I.out underlying25 rfl (by kernel_rfl)) rfl ?_;rw[r.out];exact⟨⟨_,rfl,_,_,by rw[F.out,m.out],aN.out.spots,aR.out.stubs⟩,G.out⟩
   ·have t:=aG.out;rw[dF h2]at t;have H:=Hd t;have r:=Hd (show Gi ((0:Nat),s) hx i=(17,Ef) by
     unfold Gi;rw[iN (by simp),iN (by have:=H1.out;rw[m.out]at this;simpa using this),iP (by simpa using h2)])
    clear t h2;go_wp2_with fail;refine H.out.mono ?_;rintro e w4 ⟨rfl,A,rfl⟩;have l:=Ab (Below.refl N.heap.size N) A;obtain⟨w4,z⟩:=eX (N.drewN A);rw[<-z]at l|-;have B4:=Hd (Z.out.trans (l.mono Z.out.size));have G4:=Hd (G3.out.below l G3.out.lt);clear l z;go_wp2_with (refine Aa rfl 25 (.tmp 8) (.tmp 32) rfl g #[rD rF 0,rD rF 0,rC rI 0 0,rC rI 0 0] rfl rfl 25 #[rD rF 0,rD rF 0,rC rI 0 0,rC rI 0 0] G4.out (by kernel_rfl) rfl rfl ?_);rintro X b f d j;have I:=Hd b;have G:=Hd (B4.out.trans (f w.heap.size (iW HG.out.symm)));clear b f d j;go_wp2_with fail;refine bodyPost_ret (v:=.tuple #[.agg #[rD rF 0,rD rF 0,rC rI 0 0,rC rI 0 0],rD rF 17]) (Ac results26 _ _ g _ _ _ rfl I.out underlying25 rfl (by kernel_rfl)) rfl ?_;rw[r.out];exact⟨⟨_,rfl,So X⟩,G.out⟩
  ·have c1:((ow:Int) !=i)=true:=(by rw[bne_iff_ne];exact h1);have r:=Hd (show Gi ((0:Nat),s) hx i=(7,Ef) by
    unfold Gi;rw[iN (by simp),iP (by rw[m.out]at h1;exact h1)])
   clear h1;go_wp2_with (refine Aa rfl 25 (.tmp 8) (.tmp 26) rfl g #[rD rF 0,rD rF 0,rC rI 0 0,rC rI 0 0] rfl rfl 25 #[rD rF 0,rD rF 0,rC rI 0 0,rC rI 0 0] (by rw[<-x.out];exact G2.out) (by kernel_rfl) rfl rfl ?_);rintro X b f d j;rw[<-x.out]at f d;have I:=Hd b;have G:=Hd (B2.out.trans (f w.heap.size (iW HG.out.symm)));clear b f d j;go_wp2_with fail;refine bodyPost_ret (v:=.tuple #[.agg #[rD rF 0,rD rF 0,rC rI 0 0,rC rI 0 0],rD rF 7]) (Ac results26 _ _ g _ _ _ rfl I.out underlying25 rfl (by kernel_rfl)) rfl ?_;rw[r.out];exact⟨⟨_,rfl,So X⟩,G.out⟩
 ·have c0:((k:Int) !=0)=true:=(by rw[bne_iff_ne];omega);have r:=Hd (show Gi (k,s) hx i=(k,Ef) by
   unfold Gi;rw[iP h0])
  clear h0;go_wp2_with (refine Aa rfl 25 (.tmp 8) (.tmp 20) rfl g #[rD rF 0,rD rF 0,rC rI 0 0,rC rI 0 0] rfl rfl 25 #[rD rF 0,rD rF 0,rC rI 0 0,rC rI 0 0] (by rw[<-x.out];exact G2.out) (by kernel_rfl) rfl rfl ?_);rintro X b f d j;rw[<-x.out]at f d;have I:=Hd b;have G:=Hd (B2.out.trans (f w.heap.size (iW HG.out.symm)));clear b f d j;go_wp2_with fail;refine bodyPost_ret (v:=.tuple #[.agg #[rD rF 0,rD rF 0,rC rI 0 0,rC rI 0 0],rD rF (k:Nat)]) (Ac results26 _ _ g _ _ _ rfl I.out underlying25 rfl (by kernel_rfl)) rfl ?_;rw[r.out];exact⟨⟨_,rfl,So X⟩,G.out⟩
theorem Zmp {r:Nat×SparseD} {hx:List Nat} {i:Int}(h:r.1<=6):(Gi r hx i).1<=17:=by
 unfold Gi
 split
 ·show r.1<=17;omega
 ·split
  ·show 7<=17;omega
  ·split
   ·show 17<=17;omega
   ·show 0<=17;omega
theorem Zlo {only:Bool} {mk:Nat} {L hx:List Nat} {i:Int}(a:∀y∈L,y<256)(b:L.length<=4000):SparseOk (Gi (ofS only mk L) hx i).2/\(Gi (ofS only mk L) hx i).2.op.length<=5000/\(Gi (ofS only mk L) hx i).2.sh.length<=5000:=by
 by_cases h:(Gi (ofS only mk L) hx i).1=0
 ·have g:=(Vn a (bl4 b) h).1;have s:=Gd g.small;exact⟨g.ok,by omega,by omega⟩
 ·rw[Zad h];exact⟨Ze2,aA _,aA _⟩
theorem Mm {w:World}(v:Value)(L:List Nat)(hv:Value)(hx:List Nat)(i:Int)(T:∀n∈L,n<256)(h:Rd w v (bvs L))(x:∀n∈hx,n<256)(N:Rd w hv (bvs hx))(aJ: -9223372036854775808<=i/\i<=9223372036854775807):
  Calls prog 5 #[v,hv,rD rF i] w fun e w'=>e=rK (.bool true)/\Below w.heap.size w w':=by
 clear aJ;have K:=Hd fun(W:World)=>Zli W;obtain⟨va,vc,rfl,-,-⟩:=id h;obtain⟨xa,xc,rfl,-,-⟩:=id N;rw[bvs_len,bvs_len];rw[bvs_len]at h N
 by_cases hl:L.length<=4000
 ·have g1:decide ((L.length:Int)>4000)=false:=dF (by omega)
  by_cases hl2:hx.length<=100
  ·have g2:decide ((hx.length:Int)>100)=false:=dF (by omega);have CK:=fun(W:World) (hw:Below w.heap.size w W)=>Xs _ _ L hx i W (h.below hw lR) (N.below hw lR) (bl4 hl) T x;have RK:=fun(W:World) (hw:Below w.heap.size w W)=>Zja _ _ L hx i 1 false W (h.below hw lR) (N.below hw lR) hl T x (by decide) (by decide);have OK:=Zlo (only:=false) (mk:=1) (hx:=hx) (i:=i) T hl;have hk:=Zmp (hx:=hx) (i:=i) (Zmj false 1 L);obtain⟨R,hR⟩:=eX (Gi (ofS false 1 L) hx i);rw[<-hR]at CK RK OK hk;obtain⟨k,s⟩:=R;simp only at CK RK OK hk;have aM:IntKind.i64.wrap (k:Int)=(k:Int):=IntWalk.i64_in _ ⟨by omega,by omega⟩;have aB:=Hd fun(a b:Array Value) (W:World) (h1:SparseR W (.agg a) s) (h2:SparseR W (.agg b) s)=>Zbr (.agg a) (.agg b) s s W h1 h2 OK.1 OK.1 (by omega) (by omega);rw[Xc]at aB;have Y:=Hd CK;have aA:=Hd RK;obtain⟨lv,aC⟩:=eX s.leaves;obtain⟨ow,how⟩:=eX s.own;obtain⟨no,aD⟩:=eX s.op.length;obtain⟨ns,aE⟩:=eX s.sh.length;have Z:=Hd fun(W:World) (u:Value) (O:SparseR W u s)=>(show∃a c a' c',u=.agg #[rD rF lv,rD rF ow,rC a no c,rC a' ns c']from by
    obtain⟨o,g,rfl,ho,hg⟩:=O;obtain⟨oa,oc,rfl,-,-⟩:=ho.sl;obtain⟨ga,gc,rfl,-,-⟩:=hg.sl;exact⟨oa,oc,ga,gc,by rw[aC,how,aD,aE]⟩)
   obtain⟨ln,f⟩:=eX L.length;obtain⟨xn,j⟩:=eX hx.length;rw[<-f,<-j]at Y aA|-;rw[<-f]at g1;rw[<-j]at g2;have aL:((k:Int)==(k:Int))=true:=(by rw[beq_iff_eq]);clear CK RK OK hk hR aC how aD aE h N f j T x hl hl2;have l:=Hd (Below.refl w.heap.size w);go_in;go_wp2_with fail;refine(K.out w).mono ?_;rintro e w1 ⟨rfl,d⟩;have m:=Hd (l.out.trans (d.mono l.out.size));clear d;go_wp2_with fail;refine(Y.out w1 m.out).mono ?_;rintro e w2 ⟨⟨c,rfl,O⟩,d⟩;have U:=Hd (m.out.trans (d.mono m.out.size));have S2:=Hd O;clear O;clear d;obtain⟨a1,c1,b1,d1,e1⟩:=Z.out _ _ S2.out;cases e1;obtain⟨p,hp⟩:=eX w2.heap.size;obtain⟨w3,r⟩:=eX (w2.alloc (rJ #[rD rF lv,rD rF ow,rC a1 no c1,rC b1 ns d1] 25));have d:Below w2.heap.size w2 w3:=(by rw[r];exact bR.alloc lR _);have M:=Hd (U.out.trans (d.mono U.out.size));have S3:=Hd (S2.out.below d lR);have P:=Hd (show Blk w3 p 25 #[rD rF lv,rD rF ow,rC a1 no c1,rC b1 ns d1] by rw[r,hp];exact Blk.new _ _ _);have aH:=Hd r;have aG:=Hd hp;clear d hp;have y:=P.out.cell 0;have A:=P.out.cell 1;have C:=P.out.cell 2;have E:=P.out.cell 3;simp only[cR,cS,aP]at y A C E;rw[r]at y A C E;clear r;go_wp2_with fail;rw[<-aH.out,<-aG.out];clear y A C E;refine(aA.out w3 M.out).mono ?_;rintro e w4 ⟨⟨c,rfl,O⟩,d⟩;have V:=Hd (M.out.trans (d.mono M.out.size));have P4:=Hd (P.out.below d P.out.lt);have S4:=Hd (S3.out.below d lR);have T4:=Hd O;clear O;clear d;obtain⟨a2,c2,b2,d2,e1⟩:=Z.out _ _ T4.out;cases e1;obtain⟨q,hq⟩:=eX w4.heap.size;obtain⟨w5,t⟩:=eX (w4.alloc (rJ #[rD rF lv,rD rF ow,rC a2 no c2,rC b2 ns d2] 25));have d:Below w4.heap.size w4 w5:=(by rw[t];exact bR.alloc lR _);have X:=Hd (V.out.trans (d.mono V.out.size));have Q:=Hd (P4.out.below d P4.out.lt);have S5:=Hd (S4.out.below d lR);have T5:=Hd (T4.out.below d lR);have S:=Hd (show Blk w5 q 25 #[rD rF lv,rD rF ow,rC a2 no c2,rC b2 ns d2] by rw[t,hq];exact Blk.new _ _ _);have aI:=Hd t;have aK:=Hd hq;clear d hq;have z:=Q.out.cell 0;have B:=Q.out.cell 1;have D:=Q.out.cell 2;have F:=Q.out.cell 3;have G:=S.out.cell 0;have H:=S.out.cell 1;have I:=S.out.cell 2;have J:=S.out.cell 3;simp only[cR,cS,aP]at z B D F G H I J;rw[t]at z B D F G H I J;clear t;go_wp2_with fail;rw[<-aI.out];clear z B D F G H I J;refine(aB.out _ _ w5 S5.out T5.out).mono ?_;rintro e w6 ⟨rfl,d⟩;have aF:=Hd (X.out.trans (d.mono X.out.size));have P6:=Hd (Q.out.below d Q.out.lt);have Q6:=Hd (S.out.below d S.out.lt);have S6:=Hd (S5.out.below d lR);have T6:=Hd (T5.out.below d lR);clear d;go_wp2_with fail;go_ret;exact⟨rfl,aF.out⟩
  ·have g2:decide ((hx.length:Int)>100)=true:=dT (by omega);obtain⟨ln,f⟩:=eX L.length;obtain⟨xn,j⟩:=eX hx.length;rw[<-f,<-j];rw[<-f]at g1;rw[<-j]at g2;clear h N f j T x hl hl2;have l:=Hd (Below.refl w.heap.size w);go_in;go_wp2_with fail;refine(K.out w).mono ?_;rintro e w1 ⟨rfl,d⟩;have m:=Hd (l.out.trans (d.mono l.out.size));clear d;go_wp2_with fail;go_ret;exact⟨rfl,m.out⟩
 ·have g1:decide ((L.length:Int)>4000)=true:=dT (by omega);obtain⟨ln,f⟩:=eX L.length;obtain⟨xn,j⟩:=eX hx.length;rw[<-f,<-j];rw[<-f]at g1;clear h N f j T x hl;have l:=Hd (Below.refl w.heap.size w);go_in;go_wp2_with fail;refine(K.out w).mono ?_;rintro e w1 ⟨rfl,d⟩;have m:=Hd (l.out.trans (d.mono l.out.size));clear d;go_wp2_with fail;go_ret;exact⟨rfl,m.out⟩
