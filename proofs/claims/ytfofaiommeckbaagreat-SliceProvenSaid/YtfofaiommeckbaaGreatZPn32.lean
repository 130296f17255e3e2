import Derived.Laws.BytesArg
import Derived.Lib.Bytes
import Derived.Test.YtfofaiommeckbaaGreatZPn29
import Derived.Test.YtfofaiommeckbaaGreatZPn31
open Go.Obj renaming cells -> rJ
open Go.Ending renaming returned -> rK
open Go.Value renaming slice -> rC, int -> rD, pointer -> rE
open Go.IntKind renaming i64 -> rF, u8 -> rG
open Option renaming none -> rI
open Go.Proofs.Tryz
open Nat renaming le_trans -> eU, pow_le_pow_right -> bQ, le_of_eq -> iV, zero_le -> aA
open List renaming getElem?_toArray -> cR, getElem?_cons_zero -> cS, getElem?_cons_succ -> aP
set_option linter.unusedVariables false
set_option maxRecDepth 100000
set_option maxHeartbeats 40000000
namespace Go.Proofs.YtfofaiommeckbaaGreat
open Go.RowKit
theorem Qv {w:World} {v:Value} {L:List Nat}(h:Rd w v (bvs L)):(convert 28 9 v).run prog w=.ok (.string (strOfNums (L.map fun(n:Nat)=>(n:Int)))) w:=by
 obtain⟨a,cap,rfl,h1,h2,h3⟩:=h;rcases h3 with⟨e,k⟩|⟨b,c,rfl,j⟩
 ·have g:L=[]:=by
   have:=congrArg List.length e;rw[bvs_len]at this;exact List.eq_nil_of_length_eq_zero this
  subst g;cases a with
  |none=>exact run_convert_bytes_nil w 28 5 underlying28 underlying5 _ _ 9 underlying9
  |some a=>
   obtain⟨b,c,f⟩:=a;rw[run_convert_bytes_string w 28 9 5 _ _ _ underlying28 underlying5 underlying9]
   rfl
 ·refine run_convert_bytes_arg w 28 5 underlying28 underlying5 b c _ _ _ ?_ ?_ 9 underlying9
  ·rw[List.length_map,bvs_len]
  ·intro i d;rw[bvs_len]at d;rw[j i _ (Zj2 d)]
   congr 2
   rw[List.getD_eq_getElem?_getD,List.getElem?_map,List.getElem?_eq_getElem d];rfl
theorem Xr {L M:List Nat}(b:∀n∈L,n<256)(c:∀n∈M,n<256)(h:(strOfNums (L.map fun(n:Nat)=>(n:Int))).toList=(strOfNums (M.map fun(n:Nat)=>(n:Int))).toList):L=M:=by
 rw[Lib.strOfNums_toList,Lib.strOfNums_toList]at h;have h2:=congrArg (List.map UInt8.toNat) h;unfold Lib.bytesOf at h2;simp only[List.map_map]at h2;have e:∀(K:List Nat),(∀n∈K,n<256)->K.map (UInt8.toNat∘((fun(n:Int)=>UInt8.ofNat n.toNat)∘fun(n:Nat)=>(n:Int)))=K:=by
  intro K a
  conv=>rhs;rw[<-List.map_id K]
  apply List.map_congr_left;intro n d;simp[Nat.mod_eq_of_lt (a n d)]
 rw[e L b,e M c]at h2;exact h2
theorem Zi5 (d f:Value)(L M:List Nat)(w:World)(h1:Rd w d (bvs L))(h2:Rd w f (bvs M))(k:∀n∈L,n<256)(l:∀n∈M,n<256):
  Calls prog 96 #[d,f] w fun e w'=>e=rK (.bool (decide (L=M)))/\w'=w:=by
 have j:=Qv h1;have g2:=Qv h2;have b:decide (L=M)=((strOfNums (L.map fun(n:Nat)=>(n:Int))).toList==(strOfNums (M.map fun(n:Nat)=>(n:Int))).toList):=by
  by_cases e:L=M
  ·subst e;simp
  ·rw[dF e,Eq.comm,qN];exact fun h=>e (Xr k l h)
 rw[b];obtain⟨S,g⟩:=eX (strOfNums (L.map fun(n:Nat)=>(n:Int)));obtain⟨T,i⟩:=eX (strOfNums (M.map fun(n:Nat)=>(n:Int)));rw[<-g]at j|-;rw[<-i]at g2|-;obtain⟨m,n1,p,rfl⟩:∃a n c,d=.slice a n c:=(by obtain⟨a,c,e,_⟩:=h1;exact⟨_,_,_,e⟩);obtain⟨o,r,q,rfl⟩:∃a n c,f=.slice a n c:=(by obtain⟨a,c,e,_⟩:=h2;exact⟨_,_,_,e⟩);clear g i h1 h2 b;go_in;go_wp2_with fail;go_ret;exact⟨rfl,rfl⟩
open Go.Maps WalkM ShaM WireM
def Fp (r:Nat×SparseD)(hx:List Nat)(i:Int):Nat×SparseD:=
 if r.1≠0 then(r.1,Ea)else if r.2.own≠i then(7,Ea)else if Ey r.2≠hx then(17,Ea)else(0,r.2)
theorem Ox {only:Bool} {mk:Nat} {L hx:List Nat} {i:Int}(a:∀y∈L,y<256)(b:BL mk L)(h:(Fp (ofS only mk L) hx i).1=0):ofS only mk L=(0,(Fp (ofS only mk L) hx i).2)/\(ofS only mk L).2.own=i/\Ey (ofS only mk L).2=hx:=by
 unfold Fp at h|-;generalize ofS only mk L=R at h|-;obtain⟨e,s⟩:=R;simp only at h|-
 by_cases c0:e=0
 ·rw[iN (by omega)]at h|-
  by_cases c1:s.own=i
  ·rw[iN (by omega)]at h|-
   by_cases c2:Ey s=hx
   ·rw[iN (by simp[c2])];exact⟨by rw[c0],c1,c2⟩
   ·rw[iP c2]at h;cases h
  ·rw[iP c1]at h;cases h
 ·rw[iP c0]at h;exact absurd h c0
theorem Zi6 {r:Nat×SparseD} {hx:List Nat} {i:Int}(h:(Fp r hx i).1≠0):(Fp r hx i).2=Ea:=by
 unfold Fp at h|-
 split
 ·rfl
 ·split
  ·rfl
  ·split
   ·rfl
   ·rename_i c0 c1 c2
    rw[iN c0,iN c1,iN c2]at h;exact absurd rfl h
theorem Zlj (v hv:Value)(L hx:List Nat)(i:Int)(mk:Nat)(only:Bool)(w:World)(h:Rd w v (bvs L))(hh:Rd w hv (bvs hx))(hl:BL mk L)(hL:∀n∈L,n<256)(aY:∀n∈hx,n<256)(aW:((mk:Int)==2)=only)(hm:mk<256):
  Calls prog 72 #[v,hv,rD rF i,rD rF (mk:Nat)] w (Ziy (Fp (ofS only mk L) hx i) w):=by
 have RD:=fun(W:World) (hw:Below w.heap.size w W)=>Zi2 v L mk only W (h.below hw lR) hl hL aW hm;have GO:=fun hq=>Su (only:=only) (mk:=mk) hL hl hq;rw[Sv]at RD GO;obtain⟨R,hR⟩:=eX (ofS only mk L);rw[<-hR]at RD GO|-;obtain⟨er,s⟩:=R;simp only at RD GO;have BE:=fun(u:Value) (C:List Nat) (hy:∀n∈C,n<256) (W:World) (hw:Below w.heap.size w W) (hu:Rd W u (bvs C))=>Zi5 u hv C hx W hu (hh.below hw lR) hy aY;have a6:=Hd RD;have a2:=Hd GO;have aM:=Hd BE;obtain⟨va,vn,vc,rfl⟩:∃a n c,v=.slice a n c:=(by obtain⟨a,c,e,-⟩:=h;exact⟨_,_,_,e⟩);obtain⟨aG,aI,aH,rfl⟩:∃a n c,hv=.slice a n c:=(by obtain⟨a,c,e,-⟩:=hh;exact⟨_,_,_,e⟩);obtain⟨S,hS⟩:=eX (Ziy (Fp (er,s) hx i) w);rw[<-hS];have U:=Hd (show∀(e:Ending) (w':World) (k:Nat),e=rK (.tuple #[.agg #[rD rF 0,rD rF 0,.map none,.map none],rD rG (k:Nat)])->k≠0->Fp (er,s) hx i=(k,Ea)->Below w.heap.size w w'->S e w' from by
  rintro e w' k rfl h0 h1 h2;rw[hS,h1];exact⟨h2,by rw[iN h0]⟩)
 have aS:=Hd (show∀(e:Ending) (w':World) (ob sb p:Nat),e=rK (.tuple #[.agg #[rD rF s.leaves,rD rF s.own,.map (some ob),.map (some sb)],rD rG 0])->Fp (er,s) hx i=(0,s)->w.heap.size<=ob->w.heap.size<=sb->ob≠sb->ob<p->sb<p->PcS w' ob sb p s.op.length s.sh.length (Ag s.op) (Bd s.sh)->Below w.heap.size w w'->S e w' from by
  rintro e w' ob sb p rfl h1 k1 k2 k3 k4 k5 k6 h2;rw[hS,h1];exact⟨h2,by rw[iP rfl];exact⟨ob,sb,p,rfl,k1,k2,k3,k4,k5,k6⟩⟩)
 obtain⟨g,hg⟩:=eX w.heap.size;have T:=Hd hg;have G0:=Hd (show Blk (w.alloc (rJ #[rD rF 0,rD rF 0,.map none,.map none] 101)) g 101 #[rD rF 0,rD rF 0,.map none,.map none] by rw[hg];exact Blk.new _ _ _);have Q:=Hd ((Below.refl w.heap.size w).alloc lR (rJ #[rD rF 0,rD rF 0,.map none,.map none] 101));clear RD GO BE hR hg h hh hL aY hl aW hm hS;go_in;go_wp2_with fail;refine(a6.out _ Q.out).mono ?_;rintro e w1 ⟨hb,hr⟩;have A:=Hd (Q.out.trans (hb.mono Q.out.size));have G1:=Hd (G0.out.below hb G0.out.lt);rw[<-T.out];clear hb
 by_cases h0:er=0
 ·rw[iP h0]at hr;obtain⟨ob,sb,p,rfl,k1,k2,k3,k4,k5,aV⟩:=hr;have o:=Hd (show g<ob/\g<sb/\ob≠sb/\ob<p/\sb<p from by
   have:=G0.out.lt;exact⟨by omega,by omega,k3,k4,k5⟩)
  have bD:=Hd h0;subst h0;obtain⟨aD,aE⟩:=a2.out rfl;obtain⟨lv,H⟩:=eX s.leaves;obtain⟨ow,how⟩:=eX s.own;have V:=Hd how;rw[<-H,<-how];rw[<-H,<-how]at aS;have E:=Jn aE aD.ok aD.small;have M:=Zf7 aE;obtain⟨x,aJ⟩:=eX (2^Nat.log2 s.leaves.toNat-1);have a7:=Hd fun(W:World)=>(show Calls prog 61 #[rD rF lv] W fun e w'=>e=rK (rD rF (x:Nat))/\W=w' from by
   obtain⟨hP,d,i,hd,h1,h2,h3,h4,h5⟩:=E;have bC:2^d<=65536:=eU (bQ (by omega) hd) (by decide);have:=Rc ((2^d:Nat):Int) W (by omega) (by omega);rw[Zep hd]at this;rw[aJ,h4,H,h1];exact this)
  have aR:=Hd fun(ob sb p:Nat) (W:World) (hp:PcS W ob sb p s.op.length s.sh.length (Ag s.op) (Bd s.sh))=>(show Calls prog 90 #[.agg #[rD rF lv,rD rF ow,.map (some ob),.map (some sb)],rD rF (x:Nat)] W fun e w'=>∃v',e=rK v'/\Rd w' v' (bvs (Ey s))/\Below W.heap.size W w' from by
   obtain⟨hP,d,i,hd,h1,h2,h3,h4,h5⟩:=E;have bC:2^d<=65536:=eU (bQ (by omega) hd) (by decide);have bG:=Nat.two_pow_pos d;obtain⟨G,hm,hg⟩:=hp.pieceN;obtain⟨G',bA,a9⟩:=hp.pieceH;unfold Ey;rw[aJ,h4];exact Zf6 _ _ hP M d (2^d-1) lv ow ob sb _ _ G G' W (Hl d) (by omega) hm hg bA a9)
  have aK:∀n∈Ey s,n<256:=(by unfold Ey;exact Mz E.1);obtain⟨C,aA⟩:=eX (Ey s);rw[<-aA]at aR aK;have aT:=Hd aA;obtain⟨bq,aB⟩:=eX (decide (C=hx));have a1:=Hd fun(u:Value) (W:World) (hw:Below w.heap.size w W) (hu:Rd W u (bvs C))=>(show Calls prog 96 #[u,rC aG aI aH] W fun e w'=>e=rK (.bool bq)/\w'=W from by rw[aB];exact aM.out u C aK W hw hu);have aN:=Hd aB;have aP:=Hd aV;clear H how aV aD aE E M aJ aK aA aB k1 k2 k3 k4 k5;obtain⟨q,hq⟩:=eX w1.heap.size;have a5:=Hd hq;obtain⟨w3,I⟩:=eX (w1.alloc (rJ #[rD rF lv,rD rF ow,.map (some ob),.map (some sb)] 101));have F:Below w1.heap.size w1 w3:=(by rw[I];exact bR.alloc lR _);have B:=Hd (show Blk w3 q 101 #[rD rF lv,rD rF ow,.map (some ob),.map (some sb)] by rw[I,hq];exact Blk.new _ _ _);have r:=Hd (A.out.trans (F.mono A.out.size));have G3:=Hd (G1.out.below F G1.out.lt);have J:=Hd (aP.out.below F);have X:=Hd I;clear F hq I
  by_cases hoi:ow=i
  ·have bB:((ow:Int) !=i)=false:=(by rw[bne_eq_false_iff_eq];exact hoi);have aO:=Hd hoi;clear hoi;go_wp2_with fail;rw[<-X.out,<-a5.out];refine Fe [eF (.agg #[rD rF lv,rD rF ow,.map (some ob),.map (some sb)]),eF (rE (some ⟨q,0,rI⟩)),eF (rD rF lv),eF (rD rF (x:Nat)),fun u w'=>Rd w' u (bvs C),eF (rC aG aI aH),eF (.bool bq),eF (.bool (!bq)),eF (.bool (!bq))] (by kernel_rfl) (by kernel_rfl) (by kernel_rfl)
    (kE (kE (kE (kE (bX (fun v x y h hb=>Rd.below h hb lR) (kE (kE (kE (kE Ai))))))))) ?_ ?_
   ·refine gB ?_ (gQ ?_ (gQ ?_ (gB ?_ (gB ?_ (gQ ?_ (gB ?_ (gQ ?_ (gQ ?_ .nil))))))));all_goals
     intro a wx aC ha N;refine⟨rfl,?_⟩;intro K D;try have aU:a.tmps[10]?.getD undef=rE (some ⟨q,0,rI⟩):=ha 10 (by kernel_rfl)
     try have bE:a.tmps[1]?.getD undef=.slice aG aI aH:=ha 1 (by kernel_rfl)
     have aX:=B.out.below aC B.out.lt;try(have aZ:=aX.cell 0;simp only[cR,cS]at aZ)
    ·exact wp_load_row 101 (.tmp 10) rfl _ (evs aU) _ _ (0,0) _ aX underlying101 rfl (by kernel_rfl) (D _ _ rfl bR)
    ·go_simp;exact D _ rfl
    ·have z:=eqn N.1
     go_simp;exact D _ rfl
    ·have z:=eqn N.1;go_simp;refine(a7.out wx).mono ?_;rintro e w2 ⟨rfl,rfl⟩;exact D _ _ rfl bR
    ·have z:=eqn N.1;have a0:=eqn N.2.1;go_simp;refine(aR.out ob sb p wx (J.out.below aC)).mono ?_;rintro e w7 ⟨u,rfl,hu,a8⟩;exact D _ _ hu a8
    ·go_simp;exact D _ rfl
    ·have o0:Rd wx (a.tmps[34]?.getD undef) (bvs C):=N.1;have a0:=eqn N.2.1;obtain⟨v1,aF⟩:=eX (a.tmps[34]?.getD undef);rw[<-aF]at o0;have e1:=aF.symm;clear aF;go_simp;refine(a1.out v1 wx (r.out.trans (aC.mono r.out.size)) o0).mono ?_;rintro e w7 ⟨rfl,rfl⟩;exact D _ _ rfl bR
    ·have z:=eqn N.1
     go_simp;exact D _ rfl
    ·have z:=eqn N.1
     go_simp;exact D _ rfl
   ·rintro f w4 t O;have Sr:f 29=.bool (!bq):=O.2.2.2.2.2.2.2.2.1;clear O;simp only[Aq,Ba,Fc,List.filterMap_cons,List.filterMap_nil,List.contains_cons,List.contains_nil,Nat.reduceBEq,Nat.reduceAdd,Bool.or_false,Bool.or_true,cond_true,cond_false];rw[Sr];clear Sr;have aL:=Hd (r.out.trans (t.mono r.out.size));have G4:=Hd (G3.out.below t G3.out.lt);have a4:=Hd (B.out.below t B.out.lt);have aQ:=Hd (J.out.below t);clear t;cases bq with
    |true=>
     have Y:=Hd (show Fp (0,s) hx i=(0,s)from by unfold Fp;simp only;rw[iN (by simp),iN (by rw[<-V.out,aO.out];simp),iN (by rw[<-aT.out,oD aN.out.symm];simp)]);go_wp2_with (first
      |(refine Af rfl 101 (.tmp 10) rfl q rfl 101 #[rD rF lv,rD rF ow,.map (some ob),.map (some sb)] (0,0) _ a4.out underlying101 rfl (by kernel_rfl) ?_)
      |(refine Aa rfl 101 (.tmp 8) (.tmp 39) rfl g #[rD rF lv,rD rF ow,.map (some ob),.map (some sb)] rfl rfl 101 #[rD rF 0,rD rF 0,.map none,.map none] G4.out (by kernel_rfl) rfl rfl ?_))
     rintro w9 b m l j;have Z:=Hd b;have P:=Hd (aL.out.trans (m w.heap.size (by rw[T.out];exact lR)));have S9:=Hd (aQ.out.only (Only.storeQ m l) (by have:=o.out;omega) (by have:=o.out;omega) (by have:=o.out;omega));clear b m l j;go_wp2_with fail;refine bodyPost_ret (v:=.tuple #[.agg #[rD rF lv,rD rF ow,.map (some ob),.map (some sb)],rD rG 0]) (Ac results72 _ _ g _ _ _ rfl Z.out underlying101 rfl (by kernel_rfl)) rfl ?_;exact aS.out _ _ ob sb p rfl Y.out (by have:=o.out;have:=T.out;omega) (by have:=o.out;have:=T.out;omega) o.out.2.2.1 o.out.2.2.2.1 o.out.2.2.2.2 S9.out P.out
    |false=>
     have Y:=Hd (show Fp (0,s) hx i=(17,Ea)from by unfold Fp;simp only;rw[iN (by simp),iN (by rw[<-V.out,aO.out];simp),iP (by rw[<-aT.out];exact of_decide_eq_false aN.out.symm)]);go_wp2_with (refine Aa rfl 101 (.tmp 8) (.tmp 38) rfl g #[rD rF 0,rD rF 0,.map none,.map none] rfl rfl 101 #[rD rF 0,rD rF 0,.map none,.map none] G4.out (by kernel_rfl) rfl rfl ?_);rintro w9 b m l j;have Z:=Hd b;have P:=Hd (aL.out.trans (m w.heap.size (by rw[T.out];exact lR)));clear b m l j;go_wp2_with fail;refine bodyPost_ret (v:=.tuple #[.agg #[rD rF 0,rD rF 0,.map none,.map none],rD rG 17]) (Ac results72 _ _ g _ _ _ rfl Z.out underlying101 rfl (by kernel_rfl)) rfl ?_;exact U.out _ _ 17 rfl (by decide) Y.out P.out
  ·have bB:((ow:Int) !=i)=true:=(by rw[bne_iff_ne];exact hoi);have Y:=Hd (show Fp (0,s) hx i=(7,Ea)from by unfold Fp;simp only;rw[iN (by simp),iP (by rw[<-V.out];exact hoi)]);clear hoi;go_wp2_with (refine Aa rfl 101 (.tmp 8) (.tmp 28) rfl g #[rD rF 0,rD rF 0,.map none,.map none] rfl rfl 101 #[rD rF 0,rD rF 0,.map none,.map none] (by rw[<-X.out];exact G3.out) (by kernel_rfl) rfl rfl ?_);rintro w9 b m l j;have Z:=Hd b;have P:=Hd (r.out.trans (by rw[X.out];exact m w.heap.size (by rw[T.out];exact lR)));clear b m l j;go_wp2_with fail;refine bodyPost_ret (v:=.tuple #[.agg #[rD rF 0,rD rF 0,.map none,.map none],rD rG 7]) (Ac results72 _ _ g _ _ _ rfl Z.out underlying101 rfl (by kernel_rfl)) rfl ?_;exact U.out _ _ 7 rfl (by decide) Y.out P.out
 ·rw[iN h0]at hr;have bF:((er:Int) !=0)=true:=(by rw[bne_iff_ne];omega);have a3:=Hd h0;have Y:=Hd (show Fp (er,s) hx i=(er,Ea)from by unfold Fp;rw[iP h0]);obtain rfl:=hr;clear h0;go_wp2_with (refine Aa rfl 101 (.tmp 8) (.tmp 21) rfl g #[rD rF 0,rD rF 0,.map none,.map none] rfl rfl 101 #[rD rF 0,rD rF 0,.map none,.map none] (G1.out.alloc _) (by kernel_rfl) rfl rfl ?_);rintro w9 b m l j;have Z:=Hd b;have P:=Hd ((A.out.alloc A.out.size _).trans (m w.heap.size (by rw[T.out];exact lR)));clear b m l j;go_wp2_with fail;refine bodyPost_ret (v:=.tuple #[.agg #[rD rF 0,rD rF 0,.map none,.map none],rD rG (er:Nat)]) (Ac results72 _ _ g _ _ _ rfl Z.out underlying101 rfl (by kernel_rfl)) rfl ?_;exact U.out _ _ er rfl a3.out Y.out P.out
end Go.Proofs.YtfofaiommeckbaaGreat
namespace Go.Proofs.YtfofaiommeckbaaGreat
open Go.RowKit Go.Maps WalkM WireM
theorem Oy {only:Bool} {mk:Nat} {L hx:List Nat} {i:Int}(hL:∀y∈L,y<256)(hl:BL mk L)(h:(Fp (ofS only mk L) hx i).1=0):SpGood (Fp (ofS only mk L) hx i).2/\Ap (Fp (ofS only mk L) hx i).2 only=true:=by
 have e:=(Ox hL hl h).1;have g:=Su (only:=only) (mk:=mk) hL hl (by rw[Sv,e]);rw[Sv,e]at g;exact g
open ShaM
def Zgb (r:Nat×SparseD)(i:Int):LeafD:=if r.1=0 then((Ag r.2.op (2*i)).getD Aj).leaf else noLeafD
theorem Zab (w:World):LeafC w noLeafD #[rC rI 0 0,rC rI 0 0,rC rI 0 0,rD rG 0,rC rI 0 0,rC rI 0 0]:=
 ⟨none,0,none,0,none,0,none,0,none,0,rfl,Tg _,Tg _,Tg _,Tg _,Tg _⟩
theorem Vp (v hv:Value)(L hx:List Nat)(i:Int)(w:World)(h:Rd w v (bvs L))(hh:Rd w hv (bvs hx))(hl:BL 2 L)(hL:∀n∈L,n<256)(X:∀n∈hx,n<256):
  Calls prog 27 #[v,hv,rD rF i] w fun e w'=>(∃c,e=rK (.tuple #[.agg c,rD rG ((Fp (ofS true 2 L) hx i).1:Nat)])/\LeafC w' (Zgb (Fp (ofS true 2 L) hx i) i) c)/\Below w.heap.size w w':=by
 have RD:=fun(W:World) (hw:Below w.heap.size w W)=>Zlj v hv L hx i 2 true W (h.below hw lR) (hh.below hw lR) hl hL X rfl (by omega);have GO:=fun h=>Oy (only:=true) (mk:=2) (hx:=hx) (i:=i) hL hl h;have F:=fun h=>(Ox (only:=true) (mk:=2) (hx:=hx) (i:=i) hL hl h);obtain⟨va,vn,vc,rfl⟩:∃a n c,v=.slice a n c:=(by obtain⟨a,c,e,-⟩:=h;exact⟨_,_,_,e⟩);obtain⟨ha,hn,hc,rfl⟩:∃a n c,hv=.slice a n c:=(by obtain⟨a,c,e,-⟩:=hh;exact⟨_,_,_,e⟩);obtain⟨R,hR⟩:=eX (Fp (ofS true 2 L) hx i);rw[<-hR]at RD GO F|-;have F:=fun h0:R.1=0=>(show R.2.own=i from by have:=F h0;rw[this.1]at this;exact this.2.1);obtain⟨er,s⟩:=R;simp only at RD GO F;have aH:=Hd RD;have aD:=Hd GO;have H:=Hd F;obtain⟨g,hg⟩:=eX w.heap.size;have HG:=Hd hg;have G0:=Hd (show Blk (w.alloc (rJ #[rC rI 0 0,rC rI 0 0,rC rI 0 0,rD rG 0,rC rI 0 0,rC rI 0 0] 44)) g 44 #[rC rI 0 0,rC rI 0 0,rC rI 0 0,rD rG 0,rC rI 0 0,rC rI 0 0] by rw[hg];exact Blk.new _ _ _);have z:=Hd ((Below.refl w.heap.size w).alloc lR (rJ #[rC rI 0 0,rC rI 0 0,rC rI 0 0,rD rG 0,rC rI 0 0,rC rI 0 0] 44));clear RD GO F hR hg h hh hl hL X;go_in;go_wp2_with fail;refine(aH.out _ z.out).mono ?_;rintro e w1 ⟨B,hr⟩;have p:=Hd (z.out.trans (B.mono z.out.size));have G1:=Hd (G0.out.below B G0.out.lt);rw[<-HG.out];clear B
 by_cases h0:er=0
 ·rw[iP h0]at hr;obtain⟨ob,sb,gg,rfl,Y,Z,k3,k4,k5,I⟩:=hr;subst h0;obtain⟨N,U⟩:=aD.out rfl;have how:=H.out rfl;obtain⟨d,m,hd,aK,S,aL,-,-,-,hk⟩:=Vn U;have aM:i=(m:Int):=(by rw[<-how,S]);subst aM;have aO:2^d<=65536:=eU (bQ (by omega) hd) (by decide);obtain⟨D,hD⟩:∃D,Ag s.op ((2*m:Nat):Int)=some D:=by
   cases e:Ag s.op ((2*m:Nat):Int)with
   |none=>rw[e]at hk;simp[Aj]at hk
   |some D=>exact⟨D,rfl⟩
  have e2:2*(m:Int)=((2*m:Nat):Int):=(by omega);have A:=Hd (show Zgb (0,s) (m:Int)=D.leaf from by unfold Zgb;rw[iP rfl,e2,hD];rfl);have C:=N.small;simp only[Dn,Bool.and_eq_true]at C;have aI:=Hd (List.all_eq_true.1 C.1.2 _ (Br hD));obtain⟨lv,x⟩:=eX s.leaves;obtain⟨ow,y⟩:=eX s.own;rw[<-x,<-y];obtain⟨w2,o⟩:=eX (w1.alloc (rJ #[rD rF lv,rD rF ow,.map (some ob),.map (some sb)] 101));obtain⟨q,hq⟩:=eX w1.heap.size;have r:Below w1.heap.size w1 w2:=(by rw[o];exact bR.alloc lR _);have aG:=Hd (I.below r).pieceN;have Q2:=Hd (show Blk w2 q 101 #[rD rF lv,rD rF ow,.map (some ob),.map (some sb)] by rw[o,hq];exact Blk.new _ _ _);have G:=Hd (p.out.trans (r.mono p.out.size));have G2:=Hd (G1.out.below r G1.out.lt);obtain⟨GM,P,Q⟩:=aG.out;have V:=Q ((2*m:Nat):Int);rw[hD]at V;obtain⟨c,K,M⟩:=V;have rg:=MapF.run_get (T:=98) P underlying98 (Hq _) (k:=((2*m:Nat):Int)) (by unfold inI;omega);rw[K]at rg;simp only[Option.getD_some]at rg;have aC:=Hd (Hk D c w2 M aI.out);have p2:=Q2.out.cell 2;simp only[cR,cS,aP]at p2;rw[<-e2]at rg;have aQ: -1000000<=(m:Int):=(by omega);have aR:(m:Int)<=1000000:=(by omega);have aJ:=Hd o;have aS:=Hd hq;rw[o]at rg p2;rw[hq]at p2;clear I N U how aK S aL hk hD C x y o hq r P Q K M e2 Y Z k3 k4 k5 aO;go_wp2_with fail;rw[<-aJ.out];refine aC.out.mono ?_;rintro e w3 ⟨c',rfl,aN,B⟩;have aA:=Hd (G.out.trans (B.mono G.out.size));have G3:=Hd (G2.out.below B G2.out.lt);have u:=G2.out.lt;obtain⟨x0,x1,x2,x3,x4,u0,u1,u2,rfl,h0,h1,h2,h3,h4,h5,h6,h7⟩:=aN;have LC:=fun(W:World) (b:∀j,j≠g->W.heap[j]? =w3.heap[j]?)=>Zds h0 h1 h2 h3 h4 (show g<w2.heap.size from u) b;obtain⟨a0,n1,k0,rfl⟩:=Cg h0;obtain⟨a1,n2,Y,rfl⟩:=Cg h1;obtain⟨a2,n3,Z,rfl⟩:=Cg h2;obtain⟨a3,n4,k3,rfl⟩:=Cg h3;obtain⟨a4,n5,k4,rfl⟩:=Cg h4;obtain⟨a5,n6,k5,rfl⟩:=Cg h5;obtain⟨a6,n7,k6,rfl⟩:=Cg h6;obtain⟨a7,n8,k7,rfl⟩:=Cg h7;obtain⟨sc,E⟩:=eX D.leaf.source;obtain⟨kd,O⟩:=eX D.kind;rw[<-E,<-O];rw[<-E]at LC;have aF:=Hd LC;clear LC E O h0 h1 h2 h3 h4 h5 h6 h7 B u rg p2;have aU:=Qc (rD rG (kd:Nat)) (rC a0 n1 k0) (rC a1 n2 Y) (rC a2 n3 Z) (rD rG (sc:Nat)) (rC a3 n4 k3) (rC a4 n5 k4) (rC a5 n6 k5) (rC a6 n7 k6) (rC a7 n8 k7) w3;go_wp2_with (refine Aa rfl 44 (.tmp 6) (.tmp 27) rfl g #[rC a0 n1 k0,rC a1 n2 Y,rC a2 n3 Z,rD rG (sc:Nat),rC a3 n4 k3,rC a4 n5 k4] rfl rfl 44 #[rC rI 0 0,rC rI 0 0,rC rI 0 0,rD rG 0,rC rI 0 0,rC rI 0 0] G3.out (by kernel_rfl) rfl rfl ?_);rintro w4 f t b l;have HK:=Hd f;have aB:=Hd (aA.out.trans (t w.heap.size (by rw[HG.out];exact lR)));have aE:=Hd (aF.out w4 b);clear f t b l;go_wp2_with fail;exact bodyPost_ret (v:=.tuple #[.agg #[rC a0 n1 k0,rC a1 n2 Y,rC a2 n3 Z,rD rG (sc:Nat),rC a3 n4 k3,rC a4 n5 k4],rD rG 0]) (Ac results27 _ _ g _ _ _ rfl HK.out underlying44 rfl (by kernel_rfl)) rfl ⟨⟨_,rfl,by rw[A.out];exact aE.out⟩,aB.out⟩
 ·rw[iN h0]at hr;have aT:((er:Int) !=0)=true:=(by rw[bne_iff_ne];omega);have A:=Hd (show Zgb (er,s) i=noLeafD from by unfold Zgb;rw[iN h0]);obtain rfl:=hr;clear h0;go_wp2_with (refine Aa rfl 44 (.tmp 6) (.tmp 19) rfl g #[rC rI 0 0,rC rI 0 0,rC rI 0 0,rD rG 0,rC rI 0 0,rC rI 0 0] rfl rfl 44 #[rC rI 0 0,rC rI 0 0,rC rI 0 0,rD rG 0,rC rI 0 0,rC rI 0 0] (G1.out.alloc _) (by kernel_rfl) rfl rfl ?_);rintro w3 f J b l;have P3:=Hd f;have B3:=Hd ((p.out.alloc p.out.size _).trans (J w.heap.size (by rw[HG.out];exact lR)));clear f J b l;go_wp2_with fail;exact bodyPost_ret (v:=.tuple #[.agg #[rC rI 0 0,rC rI 0 0,rC rI 0 0,rD rG 0,rC rI 0 0,rC rI 0 0],rD rG (er:Nat)]) (Ac results27 _ _ g _ _ _ rfl P3.out underlying44 rfl (by kernel_rfl)) rfl ⟨⟨_,rfl,by rw[A.out];exact Zab _⟩,B3.out⟩
theorem Zi7 (v hv:Value)(L hx:List Nat)(i:Int)(mk:Nat)(only:Bool)(w:World)(h:Rd w v (bvs L))(hh:Rd w hv (bvs hx))(hl:L.length<=4000)(hL:∀n∈L,n<256)(aI:∀n∈hx,n<256)(hm:mk<256)(aH:only=decide (mk=2)):
  Calls prog 26 #[v,hv,rD rF i,rD rG (mk:Nat)] w fun e w'=>(∃c,e=rK (.tuple #[.agg c,rD rF ((Fp (ofS only mk L) hx i).1:Nat)])/\SparseR w' (.agg c) (Fp (ofS only mk L) hx i).2)/\Below w.heap.size w w':=by
 have RO:=fun(W:World) (hw:Below w.heap.size w W)=>Zli v L mk only W (h.below hw lR) hL hl hm aH;have GO:=fun hq=>Su (only:=only) (mk:=mk) hL (bl4 hl) hq;have C:=Zmd only mk L;rw[Sv]at GO;obtain⟨R,hR⟩:=eX (ofS only mk L);rw[<-hR]at RO GO C|-;unfold Zmm at RO;obtain⟨k,s⟩:=R;simp only at RO GO C;clear hR;obtain⟨va,vn,vc,rfl⟩:∃a n c,v=.slice a n c:=(by obtain⟨a,c,e,-⟩:=h;exact⟨_,_,_,e⟩);obtain⟨xa,xn,xc,rfl⟩:∃a n c,hv=.slice a n c:=(by obtain⟨a,c,e,-⟩:=hh;exact⟨_,_,_,e⟩);have SM:=fun(u:Value) (Y:List Nat) (hY:∀n∈Y,n<256) (W:World) (hw:Below w.heap.size w W) (D:Rd W u (bvs Y))=>Xw u (rC xa xn xc) Y hx W D (hh.below hw lR) hY aI;have aV:=Hd SM;have aT:=Hd RO;have aJ:=Hd GO;obtain⟨g,hg⟩:=eX w.heap.size;have HG:=Hd hg;obtain⟨w0,E⟩:=eX (w.alloc (rJ #[rD rF 0,rD rF 0,rC rI 0 0,rC rI 0 0] 25));have G0:=Hd (show Blk w0 g 25 #[rD rF 0,rD rF 0,rC rI 0 0,rC rI 0 0] by rw[E,hg];exact Blk.new _ _ _);have B0:=Hd (show Below w.heap.size w w0 by rw[E];exact bR.alloc lR _);have aX:=Hd E;have aY:=Hd C;clear h hh hL hl aI hm aH RO GO SM hg E C;go_in;go_wp2_with fail;rw[<-aX.out,<-HG.out];refine(aT.out w0 B0.out).mono ?_;rintro e w1 ⟨o,q,rfl,ho,hq,l⟩;obtain⟨U,V,rfl,-,-⟩:=ho.spots.sl;obtain⟨P,Q,rfl,-,-⟩:=hq.stubs.sl;have aB:=Hd ho;have aD:=Hd hq;have B1:=Hd (B0.out.trans (l.mono B0.out.size));have G1:=Hd (G0.out.below l G0.out.lt);have aA:=Hd (show g<w0.heap.size from G0.out.lt);clear ho hq l;obtain⟨lv,J⟩:=eX s.leaves;obtain⟨ow,how⟩:=eX s.own;obtain⟨S,K⟩:=eX s.op.length;obtain⟨T,M⟩:=eX s.sh.length;have F:=Hd J;have m:=Hd how;rw[<-K]at aB;rw[<-M]at aD;rw[<-J,<-how,<-K,<-M];obtain⟨w2,y⟩:=eX (w1.alloc (rJ #[rD rF lv,rD rF ow,rC U S V,rC P T Q] 25));have l:Below w1.heap.size w1 w2:=(by rw[y];exact bR.alloc lR _);have B2:=Hd (B1.out.trans (l.mono B1.out.size));have G2:=Hd (G1.out.below l G1.out.lt);have aC:=Hd (aB.out.below l lR);have aE:=Hd (aD.out.below l lR);obtain⟨p,hp⟩:=eX w1.heap.size;have O:=Hd (show Blk w2 p 25 #[rD rF lv,rD rF ow,rC U S V,rC P T Q] by rw[y,hp];exact Blk.new _ _ _);have x:=Hd y;have HP:=Hd hp;have x0:=O.out.cell 0;have x1:=O.out.cell 1;have x2:=O.out.cell 2;have x3:=O.out.cell 3;simp only[cR,cS,aP]at x0 x1 x2 x3;rw[y,hp]at x0 x1 x2 x3;clear l y hp J how K M
 by_cases h0:k=0
 ·subst h0;obtain⟨gd,hr⟩:=aJ.out rfl;have B:=Hd gd;have aF:=Hd hr;have c0:(((0:Nat):Int) !=0)=false:=rfl;clear gd hr
  by_cases h1:ow=i
  ·have c1:((ow:Int) !=i)=false:=(by rw[bne_eq_false_iff_eq];exact h1);have aU:=Hd (show SparseR w2 (.agg #[rD rF lv,rD rF ow,rC U S V,rC P T Q]) s from⟨_,_,by rw[F.out,m.out],aC.out.spots,aE.out.stubs⟩);have aS:=Hd (Xq (.agg #[rD rF lv,rD rF ow,rC U S V,rC P T Q]) s only w2 aU.out B.out.ok B.out.small aF.out);have aK:=Hd (show∀n∈Ey s,n<256 from Mz (Jn aF.out B.out.ok B.out.small).1);have H1:=Hd h1;clear h1;go_wp2_with fail;rw[<-x.out,<-HP.out];clear x0 x1 x2 x3;refine aS.out.mono ?_;rintro e N ⟨u,rfl,D,l⟩;have aW:=Hd D;obtain⟨ua,un,uc,rfl⟩:∃a n c,u=.slice a n c:=(by obtain⟨a,c,e,-⟩:=D;exact⟨_,_,_,e⟩);have Z:=Hd (B2.out.trans (l.mono B2.out.size));have G3:=Hd (G2.out.below l G2.out.lt);have P3:=Hd (O.out.below l O.out.lt);have aL:=Hd (aC.out.below l lR);have aO:=Hd (aE.out.below l lR);have aG:=Hd (aV.out _ (Ey s) aK.out N Z.out aW.out);clear D l
   by_cases h2:Ey s=hx
   ·have t:=aG.out;rw[dT h2]at t;have H:=Hd t;have r:=Hd (show Fp ((0:Nat),s) hx i=((0:Nat),s) by
     unfold Fp;rw[iN (by simp),iN (by have:=H1.out;rw[m.out]at this;simpa using this),iN (by simpa using h2)])
    clear t h2;go_wp2_with fail;refine H.out.mono ?_;rintro e w4 ⟨rfl,A,rfl⟩;have l:=Ab (Below.refl N.heap.size N) A;obtain⟨w4,z⟩:=eX (N.drewN A);rw[<-z]at l|-;have B4:=Hd (Z.out.trans (l.mono Z.out.size));have G4:=Hd (G3.out.below l G3.out.lt);have P4:=Hd (P3.out.below l P3.out.lt);have aM:=Hd (aL.out.below l lR);have aQ:=Hd (aO.out.below l lR);clear l z;have y0:=P4.out.cell 0;have y1:=P4.out.cell 1;have y2:=P4.out.cell 2;have y3:=P4.out.cell 3;simp only[cR,cS,aP]at y0 y1 y2 y3;go_wp2_with (refine Aa rfl 25 (.tmp 8) (.tmp 33) rfl g #[rD rF lv,rD rF ow,rC U S V,rC P T Q] rfl rfl 25 #[rD rF 0,rD rF 0,rC rI 0 0,rC rI 0 0] G4.out (by kernel_rfl) rfl rfl ?_);rintro X b f d j;have D:∀(i:Nat) k,(#[rD rF 0,rD rF 0,rC rI 0 0,rC rI 0 0]:Array Value)[i]?≠some (rD rG k):=by
     intro i k e
     match i,e with
     |0,e=>cases e
     |1,e=>cases e
     |2,e=>cases e
     |3,e=>cases e
     |n+4,e=>simp at e
    have aN:=Hd (aM.out.offG aA.out G4.out D f d);have aR:=Hd (aQ.out.offG aA.out G4.out D f d);have I:=Hd b;have G:=Hd (B4.out.trans (f w.heap.size (iV HG.out.symm)));clear b f d j D y0 y1 y2 y3;go_wp2_with fail;refine bodyPost_ret (v:=.tuple #[.agg #[rD rF lv,rD rF ow,rC U S V,rC P T Q],rD rF 0]) (Ac results26 _ _ g _ _ _ rfl I.out underlying25 rfl (by kernel_rfl)) rfl ?_;rw[r.out];exact⟨⟨_,rfl,_,_,by rw[F.out,m.out],aN.out.spots,aR.out.stubs⟩,G.out⟩
   ·have t:=aG.out;rw[dF h2]at t;have H:=Hd t;have r:=Hd (show Fp ((0:Nat),s) hx i=(17,Ea) by
     unfold Fp;rw[iN (by simp),iN (by have:=H1.out;rw[m.out]at this;simpa using this),iP (by simpa using h2)])
    clear t h2;go_wp2_with fail;refine H.out.mono ?_;rintro e w4 ⟨rfl,A,rfl⟩;have l:=Ab (Below.refl N.heap.size N) A;obtain⟨w4,z⟩:=eX (N.drewN A);rw[<-z]at l|-;have B4:=Hd (Z.out.trans (l.mono Z.out.size));have G4:=Hd (G3.out.below l G3.out.lt);clear l z;go_wp2_with (refine Aa rfl 25 (.tmp 8) (.tmp 32) rfl g #[rD rF 0,rD rF 0,rC rI 0 0,rC rI 0 0] rfl rfl 25 #[rD rF 0,rD rF 0,rC rI 0 0,rC rI 0 0] G4.out (by kernel_rfl) rfl rfl ?_);rintro X b f d j;have I:=Hd b;have G:=Hd (B4.out.trans (f w.heap.size (iV HG.out.symm)));clear b f d j;go_wp2_with fail;refine bodyPost_ret (v:=.tuple #[.agg #[rD rF 0,rD rF 0,rC rI 0 0,rC rI 0 0],rD rF 17]) (Ac results26 _ _ g _ _ _ rfl I.out underlying25 rfl (by kernel_rfl)) rfl ?_;rw[r.out];exact⟨⟨_,rfl,Sp X⟩,G.out⟩
  ·have c1:((ow:Int) !=i)=true:=(by rw[bne_iff_ne];exact h1);have r:=Hd (show Fp ((0:Nat),s) hx i=(7,Ea) by
    unfold Fp;rw[iN (by simp),iP (by rw[m.out]at h1;exact h1)])
   clear h1;go_wp2_with (refine Aa rfl 25 (.tmp 8) (.tmp 26) rfl g #[rD rF 0,rD rF 0,rC rI 0 0,rC rI 0 0] rfl rfl 25 #[rD rF 0,rD rF 0,rC rI 0 0,rC rI 0 0] (by rw[<-x.out];exact G2.out) (by kernel_rfl) rfl rfl ?_);rintro X b f d j;rw[<-x.out]at f d;have I:=Hd b;have G:=Hd (B2.out.trans (f w.heap.size (iV HG.out.symm)));clear b f d j;go_wp2_with fail;refine bodyPost_ret (v:=.tuple #[.agg #[rD rF 0,rD rF 0,rC rI 0 0,rC rI 0 0],rD rF 7]) (Ac results26 _ _ g _ _ _ rfl I.out underlying25 rfl (by kernel_rfl)) rfl ?_;rw[r.out];exact⟨⟨_,rfl,Sp X⟩,G.out⟩
 ·have c0:((k:Int) !=0)=true:=(by rw[bne_iff_ne];omega);have r:=Hd (show Fp (k,s) hx i=(k,Ea) by
   unfold Fp;rw[iP h0])
  clear h0;go_wp2_with (refine Aa rfl 25 (.tmp 8) (.tmp 20) rfl g #[rD rF 0,rD rF 0,rC rI 0 0,rC rI 0 0] rfl rfl 25 #[rD rF 0,rD rF 0,rC rI 0 0,rC rI 0 0] (by rw[<-x.out];exact G2.out) (by kernel_rfl) rfl rfl ?_);rintro X b f d j;rw[<-x.out]at f d;have I:=Hd b;have G:=Hd (B2.out.trans (f w.heap.size (iV HG.out.symm)));clear b f d j;go_wp2_with fail;refine bodyPost_ret (v:=.tuple #[.agg #[rD rF 0,rD rF 0,rC rI 0 0,rC rI 0 0],rD rF (k:Nat)]) (Ac results26 _ _ g _ _ _ rfl I.out underlying25 rfl (by kernel_rfl)) rfl ?_;rw[r.out];exact⟨⟨_,rfl,Sp X⟩,G.out⟩
theorem Zmi {r:Nat×SparseD} {hx:List Nat} {i:Int}(h:r.1<=6):(Fp r hx i).1<=17:=by
 unfold Fp
 split
 ·show r.1<=17;omega
 ·split
  ·show 7<=17;omega
  ·split
   ·show 17<=17;omega
   ·show 0<=17;omega
theorem Zlk {only:Bool} {mk:Nat} {L hx:List Nat} {i:Int}(a:∀y∈L,y<256)(b:L.length<=4000):SparseOk (Fp (ofS only mk L) hx i).2/\(Fp (ofS only mk L) hx i).2.op.length<=5000/\(Fp (ofS only mk L) hx i).2.sh.length<=5000:=by
 by_cases h:(Fp (ofS only mk L) hx i).1=0
 ·have g:=(Oy a (bl4 b) h).1;have s:=In g.small;exact⟨g.ok,by omega,by omega⟩
 ·rw[Zi6 h];exact⟨Ze9,aA _,aA _⟩
theorem Zi8 {only:Bool} {mk:Nat} {L hx:List Nat} {i:Int}(a:∀y∈L,y<256)(b:L.length<=4000)(h:(Fp (ofS only mk L) hx i).1=0):0<=i/\i<=65536:=by
 obtain⟨c1,c2,-⟩:=Ox a (bl4 b) h;obtain⟨-,g⟩:=Oy a (bl4 b) h;obtain⟨d,j,c,e,how,k,-⟩:=Vn g;have f:2^d<=65536:=eU (bQ (by omega) c) (by decide);rw[c1]at c2;simp only at c2;omega
theorem Zll {s:SparseD}(k:Nat)(i:Int)(hok:SparseOk s):LeafOk (Zgb (k,s) i):=by
 unfold Zgb
 split
 ·cases e:Ag s.op (2*i)with
  |none=>exact noNode_ok.leaf
  |some d=>exact(hok.op _ (Br e)).2.leaf
 ·exact noNode_ok.leaf
theorem Mh {w:World}(v:Value)(L:List Nat)(hv:Value)(hx:List Nat)(i:Int)(hL:∀n∈L,n<256)(h:Rd w v (bvs L))(N:∀n∈hx,n<256)(hh:Rd w hv (bvs hx))(bT: -9223372036854775808<=i/\i<=9223372036854775807):
  Calls prog 6 #[v,hv,rD rF i] w fun e w'=>e=rK (.bool true)/\Below w.heap.size w w':=by
 clear bT;have V:=Hd fun(W:World)=>Zle W;obtain⟨va,vc,rfl,-,-⟩:=id h;obtain⟨xa,xc,rfl,-,-⟩:=id hh;rw[bvs_len,bvs_len];rw[bvs_len]at h hh
 by_cases hl:L.length<=4000
 ·have g1:decide ((L.length:Int)>4000)=false:=dF (by omega)
  by_cases hl2:hx.length<=100
  ·have g2:decide ((hx.length:Int)>100)=false:=dF (by omega);have CK:=fun(W:World) (Z:Below w.heap.size w W)=>Vp _ _ L hx i W (h.below Z lR) (hh.below Z lR) (bl4 hl) hL N;have RK:=fun(W:World) (Z:Below w.heap.size w W)=>Zi7 _ _ L hx i 2 true W (h.below Z lR) (hh.below Z lR) hl hL N (by decide) (by decide);have OK:=Zlk (only:=true) (mk:=2) (hx:=hx) (i:=i) hL hl;have OW:=fun h=>Zi8 (only:=true) (mk:=2) (hx:=hx) (i:=i) hL hl h;have hk:=Zmi (hx:=hx) (i:=i) (Zmd true 2 L);obtain⟨R,hR⟩:=eX (Fp (ofS true 2 L) hx i);rw[<-hR]at CK RK OK OW hk;obtain⟨k,s⟩:=R;simp only at CK RK OK OW hk;have bW:IntKind.i64.wrap (k:Int)=(k:Int):=IntWalk.i64_in _ ⟨by omega,by omega⟩;have J:=Zll k i OK.1;obtain⟨lv,bE⟩:=eX s.leaves;obtain⟨ow,how⟩:=eX s.own;obtain⟨no,bK⟩:=eX s.op.length;obtain⟨ns,bL⟩:=eX s.sh.length;have a9:=Hd fun(W:World) (u:Value) (C:SparseR W u s)=>(show∃a c a' c',u=.agg #[rD rF lv,rD rF ow,rC a no c,rC a' ns c']from by
    obtain⟨o,g,rfl,ho,hg⟩:=C;obtain⟨oa,oc,rfl,-,-⟩:=ho.sl;obtain⟨ga,gc,rfl,-,-⟩:=hg.sl;exact⟨oa,oc,ga,gc,by rw[bE,how,bK,bL]⟩)
   obtain⟨ln,j⟩:=eX L.length;obtain⟨xn,A⟩:=eX hx.length;rw[<-j,<-A]at CK RK|-;rw[<-j]at g1;rw[<-A]at g2;obtain⟨D,hD⟩:=eX (Zgb (k,s) i);rw[<-hD]at CK J;obtain⟨q1,bF⟩:=eX D.box.length;obtain⟨q2,bG⟩:=eX D.sign.length;obtain⟨q3,bH⟩:=eX D.ident.length;obtain⟨q4,bI⟩:=eX D.par.length;obtain⟨q5,bJ⟩:=eX D.sig.length;obtain⟨sr,bN⟩:=eX D.source;have a7:=Hd fun(W:World) (c:Array Value) (hc:LeafC W D c)=>(show∃y1 z1 y2 z2 y3 z3 y4 z4 y5 z5,c=#[rC y1 q1 z1,rC y2 q2 z2,rC y3 q3 z3,rD rG (sr:Nat),rC y4 q4 z4,rC y5 q5 z5]from by
    obtain⟨a1,c1,a2,c2,a3,c3,a4,c4,a5,c5,e,-⟩:=hc;exact⟨a1,c1,a2,c2,a3,c3,a4,c4,a5,c5,by rw[e,bF,bG,bH,bI,bJ,bN]⟩)
   have bB:=Hd fun(c c':Array Value) (W:World) (k1:LeafC W D c) (k2:LeafC W D c')=>(show Calls prog 28 #[.agg c,.agg c'] W fun e w'=>e=rK (.bool true)/\Below W.heap.size W w' from by
    have e:=Jz _ _ c c' W k1 k2 J J;have e3:Iu D D=true:=by simp[Iu]
    rwa [e3]at e)
   have bU:((k:Int)==(k:Int))=true:=(by rw[beq_iff_eq]);clear hR bE how bK bL h hh j A hL N hl hl2 hk bF bG bH bI bJ bN
   by_cases h0:k=0
   ·subst h0;have OW:=OW rfl;have aR:=Hd fun(W:World) (Z:Below w.heap.size w W)=>(show Calls prog 27 #[rC va ln vc,rC xa xn xc,rD rF i] W fun e w'=>(∃c,e=rK (.tuple #[.agg c,rD rG 0])/\LeafC w' D c)/\Below W.heap.size W w' from CK W Z);have aU:=Hd fun(W:World) (Z:Below w.heap.size w W)=>(show Calls prog 26 #[rC va ln vc,rC xa xn xc,rD rF i,rD rG 2] W fun e w'=>(∃c,e=rK (.tuple #[.agg c,rD rF 0])/\SparseR w' (.agg c) s)/\Below W.heap.size W w' from RK W Z);have bO:IntKind.i64.wrap (2*i)=2*i:=IntWalk.i64_in _ ⟨by omega,by omega⟩;have aS:=Hd fun(a':Option Addr) (q c':Nat) (b':Option Addr) (q' d':Nat) (W:World) (C:SparseR W (.agg #[rD rF lv,rD rF ow,rC a' q c',rC b' q' d']) s)=>(show Calls prog 29 #[rC a' q c',rD rF (2*i)] W fun e w'=>∃c,e=rK (.tuple #[.agg c,.bool (Ag s.op (2*i)).isSome])/\NodeC w' ((Ag s.op (2*i)).getD Aj) c/\Below W.heap.size W w' from by
     obtain⟨o,g,e,ho,hg⟩:=C;cases e;exact Cz _ s.op (2*i) W ho)
    have a6:=Hd fun(W:World) (n0 n1 n2 n3 n4 n5 n6 n7 n8 n9:Value) (hn:NodeC W ((Ag s.op (2*i)).getD Aj) #[n0,n1,n2,n3,n4,n5,n6,n7,n8,n9])=>(show LeafC W D #[n1,n2,n3,n4,n5,n6]from by
     obtain⟨c6,l1,l2,l3⟩:=hn.leaf;obtain⟨f0,f1,f2,f3,f4,f5,rfl⟩:∃f0 f1 f2 f3 f4 f5,c6=#[f0,f1,f2,f3,f4,f5]:=by
      obtain⟨a1,c1,a2,c2,a3,c3,a4,c4,a5,c5,e,-⟩:=l1;exact⟨_,_,_,_,_,_,e⟩
     have t0:=Option.some.inj (l3 0 _ rfl);have t1:=Option.some.inj (l3 1 _ rfl);have t2:=Option.some.inj (l3 2 _ rfl);have t3:=Option.some.inj (l3 3 _ rfl);have t4:=Option.some.inj (l3 4 _ rfl);have t5:=Option.some.inj (l3 5 _ rfl);subst t0 t1 t2 t3 t4 t5;rw[hD];unfold Zgb;rw[iP rfl];exact l1)
    obtain⟨FS,bC⟩:=eX ((Ag s.op (2*i)).isSome);obtain⟨FN,aX⟩:=eX ((Ag s.op (2*i)).getD Aj);rw[<-bC,<-aX]at aS;rw[<-aX]at a6;obtain⟨i2,aY⟩:=eX (2*i);rw[<-aY]at aS bO;have z:IntKind.i64.wrap (2*i)=i2:=(by rw[<-aY];exact bO);clear CK RK OK OW J hD bC aX aY;have d:=Hd (Below.refl w.heap.size w);go_in;go_wp2_with fail;refine(V.out w).mono ?_;rintro e w1 ⟨rfl,b⟩;have f:=Hd (d.out.trans (b.mono d.out.size));clear b;go_wp2_with fail;refine(aR.out w1 f.out).mono ?_;rintro e w2 ⟨⟨c,rfl,C⟩,b⟩;have G:=Hd (f.out.trans (b.mono f.out.size));have G2:=Hd C;clear C;clear b;obtain⟨y1,z1,y2,z2,y3,z3,y4,z4,y5,z5,rfl⟩:=a7.out _ _ G2.out;obtain⟨p,hp⟩:=eX w2.heap.size;obtain⟨w3,z⟩:=eX (w2.alloc (rJ #[rC y1 q1 z1,rC y2 q2 z2,rC y3 q3 z3,rD rG (sr:Nat),rC y4 q4 z4,rC y5 q5 z5] 44));have b:Below w2.heap.size w2 w3:=(by rw[z];exact bR.alloc lR _);have B:=Hd (G.out.trans (b.mono G.out.size));have G3:=Hd (G2.out.below b lR);have P3:=Hd (show Blk w3 p 44 #[rC y1 q1 z1,rC y2 q2 z2,rC y3 q3 z3,rD rG (sr:Nat),rC y4 q4 z4,rC y5 q5 z5] by rw[z,hp];exact Blk.new _ _ _);have aV:=Hd z;have aT:=Hd hp;clear b hp z;go_wp2_with fail;rw[<-aV.out,<-aT.out];refine(aU.out w3 B.out).mono ?_;rintro e w4 ⟨⟨c,rfl,C⟩,b⟩;have H:=Hd (B.out.trans (b.mono B.out.size));have P4:=Hd (P3.out.below b P3.out.lt);have G4:=Hd (G3.out.below b lR);have T4:=Hd C;clear C;clear b;obtain⟨a2,c2,b2,d2,e1⟩:=a9.out _ _ T4.out;cases e1;obtain⟨q,hq⟩:=eX w4.heap.size;obtain⟨w5,l⟩:=eX (w4.alloc (rJ #[rD rF lv,rD rF ow,rC a2 no c2,rC b2 ns d2] 25));have b:Below w4.heap.size w4 w5:=(by rw[l];exact bR.alloc lR _);have I:=Hd (H.out.trans (b.mono H.out.size));have K:=Hd (P4.out.below b P4.out.lt);have G5:=Hd (G4.out.below b lR);have T5:=Hd (T4.out.below b lR);have E:=Hd (show Blk w5 q 25 #[rD rF lv,rD rF ow,rC a2 no c2,rC b2 ns d2] by rw[l,hq];exact Blk.new _ _ _);have aW:=Hd l;have bA:=Hd hq;clear b hq;have m:=E.out.cell 0;have r:=E.out.cell 1;have t:=E.out.cell 2;have y:=E.out.cell 3;simp only[cR,cS,aP]at m r t y;rw[l]at m r t y;clear l;go_wp2_with fail;rw[<-aW.out,<-bA.out];clear m r t y;refine(aS.out _ _ _ _ _ _ w5 T5.out).mono ?_;rintro e w6 ⟨c,rfl,Y,b⟩;have X:=Hd (I.out.trans (b.mono I.out.size));have P6:=Hd (K.out.below b K.out.lt);have Q6:=Hd (E.out.below b E.out.lt);have G6:=Hd (G5.out.below b lR);have T6:=Hd (T5.out.below b lR);have a8:=Hd Y.oneL;obtain⟨n0,n1,n2,n3,n4,n5,n6,n7,n8,n9,rfl⟩:=Y.ten;have N6:=Hd Y;clear Y;clear b;obtain⟨x,hx⟩:=eX w6.heap.size;have bQ:=Hd hx;clear hx;go_wp2_with (refine Aa rfl 52 (.tmp 11) (.tmp 54) rfl w6.heap.size #[n0,n1,n2,n3,n4,n5,n6,n7,n8,n9] rfl rfl 52 #[rD rG 0,rC rI 0 0,rC rI 0 0,rC rI 0 0,rD rG 0,rC rI 0 0,rC rI 0 0,rC rI 0 0,rC rI 0 0,rC rI 0 0] (Blk.new _ _ _) (by kernel_rfl) rfl a8.out ?_);rintro w7 M bD bM aZ;have b:Below w6.heap.size w6 w7:=((Below.refl w6.heap.size w6).alloc lR (rJ #[rD rG 0,rC rI 0 0,rC rI 0 0,rC rI 0 0,rD rG 0,rC rI 0 0,rC rI 0 0,rC rI 0 0,rC rI 0 0,rC rI 0 0] 52)).trans (bD w6.heap.size lR);have a0:=Hd (X.out.trans (b.mono X.out.size));have P7:=Hd (P6.out.below b P6.out.lt);have Q7:=Hd (Q6.out.below b Q6.out.lt);have G7:=Hd (G6.out.below b lR);have T7:=Hd (T6.out.below b lR);have N7:=Hd (N6.out.below b lR);rw[<-bQ.out]at M|-;have F:=Hd M;clear M bD bM aZ b;have E7:=Hd (a6.out w7 _ _ _ _ _ _ _ _ _ _ N7.out);have aA:=P7.out.cell 0;have aB:=P7.out.cell 1;have aC:=P7.out.cell 2;have aD:=P7.out.cell 3;have aE:=P7.out.cell 4;have aF:=P7.out.cell 5;have aG:=F.out.cell 0;have aH:=F.out.cell 1;have aI:=F.out.cell 2;have aJ:=F.out.cell 3;have aK:=F.out.cell 4;have aL:=F.out.cell 5;have aM:=F.out.cell 6;have aN:=F.out.cell 7;have aO:=F.out.cell 8;have aQ:=F.out.cell 9;simp only[cR,cS,aP]at aA aB aC aD aE aF aG aH aI aJ aK aL aM aN aO aQ;go_wp2_with fail;refine(bB.out _ _ w7 G7.out E7.out).mono ?_;rintro e w8 ⟨rfl,b⟩;have bP:=Hd (a0.out.trans (b.mono a0.out.size));have P8:=Hd (P7.out.below b P7.out.lt);have Q8:=Hd (Q7.out.below b Q7.out.lt);have X8:=Hd (F.out.below b F.out.lt);have G8:=Hd (G7.out.below b lR);have T8:=Hd (T7.out.below b lR);have N8:=Hd (N7.out.below b lR);have E8:=Hd (E7.out.below b lR);clear b;clear aA aB aC aD aE aF aG aH aI aJ aK aL aM aN aO aQ;go_wp2_with fail;go_ret;exact⟨rfl,bP.out⟩
   ·have bV:((k:Int) !=0)=true:=(by rw[bne_iff_ne];omega);have aR:=Hd CK;have aU:=Hd RK;have eD:D=noLeafD:=(by rw[hD];unfold Zgb;rw[iN h0]);have bS:=Hd fun(c:Array Value) (W:World) (k1:LeafC W D c)=>bB.out c #[rC rI 0 0,rC rI 0 0,rC rI 0 0,rD rG 0,rC rI 0 0,rC rI 0 0] W k1 (by rw[eD];exact Zab W);clear CK RK OK OW J hD h0 eD;have d:=Hd (Below.refl w.heap.size w);go_in;go_wp2_with fail;refine(V.out w).mono ?_;rintro e w1 ⟨rfl,b⟩;have f:=Hd (d.out.trans (b.mono d.out.size));clear b;go_wp2_with fail;refine(aR.out w1 f.out).mono ?_;rintro e w2 ⟨⟨c,rfl,C⟩,b⟩;have G:=Hd (f.out.trans (b.mono f.out.size));have G2:=Hd C;clear C;clear b;obtain⟨y1,z1,y2,z2,y3,z3,y4,z4,y5,z5,rfl⟩:=a7.out _ _ G2.out;obtain⟨p,hp⟩:=eX w2.heap.size;obtain⟨w3,z⟩:=eX (w2.alloc (rJ #[rC y1 q1 z1,rC y2 q2 z2,rC y3 q3 z3,rD rG (sr:Nat),rC y4 q4 z4,rC y5 q5 z5] 44));have b:Below w2.heap.size w2 w3:=(by rw[z];exact bR.alloc lR _);have B:=Hd (G.out.trans (b.mono G.out.size));have G3:=Hd (G2.out.below b lR);have P3:=Hd (show Blk w3 p 44 #[rC y1 q1 z1,rC y2 q2 z2,rC y3 q3 z3,rD rG (sr:Nat),rC y4 q4 z4,rC y5 q5 z5] by rw[z,hp];exact Blk.new _ _ _);have aV:=Hd z;have aT:=Hd hp;clear b hp z;go_wp2_with fail;rw[<-aV.out,<-aT.out];refine(aU.out w3 B.out).mono ?_;rintro e w4 ⟨⟨c,rfl,C⟩,b⟩;have H:=Hd (B.out.trans (b.mono B.out.size));have P4:=Hd (P3.out.below b P3.out.lt);have G4:=Hd (G3.out.below b lR);have T4:=Hd C;clear C;clear b;obtain⟨a2,c2,b2,d2,e1⟩:=a9.out _ _ T4.out;cases e1;obtain⟨q,hq⟩:=eX w4.heap.size;obtain⟨w5,l⟩:=eX (w4.alloc (rJ #[rD rF lv,rD rF ow,rC a2 no c2,rC b2 ns d2] 25));have b:Below w4.heap.size w4 w5:=(by rw[l];exact bR.alloc lR _);have I:=Hd (H.out.trans (b.mono H.out.size));have K:=Hd (P4.out.below b P4.out.lt);have G5:=Hd (G4.out.below b lR);have T5:=Hd (T4.out.below b lR);have E:=Hd (show Blk w5 q 25 #[rD rF lv,rD rF ow,rC a2 no c2,rC b2 ns d2] by rw[l,hq];exact Blk.new _ _ _);have aW:=Hd l;have bA:=Hd hq;clear b hq;have O:=K.out.cell 0;have P:=K.out.cell 1;have Q:=K.out.cell 2;have S:=K.out.cell 3;have T:=K.out.cell 4;have U:=K.out.cell 5;have m:=E.out.cell 0;have r:=E.out.cell 1;have t:=E.out.cell 2;have y:=E.out.cell 3;simp only[cR,cS,aP]at O P Q S T U m r t y;rw[l]at O P Q S T U m r t y;clear l;go_wp2_with fail;rw[<-aW.out];clear O P Q S T U m r t y;refine(bS.out _ w5 G5.out).mono ?_;rintro e w6 ⟨rfl,b⟩;have X:=Hd (I.out.trans (b.mono I.out.size));have P6:=Hd (K.out.below b K.out.lt);have Q6:=Hd (E.out.below b E.out.lt);have G6:=Hd (G5.out.below b lR);have T6:=Hd (T5.out.below b lR);clear b;go_wp2_with fail;go_ret;exact⟨rfl,X.out⟩
  ·have g2:decide ((hx.length:Int)>100)=true:=dT (by omega);obtain⟨ln,j⟩:=eX L.length;obtain⟨xn,A⟩:=eX hx.length;rw[<-j,<-A];rw[<-j]at g1;rw[<-A]at g2;clear h hh j A hL N hl hl2;have d:=Hd (Below.refl w.heap.size w);go_in;go_wp2_with fail;refine(V.out w).mono ?_;rintro e w1 ⟨rfl,b⟩;have f:=Hd (d.out.trans (b.mono d.out.size));clear b;go_wp2_with fail;go_ret;exact⟨rfl,f.out⟩
 ·have g1:decide ((L.length:Int)>4000)=true:=dT (by omega);obtain⟨ln,j⟩:=eX L.length;obtain⟨xn,A⟩:=eX hx.length;rw[<-j,<-A];rw[<-j]at g1;clear h hh j A hL N hl;have d:=Hd (Below.refl w.heap.size w);go_in;go_wp2_with fail;refine(V.out w).mono ?_;rintro e w1 ⟨rfl,b⟩;have f:=Hd (d.out.trans (b.mono d.out.size));clear b;go_wp2_with fail;go_ret;exact⟨rfl,f.out⟩
