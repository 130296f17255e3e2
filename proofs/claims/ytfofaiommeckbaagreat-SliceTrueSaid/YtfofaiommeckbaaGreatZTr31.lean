import Derived.Test.YtfofaiommeckbaaGreatZTr29
import Derived.Test.YtfofaiommeckbaaGreatZTr30
open Go.Obj renaming cells -> rK
open Go.Ending renaming returned -> rM
open Go.Value renaming slice -> rD, int -> rE, pointer -> rF
open Go.IntKind renaming i64 -> rG, u8 -> rH
open Option renaming none -> rJ
open Go.Proofs.Tryz
open Nat renaming log2 -> aY, le_trans -> eN, pow_le_pow_right -> aZ, two_pow_pos -> fK, pow_succ -> aN, sub_zero -> dS, zero_add -> cX, zero_le -> aI
open List renaming getElem?_toArray -> bY, getElem?_cons_zero -> bZ, filterMap_cons -> dG, filterMap_nil -> dH, contains_cons -> dJ, contains_nil -> dK, mem_singleton -> gA, mem_append -> dZ, mem_cons -> aB, length_map -> eE, length_append -> aD, length_cons -> dB, range -> aC, getElem?_eq_none -> aH, map_map -> iW, mem_map -> dY, getD_eq_getElem?_getD -> aE, getElem?_eq_getElem -> aF, getElem?_cons_succ -> cA
open Bool renaming or_false -> dO, or_true -> dP, and_eq_true -> cK
open Int renaming toNat_natCast -> cD
set_option linter.unusedVariables false
set_option maxRecDepth 100000
set_option maxHeartbeats 40000000
namespace Go.Proofs.YtfofaiommeckbaaGreat
open Go.RowKit Go.Maps WalkM ShaM WireM
def Lx (r:Nat×SparseD)(hx:List Nat)(i:Int):Nat×SparseD:=
 if r.1≠0 then(r.1,Iq)else if r.2.own≠i then(7,Iq)else if Fh r.2≠hx then(17,Iq)else(0,r.2)
theorem Zgx {only:Bool} {mk:Nat} {L hx:List Nat} {i:Int}(a:∀y∈L,y<256)(b:BL mk L)(h:(Lx (ofS only mk L) hx i).1=0):ofS only mk L=(0,(Lx (ofS only mk L) hx i).2)/\(ofS only mk L).2.own=i/\Fh (ofS only mk L).2=hx:=by
 unfold Lx at h|-;generalize ofS only mk L=R at h|-;obtain⟨e,s⟩:=R;simp only at h|-
 by_cases c0:e=0
 ·rw[iN (by omega)]at h|-
  by_cases c1:s.own=i
  ·rw[iN (by omega)]at h|-
   by_cases c2:Fh s=hx
   ·rw[iN (by simp[c2])];exact⟨by rw[c0],c1,c2⟩
   ·rw[iP c2]at h;cases h
  ·rw[iP c1]at h;cases h
 ·rw[iP c0]at h;exact absurd h c0
theorem Zj3 {r:Nat×SparseD} {hx:List Nat} {i:Int}(h:(Lx r hx i).1≠0):(Lx r hx i).2=Iq:=by
 unfold Lx at h|-
 split
 ·rfl
 ·split
  ·rfl
  ·split
   ·rfl
   ·rename_i c0 c1 c2
    rw[iN c0,iN c1,iN c2]at h;exact absurd rfl h
theorem Zl8 (v hv:Value)(L hx:List Nat)(i:Int)(mk:Nat)(only:Bool)(w:World)(h:Rd w v (bvs L))(hh:Rd w hv (bvs hx))(hl:BL mk L)(hL:∀n∈L,n<256)(a0:∀n∈hx,n<256)(aW:((mk:Int)==2)=only)(hm:mk<256):
  Calls prog 72 #[v,hv,rE rG i,rE rG (mk:Nat)] w (Zju (Lx (ofS only mk L) hx i) w):=by
 have RD:=fun(W:World) (hw:Below w.heap.size w W)=>Zar v L mk only W (h.below hw lR) hl hL aW hm;have GO:=fun hq=>Sp (only:=only) (mk:=mk) hL hl hq;rw[Sl]at RD GO;obtain⟨R,hR⟩:=eX (ofS only mk L);rw[<-hR]at RD GO|-;obtain⟨er,s⟩:=R;simp only at RD GO;have BE:=fun(u:Value) (C:List Nat) (hy:∀n∈C,n<256) (W:World) (hw:Below w.heap.size w W) (hu:Rd W u (bvs C))=>Eu u hv C hx W hu (hh.below hw lR) hy a0;have a8:=Hd RD;have a4:=Hd GO;have aM:=Hd BE;obtain⟨va,vn,vc,rfl⟩:∃a n c,v=.slice a n c:=(by obtain⟨a,c,e,-⟩:=h;exact⟨_,_,_,e⟩);obtain⟨aG,aI,aH,rfl⟩:∃a n c,hv=.slice a n c:=(by obtain⟨a,c,e,-⟩:=hh;exact⟨_,_,_,e⟩);obtain⟨S,hS⟩:=eX (Zju (Lx (er,s) hx i) w);rw[<-hS];have V:=Hd (show∀(e:Ending) (w':World) (k:Nat),e=rM (.tuple #[.agg #[rE rG 0,rE rG 0,.map none,.map none],rE rH (k:Nat)])->k≠0->Lx (er,s) hx i=(k,Iq)->Below w.heap.size w w'->S e w' from by
  rintro e w' k rfl D h1 h2;rw[hS,h1];exact⟨h2,by rw[iN D]⟩)
 have aS:=Hd (show∀(e:Ending) (w':World) (ob sb p:Nat),e=rM (.tuple #[.agg #[rE rG s.leaves,rE rG s.own,.map (some ob),.map (some sb)],rE rH 0])->Lx (er,s) hx i=(0,s)->w.heap.size<=ob->w.heap.size<=sb->ob≠sb->ob<p->sb<p->PcS w' ob sb p s.op.length s.sh.length (Aj s.op) (Ay s.sh)->Below w.heap.size w w'->S e w' from by
  rintro e w' ob sb p rfl h1 k1 k2 k3 k4 k5 k6 h2;rw[hS,h1];exact⟨h2,by rw[iP rfl];exact⟨ob,sb,p,rfl,k1,k2,k3,k4,k5,k6⟩⟩)
 obtain⟨g,hg⟩:=eX w.heap.size;have U:=Hd hg;have G0:=Hd (show Blk (w.alloc (rK #[rE rG 0,rE rG 0,.map none,.map none] 101)) g 101 #[rE rG 0,rE rG 0,.map none,.map none] by rw[hg];exact Blk.new _ _ _);have T:=Hd ((Below.refl w.heap.size w).alloc lR (rK #[rE rG 0,rE rG 0,.map none,.map none] 101));clear RD GO BE hR hg h hh hL a0 hl aW hm hS;go_in;go_wp2_with fail;refine(a8.out _ T.out).mono ?_;rintro e w1 ⟨hb,hr⟩;have A:=Hd (T.out.trans (hb.mono T.out.size));have G1:=Hd (G0.out.below hb G0.out.lt);rw[<-U.out];clear hb
 by_cases D:er=0
 ·rw[iP D]at hr;obtain⟨ob,sb,p,rfl,k1,k2,k3,k4,k5,aV⟩:=hr;have o:=Hd (show g<ob/\g<sb/\ob≠sb/\ob<p/\sb<p from by
   have:=G0.out.lt;exact⟨by omega,by omega,k3,k4,k5⟩)
  have bF:=Hd D;subst D;obtain⟨aD,aE⟩:=a4.out rfl;obtain⟨lv,I⟩:=eX s.leaves;obtain⟨ow,how⟩:=eX s.own;have X:=Hd how;rw[<-I,<-how];rw[<-I,<-how]at aS;have F:=Dy aE aD.ok aD.small;have N:=Of aE;obtain⟨x,aJ⟩:=eX (2^aY s.leaves.toNat-1);have a9:=Hd fun(W:World)=>(show Calls prog 61 #[rE rG lv] W fun e w'=>e=rM (rE rG (x:Nat))/\W=w' from by
   obtain⟨hP,d,i,hd,h1,h2,h3,h4,h5⟩:=F;have bE:2^d<=65536:=eN (aZ (by omega) hd) (by decide);have:=Jf ((2^d:Nat):Int) W (by omega) (by omega);rw[Oe hd]at this;rw[aJ,h4,I,h1];exact this)
  have aR:=Hd fun(ob sb p:Nat) (W:World) (hp:PcS W ob sb p s.op.length s.sh.length (Aj s.op) (Ay s.sh))=>(show Calls prog 90 #[.agg #[rE rG lv,rE rG ow,.map (some ob),.map (some sb)],rE rG (x:Nat)] W fun e w'=>∃v',e=rM v'/\Rd w' v' (bvs (Fh s))/\Below W.heap.size W w' from by
   obtain⟨hP,d,i,hd,h1,h2,h3,h4,h5⟩:=F;have bE:2^d<=65536:=eN (aZ (by omega) hd) (by decide);have bI:=fK d;obtain⟨G,hm,hg⟩:=hp.pieceN;obtain⟨G',bC,bB⟩:=hp.pieceH;unfold Fh;rw[aJ,h4];exact Ux _ _ hP N d (2^d-1) lv ow ob sb _ _ G G' W (Bs d) (by omega) hm hg bC bB)
  have aK:∀n∈Fh s,n<256:=(by unfold Fh;exact Sf F.1);obtain⟨C,aA⟩:=eX (Fh s);rw[<-aA]at aR aK;have aT:=Hd aA;obtain⟨bq,aB⟩:=eX (decide (C=hx));have a3:=Hd fun(u:Value) (W:World) (hw:Below w.heap.size w W) (hu:Rd W u (bvs C))=>(show Calls prog 96 #[u,rD aG aI aH] W fun e w'=>e=rM (.bool bq)/\w'=W from by rw[aB];exact aM.out u C aK W hw hu);have aN:=Hd aB;have aP:=Hd aV;clear I how aV aD aE F N aJ aK aA aB k1 k2 k3 k4 k5;obtain⟨q,hq⟩:=eX w1.heap.size;have a7:=Hd hq;obtain⟨w3,J⟩:=eX (w1.alloc (rK #[rE rG lv,rE rG ow,.map (some ob),.map (some sb)] 101));have H:Below w1.heap.size w1 w3:=(by rw[J];exact bR.alloc lR _);have B:=Hd (show Blk w3 q 101 #[rE rG lv,rE rG ow,.map (some ob),.map (some sb)] by rw[J,hq];exact Blk.new _ _ _);have r:=Hd (A.out.trans (H.mono A.out.size));have G3:=Hd (G1.out.below H G1.out.lt);have M:=Hd (aP.out.below H);have Y:=Hd J;clear H hq J
  by_cases hoi:ow=i
  ·have bD:((ow:Int) !=i)=false:=(by rw[bne_eq_false_iff_eq];exact hoi);have aO:=Hd hoi;clear hoi;go_wp2_with fail;rw[<-Y.out,<-a7.out];refine Cx [eF (.agg #[rE rG lv,rE rG ow,.map (some ob),.map (some sb)]),eF (rF (some ⟨q,0,rJ⟩)),eF (rE rG lv),eF (rE rG (x:Nat)),fun u w'=>Rd w' u (bvs C),eF (rD aG aI aH),eF (.bool bq),eF (.bool (!bq)),eF (.bool (!bq))] (by kernel_rfl) (by kernel_rfl) (by kernel_rfl)
    (kE (kE (kE (kE (bX (fun v x y h hb=>Rd.below h hb lR) (kE (kE (kE (kE Ae))))))))) ?_ ?_
   ·refine gB ?_ (gQ ?_ (gQ ?_ (gB ?_ (gB ?_ (gQ ?_ (gB ?_ (gQ ?_ (gQ ?_ .nil))))))));all_goals
     intro a wx aC ha O;refine⟨rfl,?_⟩;intro K E;try have aU:a.tmps[10]?.getD undef=rF (some ⟨q,0,rJ⟩):=ha 10 (by kernel_rfl)
     try have bG:a.tmps[1]?.getD undef=.slice aG aI aH:=ha 1 (by kernel_rfl)
     have aX:=B.out.below aC B.out.lt;try(have a1:=aX.cell 0;simp only[bY,bZ]at a1)
    ·exact wp_load_row 101 (.tmp 10) rfl _ (evs aU) _ _ (0,0) _ aX underlying101 rfl (by kernel_rfl) (E _ _ rfl bR)
    ·go_simp;exact E _ rfl
    ·have z:=eqn O.1
     go_simp;exact E _ rfl
    ·have z:=eqn O.1;go_simp;refine(a9.out wx).mono ?_;rintro e w2 ⟨rfl,rfl⟩;exact E _ _ rfl bR
    ·have z:=eqn O.1;have a2:=eqn O.2.1;go_simp;refine(aR.out ob sb p wx (M.out.below aC)).mono ?_;rintro e w7 ⟨u,rfl,hu,bA⟩;exact E _ _ hu bA
    ·go_simp;exact E _ rfl
    ·have o0:Rd wx (a.tmps[34]?.getD undef) (bvs C):=O.1;have a2:=eqn O.2.1;obtain⟨v1,aF⟩:=eX (a.tmps[34]?.getD undef);rw[<-aF]at o0;have e1:=aF.symm;clear aF;go_simp;refine(a3.out v1 wx (r.out.trans (aC.mono r.out.size)) o0).mono ?_;rintro e w7 ⟨rfl,rfl⟩;exact E _ _ rfl bR
    ·have z:=eqn O.1
     go_simp;exact E _ rfl
    ·have z:=eqn O.1
     go_simp;exact E _ rfl
   ·rintro f w4 t P;have Sr:f 29=.bool (!bq):=P.2.2.2.2.2.2.2.2.1;clear P;simp only[Ak,At,Ei,dG,dH,dJ,dK,Nat.reduceBEq,Nat.reduceAdd,dO,dP,cond_true,cond_false];rw[Sr];clear Sr;have aL:=Hd (r.out.trans (t.mono r.out.size));have G4:=Hd (G3.out.below t G3.out.lt);have a6:=Hd (B.out.below t B.out.lt);have aQ:=Hd (M.out.below t);clear t;cases bq with
    |true=>
     have Z:=Hd (show Lx (0,s) hx i=(0,s)from by unfold Lx;simp only;rw[iN (by simp),iN (by rw[<-X.out,aO.out];simp),iN (by rw[<-aT.out,oD aN.out.symm];simp)]);go_wp2_with (first
      |(refine As rfl 101 (.tmp 10) rfl q rfl 101 #[rE rG lv,rE rG ow,.map (some ob),.map (some sb)] (0,0) _ a6.out underlying101 rfl (by kernel_rfl) ?_)
      |(refine Aa rfl 101 (.tmp 8) (.tmp 39) rfl g #[rE rG lv,rE rG ow,.map (some ob),.map (some sb)] rfl rfl 101 #[rE rG 0,rE rG 0,.map none,.map none] G4.out (by kernel_rfl) rfl rfl ?_))
     rintro w9 b m l j;have P9:=Hd b;have Q:=Hd (aL.out.trans (m w.heap.size (by rw[U.out];exact lR)));have S9:=Hd (aQ.out.only (Only.storeQ m l) (by have:=o.out;omega) (by have:=o.out;omega) (by have:=o.out;omega));clear b m l j;go_wp2_with fail;refine bodyPost_ret (v:=.tuple #[.agg #[rE rG lv,rE rG ow,.map (some ob),.map (some sb)],rE rH 0]) (Ad results72 _ _ g _ _ _ rfl P9.out underlying101 rfl (by kernel_rfl)) rfl ?_;exact aS.out _ _ ob sb p rfl Z.out (by have:=o.out;have:=U.out;omega) (by have:=o.out;have:=U.out;omega) o.out.2.2.1 o.out.2.2.2.1 o.out.2.2.2.2 S9.out Q.out
    |false=>
     have Z:=Hd (show Lx (0,s) hx i=(17,Iq)from by unfold Lx;simp only;rw[iN (by simp),iN (by rw[<-X.out,aO.out];simp),iP (by rw[<-aT.out];exact of_decide_eq_false aN.out.symm)]);go_wp2_with (refine Aa rfl 101 (.tmp 8) (.tmp 38) rfl g #[rE rG 0,rE rG 0,.map none,.map none] rfl rfl 101 #[rE rG 0,rE rG 0,.map none,.map none] G4.out (by kernel_rfl) rfl rfl ?_);rintro w9 b m l j;have P9:=Hd b;have Q:=Hd (aL.out.trans (m w.heap.size (by rw[U.out];exact lR)));clear b m l j;go_wp2_with fail;refine bodyPost_ret (v:=.tuple #[.agg #[rE rG 0,rE rG 0,.map none,.map none],rE rH 17]) (Ad results72 _ _ g _ _ _ rfl P9.out underlying101 rfl (by kernel_rfl)) rfl ?_;exact V.out _ _ 17 rfl (by decide) Z.out Q.out
  ·have bD:((ow:Int) !=i)=true:=(by rw[bne_iff_ne];exact hoi);have Z:=Hd (show Lx (0,s) hx i=(7,Iq)from by unfold Lx;simp only;rw[iN (by simp),iP (by rw[<-X.out];exact hoi)]);clear hoi;go_wp2_with (refine Aa rfl 101 (.tmp 8) (.tmp 28) rfl g #[rE rG 0,rE rG 0,.map none,.map none] rfl rfl 101 #[rE rG 0,rE rG 0,.map none,.map none] (by rw[<-Y.out];exact G3.out) (by kernel_rfl) rfl rfl ?_);rintro w9 b m l j;have P9:=Hd b;have Q:=Hd (r.out.trans (by rw[Y.out];exact m w.heap.size (by rw[U.out];exact lR)));clear b m l j;go_wp2_with fail;refine bodyPost_ret (v:=.tuple #[.agg #[rE rG 0,rE rG 0,.map none,.map none],rE rH 7]) (Ad results72 _ _ g _ _ _ rfl P9.out underlying101 rfl (by kernel_rfl)) rfl ?_;exact V.out _ _ 7 rfl (by decide) Z.out Q.out
 ·rw[iN D]at hr;have bH:((er:Int) !=0)=true:=(by rw[bne_iff_ne];omega);have a5:=Hd D;have Z:=Hd (show Lx (er,s) hx i=(er,Iq)from by unfold Lx;rw[iP D]);obtain rfl:=hr;clear D;go_wp2_with (refine Aa rfl 101 (.tmp 8) (.tmp 21) rfl g #[rE rG 0,rE rG 0,.map none,.map none] rfl rfl 101 #[rE rG 0,rE rG 0,.map none,.map none] (G1.out.alloc _) (by kernel_rfl) rfl rfl ?_);rintro w9 b m l j;have P9:=Hd b;have Q:=Hd ((A.out.alloc A.out.size _).trans (m w.heap.size (by rw[U.out];exact lR)));clear b m l j;go_wp2_with fail;refine bodyPost_ret (v:=.tuple #[.agg #[rE rG 0,rE rG 0,.map none,.map none],rE rH (er:Nat)]) (Ad results72 _ _ g _ _ _ rfl P9.out underlying101 rfl (by kernel_rfl)) rfl ?_;exact V.out _ _ er rfl a5.out Z.out Q.out
theorem Zay {V:Nat->Nat->List Int->List Int×List Int×Bool} {i c:Nat} {only:Bool} {d:NodeD} {late:List Int}(h:Bu (2*(i:Int)) (c:Int)=true):Ds V i only c 0 d late=V c 0 []:=by
 unfold Ds;rw[iP ⟨rfl,h⟩]
theorem Zl9 {F:Nat->Option NodeD} {i:Nat} {only:Bool}:∀(k x:Nat) (late:List Int),IsLev x k->x+2^k<=131071->(Bf F i only k x 0 late).2.2=true->inR k x (2*i)->((2*i:Nat):Int)∈(Bf F i only k x 0 late).1:=by
 intro k
 induction k with
 |zero=>
  intro x late l hx h a;cases e:F x with
  |none=>rw[Av e]at h;cases h
  |some d=>
   rw[Cd e,gA];unfold inR at a;simp at a;omega
 |succ k ih=>
  intro x late l hx h a;have r:=fK k;have e2:2^(k+1)=2*2^k:=(by rw[aN];omega);cases e:F x with
  |none=>rw[Av e]at h;cases h
  |some d=>
   obtain⟨-,-,f,g,s⟩:=kids_lev (by omega) l;have p:x%2=1:=Fn l;rw[Br e]at h|-;unfold Ky at h|-;simp only[cK]at h;simp only[dZ,gA];have o:∀c,IsLev c k->c<=131070->inR k c (2*i)->Bu (2*(i:Int)) (c:Int)=true:=fun c q j a=>by
    have n:2*i<=131070:=(by unfold inR at a;have:=fK (k+1);unfold inR at*;omega);have:=(Rm j n q).2 a
    rwa [show((2*i:Nat):Int)=2*(i:Int) by omega]at this
   rcases(Az (by omega)).1 a with e3|a|a
   ·omega
   ·have m:=o (x-2^k) f (by omega) a;have b:=h.1;rw[Zay m]at b|-;exact .inl (.inl (ih _ _ f (by omega) b a))
   ·have m:=o (x+2^k) g (by omega) a;have b:=h.2;rw[Zay m]at b|-;exact .inr (ih _ _ g (by omega) b a)
theorem Zm9 {F:Int->Option NodeD} {H:Int->Option (List Nat)}(h:PieceOk F H):∀k x,∀y∈putS F H k x,y<256:=by
 intro k
 induction k with
 |zero=>
  intro x y a;cases e:F (x:Int)with
  |none=>
   rw[Gn e,aB]at a;rcases a with rfl|a
   ·omega
   ·exact Se h x y a
  |some d=>
   rw[Kf e,aB]at a;rcases a with rfl|a
   ·omega
   ·exact Mn (h.ok _ _ e).1 (h.ok _ _ e).2.1 y a
 |succ k ih=>
  intro x y a;cases e:F (x:Int)with
  |none=>
   rw[Gn e,aB]at a;rcases a with rfl|a
   ·omega
   ·exact Se h x y a
  |some d=>
   rw[Kg e]at a;simp only[dZ,aB]at a;rcases a with(rfl|a)|a|a
   ·omega
   ·exact Mn (h.ok _ _ e).1 (h.ok _ _ e).2.1 y a
   ·exact ih _ y a
   ·exact ih _ y a
structure TakenS (t:List NodeD) (s:SparseD) (m mk:Nat) (only:Bool):Prop where
 ok:SparseOk s
 small:Bx s=true
 right:Ah s only=true
 piece:PieceOk (Aj s.op) (Ay s.sh)
 bl:BL mk (bytesOf s mk)
 lt:∀y∈bytesOf s mk,y<256
 hash:Fh s=Dg (nd t) (t.length/2)
 of:ofS only mk (bytesOf s mk)=(0,s)
 chk:Lx (ofS only mk (bytesOf s mk)) (Dg (nd t) (t.length/2)) (m:Int)=(0,s)
 leaf:Aj s.op (2*(m:Int))=some (nd t (2*m))
theorem Zgy {t:List NodeD} (s:Bc t=true) (C:TreeOk t) (R:Bm t=true) {z m d mk:Nat} {only:Bool} {OL SL:List Nat} (n:t.length=2*z+1) (J:d<=16) (w:z+1=2^d) (T:m<z+1) (hk:(nd t (2*m)).kind=1) (B:mk<256)
  (r:(Bf (atT t) m only d (2^d-1) 0 []).1=OL.map (fun m:Nat=>(m:Int))) (E:(Bf (atT t) m only d (2^d-1) 0 []).2.1=SL.map (fun m:Nat=>(m:Int))) (H:OL.Pairwise (· < ·)) (I:SL.Pairwise (· < ·))
  (L:∀x∈OL,x<t.length) (N:∀x∈SL,x<t.length):TakenS t (Fr t (2^d) m OL SL) m mk only:=by
 have f:=fK d;have Q:2^d<=65536:=eN (aZ (by omega) J) (by decide);have K:=Bb s;obtain⟨G,f2,f3,O⟩:=Sm (t:=t) (M:=2^d) (m:=m) H I;have j:(Bf (atT t) m only d (2^d-1) 0 []).2.2=true:=Sj d (2^d-1) 0 [] (Bs d) (by omega) fun y c=>by
  unfold inR at c;unfold atT;rw[iP (by omega)];rfl
 have o:2*m∈OL:=by
  have:=Zl9 (F:=atT t) (only:=only) d (2^d-1) [] (Bs d) (by omega) j (by unfold inR;omega);rw[r]at this;obtain⟨x,hx,e⟩:=List.mem_map.1 this
  rwa [show 2*m=x by omega]
 have D:2^d-1∈OL:=by
  have:=(Uo (F:=atT t) (i:=m) (only:=only) d (2^d-1) 0 [] (Bs d) (by omega) j).1;rw[r]at this;obtain⟨x,hx,e⟩:=List.mem_map.1 this
  rwa [show 2^d-1=x by omega]
 have S:=Mt (atT t) m only d (2^d-1) 0 [];rw[r,E,eE,eE]at S;have a:=Zgq (only:=only) s R n J w (by omega) hk r E H I L N o;have h:SparseOk (Fr t (2^d) m OL SL):=by
  refine⟨by unfold inI Fr;simp only;omega,by unfold inI Fr;simp only;omega,fun p f=> ?_,fun p f=> ?_⟩
  ·obtain⟨x,hx,rfl⟩:=List.mem_map.1 f;have:=L x hx;exact⟨by unfold inI;simp only;omega,C.nd x⟩
  ·obtain⟨x,hx,rfl⟩:=List.mem_map.1 f;have:=N x hx;exact⟨by unfold inI;simp only;omega,Mx _ _⟩
 have k:Bx (Fr t (2^d) m OL SL)=true:=by
  unfold Bx;simp only[cK,decide_eq_true_eq];refine⟨⟨⟨?_,?_⟩,List.all_eq_true.2 fun p f=> ?_⟩,List.all_eq_true.2 fun p f=> ?_⟩
  ·show(OL.map _).length<=5000;rw[eE];omega
  ·show(SL.map _).length<=5000;rw[eE];omega
  ·obtain⟨x,hx,rfl⟩:=List.mem_map.1 f;exact Ct s x
  ·obtain⟨x,hx,rfl⟩:=List.mem_map.1 f;exact dT (by rw[Kn];omega)
 have b:∀p∈(Fr t (2^d) m OL SL).op,p.2.par.late.length<=200:=fun p f=>by
  obtain⟨x,hx,rfl⟩:=List.mem_map.1 f;have:=oD (Ee s x);show(nd t x).par.late.length<=200;omega
 have u:=(Dy a h k).1;have g:aY (Fr t (2^d) m OL SL).leaves.toNat=d:=by
  show aY (((2^d:Nat):Int)).toNat=d;rw[cD,Nat.log2_two_pow]
 have P:(Fr t (2^d) m OL SL).own.toNat=m:=cD m;have v:(bytesOf (Fr t (2^d) m OL SL) mk).length<=1000000:=by
  unfold bytesOf Qh;rw[g];have:=Zv u d (2^d-1);simp only[aD,beN_len,dB,List.length_nil];omega
 have A:∀y∈bytesOf (Fr t (2^d) m OL SL) mk,y<256:=by
  intro y c;unfold bytesOf Qh at c;simp only[dZ,aB,List.not_mem_nil,or_false]at c;rcases c with((rfl|c)|c)|c
  ·exact B
  ·exact beN_lt _ _ y c
  ·exact beN_lt _ _ y c
  ·exact Zm9 u _ _ y c
 have q:=(Zap a b mk (by omega)).1;have l:Fh (Fr t (2^d) m OL SL)=Dg (nd t) (t.length/2):=by
  unfold Fh;rw[g,Zgr f3 O (Of a) d (2^d-1) (Bs d) (by omega) (.inl (by rw[G _ D];rfl))];have e:t.length/2=2^d-1:=(by omega);rw[e];unfold Dg;rw[lev_eq (by omega) (Bs d)]
 refine⟨h,k,a,u,Zjy a k b mk v,A,l,q,?_,?_⟩
 ·unfold Lx;rw[q];simp only[ne_eq,not_true_eq_false,if_false];rw[iN (by show¬¬((m:Nat):Int)=(m:Int);simp),iN (by rw[l];simp)]
 ·have:=G _ o
  rwa [show((2*m:Nat):Int)=2*(m:Int) by omega]at this
theorem Vj {V:Nat->Nat->List Int->List Int×List Int×Bool} {i c:Nat} {only:Bool} {d:NodeD} {late:List Int}(h:d.kind=0):Ds V i only c 1 d late=V c 1 []:=by
 unfold Ds;rw[iN (by omega),iN (by omega),iP (.inr ⟨rfl,h⟩)]
theorem Zj4 {V:Nat->Nat->List Int->List Int×List Int×Bool} {i c:Nat} {d:NodeD} {late:List Int}:Ds V i false c 0 d late=V c 0 []\/Ds V i false c 0 d late=V c 1 []:=by
 unfold Ds
 by_cases h:(0:Nat)=0/\Bu (2*(i:Int)) (c:Int)=true
 ·rw[iP h];exact .inl rfl
 ·rw[iN h,iN (by simp),iP (.inl rfl)];exact .inr rfl
theorem Zkm {t:List NodeD} {x:Nat} {d:NodeD}(e:atT t x=some d):d=nd t x:=by
 unfold atT at e
 split at e
 ·exact(Option.some.inj e).symm
 ·cases e
theorem Vk {FI:Int->Option NodeD} {t:List NodeD} {i:Nat} {only:Bool}:∀(k x:Nat) (late:List Int),(Bf (atT t) i only k x 1 late).2.2=true->(∀y:Nat,(y:Int)∈(Bf (atT t) i only k x 1 late).1->FI (y:Int)=some (nd t y))->Pc FI k x=some (Ps (nd t) k x):=by
 intro k
 induction k with
 |zero=>
  intro x late h a;cases e:atT t x with
  |none=>rw[Av e]at h;cases h
  |some d=>
   rw[Cd e]at a;have hx:=a x (by simp)
   by_cases hk:(nd t x).kind=0
   ·rw[Oh hx hk,Jp hk]
   ·rw[Hy hx hk,Ef hk]
 |succ k ih=>
  intro x late h a;cases e:atT t x with
  |none=>rw[Av e]at h;cases h
  |some d=>
   obtain rfl:=Zkm e;rw[Br e]at h a;unfold Ky at h a;simp only[cK]at h;have hx:=a x (by simp)
   by_cases hk:(nd t x).kind=0
   ·rw[Vj hk,Vj hk]at h a;rw[Oi hx hk,Jq hk,ih _ _ h.1 fun y b=>a y (by simp only[dZ];exact .inl (.inl b)),ih _ _ h.2 fun y b=>a y (by simp only[dZ];exact .inr b)]
    rfl
   ·rw[Hy hx hk,Ef hk]
theorem Zma {FI:Int->Option NodeD} {t:List NodeD} {i:Nat}:∀(k x:Nat) (late:List Int),(Bf (atT t) i false k x 0 late).2.2=true->(∀y:Nat,(y:Int)∈(Bf (atT t) i false k x 0 late).1->FI (y:Int)=some (nd t y))->Pc FI k x=some (Ps (nd t) k x):=by
 intro k
 induction k with
 |zero=>
  intro x late h a;cases e:atT t x with
  |none=>rw[Av e]at h;cases h
  |some d=>
   rw[Cd e]at a;have hx:=a x (by simp)
   by_cases hk:(nd t x).kind=0
   ·rw[Oh hx hk,Jp hk]
   ·rw[Hy hx hk,Ef hk]
 |succ k ih=>
  intro x late h a;cases e:atT t x with
  |none=>rw[Av e]at h;cases h
  |some d=>
   obtain rfl:=Zkm e;rw[Br e]at h a;unfold Ky at h a;simp only[cK]at h;have hx:=a x (by simp);have b:∀c late,(Ds (Bf (atT t) i false k) i false c 0 (nd t x) late).2.2=true->(∀y:Nat,(y:Int)∈(Ds (Bf (atT t) i false k) i false c 0 (nd t x) late).1->FI (y:Int)=some (nd t y))->Pc FI k c=some (Ps (nd t) k c):=by
    intro c late f g2;rcases Zj4 (V:=Bf (atT t) i false k) (i:=i) (c:=c) (d:=nd t x) (late:=late)with g|g
    ·rw[g]at f g2;exact ih _ _ f g2
    ·rw[g]at f g2;exact Vk _ _ _ f g2
   by_cases hk:(nd t x).kind=0
   ·rw[Oi hx hk,Jq hk,b _ _ h.1 fun y j=>a y (by simp only[dZ];exact .inl (.inl j)),b _ _ h.2 fun y j=>a y (by simp only[dZ];exact .inr j)]
    rfl
   ·rw[Hy hx hk,Ef hk]
theorem Zaz {F:Nat->Option NodeD} {d i j:Nat}(g:d<=16)(k:2*i+1<2^(d+1))(q:j<d) {late:List Int}(h:(Bf F i false (j+1) (anc (2*i) (j+1)) 0 late).2.2=true):
  ((Bf F i false j (anc (2*i) j) 0 []).2.2=true/\∀y∈(Bf F i false j (anc (2*i) j) 0 []).1,y∈(Bf F i false (j+1) (anc (2*i) (j+1)) 0 late).1)/\((Bf F i false j (Jy (2*i) j) 1 []).2.2=true/\∀y∈(Bf F i false j (Jy (2*i) j) 1 []).1,y∈(Bf F i false (j+1) (anc (2*i) (j+1)) 0 late).1):=by
 obtain⟨s,p⟩:=Oa (2*i) j;have ls:=Ob (z:=2*i) g k q;have r:=anc_lev (2*i) j;have ba:=Zix g k (j:=j) (by omega);cases e:F (anc (2*i) (j+1))with
 |none=>rw[Av e]at h;cases h
 |some D=>
  rw[Br e]at h|-;unfold Ky at h|-;simp only[cK]at h;have m:Jy (2*i) j≠anc (2*i) j:=by have:=fK j;rcases p with⟨a,b⟩|⟨a,b⟩<;>omega
  have n:∀c,Ds (Bf F i false j) i false (anc (2*i) j) 0 D c=Bf F i false j (anc (2*i) j) 0 []:=fun c=>(by rw[Jz g k r ba,iP rfl]);have o:∀c,Ds (Bf F i false j) i false (Jy (2*i) j) 0 D c=Bf F i false j (Jy (2*i) j) 1 []:=fun c=>(by rw[Jz g k ls.1 ls.2,iN m,iN (by simp)]);rcases p with⟨l,h2⟩|⟨l,h2⟩
  ·rw[<-l,<-h2,n,o]at h|-;exact⟨⟨h.1,fun y f=>by simp only[dZ];exact .inl (.inl f)⟩,h.2,fun y f=>by simp only[dZ];exact .inr f⟩
  ·rw[<-l,<-h2,n,o]at h|-;exact⟨⟨h.2,fun y f=>by simp only[dZ];exact .inr f⟩,h.1,fun y f=>by simp only[dZ];exact .inl (.inl f)⟩
theorem Zgz {F:Nat->Option NodeD} {d i:Nat}(e:d<=16)(f:2*i+1<2^(d+1))(h:(Bf F i false d (2^d-1) 0 []).2.2=true):∀n j,j+n=d->
  (Bf F i false j (anc (2*i) j) 0 []).2.2=true/\∀y∈(Bf F i false j (anc (2*i) j) 0 []).1,y∈(Bf F i false d (2^d-1) 0 []).1:=by
 intro n
 induction n with
 |zero=>
  intro j g;obtain rfl:j=d:=(by omega);rw[anc_root (by omega)];exact⟨h,fun y a=>a⟩
 |succ n ih=>
  intro j g;obtain⟨c,h2⟩:=ih (j+1) (by omega);obtain⟨⟨b,g2⟩,-⟩:=Zaz e f (by omega) c;exact⟨b,fun y a=>h2 y (g2 y a)⟩
def Yc (m d:Nat):List Nat:=2*m::((aC d).map (fun j=>anc (2*m) (j+1))++(aC d).map (Jy (2*m)))
theorem Zg0 {m d:Nat}(a:d<=16)(c:2*m+1<2^(d+1)):Re ((2*m:Nat):Int) ((2^d:Nat):Int)=(aC d).map (fun j=>anc (2*m) (j+1)):=by
 have b:lev (2*m)=0:=lev_eq (by have:2^(d+1)<=2^17:=aZ (by omega) (by omega);omega) (by unfold IsLev;simp);rw[Mj a c,b,dS];apply List.ext_getElem?;intro j
 by_cases hj:j<d
 ·rw[Zkb _ _ _ _ hj,cX];simp[hj]
 ·rw[aH (by rw[Rc];omega),aH (by simp;omega)]
theorem Yd {m d:Nat}(a:d<=16)(b:2*m+1<2^(d+1)):Zkc ((2*m:Nat):Int) ((2^d:Nat):Int)=(aC d).map (fun j=>((Jy (2*m) j:Nat):Int)):=by
 have e:lev (2*m)=0:=lev_eq (by have:2^(d+1)<=2^17:=aZ (by omega) (by omega);omega) (by unfold IsLev;simp);rw[Zd2 a b,e,dS];unfold Zh9;refine List.map_congr_left fun j c=> ?_;rw[cX,Zmv a b (List.mem_range.1 c)]
theorem Zj5 {m d:Nat}(hd:d<=16)(hm:2*m+1<2^(d+1)):(2*(m:Int))::((Re ((2*m:Nat):Int) ((2^d:Nat):Int)).map (fun x:Nat=>(x:Int))++Zkc ((2*m:Nat):Int) ((2^d:Nat):Int))=(Yc m d).map fun x:Nat=>(x:Int):=by
 rw[Zg0 hd hm,Yd hd hm];unfold Yc;simp[List.map_append,iW,Function.comp_def]
theorem Zmb {t:List NodeD} {m d:Nat} {OL SL:List Nat} (g:d<=16) (B:m<2^d) (p:t.length+1=2*2^d)
  (r:(Bf (atT t) m false d (2^d-1) 0 []).1=OL.map (fun m:Nat=>(m:Int))) (w:OL.Pairwise (· < ·)) (A:SL.Pairwise (· < ·)):∀x∈Yc m d,x<t.length/\Lj (Fr t (2^d) m OL SL) ((x:Nat):Int)=some (Zmc t x):=by
 have e2:2^(d+1)=2*2^d:=(by rw[aN];omega);have C:=fK d;have v:2^(d+1)<=2^17:=aZ (by omega) (by omega);have q:(2:Nat)^17=131072:=rfl;have h:2*m+1<2^(d+1):=(by omega);have a:(Bf (atT t) m false d (2^d-1) 0 []).2.2=true:=Sj d (2^d-1) 0 [] (Bs d) (by omega) fun y c=>by
  unfold inR at c;unfold atT;rw[iP (by omega)];rfl
 have s:=(Sm (t:=t) (M:=2^d) (m:=m) w A).1;have o:∀y:Nat,(y:Int)∈(Bf (atT t) m false d (2^d-1) 0 []).1->Aj (Fr t (2^d) m OL SL).op (y:Int)=some (nd t y):=fun y c=>by
  rw[r]at c;obtain⟨x,hx,e⟩:=List.mem_map.1 c;rw[show y=x by omega];exact s x hx
 have f:∀j,j<=d->anc (2*m) j<t.length/\Lj (Fr t (2^d) m OL SL) ((anc (2*m) j:Nat):Int)=some (Zmc t (anc (2*m) j)):=fun j i=>by
  have b:=Zix g h i;have n:=fK j;obtain⟨k,g2⟩:=Zgz g h a (d-j) j (by omega);refine⟨by omega,?_⟩;unfold Lj Zmc;rw[iP (by omega),cD,lev_eq (by omega) (anc_lev _ j)];exact Zma _ _ _ k fun y c=>o y (g2 _ c)
 intro x hx;unfold Yc at hx;simp only[aB,dZ,dY,List.mem_range]at hx;rcases hx with rfl|⟨j,i,rfl⟩|⟨j,i,rfl⟩
 ·have:=f 0 (aI _)
  rwa [anc_self (x:=2*m) (l:=0) (by unfold IsLev;simp)]at this
 ·exact f (j+1) (by omega)
 ·obtain⟨l,b⟩:=Ob (z:=2*m) g h i;have n:=fK j;obtain⟨k,g2⟩:=Zgz g h a (d-(j+1)) (j+1) (by omega);obtain⟨-,g3,u⟩:=Zaz g h i k;refine⟨by omega,?_⟩;unfold Lj Zmc;rw[iP (by omega),cD,lev_eq (by omega) l];exact Vk _ _ _ g3 fun y c=>o y (g2 _ (u _ c))
end Go.Proofs.YtfofaiommeckbaaGreat
namespace Go.Proofs.YtfofaiommeckbaaGreat
open Go.RowKit Go.Maps WalkM WireM
theorem Zg1 {only:Bool} {mk:Nat} {L hx:List Nat} {i:Int}(hL:∀y∈L,y<256)(hl:BL mk L)(h:(Lx (ofS only mk L) hx i).1=0):SpGood (Lx (ofS only mk L) hx i).2/\Ah (Lx (ofS only mk L) hx i).2 only=true:=by
 have e:=(Zgx hL hl h).1;have g:=Sp (only:=only) (mk:=mk) hL hl (by rw[Sl,e]);rw[Sl,e]at g;exact g
theorem Ye (v N:Value)(L hx:List Nat)(i:Int)(w:World)(h:Rd w v (bvs L))(hh:Rd w N (bvs hx))(hl:BL 1 L)(hL:∀n∈L,n<256)(J:∀n∈hx,n<256):
  Calls prog 25 #[v,N,rE rG i] w fun e w'=>(∃c,e=rM (.tuple #[.agg c,rE rH ((Lx (ofS false 1 L) hx i).1:Nat)])/\SparseR w' (.agg c) (Lx (ofS false 1 L) hx i).2)/\Below w.heap.size w w':=by
 have RD:=fun(W:World) (hw:Below w.heap.size w W)=>Zl8 v N L hx i 1 false W (h.below hw lR) (hh.below hw lR) hl hL J rfl (by omega);have T:=fun h=>(Zg1 (only:=false) (mk:=1) (hx:=hx) (i:=i) hL hl h).1;have S:=fun h=>Zj3 (r:=ofS false 1 L) (hx:=hx) (i:=i) h;obtain⟨va,vn,vc,rfl⟩:∃a n c,v=.slice a n c:=(by obtain⟨a,c,e,-⟩:=h;exact⟨_,_,_,e⟩);obtain⟨aF,aH,aG,rfl⟩:∃a n c,N=.slice a n c:=(by obtain⟨a,c,e,-⟩:=hh;exact⟨_,_,_,e⟩);obtain⟨R,hR⟩:=eX ((Lx (ofS false 1 L) hx i));rw[<-hR]at RD T S|-;obtain⟨g,hg⟩:=eX w.heap.size;have X:=Hd hg;have aB:=Hd (RD (w.alloc (rK #[rE rG 0,rE rG 0,rD rJ 0 0,rD rJ 0 0] 25)) ((Below.refl w.heap.size w).alloc lR _));have G0:=Hd (show Blk (w.alloc (rK #[rE rG 0,rE rG 0,rD rJ 0 0,rD rJ 0 0] 25)) g 25 #[rE rG 0,rE rG 0,rD rJ 0 0,rD rJ 0 0] by rw[hg];exact Blk.new _ _ _);have z:=Hd ((Below.refl w.heap.size w).alloc lR (rK #[rE rG 0,rE rG 0,rD rJ 0 0,rD rJ 0 0] 25));have Y:=Hd T;have A:=Hd S;obtain⟨er,q⟩:=eX R.1;rw[<-q];have V:=Hd q;clear RD T S hR hg q h hh hl hL J;go_in;go_wp2_with fail;refine aB.out.mono ?_;rintro e t ⟨p,I⟩;have k:=Hd (z.out.trans (p.mono z.out.size));have u:=Hd (G0.out.below p G0.out.lt);rw[<-X.out];rw[<-V.out]at I;clear p
 by_cases h0:er=0
 ·rw[iP h0]at I;have aD:((er:Int) !=0)=false:=(by rw[bne_eq_false_iff_eq];omega);have B:=Hd (Y.out (by rw[<-V.out];exact h0));obtain⟨ob,sb,gg,rfl,h1,h2,h3,-,-,o⟩:=I;have hN:=o.pieceN;have hH:=o.pieceH;clear o;obtain⟨s,M⟩:=eX R.2;rw[<-M]at hN hH B;have aC:=Hd M;rw[<-M];have D:=Hd fun(W:World) (K:Below t.heap.size t W)=>Zau s B.out ob sb W (hN.below K lR) (hH.below K lR);obtain⟨lv,E⟩:=eX s.leaves;obtain⟨ow,how⟩:=eX s.own;rw[<-E,<-how]at D|-;have aE:er=0:=h0;subst aE;clear h0 h1 h2 h3 hN hH M E how;go_wp2_with fail;refine(D.out _ ((Below.refl t.heap.size t).alloc lR _)).mono ?_;rintro e w2 ⟨v,rfl,m,p,H⟩;have l:=(Below.refl t.heap.size t).alloc lR (rK #[rE rG lv,rE rG ow,.map (some ob),.map (some sb)] 101);have U:=Hd (k.out.trans (((l).trans (p.mono l.size)).mono k.out.size));have G2:=Hd ((u.out.below l u.out.lt).below p (by have:=u.out.lt;simp;omega));have aA:=Hd fun(W:World) (K:Only g w2 W)=>H g W (by have:=u.out.lt;simp;omega) K;obtain⟨O,P,rfl,-,-⟩:=id m;have F:O.oneCell'=true:=(by obtain⟨x,y,e,q1,-⟩:=m;cases e;obtain⟨a,c,rfl,-⟩:=q1;rfl);have G:P.oneCell'=true:=(by obtain⟨x,y,e,-,q1⟩:=m;cases e;obtain⟨a,c,rfl,-⟩:=q1;rfl);have C:=Hd (show(#[rE rG s.leaves,rE rG s.own,O,P]:Array Value).toList.all (·.oneCell')=true by simp only[List.all_cons,List.all_nil,F,G];rfl);clear m p H l F G;go_wp2_with (refine Aa rfl 25 (.tmp 6) (.tmp 22) rfl g #[rE rG s.leaves,rE rG s.own,O,P] rfl rfl 25 #[rE rG 0,rE rG 0,rD rJ 0 0,rD rJ 0 0] G2.out (by kernel_rfl) rfl C.out ?_);rintro w3 b j f d;have P3:=Hd b;have S3:=Hd (aA.out w3 (Only.storeQ j f));have Q:=Hd (U.out.trans (j w.heap.size (by rw[X.out];exact lR)));clear b j f d;go_wp2_with fail;refine bodyPost_ret (v:=.tuple #[.agg #[rE rG s.leaves,rE rG s.own,O,P],rE rH 0]) (Ad results25 _ _ g _ _ _ rfl P3.out underlying25 rfl (by kernel_rfl)) rfl ?_;exact⟨⟨_,rfl,by rw[<-aC.out];exact S3.out⟩,Q.out⟩
 ·rw[iN h0]at I;have aD:((er:Int) !=0)=true:=(by rw[bne_iff_ne];omega);have Z:=Hd (A.out (by rw[<-V.out];exact h0));obtain rfl:=I;clear h0;go_wp2_with (refine Aa rfl 25 (.tmp 6) (.tmp 19) rfl g #[rE rG 0,rE rG 0,rD rJ 0 0,rD rJ 0 0] rfl rfl 25 #[rE rG 0,rE rG 0,rD rJ 0 0,rD rJ 0 0] (u.out.alloc _) (by kernel_rfl) rfl rfl ?_);rintro w3 b j f d;have P3:=Hd b;have Q:=Hd ((k.out.alloc k.out.size _).trans (j w.heap.size (by rw[X.out];exact lR)));clear b j f d;go_wp2_with fail;refine bodyPost_ret (v:=.tuple #[.agg #[rE rG 0,rE rG 0,rD rJ 0 0,rD rJ 0 0],rE rH (er:Nat)]) (Ad results25 _ _ g _ _ _ rfl P3.out underlying25 rfl (by kernel_rfl)) rfl ?_;exact⟨⟨_,rfl,by rw[Z.out];exact Zkl _⟩,Q.out⟩
open ShaM
theorem Zj6 {n m:Nat}(a:1<=n)(h2:n<=1000)(h3:m=(n-1)/2):IntKind.i64.wrap ((n:Int)-1)=(n:Int)-1/\IntKind.i64.wrap ((m:Nat):Int)=(m:Int)/\Int.tdiv ((n:Int)-1) 2=(m:Int):=by
 refine⟨IntWalk.i64_in _ ⟨by omega,by omega⟩,IntWalk.i64_in _ ⟨by omega,by omega⟩,?_⟩;rw[Int.tdiv_eq_ediv_of_nonneg (by omega)];omega
theorem Yf (v:Value)(t:List NodeD)(w:World)(h:TreeR w v t)(o:Bc t=true)(g:TreeOk t)(i:Bm t=true):
  Calls prog 33 #[v] w fun e w'=>∃u,e=rM u/\Rd w' u (bvs (Dg (nd t) (t.length/2)))/\Below w.heap.size w w':=by
 have b:=Bb o;obtain⟨f,l⟩:Ao t.length≠0/\Ax t=true:=by
  rw[Bm,cK,cK]at i;exact⟨oD i.1,i.2.1⟩
 obtain⟨d,F,D,s⟩:=Ch f;have G:=fK d;have e2:2^(d+1)=2*2^d:=(by rw[aN];omega);have a:=Zcc t o g i (t.length/2) (by omega) v (rD rJ 0 0) [] w h (Wc w);have p:woD t []=nd t:=funext fun x=>Zlc t x;rw[p]at a;obtain⟨K,c,rfl,E,k⟩:=h.sl;obtain⟨n,z⟩:=eX t.length;rw[<-z]at a b s|-;obtain⟨X,q⟩:=eX (Dg (nd t) (n/2));rw[<-q]at a|-;obtain⟨m,y⟩:=eX (n/2);rw[<-y]at a;obtain⟨H,I,J⟩:=Zj6 (n:=n) (m:=m) (by omega) (by omega) (by omega);have j:=Hd a;clear a q y s z f l D e2 G F p h o g i E k;go_in;go_wp2_with fail;refine j.out.mono ?_;rintro e L ⟨u,rfl,A,r⟩;have C:=Hd A.rd;have B:=Hd r;clear A r;go_wp2_with fail;go_ret;exact⟨_,rfl,C.out,B.out⟩
theorem OwnK.lit0 {w:World} {B N:Nat} {e:TypeId} {k:Nat}(hN:N=w.heap.size)(hB:B<=N):OwnK (w.alloc (rK #[] e)) B e k (rD (some ⟨N,0,rJ⟩) 0 0) 0 []:=by
 subst hN;exact World.ownsRow_made w #[] 0 hB (aI _) (by simp)
theorem Zct (t:List NodeD):Oy t t=true:=Ud rfl fun i hi=>by simp[Co,Ht]
theorem Pf {w:World}(v:Value)(t:List NodeD)(i:Int)(hG:TreeR w v t/\TreeOk t)(cB: -9223372036854775808<=i/\i<=9223372036854775807):
  Calls prog 10 #[v,rE rG i] w fun e w'=>e=rM (.bool true)/\Below w.heap.size w w':=by
 obtain⟨h,C⟩:=hG;have bX:=Hd fun(W:World)=>Zl7 W;have SM:=fun(W:World) (S:Below w.heap.size w W)=>Zbi v t W (h.below S lR);obtain⟨ta,tn,tc,rfl⟩:∃a n c,v=.slice a n c:=(by obtain⟨a,c,e,_⟩:=h.sl;exact⟨_,_,_,e⟩);have TB:=fun(W:World) (S:Below w.heap.size w W)=>h.below S lR;cases k:Bc t with
 |false=>
  rw[k]at SM;have aV:=Hd SM;clear SM TB h C k cB;have E:=Hd (Below.refl w.heap.size w);go_in;go_wp2_with fail;refine(bX.out w).mono ?_;rintro e w1 ⟨rfl,j⟩;have l:=Hd (E.out.trans (j.mono E.out.size));clear j;go_wp2_with fail;refine(aV.out w1 l.out).mono ?_;rintro e w2 ⟨rfl,j⟩;have A:=Hd (l.out.trans (j.mono l.out.size));clear j;go_wp2_with fail;go_ret;exact⟨rfl,A.out⟩
 |true=>
  rw[k]at SM;have aV:=Hd SM;have RI:=fun(W:World) (S:Below w.heap.size w W)=>Xl _ t W (TB W S) k C;cases F:Bm t with
  |false=>
   rw[F]at RI;have b4:=Hd RI;clear SM RI TB h C k F cB;have E:=Hd (Below.refl w.heap.size w);go_in;go_wp2_with fail;refine(bX.out w).mono ?_;rintro e w1 ⟨rfl,j⟩;have l:=Hd (E.out.trans (j.mono E.out.size));clear j;go_wp2_with fail;refine(aV.out w1 l.out).mono ?_;rintro e w2 ⟨rfl,j⟩;have A:=Hd (l.out.trans (j.mono l.out.size));clear j;go_wp2_with fail;refine(b4.out w2 A.out).mono ?_;rintro e w3 ⟨rfl,j⟩;have M:=Hd (A.out.trans (j.mono A.out.size));clear j;go_wp2_with fail;go_ret;exact⟨rfl,M.out⟩
  |true=>
   rw[F]at RI;have b4:=Hd RI;obtain⟨c5,fC⟩:Ao t.length≠0/\Ax t=true:=by
    rw[Bm,cK,cK]at F;exact⟨oD F.1,F.2.1⟩
   obtain⟨d,hd,hN,hl⟩:=Ch c5;have hp:=fK d;obtain⟨hh,a0⟩:∃hh,hh+1=2^d:=⟨2^d-1,by omega⟩;have J:t.length=2*hh+1:=(by omega);have cZ:Ao t.length=hh+1:=(by omega);have eW:=Bb k;have IS:=fun(W:World) (S:Below w.heap.size w W)=>Zk5 _ t hh i W (TB W S) C J (by omega)
   by_cases hi:i∈Ek t (hh+1)
   ·rw[dT hi]at IS;have cW:=Hd IS;obtain⟨m,rfl⟩:∃m:Nat,i=(m:Int):=by
     unfold Ek at hi;obtain⟨m,-,rfl⟩:=List.mem_map.1 hi;exact⟨m,rfl⟩
    obtain⟨hE,e8⟩:=(mem_iff t (hh+1) m).1 hi;obtain⟨OL,b8,o1,s1,o2,s2,o3,s3,o4,s4,o5,s5⟩:=Zlz k F false J hd a0 (show 2*m<t.length by omega);have G:=Zgy (only:=false) (mk:=1) k C F J hd a0 (by omega) e8 (by omega) o1 s1 o3 s3 o4 s4;have e2:2^(d+1)=2*2^d:=(by rw[aN];omega);have hI:2^d<=65536:=eN (aZ (by omega) hd) (by decide);have RS:=Zmb (m:=m) (OL:=OL) (SL:=b8) hd (by omega) hl o1 o3 s3;have WA:=Zj5 (m:=m) hd (by omega);have CT:=fun(W:World) (S:Below w.heap.size w W)=>Uz _ t hh m d OL b8 W (TB W S) k C F J cZ hd a0 hi o1 s1 o3 s3 o4 s4 o5 s5 (fun x=>by rw[Kn];omega);have sl:(Fr t (2^d) m OL b8).leaves=((2^d:Nat):Int):=rfl;obtain⟨s,fE⟩:=eX (Fr t (2^d) m OL b8);rw[<-fE]at CT G RS sl;have fL:=Hd CT;have fZ:=Hd h;have hH:0<tn:=(by obtain⟨a',c',e,_⟩:=h.sl;simp only[Value.slice.injEq]at e;omega);have e9:tn<=1000000:=(by obtain⟨a',c',e,_⟩:=h.sl;simp only[Value.slice.injEq]at e;omega);have f0:=Hd fun(W:World) (S:Below w.heap.size w W)=>Yf _ t W (TB W S) k C F;have BY:=fun(u:Value) (W:World) (H:SparseR W u s)=>Xk u s W H G.ok G.small;simp only[G.right,if_true]at BY;have fG:=Hd fun(u:Value) (W:World) (H:SparseR W u s)=>(show Calls prog 42 #[u] W fun e w'=>∃x,e=rM (.tuple #[x,rE rH 0])/\Own w' W.heap.size 5 x (bvs (bytesOf s 1))/\Below W.heap.size W w' from by
     refine(BY u W H).mono ?_;rintro e w' ⟨⟨x,rfl,ox⟩,j⟩;exact⟨x,rfl,ox,j⟩)
    have HA:=fun(u:Value) (W:World) (H:SparseR W u s)=>Zb9 u s W H G.ok G.small;simp only[G.right,if_true]at HA;have fN:=Hd fun(u:Value) (W:World) (H:SparseR W u s)=>(show Calls prog 44 #[u] W fun e w'=>∃x,e=rM (.tuple #[x,rE rH 0])/\Rd w' x (bvs (Dg (nd t) (t.length/2)))/\Below W.heap.size W w' from by
     refine(HA u W H).mono ?_;rintro e w' ⟨⟨x,rfl,ox⟩,j⟩;rw[G.hash]at ox;exact⟨x,rfl,ox,j⟩)
    have CK:=fun(x hv:Value) (W:World) (hx:Rd W x (bvs (bytesOf s 1))) (hh:Rd W hv (bvs (Dg (nd t) (t.length/2))))=>Ye x hv (bytesOf s 1) (Dg (nd t) (t.length/2)) (m:Int) W hx hh G.bl G.lt (Mx _ _);rw[G.chk]at CK;have fI:=Hd fun(x hv:Value) (W:World) (hx:Rd W x (bvs (bytesOf s 1))) (hh:Rd W hv (bvs (Dg (nd t) (t.length/2))))=>(show Calls prog 25 #[x,hv,rE rG (m:Nat)] W fun e w'=>(∃c,e=rM (.tuple #[.agg c,rE rH 0])/\SparseR w' (.agg c) s)/\Below W.heap.size W w' from CK x hv W hx hh);have OF:=fun(x:Value) (W:World) (hx:Rd W x (bvs (bytesOf s 1)))=>Zj1 x (bytesOf s 1) W hx G.bl G.lt;rw[Sl,G.of]at OF;have fR:=Hd fun(x:Value) (W:World) (hx:Rd W x (bvs (bytesOf s 1)))=>(show Calls prog 22 #[x] W fun e w'=>(∃c,e=rM (.tuple #[.agg c,rE rH 0])/\SparseR w' (.agg c) s)/\Below W.heap.size W w' from OF x W hx);have fY:=Hd fun(a b:Value) (W:World) (k1:Rd W a (bvs (Dg (nd t) (t.length/2)))) (k2:Rd W b (bvs (Dg (nd t) (t.length/2))))=>(show Calls prog 19 #[a,b] W fun e w'=>e=rM (.bool true)/\Below W.heap.size W w' from by
     refine(Yh a b _ _ W k1 k2 (Mx _ _) (Mx _ _)).mono ?_;rintro e w' ⟨rfl,n,rfl⟩;exact⟨by rw[dT rfl],Ab bR n⟩)
    have cY:=Hd fun(x y:Array Value) (W:World) (hx:SparseR W (.agg x) s) (hy:SparseR W (.agg y) s)=>Yb (.agg x) (.agg y) s s W hx hy G.ok G.ok G.small G.small;rw[Xo]at cY;have TS:=fun(u:Value) (W:World) (S:Below w.heap.size w W) (H:TreeR W u t)=>Zen _ u t t W (TB W S) H C C (by omega);rw[Zct]at TS;have f1:=Hd TS;have h5:IntKind.i64.wrap (2*(m:Int))=2*(m:Int):=IntWalk.i64_in _ ⟨by omega,by omega⟩;have h6:(m:Int)<=65536:=(by omega);obtain⟨lv,c6⟩:=eX s.leaves;obtain⟨ow,how⟩:=eX s.own;obtain⟨no,fA⟩:=eX s.op.length;obtain⟨ns,fB⟩:=eX s.sh.length;have cX:=Hd fun(W:World) (u:Value) (k:SparseR W u s)=>(show∃a c a' c',u=.agg #[rE rG lv,rE rG ow,rD a no c,rD a' ns c']from by
     obtain⟨o,g,rfl,ho,hg⟩:=k;obtain⟨oa,oc,rfl,-,-⟩:=ho.sl;obtain⟨R,gc,rfl,-,-⟩:=hg.sl;exact⟨oa,oc,R,gc,by rw[c6,how,fA,fB]⟩)
    have e4:lv=((2^d:Nat):Int):=c6.trans sl;rw[<-e4]at WA;have a5: -9223372036854775808<=lv/\lv<=9223372036854775807:=(by omega);have WB:2*(m:Int)=((2*m:Nat):Int):=(by omega);have PA:=fun(W:World)=>Zd0 (2*(m:Int)) lv W a5.1 a5.2;have CP:=fun(W:World)=>Wn (2*(m:Int)) lv W a5.1 a5.2;rw[<-WB]at WA;obtain⟨PL,eZ⟩:=eX (Re (2*(m:Int)) lv);obtain⟨CL,eY⟩:=eX (Zkc (2*(m:Int)) lv);rw[<-eZ]at PA WA;rw[<-eY]at CP WA;have D:(Yc m d).length=2*d+1:=(by unfold Yc;simp;omega);have fD:1+(PL.length+CL.length)=2*d+1:=by
     have:=congrArg List.length WA;simp only[dB,aD,eE,D]at this;omega
    have dN:=Hd (show rE rG (2*(m:Int))::(nvs PL++ivs .i64 CL)=nvs (Yc m d)from by
     have e:ivs .i64 ((2*(m:Int))::(PL.map (fun x:Nat=>(x:Int))++CL))=ivs .i64 ((Yc m d).map fun x:Nat=>(x:Int)):=(by rw[WA]);simpa [ivs,nvs,Function.comp_def]using e)
    have fP:=Hd (show [Value.int .i64 (2*(m:Int))].length+(nvs PL).length<1099511627776 by simp[nvs,ivs];omega);have fO:=Hd (show([Value.int .i64 (2*(m:Int))]++nvs PL).length+(ivs .i64 CL).length<1099511627776 by simp[nvs,ivs];omega);have d0:=Hd (show∀u∈nvs PL,u.oneCell'=true from fun u H=>by unfold nvs ivs at H;simp only[iW,dY]at H;obtain⟨x,-,rfl⟩:=H;rfl);have dZ:=Hd (show∀u∈ivs .i64 CL,u.oneCell'=true from fun u H=>by unfold ivs at H;obtain⟨x,-,rfl⟩:=List.mem_map.1 H;rfl);have fS:=Hd PA;have fJ:=Hd CP;obtain⟨n,hn⟩:=eX (2*d+1);rw[<-hn]at D;have fQ:=Hd (show n<=1000 by omega);obtain⟨X,hX⟩:∃X:Nat->Nat,X=fun r=>(Yc m d).getD r 0:=⟨_,rfl⟩;have XM:∀r,r<n->X r∈Yc m d:=fun r F=>by
     rw[hX];show(Yc m d).getD r 0∈_;rw[aE,aF (by omega)];exact List.getElem_mem _
    have fM:=Hd fun(W:World) (B:Nat) (u:Value) (H:Own W B 3 u (nvs (Yc m d)))=>(show∃R gc,u=rD (some ⟨R,0,rJ⟩) n gc/\R<W.heap.size/\∀r,r<n->W.cell? ⟨R,r,rJ⟩=some (rE rG (X r:Nat))from by
     have hF:nvs (Yc m d)≠[]:=(by unfold Yc nvs ivs;simp);obtain⟨g,cap,h4,rfl,hg,b9,-,-,-,-,-,hc,-⟩:=H.out hF;refine⟨g,cap,by simp[nvs,ivs,D],b9,fun r F=> ?_⟩;have:=hc r (rE rG (X r:Nat)) (by rw[hX];simp[nvs,ivs,aE,aF (show r<(Yc m d).length by omega)]);simpa using this)
    obtain⟨RL,c0⟩:∃RL:Nat->List Int,RL=fun r=>Zmc t (X r):=⟨_,rfl⟩;have fW:=Hd fun(r:Nat) (c7:r<n) (u:Value) (W:World) (H:SparseR W u s)=>(show Calls prog 48 #[u,rE rG (X r:Nat)] W fun e w'=>(∃v,e=rM (.tuple #[v,.bool true])/\Own w' W.heap.size 3 v (ivs .i64 (RL r)))/\Below W.heap.size W w' from by
     obtain⟨g1,g2⟩:=RS (X r) (XM r c7);have e:=Sg u s ((X r:Nat):Int) (by unfold inI;omega) W H G.ok G.small;rw[G.right,g2]at e;rw[c0];exact e)
    have fX:=Hd fun(r:Nat) (c7:r<n) (W:World) (S:Below w.heap.size w W)=>(show Calls prog 50 #[rD ta tn tc,rE rG (X r:Nat)] W fun e w'=>∃v',e=rM v'/\Own w' W.heap.size 3 v' (ivs .i64 (RL r))/\Below W.heap.size W w' from by
     rw[c0];exact Ve _ t (X r) W (TB W S) k C F (RS (X r) (XM r c7)).1)
    clear SM RI IS TB CT BY HA CK OF TS PA CP h C k F cB c5 fC hN hl hp a0 J cZ eW hi hE e8 o1 s1 o2 s2 o3 s3 o4 s4 o5 s5 G e2 hI RS WA sl fE c6 how fA fB e4 a5 WB eZ eY fD hX XM c0 hd hn D;have E:=Hd (Below.refl w.heap.size w);go_in;go_wp2_with fail;refine(bX.out w).mono ?_;rintro e w1 ⟨rfl,j⟩;have l:=Hd (E.out.trans (j.mono E.out.size));clear j;go_wp2_with fail;refine(aV.out w1 l.out).mono ?_;rintro e w2 ⟨rfl,j⟩;have A:=Hd (l.out.trans (j.mono l.out.size));clear j;go_wp2_with fail;refine(b4.out w2 A.out).mono ?_;rintro e w3 ⟨rfl,j⟩;have M:=Hd (A.out.trans (j.mono A.out.size));clear j;go_wp2_with fail;refine(cW.out w3 M.out).mono ?_;rintro e w4 ⟨rfl,j⟩;have aU:=Hd (M.out.trans (j.mono M.out.size));clear j;go_wp2_with (at_builtin;refine Wt rfl (.tmp 37) (.tmp 38) rfl _ tn tc t fZ.out hH e9 (aU.out.alloc aU.out.size _) _ rfl (OwnK.lit0 rfl aU.out.size) rfl ?_);rintro v5 w5 ht j;have cT:=Hd j;have Z5:=Hd ht;obtain⟨z1,z2,z3,rfl⟩:∃a n c,v5=.slice a n c:=(by obtain⟨a,c,e,_⟩:=ht.sl;exact⟨_,_,_,e⟩);clear ht j;go_wp2_with fail;refine(f0.out w5 cT.out).mono ?_;rintro e w6 ⟨hv,rfl,oh,j⟩;have cU:=Hd (cT.out.trans (j.mono cT.out.size));have Z6:=Hd (Z5.out.below j lR);have V6:=Hd oh;obtain⟨va,vn,vc,rfl⟩:∃a n c,hv=.slice a n c:=(by obtain⟨a,c,e,_⟩:=oh;exact⟨_,_,_,e⟩);clear oh;clear j;go_wp2_with fail;refine(fL.out w6 cU.out).mono ?_;rintro e w7 ⟨v2,rfl,k,j⟩;have dR:=Hd (cU.out.trans (j.mono cU.out.size));have Z7:=Hd (Z6.out.below j lR);have V7:=Hd (V6.out.below j lR);obtain⟨c,rfl⟩:∃c,v2=.agg c:=(by obtain⟨_,_,e,_⟩:=k;exact⟨_,e⟩);have S7:=Hd k;clear k;clear j;obtain⟨a1,c1,b1,d1,e1⟩:=cX.out _ _ S7.out;cases e1;obtain⟨p,hp⟩:=eX w7.heap.size;obtain⟨w8,a4⟩:=eX (w7.alloc (rK #[rE rG lv,rE rG ow,rD a1 no c1,rD b1 ns d1] 25));have j:Below w7.heap.size w7 w8:=(by rw[a4];exact bR.alloc lR _);have dS:=Hd (dR.out.trans (j.mono dR.out.size));have Z8:=Hd (Z7.out.below j lR);have V8:=Hd (V7.out.below j lR);have S8:=Hd (S7.out.below j lR);have P8:=Hd (show Blk w8 p 25 #[rE rG lv,rE rG ow,rD a1 no c1,rD b1 ns d1] by rw[a4,hp];exact Blk.new _ _ _);have f2:=Hd a4;have fT:=Hd hp;clear j hp;have a9:=P8.out.cell 0;have bD:=P8.out.cell 1;have bH:=P8.out.cell 2;have bL:=P8.out.cell 3;simp only[bY,bZ,cA]at a9 bD bH bL;rw[a4]at a9 bD bH bL;clear a4;go_wp2_with fail;rw[<-f2.out,<-fT.out];clear a9 bD bH bL;refine(fG.out _ w8 S8.out).mono ?_;rintro e w9 ⟨x,rfl,ox,j⟩;have aM:=Hd (dS.out.trans (j.mono dS.out.size));have P9:=Hd (P8.out.below j P8.out.lt);have Z9:=Hd (Z8.out.below j lR);have V9:=Hd (V8.out.below j lR);have S9:=Hd (S8.out.below j lR);have X9:=Hd ox.rd;obtain⟨xa,xn,xc,rfl⟩:=Dr ox;clear ox;clear j;have cL:=P9.out.cell 0;have cM:=P9.out.cell 1;have cN:=P9.out.cell 2;have cO:=P9.out.cell 3;simp only[bY,bZ,cA]at cL cM cN cO;go_wp2_with fail;refine(fN.out _ w9 S9.out).mono ?_;rintro e c8 ⟨y,rfl,oy,j⟩;have aK:=Hd (aM.out.trans (j.mono aM.out.size));have d7:=Hd (P9.out.below j P9.out.lt);have g5:=Hd (Z9.out.below j lR);have eR:=Hd (V9.out.below j lR);have f8:=Hd (S9.out.below j lR);have eT:=Hd (X9.out.below j lR);have gW:=Hd oy;obtain⟨ya,yn,yc,rfl⟩:∃a n c,y=.slice a n c:=(by obtain⟨a,c,e,_⟩:=oy;exact⟨_,_,_,e⟩);clear oy;clear j;clear cL cM cN cO;go_wp2_with fail;refine(fI.out _ _ c8 eT.out eR.out).mono ?_;rintro e bV ⟨⟨c,rfl,k⟩,j⟩;have aL:=Hd (aK.out.trans (j.mono aK.out.size));have d8:=Hd (d7.out.below j d7.out.lt);have g6:=Hd (g5.out.below j lR);have gL:=Hd (eR.out.below j lR);have f9:=Hd (f8.out.below j lR);have gR:=Hd (eT.out.below j lR);have gX:=Hd (gW.out.below j lR);have eP:=Hd k;clear k;clear j;obtain⟨a2,c2,b2,d2,e1⟩:=cX.out _ _ eP.out;cases e1;obtain⟨q,hq⟩:=eX bV.heap.size;obtain⟨c9,N⟩:=eX (bV.alloc (rK #[rE rG lv,rE rG ow,rD a2 no c2,rD b2 ns d2] 25));have j:Below bV.heap.size bV c9:=(by rw[N];exact bR.alloc lR _);have cD:=Hd (aL.out.trans (j.mono aL.out.size));have d9:=Hd (d8.out.below j d8.out.lt);have g7:=Hd (g6.out.below j lR);have gM:=Hd (gL.out.below j lR);have gA:=Hd (f9.out.below j lR);have eU:=Hd (gR.out.below j lR);have gY:=Hd (gX.out.below j lR);have gH:=Hd (eP.out.below j lR);have aQ:=Hd (show Blk c9 q 25 #[rE rG lv,rE rG ow,rD a2 no c2,rD b2 ns d2] by rw[N,hq];exact Blk.new _ _ _);have d4:=Hd N;have fU:=Hd hq;clear j hq;have Z:=aQ.out.cell 0;have aA:=aQ.out.cell 1;have aB:=aQ.out.cell 2;have aC:=aQ.out.cell 3;simp only[bY,bZ,cA]at Z aA aB aC;rw[N]at Z aA aB aC;clear N;go_wp2_with fail;rw[<-d4.out,<-fU.out];clear Z aA aB aC;refine(fR.out _ c9 eU.out).mono ?_;rintro e cC ⟨⟨c,rfl,k⟩,j⟩;have cE:=Hd (cD.out.trans (j.mono cD.out.size));have eA:=Hd (d9.out.below j d9.out.lt);have eD:=Hd (aQ.out.below j aQ.out.lt);have g8:=Hd (g7.out.below j lR);have gN:=Hd (gM.out.below j lR);have gC:=Hd (gA.out.below j lR);have gS:=Hd (eU.out.below j lR);have gZ:=Hd (gY.out.below j lR);have gI:=Hd (gH.out.below j lR);have eM:=Hd k;clear k;clear j;obtain⟨a3,c3,b3,d3,e1⟩:=cX.out _ _ eM.out;cases e1;obtain⟨r,F⟩:=eX cC.heap.size;obtain⟨dA,O⟩:=eX (cC.alloc (rK #[rE rG lv,rE rG ow,rD a3 no c3,rD b3 ns d3] 25));have j:Below cC.heap.size cC dA:=(by rw[O];exact bR.alloc lR _);have cF:=Hd (cE.out.trans (j.mono cE.out.size));have eB:=Hd (eA.out.below j eA.out.lt);have eG:=Hd (eD.out.below j eD.out.lt);have g9:=Hd (g8.out.below j lR);have eS:=Hd (gN.out.below j lR);have gD:=Hd (gC.out.below j lR);have gT:=Hd (gS.out.below j lR);have eV:=Hd (gZ.out.below j lR);have gJ:=Hd (gI.out.below j lR);have gF:=Hd (eM.out.below j lR);have aS:=Hd (show Blk dA r 25 #[rE rG lv,rE rG ow,rD a3 no c3,rD b3 ns d3] by rw[O,F];exact Blk.new _ _ _);have d5:=Hd O;have fV:=Hd F;clear j F;have aG:=aS.out.cell 0;have aH:=aS.out.cell 1;have aI:=aS.out.cell 2;have aJ:=aS.out.cell 3;simp only[bY,bZ,cA]at aG aH aI aJ;rw[O]at aG aH aI aJ;clear O;go_wp2_with fail;rw[<-d5.out,<-fV.out];clear aG aH aI aJ;refine(fY.out _ _ dA eV.out eS.out).mono ?_;rintro e hJ ⟨rfl,j⟩;have cG:=Hd (cF.out.trans (j.mono cF.out.size));have aO:=Hd (eB.out.below j eB.out.lt);have aR:=Hd (eG.out.below j eG.out.lt);have eI:=Hd (aS.out.below j aS.out.lt);have hA:=Hd (g9.out.below j lR);have gO:=Hd (eS.out.below j lR);have eJ:=Hd (gD.out.below j lR);have gU:=Hd (gT.out.below j lR);have g0:=Hd (eV.out.below j lR);have eQ:=Hd (gJ.out.below j lR);have gG:=Hd (gF.out.below j lR);clear j;have a6:=aO.out.cell 0;have bA:=aO.out.cell 1;have bE:=aO.out.cell 2;have bI:=aO.out.cell 3;have bM:=aR.out.cell 0;have bN:=aR.out.cell 1;have bO:=aR.out.cell 2;have bP:=aR.out.cell 3;simp only[bY,bZ,cA]at a6 bA bE bI bM bN bO bP;go_wp2_with fail;refine(cY.out _ _ hJ eJ.out eQ.out).mono ?_;rintro e hL ⟨rfl,j⟩;have cH:=Hd (cG.out.trans (j.mono cG.out.size));have aP:=Hd (aO.out.below j aO.out.lt);have eH:=Hd (aR.out.below j aR.out.lt);have aT:=Hd (eI.out.below j eI.out.lt);have hB:=Hd (hA.out.below j lR);have gP:=Hd (gO.out.below j lR);have eK:=Hd (eJ.out.below j lR);have gV:=Hd (gU.out.below j lR);have g4:=Hd (g0.out.below j lR);have gK:=Hd (eQ.out.below j lR);have eO:=Hd (gG.out.below j lR);clear j;clear a6 bA bE bI bM bN bO bP;have a7:=aP.out.cell 0;have bB:=aP.out.cell 1;have bF:=aP.out.cell 2;have bJ:=aP.out.cell 3;have bQ:=aT.out.cell 0;have bS:=aT.out.cell 1;have bT:=aT.out.cell 2;have bU:=aT.out.cell 3;simp only[bY,bZ,cA]at a7 bB bF bJ bQ bS bT bU;go_wp2_with fail;refine(cY.out _ _ hL eK.out eO.out).mono ?_;rintro e Q ⟨rfl,j⟩;have cI:=Hd (cH.out.trans (j.mono cH.out.size));have I:=Hd (aP.out.below j aP.out.lt);have hV:=Hd (eH.out.below j eH.out.lt);have hW:=Hd (aT.out.below j aT.out.lt);have hC:=Hd (hB.out.below j lR);have h0:=Hd (gP.out.below j lR);have gE:=Hd (eK.out.below j lR);have h1:=Hd (gV.out.below j lR);have h3:=Hd (g4.out.below j lR);have hZ:=Hd (gK.out.below j lR);have hY:=Hd (eO.out.below j lR);clear j;clear a7 bB bF bJ bQ bS bT bU;obtain⟨dC,P⟩:=eX (Q.alloc (rK #[rE rG (2*(m:Int))] 3));have j:Below Q.heap.size Q dC:=(by rw[P];exact bR.alloc lR _);have dD:=Hd (show Own dC Q.heap.size 3 (rD (some ⟨Q.heap.size,0,rJ⟩) 1 1) [rE rG (2*(m:Int))] by rw[P];exact Own.full (B:=Q.heap.size) (cs:=#[rE rG (2*(m:Int))]) rfl lR (by unfold maxLen;simp) rfl);have cP:=Hd (j);have b5:=Hd (I.out.below cP.out I.out.lt);have d6:=Hd P;have T:=b5.out.cell 0;have U:=b5.out.cell 1;have V:=b5.out.cell 2;have Y:=b5.out.cell 3;simp only[bY,bZ,cA]at T U V Y;rw[P]at T U V Y;clear P j;go_wp2_with fail;rw[<-d6.out];clear T U V Y;refine(fS.out dC).mono ?_;rintro e h8 ⟨pv,rfl,op,j⟩;have dE:=Hd (dD.out.below j lR);have dW:=Hd op.rd;have cQ:=Hd (cP.out.trans (j.mono cP.out.size));have hT:=Hd (I.out.below cQ.out I.out.lt);obtain⟨e1,e2,e3,rfl⟩:=Dr op;clear op j;go_wp2_with (at_builtin;refine An rfl (.tmp 105) (.tmp 110) 48 rfl Q.heap.size 3 _ 8 He _ _ rfl dE.out _ (nvs PL) rfl dW.out d0.out ?c2 ?c3 ?_);case c2=>exact fP.out
    case c3=>exact cQ.out.size
    rintro v8 fF L-j;have dI:=Hd L;have cR:=Hd (cQ.out.trans j);have b6:=Hd (I.out.below cR.out I.out.lt);obtain⟨q1,q2,q3,rfl⟩:=Dr L;clear L j;have a8:=b6.out.cell 0;have bC:=b6.out.cell 1;have bG:=b6.out.cell 2;have bK:=b6.out.cell 3;simp only[bY,bZ,cA]at a8 bC bG bK;go_wp2_with fail;refine(fJ.out fF).mono ?_;rintro e h9 ⟨pv,rfl,op,j⟩;have dL:=Hd (dI.out.below j lR);have dX:=Hd op.rd;have cS:=Hd (cR.out.trans (j.mono cR.out.size));have hU:=Hd (I.out.below cS.out I.out.lt);obtain⟨g1,g2,g3,rfl⟩:=Dr op;clear op j;clear a8 bC bG bK;go_wp2_with (at_builtin;refine An rfl (.tmp 112) (.tmp 117) 48 rfl Q.heap.size 3 _ 8 He _ _ rfl dL.out _ (ivs .i64 CL) rfl dX.out dZ.out ?c2 ?c3 ?_);case c2=>exact fO.out
    case c3=>exact cS.out.size
    rintro v8 hM L-j;have dM:=Hd L;have bW:=Hd (cS.out.trans j);have f5:=Hd (I.out.below bW.out I.out.lt);clear L j;obtain⟨wl,D⟩:=eX hM;have b0:=Hd (show Below w.heap.size w wl by rw[D];exact cI.out.trans (bW.out.mono cI.out.size));have eC:=Hd (show Blk wl p 25 #[rE rG lv,rE rG ow,rD a1 no c1,rD b1 ns d1] by rw[D];exact f5.out);have SL:=Hd (show SparseR wl (.agg #[rE rG lv,rE rG ow,rD a1 no c1,rD b1 ns d1]) s by rw[D];exact gE.out.below bW.out lR);have ZL:=Hd (show TreeR wl (rD z1 z2 z3) t by rw[D];exact hC.out.below bW.out lR);have AO:=dM.out;rw[dN.out,<-D]at AO;rw[<-D];obtain⟨R,gc,rfl,b9,aX⟩:=fM.out wl _ _ AO;have dV:=Hd b9;have fH:=Hd aX;clear AO D b9 aX;go_wp2_with fail
    go_loopg [18] n (fun q iv wr=>∃r:Nat,r+q=n/\iv=rE rG (r:Nat)/\Below wl.heap.size wl wr)
    case atStart=>exact⟨0,by omega,rfl,bR⟩
    case round=>
     obtain⟨r,F,rfl,j⟩:=hrel;have HR:=Hd F;have dU:=Hd j;have SI:=Hd (SL.out.below j lR);have PI:=Hd (eC.out.below j eC.out.lt);have e5:R<wr.heap.size:=Nat.lt_of_lt_of_le dV.out j.size
     by_cases hlt:r<n
     ·have e6:decide (r<n)=true:=dT hlt;have e7:(r:Int)<(n:Int):=(by omega);have kc:wr.cell? ⟨R,r,rJ⟩=some (rE rG (X r:Nat)):=(j.cell (p:=⟨R,r,rJ⟩) dV.out).trans (fH.out r hlt);clear j F;go_wp2_with fail;refine Cx [eF (.agg #[rE rG lv,rE rG ow,rD a1 no c1,rD b1 ns d1]),eF (rD (some ⟨R,0,rJ⟩) n gc),eF (rE rG (r:Nat)),eF (rF (some ⟨R,r,rJ⟩)),eF (rE rG (X r:Nat)),fun v w'=>∃u,v=.tuple #[u,.bool true]/\Rd w' u (ivs .i64 (RL r)),fun v w'=>∃u,v=.tuple #[u,.bool true]/\Rd w' u (ivs .i64 (RL r)),fun v w'=>Rd w' v (ivs .i64 (RL r)),eF (.bool true),fun v w'=>Rd w' v (ivs .i64 (RL r)),eF (.bool true)] (by kernel_rfl) (by kernel_rfl) (by kernel_rfl) (kE (kE (kE (kE (kE (Ag (fun v x y h hi k=>let⟨u,e,h2⟩:=h;⟨u,e,(fun v x y h _ k=>Rd.below h k lR) u x y h2 hi k⟩) (Ag (fun v x y h hi k=>let⟨u,e,h2⟩:=h;⟨u,e,(fun v x y h _ k=>Rd.below h k lR) u x y h2 hi k⟩) (Ag (fun v x y h _ k=>Rd.below h k lR) (kE (Ag (fun v x y h _ k=>Rd.below h k lR) (kE (Ae)))))))))))) ?_ ?_
      ·refine gB ?_ (gQ ?_ (gQ ?_ (gQ ?_ (gQ ?_ (gB ?_ (gB ?_ (gB ?_ (gB ?_ (gB ?_ (gQ ?_ .nil))))))))));all_goals
        intro a wx c4 ho hf;refine⟨rfl,?_⟩;intro K hK;try have f6:a.tmps[7]?.getD undef=rF (some ⟨p,0,rJ⟩):=ho 7 (by kernel_rfl)
        try have hO:a.tmps[17]?.getD undef=rD (some ⟨R,0,rJ⟩) n gc:=ho 17 (by kernel_rfl)
        try have hP:a.tmps[18]?.getD undef=rE rG (r:Nat):=ho 18 (by kernel_rfl)
        try have hR:=eqn hf.1
        try have hS:=eqn hf.2.1
        try have hQ:=(c4.cell (p:=⟨R,r,rJ⟩) e5).trans kc
        try(refine Hd ?_;go_simp;exact hK _ rfl)
       ·exact wp_load_row 25 (.tmp 7) rfl _ (evs f6) _ _ (0,0) _ (PI.out.below c4 PI.out.lt) underlying25 rfl (by kernel_rfl) (hK _ _ rfl bR)
       ·go_simp;refine(fW.out r hlt _ wx (SI.out.below c4 lR)).mono ?_;rintro e w2 ⟨⟨u,rfl,H⟩,hD⟩;exact hK _ _ ⟨u,rfl,H.rd⟩ hD
       ·have o0:∃u,(a.tmps[131]?.getD undef)=.tuple #[u,.bool true]/\Rd wx u (ivs .i64 (RL r)):=hf.1;obtain⟨v0,z⟩:=eX (a.tmps[131]?.getD undef);rw[<-z]at o0;have e0:=z.symm;clear z;go_simp;exact hK _ _ o0 bR
       ·have o0:∃u,(a.tmps[125]?.getD undef)=.tuple #[u,.bool true]/\Rd wx u (ivs .i64 (RL r)):=hf.1;obtain⟨v0,z⟩:=eX (a.tmps[125]?.getD undef);rw[<-z]at o0;have e0:=z.symm;clear z;obtain⟨u,rfl,o1⟩:=o0;go_simp;exact hK _ _ o1 bR
       ·have o0:∃u,(a.tmps[125]?.getD undef)=.tuple #[u,.bool true]/\Rd wx u (ivs .i64 (RL r)):=hf.1;obtain⟨v0,z⟩:=eX (a.tmps[125]?.getD undef);rw[<-z]at o0;have e0:=z.symm;clear z;obtain⟨u,rfl,o1⟩:=o0;go_simp;exact hK _ _ rfl bR
       ·have o0:Rd wx (a.tmps[132]?.getD undef) (ivs .i64 (RL r)):=hf.1;obtain⟨v0,z⟩:=eX (a.tmps[132]?.getD undef);rw[<-z]at o0;have e0:=z.symm;clear z;go_simp;exact hK _ _ o0 bR
      ·rintro f w9 aW aY;have aW:Below wr.heap.size wr w9:=aW;have b7:Rd w9 (f 19) (ivs .i64 (RL r)):=aY.2.2.2.2.2.2.2.2.2.1;have eL:f 20=.bool true:=aY.2.2.2.2.2.2.2.2.2.2.1;clear aY;simp only[Ak,At,Ei,dG,dH,dJ,dK,Nat.reduceBEq,Nat.reduceAdd,dO,dP,cond_true,cond_false];obtain⟨u19,cJ⟩:=eX (f 19);rw[<-cJ]at b7|-;clear cJ;rw[eL];clear eL;have aM:=Hd (dU.out.trans (aW.mono dU.out.size));have f3:=Hd (b0.out.trans (aM.out.mono b0.out.size));have R9:=Hd b7;have h7:w9.cell? ⟨R,r,rJ⟩=some (rE rG (X r:Nat)):=(aW.cell (p:=⟨R,r,rJ⟩) e5).trans kc;obtain⟨l1,l2,l3,rfl⟩:∃a n c,u19=.slice a n c:=(by obtain⟨a,c,e,_⟩:=b7;exact⟨_,_,_,e⟩);clear b7 aW kc;go_wp2_with fail;refine(fX.out r hlt w9 f3.out).mono ?_;rintro e c8 ⟨x2,rfl,ox,j⟩;have f4:=Hd ox.rd;have f7:=Hd (R9.out.below j lR);have aK:=Hd (aM.out.trans (j.mono aM.out.size));obtain⟨m1,m2,m3,rfl⟩:=Dr ox;clear ox j;go_wp2_with fail;refine(Zcr _ _ (RL r) c8 f7.out f4.out).mono ?_;rintro e bV ⟨rfl,n9,rfl⟩;have aL:=Hd (Ab aK.out n9);go_wp2_with fail;go_roundg (gk-1);case measure=>have:=HR.out;omega
       case rel=>exact⟨r+1,by have:=HR.out;omega,Fs (by have:=fQ.out;unfold wrap64;omega),aL.out⟩
     ·have e6:decide (r<n)=false:=dF hlt;have e7:¬(r:Int)<(n:Int):=(by omega);have ZI:=Hd (ZL.out.below j lR);have cV:=Hd (b0.out.trans (j.mono b0.out.size));clear j F;go_wp2_with fail;refine(f1.out _ wr cV.out ZI.out).mono ?_;rintro e fF ⟨rfl,j⟩;have dQ:=Hd (cV.out.trans (j.mono cV.out.size));clear j;go_wp2_with fail;go_ret;exact⟨rfl,dQ.out⟩
   ·rw[dF hi]at IS;have cW:=Hd IS;clear SM RI IS TB h C k F cB hi c5 fC hd hN hl hp a0 J cZ eW;have E:=Hd (Below.refl w.heap.size w);go_in;go_wp2_with fail;refine(bX.out w).mono ?_;rintro e w1 ⟨rfl,j⟩;have l:=Hd (E.out.trans (j.mono E.out.size));clear j;go_wp2_with fail;refine(aV.out w1 l.out).mono ?_;rintro e w2 ⟨rfl,j⟩;have A:=Hd (l.out.trans (j.mono l.out.size));clear j;go_wp2_with fail;refine(b4.out w2 A.out).mono ?_;rintro e w3 ⟨rfl,j⟩;have M:=Hd (A.out.trans (j.mono A.out.size));clear j;go_wp2_with fail;refine(cW.out w3 M.out).mono ?_;rintro e w4 ⟨rfl,j⟩;have aU:=Hd (M.out.trans (j.mono M.out.size));clear j;go_wp2_with fail;go_ret;exact⟨rfl,aU.out⟩
