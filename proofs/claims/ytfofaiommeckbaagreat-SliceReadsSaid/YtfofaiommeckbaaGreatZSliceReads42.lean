/- Walks: (piece).right. -/
import Derived.Test.YtfofaiommeckbaaGreatZSliceReadsB
import Derived.Test.YtfofaiommeckbaaGreatZSliceReads40
import Derived.Maps.RangeWalk
open Nat renaming log2 → aV, two_pow_pos → eG, le_of_lt → dL, log2_two_pow → fK, le_trans → dG, le_succ → fN
open Bool renaming and_eq_true → bS, not_eq_true' → bU, or_false → cL, or_true → cM, true_and → dS
open List renaming any_eq_false → fS, getElem?_toArray → bK, getElem?_cons_zero → bL, getElem?_cons_succ → bM, map_cons → fT, mem_cons → aE, length_map → fJ, getElem_map → fU, replicate → cS, filterMap_cons → cH, filterMap_nil → cI, contains_cons → cJ, contains_nil → cK, getElem_mem → aJ, getElem_of_mem → cQ, mem_map_of_mem → fV
open Int renaming toNat_natCast → cO, tmod_eq_emod_of_nonneg → eI
set_option linter.unusedVariables false
set_option maxRecDepth 100000
set_option maxHeartbeats 40000000
namespace Go.Proofs.YtfofaiommeckbaaGreat
open Go.RowKit Go.Maps WalkM WireM
section
def Cl (lv ow:Int)(F:Int→Option NodeD)(H:Int→Option (List Nat))(KF KH:List Int)(only:Bool):Bool:=
 fits lv.toNat&&decide (0≤ow∧ow<lv)&&decide (((F (2*ow)).getD Ak).kind=1)&&(KF.all fun x=>Ce x ((F x).getD Ak))&&(KH.all fun x=>decide (((H x).getD []).length=32))&&
  ((Cq (fun n:Nat=>F n) ow.toNat only (aV lv.toNat) (2^aV lv.toNat-1) 0 []).2.2&&decide ((Cq (fun n:Nat=>F n) ow.toNat only (aV lv.toNat) (2^aV lv.toNat-1) 0 []).1=KF)&&decide ((Cq (fun n:Nat=>F n) ow.toNat only (aV lv.toNat) (2^aV lv.toNat-1) 0 []).2.1=KH))
section
variable {lv ow:Int} {F:Int→Option NodeD} {H:Int→Option (List Nat)} {KF KH:List Int} {only:Bool}
theorem Zcw (h:fits lv.toNat=false):Cl lv ow F H KF KH only=false:=by rw[Cl,h];rfl
theorem Zhq (h:¬(0≤ow∧ow<lv)):Cl lv ow F H KF KH only=false:=by rw[Cl,decide_eq_false h];simp
theorem Ziy (h:((F (2*ow)).getD Ak).kind≠1):Cl lv ow F H KF KH only=false:=by rw[Cl,decide_eq_false h];simp
theorem Zcx {x:Int} {d:NodeD}(hk:∀x,x∈KF↔(F x).isSome=true)(hF:F x=some d)(h:Ce x d=false):Cl lv ow F H KF KH only=false:=by
 have:(KF.all fun x=>Ce x ((F x).getD Ak))=false:=List.all_eq_false.2 ⟨x,(hk x).2 (by rw[hF];rfl),by rw[hF];simpa using h⟩;rw[Cl,this];simp
theorem Zjy {x:Int} {L:List Nat}(hk:∀x,x∈KH↔(H x).isSome=true)(hF:H x=some L)(h:L.length≠32):Cl lv ow F H KF KH only=false:=by
 have:(KH.all fun x=>decide (((H x).getD []).length=32))=false:=List.all_eq_false.2 ⟨x,(hk x).2 (by rw[hF];rfl),by rw[hF];simpa using h⟩;rw[Cl,this];simp
theorem Ziz (h1:fits lv.toNat=true)(h2:0≤ow∧ow<lv)(h3:((F (2*ow)).getD Ak).kind=1)(hk:∀x,x∈KF↔(F x).isSome=true)(h4:∀x d,F x=some d→Ce x d=true)(hk2:∀x,x∈KH↔(H x).isSome=true)(h5:∀x L,H x=some L→L.length=32):
  Cl lv ow F H KF KH only=((Cq (fun n:Nat=>F n) ow.toNat only (aV lv.toNat) (2^aV lv.toNat-1) 0 []).2.2&&decide ((Cq (fun n:Nat=>F n) ow.toNat only (aV lv.toNat) (2^aV lv.toNat-1) 0 []).1=KF)&&decide ((Cq (fun n:Nat=>F n) ow.toNat only (aV lv.toNat) (2^aV lv.toNat-1) 0 []).2.1=KH)):=by
 have e4:(KF.all fun x=>Ce x ((F x).getD Ak))=true:=List.all_eq_true.2 fun x hx=>by
  have:=(hk x).1 hx;cases hF:F x with
  |none=>rw[hF]at this;cases this
  |some d=>exact h4 x d hF
 have e5:(KH.all fun x=>decide (((H x).getD []).length=32))=true:=List.all_eq_true.2 fun x hx=>by
  have:=(hk2 x).1 hx;cases hF:H x with
  |none=>rw[hF]at this;cases this
  |some d=>exact decide_eq_true (h5 x d hF)
 rw[Cl,h1,decide_eq_true h2,decide_eq_true h3,e4,e5];simp
end
theorem Tm {w w':World} {P:Program} {k:TypeId} {b r n B:Nat} {D:DataW Value} {left:Lit→Bool} {cnt:Nat}(h:w.ranges P k rdV b r n D left cnt)(hb:Below B w w')(h1:b<B)(h2:r<B):w'.ranges P k rdV b r n D left cnt:=by
 obtain⟨es,clock,since,seen,c0,hb',F,hs,hD,hr,rest⟩:=h;exact⟨es,clock,since,seen,c0,(hb.block b h1).trans hb',F,hs,hD,(hb.block r h2).trans hr,rest⟩
theorem Tn {D:DataW Value} {G:Int→Option Value}(h2:∀x,has D (.int .i64 x)=(G x).isSome)(h3:∀x v z,G x=some v→D.atKey (.int .i64 x) z=.held v) {x:Int} {c:Value}(hat:∀zd,D.atKey (.int .i64 x) zd=.held c):G x=some c:=by
 cases hG:G x with
 |none=>
  have hn:has D (.int .i64 x)=false:=(by rw[h2,hG];rfl);have:=hat .nil;rw[atKey_of_not_has hn]at this;cases this
 |some u=>
  have:=(h3 x u .nil hG).symm.trans (hat .nil);cases this;rfl
theorem Zcy {key:Value} {kl:Lit}(h:keyOf Tryz.prog 3 key=some kl):∃x:Int,key=.int .i64 x:=by
 obtain⟨x,e,_⟩:=Maps.keyOf_int_inv Tryz.underlying3 h;exact⟨x,e⟩
theorem Zcz {x:Int} {kl:Lit}(h:keyOf Tryz.prog 3 (.int .i64 x)=some kl):kl=.int .i64 x:=by
 obtain⟨x',e,e2,_⟩:=Maps.keyOf_int_inv Tryz.underlying3 h;cases e;exact e2
theorem Zhr {left:Lit→Bool} {x y:Int}(h:(left (.int .i64 y)&& !(Lit.int .i64 y).sameKey (.int .i64 x))=false):left (.int .i64 y)=false∨y=x:=by
 rw[Bool.and_eq_false_iff]at h;rcases h with h|h
 ·exact .inl h
 ·right
  have h2:(Lit.int .i64 y).sameKey (.int .i64 x)=true:=(by simpa using h);have:=(WideAt.sameKey_iff (St x)).1 h2;cases this;rfl
theorem Zx (x0 x1 x2 x3 x4 x5 x6 x7 x8 x9:Value)(w:World):(Instr.field 52 (.agg #[x0,x1,x2,x3,x4,x5,x6,x7,x8,x9]) 0).run Tryz.prog w=.ok x0 w:=by kernel_rfl
theorem Xv:∀(L:List Int) (a M:Int),L.Pairwise (· < ·)→(∀y∈L,a≤y∧y<M)→L.length≤(M-a).toNat:=by
 intro L
 induction L with
 |nil=>intro a M _ _;simp
 |cons x L ih=>
  intro a M hp hb;rw[List.pairwise_cons]at hp;have h1:=hb x (by simp);have:=ih (x+1) M hp.2 fun y hy=>⟨by have:=hp.1 y hy;omega,(hb y (by simp[hy])).2⟩;rw[List.length_cons];omega
theorem Hh {x:Int} {d:NodeD}(h:Ce x d=true):Aq d=true:=by unfold Ce at h;rw[bS]at h;exact h.1
theorem Pi {x:Int} {d:NodeD}(h:Ce x d=true):∀u∈d.par.late,Bt (2*u) x=true:=by
 unfold Ce at h;rw[bS,bS,bU,fS]at h;intro u hu;have:=h.2.2 u hu;simpa using this
def Zhs (F:Int→Option NodeD):Prop:=∀x d,F x=some d→inI x∧NodeOk d∧Cb d=true
theorem Kp {w w':World} {P:Program} {k:TypeId} {b n B:Nat} {D:DataW Value}(h:w.ownsMap P k rdV b n D)(hb:Below B w w')(hB:b<B):w'.ownsMap P k rdV b n D:=by
 obtain⟨es,clock,h0,h1⟩:=h;exact⟨es,clock,(hb.block b hB).trans h0,h1⟩
theorem Zgc {w:World} {G:Int→Option Value} {F:Int→Option NodeD}(h:NodesG w G F) {x:Int} {v:Value}(hG:G x=some v):∃d c,F x=some d∧v=.agg c∧NodeC w d c:=by
 have:=h x;cases hF:F x with
 |none=>rw[hF]at this;have h2:G x=none:=this;rw[h2]at hG;cases hG
 |some d=>rw[hF]at this;obtain⟨c,hc,hn⟩:=this;rw[hG]at hc;cases hc;exact⟨d,c,rfl,rfl,hn⟩
theorem Zi0 {w:World} {G:Int→Option Value} {H:Int→Option (List Nat)}(h:RunsH w G H) {x:Int} {v:Value}(hG:G x=some v):∃L,H x=some L∧Rd w v (bvs L):=by
 have:=h x;cases hF:H x with
 |none=>rw[hF]at this;have h2:G x=none:=this;rw[h2]at hG;cases hG
 |some d=>rw[hF]at this;obtain⟨c,hc,hn⟩:=this;rw[hG]at hc;cases hc;exact⟨d,rfl,hn⟩
theorem Pj (lv ow:Int) (ob sb nb mb:Nat) (F:Int→Option NodeD) (H:Int→Option (List Nat)) (KF KH:List Int) (only:Bool) (w:World) (hN:PieceN w ob nb F) (hH:PieceH w sb mb H) (hnb:nb≤1000000) (hmb:mb≤1000000) (hF:Zhs F)
  (hkf:KF.Pairwise (· < ·)) (hkf2:∀x,x∈KF↔(F x).isSome=true) (hkh:KH.Pairwise (· < ·)) (hkh2:∀x,x∈KH↔(H x).isSome=true) (hfl:KF.length≤1000000) (hhl:KH.length≤1000000) (hlv:inI lv) (how:inI ow):
  Calls Tryz.prog 123 #[.agg #[.int .i64 lv,.int .i64 ow,.map (some ob),.map (some sb)],.bool only] w fun e w'=>e=.returned (.bool (Cl lv ow F H KF KH only))∧Below w.heap.size w w':=by
 obtain⟨G,⟨D,hD1,hD2,hD3⟩,hG⟩:=hN;obtain⟨G',⟨D',hE1,hE2,hE3⟩,hG'⟩:=hH;have hG:NodesG w G F:=hG;have hG':RunsH w G' H:=hG';have hob:=hD1.lt;have hsb:=hE1.lt;have HMAP:=Hd fun(W:World) (h:W.ownsMap Tryz.prog 3 rdV ob nb D)=>(show MapF W ob nb G from⟨D,h,hD2,hD3⟩);have HMAP':=Hd fun(W:World) (h:W.ownsMap Tryz.prog 3 rdV sb mb D')=>(show MapF W sb mb G' from⟨D',h,hE2,hE3⟩);have HENT:=Hd fun(x:Int) (c:Value) (hat:∀zd,D.atKey (.int .i64 x) zd=.held c)=>Zgc hG (Tn hD2 hD3 hat);have HENT':=Hd fun(x:Int) (c:Value) (hat:∀zd,D'.atKey (.int .i64 x) zd=.held c)=>Zi0 hG' (Tn hE2 hE3 hat);have hs0:∀x d,F x=some d→has D (.int .i64 x)=true:=fun x d hF=>by
  rw[hD2,(hG.some hF).1];rfl
 have hs0':∀x L,H x=some L→has D' (.int .i64 x)=true:=fun x L hF=>by
  have:=hG' x;rw[hF]at this;obtain⟨v,hv,_⟩:=this;rw[hE2,hv];rfl
 have HS0:=Hd hs0;have HS0':=Hd hs0';have HRF:=Hd (Zcw (lv:=lv) (ow:=ow) (F:=F) (H:=H) (KF:=KF) (KH:=KH) (only:=only));have HRO:=Hd (Zhq (lv:=lv) (ow:=ow) (F:=F) (H:=H) (KF:=KF) (KH:=KH) (only:=only));have HRK:=Hd (Ziy (lv:=lv) (ow:=ow) (F:=F) (H:=H) (KF:=KF) (KH:=KH) (only:=only));have HRP:=Hd fun x d=>Zcx (lv:=lv) (ow:=ow) (F:=F) (H:=H) (KF:=KF) (KH:=KH) (only:=only) (x:=x) (d:=d) hkf2;have HRL:=Hd fun x d=>Zjy (lv:=lv) (ow:=ow) (F:=F) (H:=H) (KF:=KF) (KH:=KH) (only:=only) (x:=x) (L:=d) hkh2;have HRR:=Hd fun h1 h2 h3 h4=>Ziz (lv:=lv) (ow:=ow) (F:=F) (H:=H) (KF:=KF) (KH:=KH) (only:=only) h1 h2 h3 hkf2 h4 hkh2;have HFK:=Hd hF;have HGN:=Hd hG;have KFA:Db G KF:=⟨hkf,fun x=>by rw[hkf2,(hG.val x).2]⟩;have KHA:Db G' KH:=⟨hkh,fun x=>by
  rw[hkh2];have:=hG' x;cases hF:H x with
  |none=>rw[hF]at this;have h2:G' x=none:=this;rw[h2];exact Iff.rfl
  |some d=>rw[hF]at this;obtain⟨c,hc,hn⟩:=this;rw[hc];exact Iff.rfl⟩
 have HKFA:=Hd KFA;have HKHA:=Hd KHA;have HFL:=Hd hfl;have HHL:=Hd hhl;obtain⟨OD,hOD⟩:=eX ((F (2*ow)).getD Ak);have hoc:(G (2*ow)).getD (.agg Zw)=.agg (Eu G (2*ow))∧NodeC w OD (Eu G (2*ow)):=by
  refine⟨(hG.val _).1,?_⟩;rw[hOD];cases hF:F (2*ow)with
  |none=>rw[(hG.none hF).2];exact Lr w
  |some d=>exact(hG.some hF).2
 have hok:OD.kind<256:=by
  rw[hOD];cases hF2:F (2*ow)with
  |none=>decide
  |some d=>exact(hF _ _ hF2).2.1.kind
 rw[←hOD]at HRK HRR;obtain⟨RES,hRES⟩:=eX (Cl lv ow F H KF KH only);rw[←hRES]at HRF HRO HRK HRP HRL HRR⊢;obtain⟨hoc1,hoc2⟩:=hoc;obtain⟨x1,x2,x3,x4,x5,x6,x7,x8,b3,e3,hcc,-⟩:=hoc2.frame;obtain⟨kd,hkd⟩:=eX OD.kind;obtain⟨l8,hl8⟩:=eX OD.par.late.length;rw[hcc]at hoc1;rw[←hkd]at hok HRK HRR hoc1;rw[←hl8]at hoc1;obtain⟨w1,hw1⟩:=eX (w.alloc (.cells #[.int .i64 lv,.int .i64 ow,.map (some ob),.map (some sb)] 101));have HWE:=Hd hw1;have h1b:Below w.heap.size w w1:=(by rw[hw1];exact(Below.refl w.heap.size w).alloc lR (.cells #[.int .i64 lv,.int .i64 ow,.map (some ob),.map (some sb)] 101));have HW1:=Hd h1b;have HSZ1:=Hd (show w1.heap.size=w.heap.size+1 by rw[hw1];simp);have HOWN1:=Hd (show w1.ownsMap Tryz.prog 3 rdV ob nb D by rw[hw1];exact hD1.alloc _);have HOWN1':=Hd (show w1.ownsMap Tryz.prog 3 rdV sb mb D' by rw[hw1];exact hE1.alloc _);have HBX:=Hd (show Blk w1 w.heap.size 101 #[.int .i64 lv,.int .i64 ow,.map (some ob),.map (some sb)] by rw[hw1];exact Blk.new w 101 #[.int .i64 lv,.int .i64 ow,.map (some ob),.map (some sb)]);have c0:=HBX.out.cell 0;have c1:=HBX.out.cell 1;have c2:=HBX.out.cell 2;simp only[bK,bL,bM]at c0 c1 c2;unfold inI at hlv how;have HLV:=Hd hlv;have HOW:=Hd how;have RGF:=fun(hi:inI (2*ow))=>MapF.run_get (T:=98) (HMAP.out _ HOWN1.out) Tryz.underlying98 (Nl _) hi;rw[hoc1]at RGF;have HRGL:=Hd RGF;have HFI:=Hd (Jb lv w1 (by omega) (by omega));obtain⟨ft,hft⟩:=eX (fits lv.toNat);rw[←hft]at HFI;have HFTE:=Hd hft;clear hRES hD1 hD2 hD3 hG hE1 hE2 hE3 hG' hs0 hs0' hF hkf hkf2 hkh hkh2 hfl hhl hlv how hOD hoc1 hoc2 hcc hkd hl8 RGF hft KFA KHA h1b hw1;cases ft with
 |false=>
  have HE:=Hd (HRF.out HFTE.out.symm);go_enter Tryz.func123,Tryz.ntmps123;go_wp2_with fail;rw[←HWE.out];refine HFI.out.mono ?_;rintro e w2 ⟨rfl,rfl⟩;go_wp2_with fail;go_ret;exact⟨Dg HE.out,HW1.out⟩
 |true=>
  by_cases ho1:0≤ow
  ·have ho1':decide (ow<0)=false:=decide_eq_false (by omega)
   by_cases ho2:ow<lv
   ·have ho2':decide (ow≥lv)=false:=decide_eq_false (by omega);have HOO:=Hd (show 0≤ow∧ow<lv from⟨ho1,ho2⟩);have hlvb:lv≤65536:=by
     obtain⟨d,hd,e⟩:=(fits_iff _).1 HFTE.out.symm;have:2^d≤2^16:=Nat.pow_le_pow_right (by omega) hd;have h16:(2:Nat)^16=65536:=rfl;omega
    have HIN2:=Hd (show inI (2*ow) by unfold inI;omega);have RG:=HRGL.out HIN2.out;have FK:=Zx (.int .u8 (kd:Nat)) x1 x2 x3 x4 x5 x6 x7 x8 (.slice b3 l8 e3)
    by_cases hk1:kd=1
    ·have hk1':((kd:Int) !=1)=false:=(by simp;omega);have HK1:=Hd hk1;clear hk1;go_enter Tryz.func123,Tryz.ntmps123;go_wp2_with fail;rw[←HWE.out];refine HFI.out.mono ?_;rintro e w2 ⟨rfl,rfl⟩;go_wp2_with (first
      |(at_range;refine wpList_range_own _ rfl _ 98 rfl 3 52 Zhg Tryz.underlying98 rdV ob nb D rfl HOWN1.out ?_;intro w0 hrg0 hg0 hs0)
      |go_in)
     try go_frame
     have HSS:=Hd hs0;obtain⟨r,hr⟩:=eX w1.heap.size;rw[←hr]at hrg0⊢;have HR:=Hd hr;have HRG0:=Hd hrg0;have HB0:=Hd (show Below r w1 w0 from by rw[hr];exact(Below.refl _ w1).grown hg0 lR (by intro k e;cases e));clear hrg0 hg0 hs0 hr c0 c1 c2 RG FK
     go_loopw [5] (fun _ wr=>∃(left:Lit→Bool) (cnt:Nat),wr.ranges Tryz.prog 3 rdV ob r nb D left cnt∧(∀x d,F x=some d→left (.int .i64 x)=false→Ce x d=true)∧Below r w1 wr) (fun _ wr=>wr.rangeLeft ob r)
     case atStart=>exact⟨_,_,HRG0.out,(fun x d hF hl=>by rw[HS0.out x d hF]at hl;cases hl),HB0.out⟩
     case round=>
      obtain⟨left,cnt,hrg,hpl,hb⟩:=hrel;have HPL:=Hd hpl;have HB:=Hd hb;have HRG:=Hd hrg;clear hpl hb hrg;go_wp2_with (first
       |(at_next;refine wpList_next_ranges _ rfl _ rfl 3 Zhg rdV (Value.int .i64) (fun v:Value=>v) (fun key kl h=>Zcy h) (fun v y h=>⟨v,rfl⟩) ob r nb D left cnt rfl HRG.out ?_ ?_)
       |go_in)
      ·intro hc0 hl0;have HALL:=Hd (show∀x d,F x=some d→Ce x d=true from fun x d hF=>HPL.out x d hF (hl0 _));clear hc0 hl0;have HBXr:=Hd (HBX.out.below HB.out (by rw[HR.out];exact HBX.out.lt));have c3:=HBXr.out.cell 3;simp only[bK,bL,bM]at c3;have HOWN2:=Hd (Kp HOWN1'.out HB.out (by have:=HR.out;have:=HSZ1.out;omega));obtain⟨wo,rfl⟩:∃wo:World,wo=wr:=⟨_,rfl⟩;go_wp2_with (first
        |(at_range;refine wpList_range_own _ rfl _ 99 rfl 3 28 Zhg Tryz.underlying99 rdV sb mb D' rfl HOWN2.out ?_;intro w0 hrg0 hg0 hs0)
        |go_in)
       try go_frame
       obtain⟨r2,hr2⟩:=eX wo.heap.size;rw[←hr2]at hrg0⊢;have HR2:=Hd hr2;have HRG2:=Hd hrg0;have HB2:=Hd (show Below r2 wo w0 from by rw[hr2];exact(Below.refl _ wo).grown hg0 lR (by intro k e;cases e));clear hrg0 hg0 hs0 hr2 c3
       go_loopw [8] (fun _ wr=>∃(left:Lit→Bool) (cnt:Nat),wr.ranges Tryz.prog 3 rdV sb r2 mb D' left cnt∧(∀x L,H x=some L→left (.int .i64 x)=false→L.length=32)∧Below r2 wo wr) (fun _ wr=>wr.rangeLeft sb r2)
       case atStart=>exact⟨_,_,HRG2.out,(fun x d hF hl=>by rw[HS0'.out x d hF]at hl;cases hl),HB2.out⟩
       case round=>
        obtain⟨left2,cnt2,hrg,hpl,hb⟩:=hrel;have HPL2:=Hd hpl;have HB3:=Hd hb;have HRG3:=Hd hrg;clear hpl hb hrg;go_wp2_with (first
         |(at_next;refine wpList_next_ranges _ rfl _ rfl 3 Zhg rdV (Value.int .i64) (fun v:Value=>v) (fun key kl h=>Zcy h) (fun v y h=>⟨v,rfl⟩) sb r2 mb D' left2 cnt2 rfl HRG3.out ?_ ?_)
         |go_in)
        ·intro hc0 hl0;have HALL2:=Hd (show∀x L,H x=some L→L.length=32 from fun x d hF=>HPL2.out x d hF (hl0 _));clear hc0 hl0;obtain⟨d,hd,hlv⟩:∃d,d≤16∧lv=((2^d:Nat):Int):=by
          obtain⟨d,hd,e⟩:=(fits_iff _).1 HFTE.out.symm;exact⟨d,hd,by have:=HOO.out;omega⟩
         obtain⟨i,rfl⟩:∃i:Nat,ow=(i:Int):=⟨ow.toNat,by have:=HOO.out.1;omega⟩;have hib:i≤65536:=(by have:=HOO.out.2;omega);obtain⟨hM,e2⟩:=Dc hd;have hp:=eG d;have hrw:w.heap.size<r:=(by have:=HR.out;have:=HSZ1.out;omega);have hrr:r≤r2:=(by have:=HRG.out.lt;have:=HR2.out;omega);have hb1r:Below r w1 wr:=HB.out.trans (HB3.out.mono hrr);have HWr:=Hd (HW1.out.trans (hb1r.mono (dL hrw)));have HBXe:=Hd (HBX.out.below hb1r hrw);have HME:=Hd (HMAP.out _ (Kp HOWN1.out hb1r (by omega)));have HME':=Hd (HMAP'.out _ (Kp HOWN1'.out hb1r (by omega)));have AN:AtN wr (fun n:Nat=>F n) (fun n:Nat=>Eu G n):=⟨fun x=>HGN.out.ten x,fun x d hF=>((HGN.out.some hF).2).below HWr.out lR,fun x=>HGN.out.one x,fun x d hF=>(HFK.out _ _ hF).2.1.kind,fun x d hF=>⟨Eo (Ck (Hh (HALL.out _ _ hF))),by have:=of_decide_eq_true (HFK.out _ _ hF).2.2;omega⟩⟩;have HAT:∀x,x<2*2^d-1→AtC 181 w.heap.size wr wr.heap.size (fun n:Nat=>F n) (fun n:Nat=>Eu G n) x:=fun x hx W hW=>Zix w.heap.size ob nb _ _ _ G F (x:Int) w W (HBXe.out.below hW HBXe.out.lt) (HME.out.below hW lR) HGN.out (by unfold inI;omega);have OPS:=Sp 181 w.heap.size (fun _ _=>rfl) (fun n:Nat=>F n) (fun n:Nat=>Eu G n) wr AN d i only hib hd HAT;have RST:=HRR.out HFTE.out.symm HOO.out HK1.out HALL.out HALL2.out;rw[←hlv]at OPS;rw[hlv]at RST;simp only[cO,fK]at RST;have SP:=Ea (F:=fun n:Nat=>F n) (i:=i) (only:=only) d (2^d-1) 0 [] (My d) (by omega);obtain⟨V,hV⟩:=eX (Cq (fun n:Nat=>F n) i only d (2^d-1) 0 []);rw[←hV]at OPS RST SP;have hl1:V.1.length≤1000000:=by
          have:=Xv V.1 0 131071 SP.opr fun y hy=>(by obtain⟨m,e,h⟩:=SP.op y hy;unfold inR at h;omega);omega
         have hl2:V.2.1.length≤1000000:=by
          have:=Xv V.2.1 0 131071 SP.shr fun y hy=>(by obtain⟨m,e,h⟩:=SP.sh y hy;unfold inR at h;omega);omega
         have HOPS:=Hd OPS;have HRST:=Hd RST;have HL1:=Hd hl1;have HL2:=Hd hl2;have c0:=HBXe.out.cell 0;have c1:=HBXe.out.cell 1;simp only[bK,bL,bM]at c0 c1;clear hlv hM e2 hp hb1r AN HAT OPS RST SP hV hl1 hl2 hd;go_wp2_with fail;refine HOPS.out.mono ?_;rintro e w6 ⟨vo,vs,rfl,hvo,hvs,hb6⟩;have HVO:=Hd hvo.rd;have HVS:=Hd hvs.rd;have HW6:=Hd (HWr.out.trans (hb6.mono HWr.out.size));have HM6:=Hd (HME.out.below hb6 lR);have HM6':=Hd (HME'.out.below hb6 lR);have HBX6:=Hd (HBXe.out.below hb6 HBXe.out.lt);have HXLT:=Hd HBX6.out.lt;have k2:=HBX6.out.cell 2;simp only[bK,bL,bM]at k2;obtain⟨p1,p2,p3,rfl⟩:=Dl hvo;obtain⟨q1,q2,q3,rfl⟩:=Dl hvs;obtain⟨ok,hok⟩:=eX V.2.2;rw[←hok];rw[←hok]at HRST;clear hvo hvs hb6 c0 c1 hok;cases ok with
         |false=>
          go_wp2_with fail;go_ret;exact⟨Dg (by rw[HRST.out];rfl),HW6.out⟩
         |true=>
          have HK:=Hd (Su (some ob) w6);have HSO:=Hd (Nc ob nb w6.heap.size G KF (w6.alloc (.cells #[.map (some ob)] 98)) (HM6.out.alloc _) HKFA.out hnb (by rw[(Blk.new w6 _ _).cell];rfl) (by simp));have HA6:=Hd ((Below.refl w6.heap.size w6).alloc lR (.cells #[.map (some ob)] 98));go_wp2_with fail;refine HK.out.mono ?_;rintro e w7 ⟨rfl,rfl⟩;go_wp2_with fail;refine HSO.out.mono ?_;rintro e w8 ⟨v8,rfl,hv8,hb8⟩;have HB8:=Hd (HA6.out.trans (hb8.mono HA6.out.size));have HV8:=Hd hv8.rd;have HVO8:=Hd (HVO.out.below HB8.out lR);have HEQ1:=Hd (Xc _ _ V.1 KF w8 HVO8.out HV8.out HL1.out HFL.out);obtain⟨t1,t2,t3,rfl⟩:=Dl hv8;obtain⟨b1,hb1⟩:=eX (decide (V.1=KF));rw[←hb1]at HEQ1;rw[←hb1]at HRST;clear hv8 hb8 hb1;cases b1 with
          |false=>
           go_wp2_with fail;refine HEQ1.out.mono ?_;rintro e w9 ⟨rfl,n9,rfl⟩;go_wp2_with fail;go_ret;exact⟨Dg (by rw[HRST.out];rfl),Ac (HW6.out.trans (HB8.out.mono HW6.out.size)) _⟩
          |true=>
           have HBX9:=Hd (fun n9=>(HBX6.out.below HB8.out HXLT.out).drewN n9);have HVS9:=Hd (fun n9=>(HVS.out.below HB8.out lR).drewN n9);have HM9:=Hd (fun n9=>(HM6'.out.below HB8.out lR).drewN n9);go_wp2_with fail;refine HEQ1.out.mono ?_;rintro e w9 ⟨rfl,n9,rfl⟩;have k3:=(HBX9.out n9).cell 3;simp only[bK,bL,bM]at k3;have HB9:=Hd (show Below w6.heap.size w6 (w8.drewN n9)from Ac HB8.out _);have HVSN:=Hd (HVS9.out n9);have HMN:=Hd (HM9.out n9);obtain⟨w9,hw9⟩:=eX (w8.drewN n9);rw[←hw9]at HB9 HVSN HMN k3⊢;clear hw9 HBX9 HVS9 HM9;have HK2:=Hd (Sv (some sb) w9);have HSO2:=Hd (Nd sb mb w9.heap.size G' KH (w9.alloc (.cells #[.map (some sb)] 99)) (HMN.out.alloc _) HKHA.out hmb (by rw[(Blk.new w9 _ _).cell];rfl) (by simp));have HA9:=Hd ((Below.refl w9.heap.size w9).alloc lR (.cells #[.map (some sb)] 99));go_wp2_with fail;refine HK2.out.mono ?_;rintro e w10 ⟨rfl,rfl⟩;go_wp2_with fail;refine HSO2.out.mono ?_;rintro e w11 ⟨v11,rfl,hv11,hb11⟩;have HB11:=Hd (HA9.out.trans (hb11.mono HA9.out.size));have HEQ2:=Hd (Xc _ _ V.2.1 KH w11 (HVSN.out.below HB11.out lR) hv11.rd HL2.out HHL.out);have HBF:=Hd (HW6.out.trans ((HB9.out.trans (HB11.out.mono HB9.out.size)).mono HW6.out.size));obtain⟨s1,s2,s3,rfl⟩:=Dl hv11;obtain⟨b2,hb2⟩:=eX (decide (V.2.1=KH));rw[←hb2]at HEQ2;rw[←hb2]at HRST;clear hv11 hb11 hb2;go_wp2_with fail;refine HEQ2.out.mono ?_;rintro e w12 ⟨rfl,n12,rfl⟩;go_wp2_with fail;go_ret;exact⟨Dg (by rw[HRST.out];rfl),Ac HBF.out _⟩
        ·intro x c kl y1 y2 w5 cnt5 hkey hlk hv hat hrg1 hlt hg1 hs1 hen;obtain rfl:=Zcz hkey;have hy:y1=.held c:=(by unfold rdV at hv;cases hv;rfl);subst hy;obtain⟨L,hHx,hrd⟩:=HENT'.out x c hat;obtain⟨ua,uc,rfl⟩:∃a k,c=.slice a L.length k:=(by obtain⟨a,k,e,_⟩:=hrd;exact⟨a,k,by rw[e,bvs_len]⟩);have HB5:=Hd (HB3.out.trans ((Below.refl r2 _).grown hg1 (by have:=HRG3.out.lt;omega) (by intro k e;cases e;exact lR)));have HRG5:=Hd hrg1;have HLT:=Hd hlt;have HSTEP:=Hd (fun(h32:L.length=32)=>(show∀y M,H y=some M→(left2 (.int .i64 y)&& !(Lit.int .i64 y).sameKey (.int .i64 x))=false→M.length=32 from fun y M hy hl=>by
          rcases Zhr hl with h|h
          ·exact HPL2.out y M hy h
          ·rw[h,hHx]at hy;cases hy;exact h32))
         have HBAD:=Hd (HRL.out x L hHx);obtain⟨ul,hul⟩:=eX L.length;rw[←hul]at HSTEP HBAD hen⊢;clear hul hkey hlk hv hat hrg1 hlt hg1 hs1 hHx hrd
         by_cases h32:ul=32
         ·have h32':((ul:Int) !=32)=false:=(by simp;omega);have HST:=Hd (HSTEP.out h32);clear h32;go_wp2_with fail
          go_roundw
          case rel=>exact⟨_,cnt5,HRG5.out,HST.out,HB5.out⟩
          case measure=>rw[HRG5.out.left_eq,HRG3.out.left_eq];exact HLT.out
         ·have h32':((ul:Int) !=32)=true:=(by simp;omega);have HE:=Hd (HBAD.out h32);have HBQ:=Hd (HW1.out.trans ((HB.out.trans (HB5.out.mono (show r≤r2 by have:=HRG.out.lt;have:=HR2.out;omega))).mono (show w.heap.size≤r by have:=HR.out;have:=HSZ1.out;omega)));clear h32;go_wp2_with fail;go_ret;exact⟨Dg HE.out,HBQ.out⟩
      ·intro x c kl y1 y2 w5 cnt5 hkey hlk hv hat hrg1 hlt hg1 hs1 hen;obtain rfl:=Zcz hkey;have hy:y1=.held c:=(by unfold rdV at hv;cases hv;rfl);subst hy;obtain⟨d,cc,hFx,rfl,hnc⟩:=HENT.out x c hat;have HONE:=Hd hnc.oneL;obtain⟨hxi,hnk,hsm⟩:=HFK.out x d hFx;have HB5:=Hd (HB.out.trans ((Below.refl r _).grown hg1 (by have:=HRG.out.lt;omega) (by intro k e;cases e;exact lR)));have HRG5:=Hd hrg1;have HLT:=Hd hlt;have HPLC:=Hd fun(W:World) (hw:Below w.heap.size w W)=>Vi x d cc W (hnc.below hw lR) hnk hsm hxi;have HSTEP:=Hd (fun(hp:Ce x d=true)=>(show∀y e,F y=some e→(left (.int .i64 y)&& !(Lit.int .i64 y).sameKey (.int .i64 x))=false→Ce y e=true from fun y e hy hl=>by
        rcases Zhr hl with h|h
        ·exact HPL.out y e hy h
        ·rw[h]at hy⊢;rw[hFx]at hy;cases hy;exact hp))
       have HBAD:=Hd (fun hp=>HRP.out x d hFx hp);obtain⟨z0,z1,z2,z3,z4,z5,z6,z7,z8,z9,rfl⟩:=hnc.ten;obtain⟨pd,hpd⟩:=eX (Ce x d);rw[←hpd]at HPLC;have HPD:=Hd hpd;have HBW5:=Hd (HW1.out.trans (HB5.out.mono (show w.heap.size≤r by have:=HR.out;have:=HSZ1.out;omega)));have HS5:=Hd (show r<w5.heap.size from by rw[hs1];exact HRG.out.lt);obtain⟨q,hq⟩:=eX w5.heap.size;have HQ:=Hd hq;have HQK:=Hd (show Blk (w5.alloc (.cells #[.int .u8 0,.slice none 0 0,.slice none 0 0,.slice none 0 0,.int .u8 0,.slice none 0 0,.slice none 0 0,.slice none 0 0,.slice none 0 0,.slice none 0 0] 52)) q 52 #[.int .u8 0,.slice none 0 0,.slice none 0 0,.slice none 0 0,.int .u8 0,.slice none 0 0,.slice none 0 0,.slice none 0 0,.slice none 0 0,.slice none 0 0] by rw[hq];exact Blk.new _ _ _);clear hkey hlk hv hat hrg1 hlt hg1 hs1 hFx hnc hpd hq hsm hnk;go_wp2_with (refine Aa rfl 52 (.tmp 6) (.tmp 45) rfl w5.heap.size #[z0,z1,z2,z3,z4,z5,z6,z7,z8,z9] rfl rfl 52 #[.int .u8 0,.slice none 0 0,.slice none 0 0,.slice none 0 0,.int .u8 0,.slice none 0 0,.slice none 0 0,.slice none 0 0,.slice none 0 0,.slice none 0 0] (HQ.out▸HQK.out) (by kernel_rfl) rfl HONE.out ?_);rintro w7 hblk hbl hoth hsize;rw[←HQ.out]at hblk⊢;have HB7:=Hd (((Below.refl w5.heap.size w5).alloc lR (.cells #[.int .u8 0,.slice none 0 0,.slice none 0 0,.slice none 0 0,.int .u8 0,.slice none 0 0,.slice none 0 0,.slice none 0 0,.slice none 0 0,.slice none 0 0] 52)).trans (hbl w5.heap.size lR));have k0:=hblk.cell 0;have k1:=hblk.cell 1;have k2:=hblk.cell 2;have k3:=hblk.cell 3;have k4:=hblk.cell 4;have k5:=hblk.cell 5;have k6:=hblk.cell 6;have k7:=hblk.cell 7;have k8:=hblk.cell 8;have k9:=hblk.cell 9;simp only[bK,bL,bM]at k0 k1 k2 k3 k4 k5 k6 k7 k8 k9;clear hblk hbl hoth hsize hen;cases pd with
       |true=>
        have HST:=Hd (HSTEP.out HPD.out.symm);go_wp2_with fail;refine(HPLC.out _ (HBW5.out.trans (HB7.out.mono HBW5.out.size))).mono ?_;rintro e w8 ⟨rfl,hb8⟩;have HB58:=Hd (HB7.out.trans (hb8.mono HB7.out.size));clear hb8 k0 k1 k2 k3 k4 k5 k6 k7 k8 k9;have HRG8:=Hd (Tm HRG5.out HB58.out (by have:=HS5.out;have:=HR.out;have:=HSZ1.out;omega) HS5.out);have HB8:=Hd (HB5.out.trans (HB58.out.mono (dL HS5.out)));go_wp2_with fail
        go_roundw
        case rel=>exact⟨_,cnt5,HRG8.out,HST.out,HB8.out⟩
        case measure=>rw[HRG8.out.left_eq,HRG.out.left_eq];exact HLT.out
       |false=>
        have HE:=Hd (HBAD.out HPD.out.symm);go_wp2_with fail;refine(HPLC.out _ (HBW5.out.trans (HB7.out.mono HBW5.out.size))).mono ?_;rintro e w8 ⟨rfl,hb8⟩;have HB58:=Hd (HB7.out.trans (hb8.mono HB7.out.size));have HB8:=Hd (HBW5.out.trans (HB58.out.mono HBW5.out.size));clear hb8 k0 k1 k2 k3 k4 k5 k6 k7 k8 k9;go_wp2_with fail;go_ret;exact⟨Dg HE.out,HB8.out⟩
    ·have hk1':((kd:Int) !=1)=true:=(by simp;omega);have HE:=Hd (HRK.out hk1);clear hk1;go_enter Tryz.func123,Tryz.ntmps123;go_wp2_with fail;rw[←HWE.out];refine HFI.out.mono ?_;rintro e w2 ⟨rfl,rfl⟩;go_wp2_with fail;go_ret;exact⟨Dg HE.out,HW1.out⟩
   ·have ho2':decide (ow≥lv)=true:=decide_eq_true (by omega);have HE:=Hd (HRO.out fun h=>ho2 h.2);clear ho1 ho2;go_enter Tryz.func123,Tryz.ntmps123;go_wp2_with fail;rw[←HWE.out];refine HFI.out.mono ?_;rintro e w2 ⟨rfl,rfl⟩;go_wp2_with fail;go_ret;exact⟨Dg HE.out,HW1.out⟩
  ·have ho1':decide (ow<0)=true:=decide_eq_true (by omega);have HE:=Hd (HRO.out fun h=>ho1 h.1);clear ho1;go_enter Tryz.func123,Tryz.ntmps123;go_wp2_with fail;rw[←HWE.out];refine HFI.out.mono ?_;rintro e w2 ⟨rfl,rfl⟩;go_wp2_with fail;go_ret;exact⟨Dg HE.out,HW1.out⟩
end
def okS (s:SparseD):Bool:=Cp s&&Cl s.leaves s.own (Am s.op) (By s.sh) (s.op.map (·.1)) (s.sh.map (·.1)) false
def Xw (s:SparseD)(w:World)(e:Ending)(w':World):Prop:=Below w.heap.size w w'∧
 if Cp s=true then∃ob sb,e=.returned (.tuple #[.agg #[.int .i64 s.leaves,.int .i64 s.own,.map (some ob),.map (some sb)],.bool (okS s)])∧w.heap.size≤ob∧w.heap.size≤sb∧ob≠sb∧∃G G',MapF w' ob s.op.length G∧NodesG w G (Am s.op)∧MapF w' sb s.sh.length G'∧RunsH w G' (By s.sh)
 else e=.returned (.tuple #[.agg #[.int .i64 0,.int .i64 0,.map none,.map none],.bool (okS s)])
theorem Rc {l:List (Int×NodeD)} {x:Int}:x∈l.map (·.1)↔(Am l x).isSome=true:=by
 induction l with
 |nil=>simp[Am]
 |cons p l ih=>
  rw[fT,aE,Am]
  by_cases e:p.1=x
  ·rw[if_pos e];simp[e]
  ·rw[if_neg e,←ih];constructor
   ·rintro(h|h)
    ·exact absurd h.symm e
    ·exact h
   ·exact .inr
theorem Kq {l:List (Int×List Nat)} {x:Int}:x∈l.map (·.1)↔(By l x).isSome=true:=by
 induction l with
 |nil=>simp[By]
 |cons p l ih=>
  rw[fT,aE,By]
  by_cases e:p.1=x
  ·rw[if_pos e];simp[e]
  ·rw[if_neg e,←ih];constructor
   ·rintro(h|h)
    ·exact absurd h.symm e
    ·exact h
   ·exact .inr
theorem Jt {α:Type} {l:List α} {f: α→Int} {g:Nat→Int}(hg:∀i (hi:i<l.length),g i=f l[i])(h:Gq g l.length=true):(l.map f).Pairwise (· < ·):=by
 have hr:=Rb (Ko h);rw[List.pairwise_iff_getElem];intro i j hi hj hij;simp only[fJ]at hi hj;rw[fU,fU,←hg i hi,←hg j hj];exact(hr j hj).2 i hij
theorem Lb {s:SparseD}(hok:SparseOk s)(hs:Fv s=true):Zhs (Am s.op):=by
 intro x d hd;have hm:=Cv hd;have:=hok.op _ hm;unfold Fv at hs;simp only[bS,List.all_eq_true]at hs;exact⟨this.1,this.2,hs.1.2 _ hm⟩
theorem Fw {s:SparseD}(hs:Fv s=true):s.op.length≤5000∧s.sh.length≤5000:=by
 unfold Fv at hs;simp only[bS,decide_eq_true_eq]at hs;exact⟨hs.1.1.1,hs.1.1.2⟩
theorem MapF.only {w w':World} {b n g:Nat} {F:Int→Option Value}(h:MapF w b n F)(ho:OnlyG g w w')(hne:b≠g):MapF w' b n F:=by
 have hlt:=h.lt;obtain⟨D,⟨es,clock,h0,h1⟩,h2⟩:=h;exact⟨D,⟨es,clock,(ho.2.2 b hlt hne).trans h0,h1⟩,h2⟩
theorem Vj (v:Value)(s:SparseD)(w:World)(h:SparseR w v s)(hok:SparseOk s)(hs:Fv s=true):
  Calls Tryz.prog 88 #[v] w (Xw s w):=by
 obtain⟨hl1,hl2⟩:=Fw hs;have HPO:=Hd fun(W:World) (hw:Below w.heap.size w W)=>Vh v s w W h hw hok (by omega) (by omega);have HPRI:=Hd fun(ob sb:Nat) (W:World) (hb:Cp s=true) (h1:PieceN W ob s.op.length (Am s.op)) (h2:PieceH W sb s.sh.length (By s.sh))=>
  Pj s.leaves s.own ob sb s.op.length s.sh.length (Am s.op) (By s.sh) (s.op.map (·.1)) (s.sh.map (·.1)) false W h1 h2 (by omega) (by omega) (Lb hok hs) (by
   unfold Cp at hb;rw[bS]at hb;exact Jt (g:=spK s.op) (fun i hi=>by unfold spK;rw[Ij hi]) hb.1) (fun x=>Rc) (by
   unfold Cp at hb;rw[bS]at hb;exact Jt (g:=stK s.sh) (fun i hi=>by unfold stK;rw[Jq hi]) hb.2) (fun x=>Kq) (by simp;omega) (by simp;omega) hok.leaves hok.own
 obtain⟨o,g,rfl,-,-⟩:=h;obtain⟨PB,hPB⟩:=eX (Cp s);obtain⟨RB,hRB⟩:=eX (Cl s.leaves s.own (Am s.op) (By s.sh) (s.op.map (·.1)) (s.sh.map (·.1)) false);have HPBE:=Hd hPB;have HRBE:=Hd hRB;have HOK:=Hd (show okS s=(PB&&RB) by rw[hPB,hRB];rfl);have HPOS:Hid (∀(W:World),Below w.heap.size w W→Calls Tryz.prog 148 #[.agg #[.int .i64 s.leaves,.int .i64 s.own,o,g]] W (Js s w W)):=HPO;obtain⟨lv,hlv⟩:=eX s.leaves;obtain⟨ow,how⟩:=eX s.own;have HLV:=Hd hlv;have HOW:=Hd how;rw[←hlv,←how]at HPOS⊢;rw[←hRB,←hlv,←how]at HPRI;clear HPO hPB hRB hlv how hok hs hl1 hl2;obtain⟨h,hh⟩:=eX w.heap.size;have HH:=Hd hh;obtain⟨w2,hw2⟩:=eX ((w.alloc (.cells #[.int .i64 lv,.int .i64 ow,o,g] 25)).alloc (.cells #[.int .i64 0,.int .i64 0,.map none,.map none] 101));have HW2:=Hd hw2;have HB2:=Hd (show Below w.heap.size w w2 by rw[hw2];exact(bR.alloc lR _).alloc (by simp) _);have HRB2:=Hd (show Blk w2 (h+1) 101 #[.int .i64 0,.int .i64 0,.map none,.map none] by
  rw[hw2,hh];have h1:=Blk.new (w.alloc (.cells #[.int .i64 lv,.int .i64 ow,o,g] 25)) 101 #[.int .i64 0,.int .i64 0,.map none,.map none];simpa using h1)
 have HSZ2:=Hd (show w2.heap.size=h+2 by rw[hw2,hh];simp);clear hw2;go_enter Tryz.func88,Tryz.ntmps88;go_wp2_with fail;rw[←HW2.out,←hh];refine(HPOS.out w2 HB2.out).mono ?_;rintro e w3 ⟨hb3,hp3⟩;have HB3:=Hd (HB2.out.trans (hb3.mono HB2.out.size));have HB23:=Hd hb3;have HRB3:=Hd (HRB2.out.below hb3 HRB2.out.lt);rw[←HPBE.out,←HLV.out,←HOW.out]at hp3;clear hh hb3;cases PB with
 |false=>
  rw[if_neg (by simp)]at hp3;obtain rfl:=hp3;obtain⟨q,hq⟩:=eX w3.heap.size;have HQB0:=Hd (show Blk (w3.alloc (.cells #[.int .i64 0,.int .i64 0,.map none,.map none] 101)) q 101 #[.int .i64 0,.int .i64 0,.map none,.map none] by rw[hq];exact Blk.new _ _ _);have HWA:=Hd ((Below.refl w3.heap.size w3).alloc lR (.cells #[.int .i64 0,.int .i64 0,.map none,.map none] 101));have HQE:=Hd hq;go_wp2_with fail;rw[←HQE.out];generalize hwr:w3.alloc (.cells #[.int .i64 0,.int .i64 0,.map none,.map none] 101)=wr at HQB0 HWA⊢;have HRB:=Hd (HRB3.out.below HWA.out HRB3.out.lt);have HBR:=Hd (HB3.out.trans (HWA.out.mono HB3.out.size));have hgB:h+1<wr.heap.size:=HRB.out.lt;have hqh:q≠h+1:=(by have:=HRB3.out.lt;omega);have HQB:=Hd HQB0.out;clear hwr hq HQB0;refine Ax [eF (.agg #[.int .i64 0,.int .i64 0,.map none,.map none]),eF (.bool false),eF (.bool false),eF undef,eF undef,eF (.bool false),fun v w'=>Blk w' (h+1) 101 #[.int .i64 0,.int .i64 0,.map none,.map none],eF (.bool false)]
   (cS 8 true) (fun X=>OnlyG (h+1) wr X) (fun X Y=>OnlyG (h+1) X Y) (some 6) (by kernel_rfl) ?_ ((OnlyG.of_below bR (dL hgB)).drewN 1) (fun X Y hx h=>OnlyG.of_below h (dG (dL hgB) hx.2.1)) (fun X Y hx hs=>hx.trans hs) (by kernel_rfl) (by kernel_rfl) ?_ ?_
  ·exact kE (kE (kE (kE (kE (kE (Cs (fun v x y k hi hs=>k.below hs k.lt) (kE Aj)))))))
  ·refine gOw (by kernel_rfl) ?_ (gP ?_ rfl (gP ?_ rfl (fO rfl rfl rfl rfl rfl rfl (fun _ _ hf=>hf.1) rfl (fO rfl rfl rfl rfl rfl rfl (fun _ _ hf=>hf.2.1) rfl (gP ?_ rfl (gOw (by kernel_rfl) ?_ (gP ?_ rfl .nil)))))));all_goals
    intro a wx hbx hbq ho hf;have hbx:OnlyG (h+1) wr wx:=hbx;refine⟨rfl,?_⟩;intro K hK;try have Pf2:a.tmps[2]?.getD undef=.pointer (some ⟨h+1,0,none⟩):=ho 2 (by kernel_rfl)
    try have Pf4:a.tmps[4]?.getD undef=.pointer (some ⟨q,0,none⟩):=ho 4 (by kernel_rfl)
    try have Pf5:a.tmps[5]?.getD undef=.bool false:=ho 5 (by kernel_rfl)
    try have Ef0:=eqn hf.1
    try have Ce0:=HRB.out.below hbq HRB.out.lt
    try(refine Hd ?_;go_simp;exact hK _ rfl)
   ·exact wp_load_row 101 (.tmp 4) rfl _ (evs Pf4) _ _ (0,0) _ (HQB.out.only2 hbx (by omega)) Tryz.underlying101 rfl (by kernel_rfl) (hK _ _ rfl (Ab rfl bR))
   ·refine wp_store_row 101 (.tmp 2) (.tmp 11) rfl (h+1) #[.int .i64 0,.int .i64 0,.map none,.map none] (evs Pf2) (evs Ef0) _ _ Ce0 (by kernel_rfl) rfl (by rw[←Array.all_toList];rfl) ?_;exact hK undef _ (setRow_heap wx (h+1) _ _ _ _ Ce0) (Cc rfl (OnlyG.setRow (h+1) _))
  ·rintro f w9 hb9 hfin;have hb9:OnlyG (h+1) wr w9:=hb9;have S3:f 3=.bool false:=hfin.2.2.2.2.2.2.2.1;have S2:Blk w9 (h+1) 101 #[.int .i64 0,.int .i64 0,.map none,.map none]:=hfin.2.2.2.2.2.2.1;clear hfin;simp only[Aw,Bl,Ga,cH,cI,cJ,cK,Nat.reduceBEq,Nat.reduceAdd,cL,cM,cond_true,cond_false];rw[S3];clear S3;go_wp2_with fail;refine bodyPost_ret (v:=.tuple #[.agg #[.int .i64 0,.int .i64 0,.map none,.map none],.bool false]) (Af Tryz.results88 _ _ (h+1) _ _ _ rfl S2 Tryz.underlying101 rfl (by kernel_rfl)) rfl ?_;refine⟨HBR.out.trans (hb9.1.mono (by rw[HH.out];exact fN _)),?_⟩;rw[←HPBE.out,if_neg (by simp),HOK.out];rfl
 |true=>
  rw[if_pos rfl]at hp3;obtain⟨ob,sb,rfl,ho1,ho2,ho3,G,G',hm1,hg1,hm2,hg2⟩:=hp3;have HM1:=Hd hm1;have HM2:=Hd hm2;have HG1:=Hd hg1;have HG2:=Hd hg2;have HO3:=Hd ho3;have HO1:=Hd (show h+2≤ob by rw[←HSZ2.out];exact ho1);have HO2:=Hd (show h+2≤sb by rw[←HSZ2.out];exact ho2);clear hm1 hm2 hg1 hg2 ho1 ho2 ho3;obtain⟨q,hq⟩:=eX w3.heap.size;have HQB0:=Hd (show Blk (w3.alloc (.cells #[.int .i64 lv,.int .i64 ow,.map (some ob),.map (some sb)] 101)) q 101 #[.int .i64 lv,.int .i64 ow,.map (some ob),.map (some sb)] by rw[hq];exact Blk.new _ _ _);have HWA:=Hd ((Below.refl w3.heap.size w3).alloc lR (.cells #[.int .i64 lv,.int .i64 ow,.map (some ob),.map (some sb)] 101));have HQE:=Hd hq;go_wp2_with fail;rw[←HQE.out];generalize hwr:w3.alloc (.cells #[.int .i64 lv,.int .i64 ow,.map (some ob),.map (some sb)] 101)=wr at HQB0 HWA⊢;have HRB:=Hd (HRB3.out.below HWA.out HRB3.out.lt);have HBR:=Hd (HB3.out.trans (HWA.out.mono HB3.out.size));have hgB:h+1<wr.heap.size:=HRB.out.lt;have hqh:q≠h+1:=(by have:=HRB3.out.lt;omega);have HQB:=Hd HQB0.out;have HMA:=Hd (HM1.out.below HWA.out lR);have HMB:=Hd (HM2.out.below HWA.out lR);have HPR:=Hd fun(W:World) (hw:Below wr.heap.size wr W)=>HPRI.out ob sb W HPBE.out.symm ⟨G,HMA.out.below hw lR,HG1.out.below (HBR.out.trans (hw.mono HBR.out.size)) lR⟩ ⟨G',HMB.out.below hw lR,HG2.out.below (HBR.out.trans (hw.mono HBR.out.size)) lR⟩;clear hwr hq HQB0;refine Ax [eF (.agg #[.int .i64 lv,.int .i64 ow,.map (some ob),.map (some sb)]),eF (.bool true),eF (.bool true),eF (.agg #[.int .i64 lv,.int .i64 ow,.map (some ob),.map (some sb)]),eF (.bool RB),eF (.bool RB),fun v w'=>Blk w' (h+1) 101 #[.int .i64 lv,.int .i64 ow,.map (some ob),.map (some sb)],eF (.bool RB)]
   (cS 8 true) (fun X=>OnlyG (h+1) wr X) (fun X Y=>OnlyG (h+1) X Y) (some 6) (by kernel_rfl) ?_ ((OnlyG.of_below bR (dL hgB)).drewN 1) (fun X Y hx h=>OnlyG.of_below h (dG (dL hgB) hx.2.1)) (fun X Y hx hs=>hx.trans hs) (by kernel_rfl) (by kernel_rfl) ?_ ?_
  ·exact kE (kE (kE (kE (kE (kE (Cs (fun v x y k hi hs=>k.below hs k.lt) (kE Aj)))))))
  ·refine gOw (by kernel_rfl) ?_ (gP ?_ rfl (gP ?_ rfl (gO ?_ (gOw (by kernel_rfl) ?_ (gP ?_ rfl (gOw (by kernel_rfl) ?_ (gP ?_ rfl .nil)))))));all_goals
    intro a wx hbx hbq ho hf;have hbx:OnlyG (h+1) wr wx:=hbx;refine⟨by first|rfl|exact Bj rfl rfl rfl hf.1|exact Bj rfl rfl rfl hf.2.1,?_⟩;intro K hK;try have Pf2:a.tmps[2]?.getD undef=.pointer (some ⟨h+1,0,none⟩):=ho 2 (by kernel_rfl)
    try have Pf4:a.tmps[4]?.getD undef=.pointer (some ⟨q,0,none⟩):=ho 4 (by kernel_rfl)
    try have Pf5:a.tmps[5]?.getD undef=.bool true:=ho 5 (by kernel_rfl)
    try have Ef0:=eqn hf.1
    try have Ef1:=eqn hf.2.1
    try have Ce0:=HRB.out.below hbq HRB.out.lt
    try(refine Hd ?_;go_simp;exact hK _ rfl)
   ·exact wp_load_row 101 (.tmp 4) rfl _ (evs Pf4) _ _ (0,0) _ (HQB.out.only2 hbx (by omega)) Tryz.underlying101 rfl (by kernel_rfl) (hK _ _ rfl (Ab rfl bR))
   ·exact wp_load_row 101 (.tmp 4) rfl _ (evs Pf4) _ _ (0,0) _ (HQB.out.only2 hbx (by omega)) Tryz.underlying101 rfl (by kernel_rfl) (hK _ _ rfl (Ab rfl bR))
   ·go_simp;refine(HPR.out wx hbq).mono ?_;rintro e w2 ⟨rfl,hb2⟩;exact hK _ _ rfl (Ab rfl hb2)
   ·refine wp_store_row 101 (.tmp 2) (.tmp 11) rfl (h+1) #[.int .i64 lv,.int .i64 ow,.map (some ob),.map (some sb)] (evs Pf2) (evs Ef0) _ _ Ce0 (by kernel_rfl) rfl (by rw[←Array.all_toList];rfl) ?_;exact hK undef _ (setRow_heap wx (h+1) _ _ _ _ Ce0) (Cc rfl (OnlyG.setRow (h+1) _))
  ·rintro f w9 hb9 hfin;have hb9:OnlyG (h+1) wr w9:=hb9;have S3:f 3=.bool RB:=hfin.2.2.2.2.2.2.2.1;have S2:Blk w9 (h+1) 101 #[.int .i64 lv,.int .i64 ow,.map (some ob),.map (some sb)]:=hfin.2.2.2.2.2.2.1;clear hfin;simp only[Aw,Bl,Ga,cH,cI,cJ,cK,Nat.reduceBEq,Nat.reduceAdd,cL,cM,cond_true,cond_false];rw[S3];clear S3;go_wp2_with fail;refine bodyPost_ret (v:=.tuple #[.agg #[.int .i64 lv,.int .i64 ow,.map (some ob),.map (some sb)],.bool RB]) (Af Tryz.results88 _ _ (h+1) _ _ _ rfl S2 Tryz.underlying101 rfl (by kernel_rfl)) rfl ?_;refine⟨HBR.out.trans (hb9.1.mono (by rw[HH.out];exact fN _)),?_⟩;rw[←HPBE.out,if_pos rfl,HOK.out,←HLV.out,←HOW.out];exact⟨ob,sb,rfl,by rw[←HH.out];have:=HO1.out;omega,by rw[←HH.out];have:=HO2.out;omega,HO3.out,G,G',HMA.out.only hb9 (by have:=HO1.out;omega),HG1.out,HMB.out.only hb9 (by have:=HO2.out;omega),HG2.out⟩
theorem Mc {l:List Int} {f:Nat→Int}(hf:∀i (hi:i<l.length),f i=l[i])(h:l.Pairwise (· < ·))(h0:∀x∈l,0≤x):Gq f l.length=true:=by
 refine Kn fun i hi=> ?_;unfold Fi;rw[hf i hi]
 by_cases e:i=0
 ·rw[if_pos e];have:=h0 l[i] (aJ hi);omega
 ·rw[if_neg e,hf (i-1) (by omega)];exact List.pairwise_iff_getElem.1 h (i-1) i (by omega) hi (by omega)
theorem Nn {l:List (Int×NodeD)}(h:(l.map (·.1)).Pairwise (· < ·)) {p:Int×NodeD}(hp:p∈l):Am l p.1=some p.2:=by
 obtain⟨i,hi,rfl⟩:=cQ hp;have hs:=Ij hi;rw[←hs];refine Qt hi (fun j hj e=> ?_) rfl;have:=List.pairwise_iff_getElem.1 h j i (by simp;omega) (by simpa using hi) hj;rw[fU,fU,←Ij (by omega),←Ij hi]at this;omega
theorem Kr {l:List (Int×List Nat)}(h:(l.map (·.1)).Pairwise (· < ·)) {p:Int×List Nat}(hp:p∈l):By l p.1=some p.2:=by
 obtain⟨i,hi,rfl⟩:=cQ hp;have hs:=Jq hi;rw[←hs];refine Xr hi (fun j hj e=> ?_) rfl;have:=List.pairwise_iff_getElem.1 h j i (by simp;omega) (by simpa using hi) hj;rw[fU,fU,←Jq (by omega),←Jq hi]at this;omega
theorem To {x:Int}(h0:0≤x)(h:x%2=0):Zhn x=2:=by rw[Zhn,eI h0,if_neg (by omega)]
theorem Xx {x:Int}(h0:0≤x)(h:x%2=1):Zhn x=1:=by rw[Zhn,eI h0,if_pos h]
theorem Pk {n:Int} {p:Int×NodeD}(h:0≤p.1∧p.1≤2*n-2):Cw n p=true↔Ce p.1 p.2=true:=by
 constructor
 ·intro hs;obtain⟨-,h2,h3,h4,h5⟩:=Xq hs;unfold Ce;rw[h2,dS,bS,bU,fS];refine⟨?_,fun u hu=>by rw[h5 u hu];simp⟩;rw[decide_eq_true_iff];rcases Int.emod_two_eq p.1 with e|e
  ·rw[To h.1 e];exact fun hk=>h3 ⟨e,hk⟩
  ·rw[Xx h.1 e];exact fun hk=>h4 ⟨e,hk⟩
 ·intro hp;have h5:=Pi hp;have h2:=Hh hp;unfold Ce at hp;rw[h2,dS,bS,decide_eq_true_iff]at hp;refine Xp h h2 (fun hh=>hp.1 ?_) (fun hh=>hp.1 ?_) fun i hi=>h5 _ ?_
  ·rw[To h.1 hh.1];exact hh.2
  ·rw[Xx h.1 hh.1];exact hh.2
  ·rw[List.getD_eq_getElem?_getD,List.getElem?_eq_getElem hi];exact aJ hi
theorem Xy {d:NodeD}(h:Aq d=true) {u:Int}(hu:u∈d.par.late):∃m:Nat,u=(m:Int)∧m<65536:=by
 have:=Eo (Ck h) u hu;exact⟨u.toNat,by omega,by omega⟩
theorem Tp (s:SparseD)(only:Bool):(Cp s&&Cl s.leaves s.own (Am s.op) (By s.sh) (s.op.map (·.1)) (s.sh.map (·.1)) only)=Az s only:=by
 rw[Bool.eq_iff_iff];cases hft:fits s.leaves.toNat with
 |false=>rw[Zcw hft,La hft];simp
 |true=>
  by_cases ho:0≤s.own∧s.own<s.leaves
  ·obtain⟨d,hd,hlv⟩:∃d,d≤16∧s.leaves=((2^d:Nat):Int):=by
    obtain⟨d,hd,e⟩:=(fits_iff _).1 hft;exact⟨d,hd,by omega⟩
   obtain⟨i,hi⟩:∃i:Nat,s.own=(i:Int):=⟨s.own.toNat,by omega⟩;obtain⟨hM,e2⟩:=Dc hd;have hp:=eG d;have hi2:2*i+1<2^(d+1):=(by omega);have SP:=Ea (F:=fun n:Nat=>Am s.op n) (i:=i) (only:=only) d (2^d-1) 0 [] (My d) (by omega);have key:=fun(hL:Cu fun n:Nat=>Am s.op n)=>(show(Cq (fun n:Nat=>Am s.op n) i only d (2^d-1) 0 []).2.2=Bx (Am s.op) d i only d∧_ from⟨Xk (FI:=Am s.op) hd (fun _=>rfl) hL hi2,Zcn (FI:=Am s.op) (only:=only) hd (fun _=>rfl) hL hi2⟩);rw[Az,Cl,hft,decide_eq_true ho,hlv,hi,cO,cO,fK];simp only[dS,bS,Pd,Ra,hi];generalize Cq (fun n:Nat=>Am s.op n) i only d (2^d-1) 0 []=V at SP key⊢;constructor
   ·rintro⟨hpb,⟨⟨hk,hpl⟩,hh⟩,⟨hok,hv1⟩,hv2⟩;have hv1:=of_decide_eq_true hv1;have hv2:=of_decide_eq_true hv2;have r1:(s.op.map (·.1)).Pairwise (· < ·):=(by rw[←hv1];exact SP.opr);have r2:(s.sh.map (·.1)).Pairwise (· < ·):=(by rw[←hv2];exact SP.shr);have rng:∀p∈s.op,0≤p.1∧p.1≤2*((2^d:Nat):Int)-2:=fun p hpm=>by
     have hm:p.1∈V.1:=(by rw[hv1];exact fV hpm);obtain⟨m,e,h⟩:=SP.op _ hm;unfold inR at h;omega
    have hpl2:∀p∈s.op,Ce p.1 p.2=true:=fun p hpm=>by
     have:=List.all_eq_true.1 hpl p.1 (fV hpm)
     rwa [Nn r1 hpm]at this
    have hL:Cu fun n:Nat=>Am s.op n:=fun x D hD u hu=>by
     have hpm:=Cv hD;have h1:=hpl2 _ hpm;obtain⟨m,e,hm⟩:=Xy (Hh h1) hu;exact⟨m,e,hm,by have:=Pi h1 u hu;rwa [e]at this⟩
    obtain⟨k1,k2⟩:=key hL;obtain⟨k3,k4⟩:=k2 hok;refine⟨⟨?_,?_⟩,⟨⟨hk,by rw[←k1];exact hok⟩,?_⟩,?_⟩
    ·exact List.all_eq_true.2 fun p hpm=>(Pk (rng p hpm)).2 (hpl2 p hpm)
    ·refine List.all_eq_true.2 fun p hpm=> ?_;have:=List.all_eq_true.1 hh p.1 (fV hpm)
     rwa [Kr r2 hpm]at this
    ·exact decide_eq_true (hv1.symm.trans k3.symm)
    ·exact decide_eq_true (hv2.symm.trans k4.symm)
   ·rintro⟨⟨hsp,hst⟩,⟨⟨hk,hok⟩,hv1⟩,hv2⟩;have hv1:=of_decide_eq_true hv1;have hv2:=of_decide_eq_true hv2;have hL:Cu fun n:Nat=>Am s.op n:=fun x D hD u hu=>by
     have hpm:=Cv hD;obtain⟨-,h2,-,-,h5⟩:=Xq (List.all_eq_true.1 hsp _ hpm);obtain⟨m,e,hm⟩:=Xy h2 hu;exact⟨m,e,hm,by have:=h5 u hu;rwa [e]at this⟩
    obtain⟨k1,k2⟩:=key hL;rw[←k1]at hok;obtain⟨k3,k4⟩:=k2 hok;rw[k3]at hv1;rw[k4]at hv2;have r1:(s.op.map (·.1)).Pairwise (· < ·):=(by rw[hv1];exact SP.opr);have r2:(s.sh.map (·.1)).Pairwise (· < ·):=(by rw[hv2];exact SP.shr);have g1:∀x∈s.op.map (·.1),0≤x:=fun x hx=>(by rw[hv1]at hx;obtain⟨m,e,h⟩:=SP.op _ hx;omega);have g2:∀x∈s.sh.map (·.1),0≤x:=fun x hx=>(by rw[hv2]at hx;obtain⟨m,e,h⟩:=SP.sh _ hx;omega);have p1:Cp s=true:=by
     have a1:=Mc (l:=s.op.map (·.1)) (f:=spK s.op) (fun i hi=>by simp only[fJ]at hi;rw[fU,spK,Ij hi]) r1 g1;have a2:=Mc (l:=s.sh.map (·.1)) (f:=stK s.sh) (fun i hi=>by simp only[fJ]at hi;rw[fU,stK,Jq hi]) r2 g2;rw[fJ]at a1 a2;rw[Cp,a1,a2];rfl
    refine⟨p1,⟨⟨hk,?_⟩,?_⟩,⟨hok,by rw[decide_eq_true_iff,hv1]⟩,by rw[decide_eq_true_iff,hv2]⟩
    ·refine List.all_eq_true.2 fun x hx=> ?_;obtain⟨p,hpm,rfl⟩:=List.mem_map.1 hx;rw[Nn r1 hpm];have hs:=List.all_eq_true.1 hsp _ hpm;exact(Pk (Xq hs).1).1 hs
    ·refine List.all_eq_true.2 fun x hx=> ?_;obtain⟨p,hpm,rfl⟩:=List.mem_map.1 hx;rw[Kr r2 hpm];exact List.all_eq_true.1 hst _ hpm
  ·rw[Zhq ho,Nk ho];simp
theorem Zjz (s:SparseD):okS s=Az s false:=Tp s false
theorem Vk (v:Value)(s:SparseD)(w:World)(h:SparseR w v s)(hok:SparseOk s)(hs:Fv s=true):
  Calls Tryz.prog 58 #[v] w fun e w'=>e=.returned (.bool (Az s false))∧Below w.heap.size w w':=by
 have RO:=fun(W:World) (hw:Below w.heap.size w W)=>Vj v s W (h.below hw lR) hok hs;obtain⟨o,g,rfl,-,-⟩:=h;rw[←Zjz];obtain⟨PB,hPB⟩:=eX (Cp s);obtain⟨OK,hOK⟩:=eX (okS s);have HPB:=Hd hPB;have HOK:=Hd hOK;have HRO:Hid (∀W,Below w.heap.size w W→Calls Tryz.prog 88 #[.agg #[.int .i64 s.leaves,.int .i64 s.own,o,g]] W (Xw s W)):=RO;obtain⟨lv,hlv⟩:=eX s.leaves;obtain⟨ow,how⟩:=eX s.own;have HLV:=Hd hlv;have HOW:=Hd how;rw[←hlv,←how]at HRO⊢;rw[←hOK];have HBA:=Hd ((Below.refl w.heap.size w).alloc lR (.cells #[.int .i64 lv,.int .i64 ow,o,g] 25));clear RO hok hs hPB hOK hlv how;go_enter Tryz.func58,Tryz.ntmps58;go_wp2_with fail;refine(HRO.out _ HBA.out).mono ?_;rintro e w3 ⟨hb3,hp3⟩;have HB3:=Hd (HBA.out.trans (hb3.mono HBA.out.size));rw[←HPB.out,←HLV.out,←HOW.out,←HOK.out]at hp3;clear hb3;cases PB with
 |false=>
  rw[if_neg (by simp)]at hp3;obtain rfl:=hp3;go_wp2_with fail;go_ret;exact⟨rfl,HB3.out.alloc HB3.out.size _⟩
 |true=>
  rw[if_pos rfl]at hp3;obtain⟨ob,sb,rfl,-⟩:=hp3;go_wp2_with fail;go_ret;exact⟨rfl,HB3.out.alloc HB3.out.size _⟩
end Go.Proofs.YtfofaiommeckbaaGreat
namespace Go.Proofs.YtfofaiommeckbaaGreat
open Go.RowKit WalkM WireM
end Go.Proofs.YtfofaiommeckbaaGreat
