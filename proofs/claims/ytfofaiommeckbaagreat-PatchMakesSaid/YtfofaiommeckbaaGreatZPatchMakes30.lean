/- Walks: (piece).right. -/
import Derived.Test.YtfofaiommeckbaaGreatZPatchMakesB
import Derived.Test.YtfofaiommeckbaaGreatZPatchMakes29
import Derived.Maps.RangeWalk
open Nat renaming log2 → aX, two_pow_pos → eU, le_of_lt → fT, log2_two_pow → fL, le_trans → fU, le_succ → fQ
open Bool renaming and_eq_true → cC, not_eq_true' → cE, or_false → cW, or_true → cX, true_and → dC
open List renaming any_eq_false → fV, getElem?_toArray → bN, getElem?_cons_zero → bO, getElem?_cons_succ → bP, map_cons → fW, mem_cons → aE, length_map → fJ, getElem_map → fX, replicate → bW, filterMap_cons → cS, filterMap_nil → cT, contains_cons → cU, contains_nil → cV, getElem_mem → aJ, getElem_of_mem → eB, mem_map_of_mem → fY
open Int renaming toNat_natCast → dD, tmod_eq_emod_of_nonneg → eW
set_option linter.unusedVariables false
set_option maxRecDepth 100000
set_option maxHeartbeats 40000000
namespace Go.Proofs.YtfofaiommeckbaaGreat
open Go.RowKit Go.Maps WalkM WireM
section
def Cb (lv ow:Int)(F:Int→Option NodeD)(H:Int→Option (List Nat))(KF KH:List Int)(only:Bool):Bool:=
 fits lv.toNat&&decide (0≤ow∧ow<lv)&&decide (((F (2*ow)).getD Ar).kind=1)&&(KF.all fun x=>Bz x ((F x).getD Ar))&&(KH.all fun x=>decide (((H x).getD []).length=32))&&
  ((Cw (fun n:Nat=>F n) ow.toNat only (aX lv.toNat) (2^aX lv.toNat-1) 0 []).2.2&&decide ((Cw (fun n:Nat=>F n) ow.toNat only (aX lv.toNat) (2^aX lv.toNat-1) 0 []).1=KF)&&decide ((Cw (fun n:Nat=>F n) ow.toNat only (aX lv.toNat) (2^aX lv.toNat-1) 0 []).2.1=KH))
section
variable {lv ow:Int} {F:Int→Option NodeD} {H:Int→Option (List Nat)} {KF KH:List Int} {only:Bool}
theorem Zax (h:fits lv.toNat=false):Cb lv ow F H KF KH only=false:=by rw[Cb,h];rfl
theorem Zea (h:¬(0≤ow∧ow<lv)):Cb lv ow F H KF KH only=false:=by rw[Cb,decide_eq_false h];simp
theorem Zff (h:((F (2*ow)).getD Ar).kind≠1):Cb lv ow F H KF KH only=false:=by rw[Cb,decide_eq_false h];simp
theorem Zay {x:Int} {d:NodeD}(hk:∀x,x∈KF↔(F x).isSome=true)(hF:F x=some d)(h:Bz x d=false):Cb lv ow F H KF KH only=false:=by
 have:(KF.all fun x=>Bz x ((F x).getD Ar))=false:=List.all_eq_false.2 ⟨x,(hk x).2 (by rw[hF];rfl),by rw[hF];simpa using h⟩;rw[Cb,this];simp
theorem Zgg {x:Int} {L:List Nat}(hk:∀x,x∈KH↔(H x).isSome=true)(hF:H x=some L)(h:L.length≠32):Cb lv ow F H KF KH only=false:=by
 have:(KH.all fun x=>decide (((H x).getD []).length=32))=false:=List.all_eq_false.2 ⟨x,(hk x).2 (by rw[hF];rfl),by rw[hF];simpa using h⟩;rw[Cb,this];simp
theorem Zfg (h1:fits lv.toNat=true)(h2:0≤ow∧ow<lv)(h3:((F (2*ow)).getD Ar).kind=1)(hk:∀x,x∈KF↔(F x).isSome=true)(h4:∀x d,F x=some d→Bz x d=true)(hk2:∀x,x∈KH↔(H x).isSome=true)(h5:∀x L,H x=some L→L.length=32):
  Cb lv ow F H KF KH only=((Cw (fun n:Nat=>F n) ow.toNat only (aX lv.toNat) (2^aX lv.toNat-1) 0 []).2.2&&decide ((Cw (fun n:Nat=>F n) ow.toNat only (aX lv.toNat) (2^aX lv.toNat-1) 0 []).1=KF)&&decide ((Cw (fun n:Nat=>F n) ow.toNat only (aX lv.toNat) (2^aX lv.toNat-1) 0 []).2.1=KH)):=by
 have e4:(KF.all fun x=>Bz x ((F x).getD Ar))=true:=List.all_eq_true.2 fun x hx=>by
  have:=(hk x).1 hx;cases hF:F x with
  |none=>rw[hF]at this;cases this
  |some d=>exact h4 x d hF
 have e5:(KH.all fun x=>decide (((H x).getD []).length=32))=true:=List.all_eq_true.2 fun x hx=>by
  have:=(hk2 x).1 hx;cases hF:H x with
  |none=>rw[hF]at this;cases this
  |some d=>exact decide_eq_true (h5 x d hF)
 rw[Cb,h1,decide_eq_true h2,decide_eq_true h3,e4,e5];simp
end
theorem Rl {w w':World} {P:Program} {k:TypeId} {b r n B:Nat} {D:DataW Value} {left:Lit→Bool} {cnt:Nat}(h:w.ranges P k rdV b r n D left cnt)(hb:Below B w w')(h1:b<B)(h2:r<B):w'.ranges P k rdV b r n D left cnt:=by
 obtain⟨es,clock,since,seen,c0,hb',F,hs,hD,hr,rest⟩:=h;exact⟨es,clock,since,seen,c0,(hb.block b h1).trans hb',F,hs,hD,(hb.block r h2).trans hr,rest⟩
theorem Rm {D:DataW Value} {G:Int→Option Value}(h2:∀x,has D (.int .i64 x)=(G x).isSome)(h3:∀x v z,G x=some v→D.atKey (.int .i64 x) z=.held v) {x:Int} {c:Value}(hat:∀zd,D.atKey (.int .i64 x) zd=.held c):G x=some c:=by
 cases hG:G x with
 |none=>
  have hn:has D (.int .i64 x)=false:=(by rw[h2,hG];rfl);have:=hat .nil;rw[atKey_of_not_has hn]at this;cases this
 |some u=>
  have:=(h3 x u .nil hG).symm.trans (hat .nil);cases this;rfl
theorem Zaz {key:Value} {kl:Lit}(h:keyOf Tryz.prog 3 key=some kl):∃x:Int,key=.int .i64 x:=by
 obtain⟨x,e,_⟩:=Maps.keyOf_int_inv Tryz.underlying3 h;exact⟨x,e⟩
theorem Za0 {x:Int} {kl:Lit}(h:keyOf Tryz.prog 3 (.int .i64 x)=some kl):kl=.int .i64 x:=by
 obtain⟨x',e,e2,_⟩:=Maps.keyOf_int_inv Tryz.underlying3 h;cases e;exact e2
theorem Zeb {left:Lit→Bool} {x y:Int}(h:(left (.int .i64 y)&& !(Lit.int .i64 y).sameKey (.int .i64 x))=false):left (.int .i64 y)=false∨y=x:=by
 rw[Bool.and_eq_false_iff]at h;rcases h with h|h
 ·exact .inl h
 ·right
  have h2:(Lit.int .i64 y).sameKey (.int .i64 x)=true:=(by simpa using h);have:=(WideAt.sameKey_iff (Qp x)).1 h2;cases this;rfl
theorem Xk (x0 x1 x2 x3 x4 x5 x6 x7 x8 x9:Value)(w:World):(Instr.field 52 (.agg #[x0,x1,x2,x3,x4,x5,x6,x7,x8,x9]) 0).run Tryz.prog w=.ok x0 w:=by kernel_rfl
theorem Vs:∀(L:List Int) (a M:Int),L.Pairwise (· < ·)→(∀y∈L,a≤y∧y<M)→L.length≤(M-a).toNat:=by
 intro L
 induction L with
 |nil=>intro a M _ _;simp
 |cons x L ih=>
  intro a M hp hb;rw[List.pairwise_cons]at hp;have h1:=hb x (by simp);have:=ih (x+1) M hp.2 fun y hy=>⟨by have:=hp.1 y hy;omega,(hb y (by simp[hy])).2⟩;rw[List.length_cons];omega
theorem Gx {x:Int} {d:NodeD}(h:Bz x d=true):Aw d=true:=by unfold Bz at h;rw[cC]at h;exact h.1
theorem Nw {x:Int} {d:NodeD}(h:Bz x d=true):∀u∈d.par.late,Bl (2*u) x=true:=by
 unfold Bz at h;rw[cC,cC,cE,fV]at h;intro u hu;have:=h.2.2 u hu;simpa using this
def Zec (F:Int→Option NodeD):Prop:=∀x d,F x=some d→inI x∧NodeOk d∧Cc d=true
theorem Jo {w w':World} {P:Program} {k:TypeId} {b n B:Nat} {D:DataW Value}(h:w.ownsMap P k rdV b n D)(hb:Below B w w')(hB:b<B):w'.ownsMap P k rdV b n D:=by
 obtain⟨es,clock,h0,h1⟩:=h;exact⟨es,clock,(hb.block b hB).trans h0,h1⟩
theorem Zdb {w:World} {G:Int→Option Value} {F:Int→Option NodeD}(h:NodesG w G F) {x:Int} {v:Value}(hG:G x=some v):∃d c,F x=some d∧v=.agg c∧NodeC w d c:=by
 have:=h x;cases hF:F x with
 |none=>rw[hF]at this;have h2:G x=none:=this;rw[h2]at hG;cases hG
 |some d=>rw[hF]at this;obtain⟨c,hc,hn⟩:=this;rw[hG]at hc;cases hc;exact⟨d,c,rfl,rfl,hn⟩
theorem Zfh {w:World} {G:Int→Option Value} {H:Int→Option (List Nat)}(h:RunsH w G H) {x:Int} {v:Value}(hG:G x=some v):∃L,H x=some L∧Rd w v (bvs L):=by
 have:=h x;cases hF:H x with
 |none=>rw[hF]at this;have h2:G x=none:=this;rw[h2]at hG;cases hG
 |some d=>rw[hF]at this;obtain⟨c,hc,hn⟩:=this;rw[hG]at hc;cases hc;exact⟨d,rfl,hn⟩
theorem Xl (lv ow:Int) (ob sb nb mb:Nat) (F:Int→Option NodeD) (H:Int→Option (List Nat)) (KF KH:List Int) (only:Bool) (w:World) (hN:Zd7 w ob nb F) (hH:Zd8 w sb mb H) (hnb:nb≤1000000) (hmb:mb≤1000000) (hF:Zec F)
  (hkf:KF.Pairwise (· < ·)) (hkf2:∀x,x∈KF↔(F x).isSome=true) (hkh:KH.Pairwise (· < ·)) (hkh2:∀x,x∈KH↔(H x).isSome=true) (hfl:KF.length≤1000000) (hhl:KH.length≤1000000) (hlv:inI lv) (how:inI ow):
  Calls Tryz.prog 123 #[.agg #[.int .i64 lv,.int .i64 ow,.map (some ob),.map (some sb)],.bool only] w fun e w'=>e=.returned (.bool (Cb lv ow F H KF KH only))∧Below w.heap.size w w':=by
 obtain⟨G,⟨D,hD1,hD2,hD3⟩,hG⟩:=hN;obtain⟨G',⟨D',hE1,hE2,hE3⟩,hG'⟩:=hH;have hG:NodesG w G F:=hG;have hG':RunsH w G' H:=hG';have hob:=hD1.lt;have hsb:=hE1.lt;have HMAP:=Hd fun(W:World) (h:W.ownsMap Tryz.prog 3 rdV ob nb D)=>(show MapF W ob nb G from⟨D,h,hD2,hD3⟩);have HMAP':=Hd fun(W:World) (h:W.ownsMap Tryz.prog 3 rdV sb mb D')=>(show MapF W sb mb G' from⟨D',h,hE2,hE3⟩);have HENT:=Hd fun(x:Int) (c:Value) (hat:∀zd,D.atKey (.int .i64 x) zd=.held c)=>Zdb hG (Rm hD2 hD3 hat);have HENT':=Hd fun(x:Int) (c:Value) (hat:∀zd,D'.atKey (.int .i64 x) zd=.held c)=>Zfh hG' (Rm hE2 hE3 hat);have hs0:∀x d,F x=some d→has D (.int .i64 x)=true:=fun x d hF=>by
  rw[hD2,(hG.some hF).1];rfl
 have hs0':∀x L,H x=some L→has D' (.int .i64 x)=true:=fun x L hF=>by
  have:=hG' x;rw[hF]at this;obtain⟨v,hv,_⟩:=this;rw[hE2,hv];rfl
 have HS0:=Hd hs0;have HS0':=Hd hs0';have HRF:=Hd (Zax (lv:=lv) (ow:=ow) (F:=F) (H:=H) (KF:=KF) (KH:=KH) (only:=only));have HRO:=Hd (Zea (lv:=lv) (ow:=ow) (F:=F) (H:=H) (KF:=KF) (KH:=KH) (only:=only));have HRK:=Hd (Zff (lv:=lv) (ow:=ow) (F:=F) (H:=H) (KF:=KF) (KH:=KH) (only:=only));have HRP:=Hd fun x d=>Zay (lv:=lv) (ow:=ow) (F:=F) (H:=H) (KF:=KF) (KH:=KH) (only:=only) (x:=x) (d:=d) hkf2;have HRL:=Hd fun x d=>Zgg (lv:=lv) (ow:=ow) (F:=F) (H:=H) (KF:=KF) (KH:=KH) (only:=only) (x:=x) (L:=d) hkh2;have HRR:=Hd fun h1 h2 h3 h4=>Zfg (lv:=lv) (ow:=ow) (F:=F) (H:=H) (KF:=KF) (KH:=KH) (only:=only) h1 h2 h3 hkf2 h4 hkh2;have HFK:=Hd hF;have HGN:=Hd hG;have KFA:Hy G KF:=⟨hkf,fun x=>by rw[hkf2,(hG.val x).2]⟩;have KHA:Hy G' KH:=⟨hkh,fun x=>by
  rw[hkh2];have:=hG' x;cases hF:H x with
  |none=>rw[hF]at this;have h2:G' x=none:=this;rw[h2];exact Iff.rfl
  |some d=>rw[hF]at this;obtain⟨c,hc,hn⟩:=this;rw[hc];exact Iff.rfl⟩
 have HKFA:=Hd KFA;have HKHA:=Hd KHA;have HFL:=Hd hfl;have HHL:=Hd hhl;obtain⟨OD,hOD⟩:=eX ((F (2*ow)).getD Ar);have hoc:(G (2*ow)).getD (.agg Xj)=.agg (Et G (2*ow))∧NodeC w OD (Et G (2*ow)):=by
  refine⟨(hG.val _).1,?_⟩;rw[hOD];cases hF:F (2*ow)with
  |none=>rw[(hG.none hF).2];exact Ha w
  |some d=>exact(hG.some hF).2
 have hok:OD.kind<256:=by
  rw[hOD];cases hF2:F (2*ow)with
  |none=>decide
  |some d=>exact(hF _ _ hF2).2.1.kind
 rw[←hOD]at HRK HRR;obtain⟨RES,hRES⟩:=eX (Cb lv ow F H KF KH only);rw[←hRES]at HRF HRO HRK HRP HRL HRR⊢;obtain⟨hoc1,hoc2⟩:=hoc;obtain⟨x1,x2,x3,x4,x5,x6,x7,x8,b3,e3,hcc,-⟩:=hoc2.frame;obtain⟨kd,hkd⟩:=eX OD.kind;obtain⟨l8,hl8⟩:=eX OD.par.late.length;rw[hcc]at hoc1;rw[←hkd]at hok HRK HRR hoc1;rw[←hl8]at hoc1;obtain⟨w1,hw1⟩:=eX (w.alloc (.cells #[.int .i64 lv,.int .i64 ow,.map (some ob),.map (some sb)] 101));have HWE:=Hd hw1;have h1b:Below w.heap.size w w1:=(by rw[hw1];exact(Below.refl w.heap.size w).alloc lR (.cells #[.int .i64 lv,.int .i64 ow,.map (some ob),.map (some sb)] 101));have HW1:=Hd h1b;have HSZ1:=Hd (show w1.heap.size=w.heap.size+1 by rw[hw1];simp);have HOWN1:=Hd (show w1.ownsMap Tryz.prog 3 rdV ob nb D by rw[hw1];exact hD1.alloc _);have HOWN1':=Hd (show w1.ownsMap Tryz.prog 3 rdV sb mb D' by rw[hw1];exact hE1.alloc _);have HBX:=Hd (show Blk w1 w.heap.size 101 #[.int .i64 lv,.int .i64 ow,.map (some ob),.map (some sb)] by rw[hw1];exact Blk.new w 101 #[.int .i64 lv,.int .i64 ow,.map (some ob),.map (some sb)]);have c0:=HBX.out.cell 0;have c1:=HBX.out.cell 1;have c2:=HBX.out.cell 2;simp only[bN,bO,bP]at c0 c1 c2;unfold inI at hlv how;have HLV:=Hd hlv;have HOW:=Hd how;have RGF:=fun(hi:inI (2*ow))=>MapF.run_get (T:=98) (HMAP.out _ HOWN1.out) Tryz.underlying98 (Rk _) hi;rw[hoc1]at RGF;have HRGL:=Hd RGF;have HFI:=Hd (Ud lv w1 (by omega) (by omega));obtain⟨ft,hft⟩:=eX (fits lv.toNat);rw[←hft]at HFI;have HFTE:=Hd hft;clear hRES hD1 hD2 hD3 hG hE1 hE2 hE3 hG' hs0 hs0' hF hkf hkf2 hkh hkh2 hfl hhl hlv how hOD hoc1 hoc2 hcc hkd hl8 RGF hft KFA KHA h1b hw1;cases ft with
 |false=>
  have HE:=Hd (HRF.out HFTE.out.symm);go_enter Tryz.func123,Tryz.ntmps123;go_wp2_with fail;rw[←HWE.out];refine HFI.out.mono ?_;rintro e w2 ⟨rfl,rfl⟩;go_wp2_with fail;go_ret;exact⟨Ek HE.out,HW1.out⟩
 |true=>
  by_cases ho1:0≤ow
  ·have ho1':decide (ow<0)=false:=decide_eq_false (by omega)
   by_cases ho2:ow<lv
   ·have ho2':decide (ow≥lv)=false:=decide_eq_false (by omega);have HOO:=Hd (show 0≤ow∧ow<lv from⟨ho1,ho2⟩);have hlvb:lv≤65536:=by
     obtain⟨d,hd,e⟩:=(fits_iff _).1 HFTE.out.symm;have:2^d≤2^16:=Nat.pow_le_pow_right (by omega) hd;have h16:(2:Nat)^16=65536:=rfl;omega
    have HIN2:=Hd (show inI (2*ow) by unfold inI;omega);have RG:=HRGL.out HIN2.out;have FK:=Xk (.int .u8 (kd:Nat)) x1 x2 x3 x4 x5 x6 x7 x8 (.slice b3 l8 e3)
    by_cases hk1:kd=1
    ·have hk1':((kd:Int) !=1)=false:=(by simp;omega);have HK1:=Hd hk1;clear hk1;go_enter Tryz.func123,Tryz.ntmps123;go_wp2_with fail;rw[←HWE.out];refine HFI.out.mono ?_;rintro e w2 ⟨rfl,rfl⟩;go_wp2_with (first
      |(at_range;refine wpList_range_own _ rfl _ 98 rfl 3 52 Zdy Tryz.underlying98 rdV ob nb D rfl HOWN1.out ?_;intro w0 hrg0 hg0 hs0)
      |go_in)
     try go_frame
     have HSS:=Hd hs0;obtain⟨r,hr⟩:=eX w1.heap.size;rw[←hr]at hrg0⊢;have HR:=Hd hr;have HRG0:=Hd hrg0;have HB0:=Hd (show Below r w1 w0 from by rw[hr];exact(Below.refl _ w1).grown hg0 lR (by intro k e;cases e));clear hrg0 hg0 hs0 hr c0 c1 c2 RG FK
     go_loopw [5] (fun _ wr=>∃(left:Lit→Bool) (cnt:Nat),wr.ranges Tryz.prog 3 rdV ob r nb D left cnt∧(∀x d,F x=some d→left (.int .i64 x)=false→Bz x d=true)∧Below r w1 wr) (fun _ wr=>wr.rangeLeft ob r)
     case atStart=>exact⟨_,_,HRG0.out,(fun x d hF hl=>by rw[HS0.out x d hF]at hl;cases hl),HB0.out⟩
     case round=>
      obtain⟨left,cnt,hrg,hpl,hb⟩:=hrel;have HPL:=Hd hpl;have HB:=Hd hb;have HRG:=Hd hrg;clear hpl hb hrg;go_wp2_with (first
       |(at_next;refine wpList_next_ranges _ rfl _ rfl 3 Zdy rdV (Value.int .i64) (fun v:Value=>v) (fun key kl h=>Zaz h) (fun v y h=>⟨v,rfl⟩) ob r nb D left cnt rfl HRG.out ?_ ?_)
       |go_in)
      ·intro hc0 hl0;have HALL:=Hd (show∀x d,F x=some d→Bz x d=true from fun x d hF=>HPL.out x d hF (hl0 _));clear hc0 hl0;have HBXr:=Hd (HBX.out.below HB.out (by rw[HR.out];exact HBX.out.lt));have c3:=HBXr.out.cell 3;simp only[bN,bO,bP]at c3;have HOWN2:=Hd (Jo HOWN1'.out HB.out (by have:=HR.out;have:=HSZ1.out;omega));obtain⟨wo,rfl⟩:∃wo:World,wo=wr:=⟨_,rfl⟩;go_wp2_with (first
        |(at_range;refine wpList_range_own _ rfl _ 99 rfl 3 28 Zdy Tryz.underlying99 rdV sb mb D' rfl HOWN2.out ?_;intro w0 hrg0 hg0 hs0)
        |go_in)
       try go_frame
       obtain⟨r2,hr2⟩:=eX wo.heap.size;rw[←hr2]at hrg0⊢;have HR2:=Hd hr2;have HRG2:=Hd hrg0;have HB2:=Hd (show Below r2 wo w0 from by rw[hr2];exact(Below.refl _ wo).grown hg0 lR (by intro k e;cases e));clear hrg0 hg0 hs0 hr2 c3
       go_loopw [8] (fun _ wr=>∃(left:Lit→Bool) (cnt:Nat),wr.ranges Tryz.prog 3 rdV sb r2 mb D' left cnt∧(∀x L,H x=some L→left (.int .i64 x)=false→L.length=32)∧Below r2 wo wr) (fun _ wr=>wr.rangeLeft sb r2)
       case atStart=>exact⟨_,_,HRG2.out,(fun x d hF hl=>by rw[HS0'.out x d hF]at hl;cases hl),HB2.out⟩
       case round=>
        obtain⟨left2,cnt2,hrg,hpl,hb⟩:=hrel;have HPL2:=Hd hpl;have HB3:=Hd hb;have HRG3:=Hd hrg;clear hpl hb hrg;go_wp2_with (first
         |(at_next;refine wpList_next_ranges _ rfl _ rfl 3 Zdy rdV (Value.int .i64) (fun v:Value=>v) (fun key kl h=>Zaz h) (fun v y h=>⟨v,rfl⟩) sb r2 mb D' left2 cnt2 rfl HRG3.out ?_ ?_)
         |go_in)
        ·intro hc0 hl0;have HALL2:=Hd (show∀x L,H x=some L→L.length=32 from fun x d hF=>HPL2.out x d hF (hl0 _));clear hc0 hl0;obtain⟨d,hd,hlv⟩:∃d,d≤16∧lv=((2^d:Nat):Int):=by
          obtain⟨d,hd,e⟩:=(fits_iff _).1 HFTE.out.symm;exact⟨d,hd,by have:=HOO.out;omega⟩
         obtain⟨i,rfl⟩:∃i:Nat,ow=(i:Int):=⟨ow.toNat,by have:=HOO.out.1;omega⟩;have hib:i≤65536:=(by have:=HOO.out.2;omega);obtain⟨hM,e2⟩:=Df hd;have hp:=eU d;have hrw:w.heap.size<r:=(by have:=HR.out;have:=HSZ1.out;omega);have hrr:r≤r2:=(by have:=HRG.out.lt;have:=HR2.out;omega);have hb1r:Below r w1 wr:=HB.out.trans (HB3.out.mono hrr);have HWr:=Hd (HW1.out.trans (hb1r.mono (fT hrw)));have HBXe:=Hd (HBX.out.below hb1r hrw);have HME:=Hd (HMAP.out _ (Jo HOWN1.out hb1r (by omega)));have HME':=Hd (HMAP'.out _ (Jo HOWN1'.out hb1r (by omega)));have AN:AtN wr (fun n:Nat=>F n) (fun n:Nat=>Et G n):=⟨fun x=>HGN.out.ten x,fun x d hF=>((HGN.out.some hF).2).below HWr.out lR,fun x=>HGN.out.one x,fun x d hF=>(HFK.out _ _ hF).2.1.kind,fun x d hF=>⟨Dt (Bn (Gx (HALL.out _ _ hF))),by have:=of_decide_eq_true (HFK.out _ _ hF).2.2;omega⟩⟩;have HAT:∀x,x<2*2^d-1→AtC 181 w.heap.size wr wr.heap.size (fun n:Nat=>F n) (fun n:Nat=>Et G n) x:=fun x hx W hW=>Zfe w.heap.size ob nb _ _ _ G F (x:Int) w W (HBXe.out.below hW HBXe.out.lt) (HME.out.below hW lR) HGN.out (by unfold inI;omega);have OPS:=Zaw 181 w.heap.size (fun _ _=>rfl) (fun n:Nat=>F n) (fun n:Nat=>Et G n) wr AN d i only hib hd HAT;have RST:=HRR.out HFTE.out.symm HOO.out HK1.out HALL.out HALL2.out;rw[←hlv]at OPS;rw[hlv]at RST;simp only[dD,fL]at RST;have SP:=Dl (F:=fun n:Nat=>F n) (i:=i) (only:=only) d (2^d-1) 0 [] (Fu d) (by omega);obtain⟨V,hV⟩:=eX (Cw (fun n:Nat=>F n) i only d (2^d-1) 0 []);rw[←hV]at OPS RST SP;have hl1:V.1.length≤1000000:=by
          have:=Vs V.1 0 131071 SP.opr fun y hy=>(by obtain⟨m,e,h⟩:=SP.op y hy;unfold inR at h;omega);omega
         have hl2:V.2.1.length≤1000000:=by
          have:=Vs V.2.1 0 131071 SP.shr fun y hy=>(by obtain⟨m,e,h⟩:=SP.sh y hy;unfold inR at h;omega);omega
         have HOPS:=Hd OPS;have HRST:=Hd RST;have HL1:=Hd hl1;have HL2:=Hd hl2;have c0:=HBXe.out.cell 0;have c1:=HBXe.out.cell 1;simp only[bN,bO,bP]at c0 c1;clear hlv hM e2 hp hb1r AN HAT OPS RST SP hV hl1 hl2 hd;go_wp2_with fail;refine HOPS.out.mono ?_;rintro e w6 ⟨vo,vs,rfl,hvo,hvs,hb6⟩;have HVO:=Hd hvo.rd;have HVS:=Hd hvs.rd;have HW6:=Hd (HWr.out.trans (hb6.mono HWr.out.size));have HM6:=Hd (HME.out.below hb6 lR);have HM6':=Hd (HME'.out.below hb6 lR);have HBX6:=Hd (HBXe.out.below hb6 HBXe.out.lt);have HXLT:=Hd HBX6.out.lt;have k2:=HBX6.out.cell 2;simp only[bN,bO,bP]at k2;obtain⟨p1,p2,p3,rfl⟩:=Dp hvo;obtain⟨q1,q2,q3,rfl⟩:=Dp hvs;obtain⟨ok,hok⟩:=eX V.2.2;rw[←hok];rw[←hok]at HRST;clear hvo hvs hb6 c0 c1 hok;cases ok with
         |false=>
          go_wp2_with fail;go_ret;exact⟨Ek (by rw[HRST.out];rfl),HW6.out⟩
         |true=>
          have HK:=Hd (Za (some ob) w6);have HSO:=Hd (Sy ob nb w6.heap.size G KF (w6.alloc (.cells #[.map (some ob)] 98)) (HM6.out.alloc _) HKFA.out hnb (by rw[(Blk.new w6 _ _).cell];rfl) (by simp));have HA6:=Hd ((Below.refl w6.heap.size w6).alloc lR (.cells #[.map (some ob)] 98));go_wp2_with fail;refine HK.out.mono ?_;rintro e w7 ⟨rfl,rfl⟩;go_wp2_with fail;refine HSO.out.mono ?_;rintro e w8 ⟨v8,rfl,hv8,hb8⟩;have HB8:=Hd (HA6.out.trans (hb8.mono HA6.out.size));have HV8:=Hd hv8.rd;have HVO8:=Hd (HVO.out.below HB8.out lR);have HEQ1:=Hd (Ox _ _ V.1 KF w8 HVO8.out HV8.out HL1.out HFL.out);obtain⟨t1,t2,t3,rfl⟩:=Dp hv8;obtain⟨b1,hb1⟩:=eX (decide (V.1=KF));rw[←hb1]at HEQ1;rw[←hb1]at HRST;clear hv8 hb8 hb1;cases b1 with
          |false=>
           go_wp2_with fail;refine HEQ1.out.mono ?_;rintro e w9 ⟨rfl,n9,rfl⟩;go_wp2_with fail;go_ret;exact⟨Ek (by rw[HRST.out];rfl),Aa (HW6.out.trans (HB8.out.mono HW6.out.size)) _⟩
          |true=>
           have HBX9:=Hd (fun n9=>(HBX6.out.below HB8.out HXLT.out).drewN n9);have HVS9:=Hd (fun n9=>(HVS.out.below HB8.out lR).drewN n9);have HM9:=Hd (fun n9=>(HM6'.out.below HB8.out lR).drewN n9);go_wp2_with fail;refine HEQ1.out.mono ?_;rintro e w9 ⟨rfl,n9,rfl⟩;have k3:=(HBX9.out n9).cell 3;simp only[bN,bO,bP]at k3;have HB9:=Hd (show Below w6.heap.size w6 (w8.drewN n9)from Aa HB8.out _);have HVSN:=Hd (HVS9.out n9);have HMN:=Hd (HM9.out n9);obtain⟨w9,hw9⟩:=eX (w8.drewN n9);rw[←hw9]at HB9 HVSN HMN k3⊢;clear hw9 HBX9 HVS9 HM9;have HK2:=Hd (Zb (some sb) w9);have HSO2:=Hd (Sz sb mb w9.heap.size G' KH (w9.alloc (.cells #[.map (some sb)] 99)) (HMN.out.alloc _) HKHA.out hmb (by rw[(Blk.new w9 _ _).cell];rfl) (by simp));have HA9:=Hd ((Below.refl w9.heap.size w9).alloc lR (.cells #[.map (some sb)] 99));go_wp2_with fail;refine HK2.out.mono ?_;rintro e w10 ⟨rfl,rfl⟩;go_wp2_with fail;refine HSO2.out.mono ?_;rintro e w11 ⟨v11,rfl,hv11,hb11⟩;have HB11:=Hd (HA9.out.trans (hb11.mono HA9.out.size));have HEQ2:=Hd (Ox _ _ V.2.1 KH w11 (HVSN.out.below HB11.out lR) hv11.rd HL2.out HHL.out);have HBF:=Hd (HW6.out.trans ((HB9.out.trans (HB11.out.mono HB9.out.size)).mono HW6.out.size));obtain⟨s1,s2,s3,rfl⟩:=Dp hv11;obtain⟨b2,hb2⟩:=eX (decide (V.2.1=KH));rw[←hb2]at HEQ2;rw[←hb2]at HRST;clear hv11 hb11 hb2;go_wp2_with fail;refine HEQ2.out.mono ?_;rintro e w12 ⟨rfl,n12,rfl⟩;go_wp2_with fail;go_ret;exact⟨Ek (by rw[HRST.out];rfl),Aa HBF.out _⟩
        ·intro x c kl y1 y2 w5 cnt5 hkey hlk hv hat hrg1 hlt hg1 hs1 hen;obtain rfl:=Za0 hkey;have hy:y1=.held c:=(by unfold rdV at hv;cases hv;rfl);subst hy;obtain⟨L,hHx,hrd⟩:=HENT'.out x c hat;obtain⟨ua,uc,rfl⟩:∃a k,c=.slice a L.length k:=(by obtain⟨a,k,e,_⟩:=hrd;exact⟨a,k,by rw[e,bvs_len]⟩);have HB5:=Hd (HB3.out.trans ((Below.refl r2 _).grown hg1 (by have:=HRG3.out.lt;omega) (by intro k e;cases e;exact lR)));have HRG5:=Hd hrg1;have HLT:=Hd hlt;have HSTEP:=Hd (fun(h32:L.length=32)=>(show∀y M,H y=some M→(left2 (.int .i64 y)&& !(Lit.int .i64 y).sameKey (.int .i64 x))=false→M.length=32 from fun y M hy hl=>by
          rcases Zeb hl with h|h
          ·exact HPL2.out y M hy h
          ·rw[h,hHx]at hy;cases hy;exact h32))
         have HBAD:=Hd (HRL.out x L hHx);obtain⟨ul,hul⟩:=eX L.length;rw[←hul]at HSTEP HBAD hen⊢;clear hul hkey hlk hv hat hrg1 hlt hg1 hs1 hHx hrd
         by_cases h32:ul=32
         ·have h32':((ul:Int) !=32)=false:=(by simp;omega);have HST:=Hd (HSTEP.out h32);clear h32;go_wp2_with fail
          go_roundw
          case rel=>exact⟨_,cnt5,HRG5.out,HST.out,HB5.out⟩
          case measure=>rw[HRG5.out.left_eq,HRG3.out.left_eq];exact HLT.out
         ·have h32':((ul:Int) !=32)=true:=(by simp;omega);have HE:=Hd (HBAD.out h32);have HBQ:=Hd (HW1.out.trans ((HB.out.trans (HB5.out.mono (show r≤r2 by have:=HRG.out.lt;have:=HR2.out;omega))).mono (show w.heap.size≤r by have:=HR.out;have:=HSZ1.out;omega)));clear h32;go_wp2_with fail;go_ret;exact⟨Ek HE.out,HBQ.out⟩
      ·intro x c kl y1 y2 w5 cnt5 hkey hlk hv hat hrg1 hlt hg1 hs1 hen;obtain rfl:=Za0 hkey;have hy:y1=.held c:=(by unfold rdV at hv;cases hv;rfl);subst hy;obtain⟨d,cc,hFx,rfl,hnc⟩:=HENT.out x c hat;have HONE:=Hd hnc.oneL;obtain⟨hxi,hnk,hsm⟩:=HFK.out x d hFx;have HB5:=Hd (HB.out.trans ((Below.refl r _).grown hg1 (by have:=HRG.out.lt;omega) (by intro k e;cases e;exact lR)));have HRG5:=Hd hrg1;have HLT:=Hd hlt;have HPLC:=Hd fun(W:World) (hw:Below w.heap.size w W)=>Ts x d cc W (hnc.below hw lR) hnk hsm hxi;have HSTEP:=Hd (fun(hp:Bz x d=true)=>(show∀y e,F y=some e→(left (.int .i64 y)&& !(Lit.int .i64 y).sameKey (.int .i64 x))=false→Bz y e=true from fun y e hy hl=>by
        rcases Zeb hl with h|h
        ·exact HPL.out y e hy h
        ·rw[h]at hy⊢;rw[hFx]at hy;cases hy;exact hp))
       have HBAD:=Hd (fun hp=>HRP.out x d hFx hp);obtain⟨z0,z1,z2,z3,z4,z5,z6,z7,z8,z9,rfl⟩:=hnc.ten;obtain⟨pd,hpd⟩:=eX (Bz x d);rw[←hpd]at HPLC;have HPD:=Hd hpd;have HBW5:=Hd (HW1.out.trans (HB5.out.mono (show w.heap.size≤r by have:=HR.out;have:=HSZ1.out;omega)));have HS5:=Hd (show r<w5.heap.size from by rw[hs1];exact HRG.out.lt);obtain⟨q,hq⟩:=eX w5.heap.size;have HQ:=Hd hq;have HQK:=Hd (show Blk (w5.alloc (.cells #[.int .u8 0,.slice none 0 0,.slice none 0 0,.slice none 0 0,.int .u8 0,.slice none 0 0,.slice none 0 0,.slice none 0 0,.slice none 0 0,.slice none 0 0] 52)) q 52 #[.int .u8 0,.slice none 0 0,.slice none 0 0,.slice none 0 0,.int .u8 0,.slice none 0 0,.slice none 0 0,.slice none 0 0,.slice none 0 0,.slice none 0 0] by rw[hq];exact Blk.new _ _ _);clear hkey hlk hv hat hrg1 hlt hg1 hs1 hFx hnc hpd hq hsm hnk;go_wp2_with (refine Ab rfl 52 (.tmp 6) (.tmp 45) rfl w5.heap.size #[z0,z1,z2,z3,z4,z5,z6,z7,z8,z9] rfl rfl 52 #[.int .u8 0,.slice none 0 0,.slice none 0 0,.slice none 0 0,.int .u8 0,.slice none 0 0,.slice none 0 0,.slice none 0 0,.slice none 0 0,.slice none 0 0] (HQ.out▸HQK.out) (by kernel_rfl) rfl HONE.out ?_);rintro w7 hblk hbl hoth hsize;rw[←HQ.out]at hblk⊢;have HB7:=Hd (((Below.refl w5.heap.size w5).alloc lR (.cells #[.int .u8 0,.slice none 0 0,.slice none 0 0,.slice none 0 0,.int .u8 0,.slice none 0 0,.slice none 0 0,.slice none 0 0,.slice none 0 0,.slice none 0 0] 52)).trans (hbl w5.heap.size lR));have k0:=hblk.cell 0;have k1:=hblk.cell 1;have k2:=hblk.cell 2;have k3:=hblk.cell 3;have k4:=hblk.cell 4;have k5:=hblk.cell 5;have k6:=hblk.cell 6;have k7:=hblk.cell 7;have k8:=hblk.cell 8;have k9:=hblk.cell 9;simp only[bN,bO,bP]at k0 k1 k2 k3 k4 k5 k6 k7 k8 k9;clear hblk hbl hoth hsize hen;cases pd with
       |true=>
        have HST:=Hd (HSTEP.out HPD.out.symm);go_wp2_with fail;refine(HPLC.out _ (HBW5.out.trans (HB7.out.mono HBW5.out.size))).mono ?_;rintro e w8 ⟨rfl,hb8⟩;have HB58:=Hd (HB7.out.trans (hb8.mono HB7.out.size));clear hb8 k0 k1 k2 k3 k4 k5 k6 k7 k8 k9;have HRG8:=Hd (Rl HRG5.out HB58.out (by have:=HS5.out;have:=HR.out;have:=HSZ1.out;omega) HS5.out);have HB8:=Hd (HB5.out.trans (HB58.out.mono (fT HS5.out)));go_wp2_with fail
        go_roundw
        case rel=>exact⟨_,cnt5,HRG8.out,HST.out,HB8.out⟩
        case measure=>rw[HRG8.out.left_eq,HRG.out.left_eq];exact HLT.out
       |false=>
        have HE:=Hd (HBAD.out HPD.out.symm);go_wp2_with fail;refine(HPLC.out _ (HBW5.out.trans (HB7.out.mono HBW5.out.size))).mono ?_;rintro e w8 ⟨rfl,hb8⟩;have HB58:=Hd (HB7.out.trans (hb8.mono HB7.out.size));have HB8:=Hd (HBW5.out.trans (HB58.out.mono HBW5.out.size));clear hb8 k0 k1 k2 k3 k4 k5 k6 k7 k8 k9;go_wp2_with fail;go_ret;exact⟨Ek HE.out,HB8.out⟩
    ·have hk1':((kd:Int) !=1)=true:=(by simp;omega);have HE:=Hd (HRK.out hk1);clear hk1;go_enter Tryz.func123,Tryz.ntmps123;go_wp2_with fail;rw[←HWE.out];refine HFI.out.mono ?_;rintro e w2 ⟨rfl,rfl⟩;go_wp2_with fail;go_ret;exact⟨Ek HE.out,HW1.out⟩
   ·have ho2':decide (ow≥lv)=true:=decide_eq_true (by omega);have HE:=Hd (HRO.out fun h=>ho2 h.2);clear ho1 ho2;go_enter Tryz.func123,Tryz.ntmps123;go_wp2_with fail;rw[←HWE.out];refine HFI.out.mono ?_;rintro e w2 ⟨rfl,rfl⟩;go_wp2_with fail;go_ret;exact⟨Ek HE.out,HW1.out⟩
  ·have ho1':decide (ow<0)=true:=decide_eq_true (by omega);have HE:=Hd (HRO.out fun h=>ho1 h.1);clear ho1;go_enter Tryz.func123,Tryz.ntmps123;go_wp2_with fail;rw[←HWE.out];refine HFI.out.mono ?_;rintro e w2 ⟨rfl,rfl⟩;go_wp2_with fail;go_ret;exact⟨Ek HE.out,HW1.out⟩
end
def okS (s:SparseD):Bool:=Dm s&&Cb s.leaves s.own (Ah s.op) (Ap s.sh) (s.op.map (·.1)) (s.sh.map (·.1)) false
def Vt (s:SparseD)(w:World)(e:Ending)(w':World):Prop:=Below w.heap.size w w'∧
 if Dm s=true then∃ob sb,e=.returned (.tuple #[.agg #[.int .i64 s.leaves,.int .i64 s.own,.map (some ob),.map (some sb)],.bool (okS s)])∧w.heap.size≤ob∧w.heap.size≤sb∧ob≠sb∧∃G G',MapF w' ob s.op.length G∧NodesG w G (Ah s.op)∧MapF w' sb s.sh.length G'∧RunsH w G' (Ap s.sh)
 else e=.returned (.tuple #[.agg #[.int .i64 0,.int .i64 0,.map none,.map none],.bool (okS s)])
theorem Ky {l:List (Int×NodeD)} {x:Int}:x∈l.map (·.1)↔(Ah l x).isSome=true:=by
 induction l with
 |nil=>simp[Ah]
 |cons p l ih=>
  rw[fW,aE,Ah]
  by_cases e:p.1=x
  ·rw[if_pos e];simp[e]
  ·rw[if_neg e,←ih];constructor
   ·rintro(h|h)
    ·exact absurd h.symm e
    ·exact h
   ·exact .inr
theorem Fv {l:List (Int×List Nat)} {x:Int}:x∈l.map (·.1)↔(Ap l x).isSome=true:=by
 induction l with
 |nil=>simp[Ap]
 |cons p l ih=>
  rw[fW,aE,Ap]
  by_cases e:p.1=x
  ·rw[if_pos e];simp[e]
  ·rw[if_neg e,←ih];constructor
   ·rintro(h|h)
    ·exact absurd h.symm e
    ·exact h
   ·exact .inr
theorem Rn {α:Type} {l:List α} {f: α→Int} {g:Nat→Int}(hg:∀i (hi:i<l.length),g i=f l[i])(h:Gk g l.length=true):(l.map f).Pairwise (· < ·):=by
 have hr:=Po (Jn h);rw[List.pairwise_iff_getElem];intro i j hi hj hij;simp only[fJ]at hi hj;rw[fX,fX,←hg i hi,←hg j hj];exact(hr j hj).2 i hij
theorem Ro {s:SparseD}(hok:SparseOk s)(hs:Bg s=true):Zec (Ah s.op):=by
 intro x d hd;have hm:=Bu hd;have:=hok.op _ hm;unfold Bg at hs;simp only[cC,List.all_eq_true]at hs;exact⟨this.1,this.2,hs.1.2 _ hm⟩
theorem Cj {s:SparseD}(hs:Bg s=true):s.op.length≤5000∧s.sh.length≤5000:=by
 unfold Bg at hs;simp only[cC,decide_eq_true_eq]at hs;exact⟨hs.1.1.1,hs.1.1.2⟩
theorem MapF.only {w w':World} {b n g:Nat} {F:Int→Option Value}(h:MapF w b n F)(ho:OnlyG g w w')(hne:b≠g):MapF w' b n F:=by
 have hlt:=h.lt;obtain⟨D,⟨es,clock,h0,h1⟩,h2⟩:=h;exact⟨D,⟨es,clock,(ho.2.2 b hlt hne).trans h0,h1⟩,h2⟩
theorem Tt (v:Value)(s:SparseD)(w:World)(h:SparseR w v s)(hok:SparseOk s)(hs:Bg s=true):
  Calls Tryz.prog 88 #[v] w (Vt s w):=by
 obtain⟨hl1,hl2⟩:=Cj hs;have HPO:=Hd fun(W:World) (hw:Below w.heap.size w W)=>Tq v s w W h hw hok (by omega) (by omega);have HPRI:=Hd fun(ob sb:Nat) (W:World) (hb:Dm s=true) (h1:Zd7 W ob s.op.length (Ah s.op)) (h2:Zd8 W sb s.sh.length (Ap s.sh))=>
  Xl s.leaves s.own ob sb s.op.length s.sh.length (Ah s.op) (Ap s.sh) (s.op.map (·.1)) (s.sh.map (·.1)) false W h1 h2 (by omega) (by omega) (Ro hok hs) (by
   unfold Dm at hb;rw[cC]at hb;exact Rn (g:=spK s.op) (fun i hi=>by unfold spK;rw[Hs hi]) hb.1) (fun x=>Ky) (by
   unfold Dm at hb;rw[cC]at hb;exact Rn (g:=stK s.sh) (fun i hi=>by unfold stK;rw[Ht hi]) hb.2) (fun x=>Fv) (by simp;omega) (by simp;omega) hok.leaves hok.own
 obtain⟨o,g,rfl,-,-⟩:=h;obtain⟨PB,hPB⟩:=eX (Dm s);obtain⟨RB,hRB⟩:=eX (Cb s.leaves s.own (Ah s.op) (Ap s.sh) (s.op.map (·.1)) (s.sh.map (·.1)) false);have HPBE:=Hd hPB;have HRBE:=Hd hRB;have HOK:=Hd (show okS s=(PB&&RB) by rw[hPB,hRB];rfl);have HPOS:Hid (∀(W:World),Below w.heap.size w W→Calls Tryz.prog 148 #[.agg #[.int .i64 s.leaves,.int .i64 s.own,o,g]] W (Iu s w W)):=HPO;obtain⟨lv,hlv⟩:=eX s.leaves;obtain⟨ow,how⟩:=eX s.own;have HLV:=Hd hlv;have HOW:=Hd how;rw[←hlv,←how]at HPOS⊢;rw[←hRB,←hlv,←how]at HPRI;clear HPO hPB hRB hlv how hok hs hl1 hl2;obtain⟨h,hh⟩:=eX w.heap.size;have HH:=Hd hh;obtain⟨w2,hw2⟩:=eX ((w.alloc (.cells #[.int .i64 lv,.int .i64 ow,o,g] 25)).alloc (.cells #[.int .i64 0,.int .i64 0,.map none,.map none] 101));have HW2:=Hd hw2;have HB2:=Hd (show Below w.heap.size w w2 by rw[hw2];exact(bR.alloc lR _).alloc (by simp) _);have HRB2:=Hd (show Blk w2 (h+1) 101 #[.int .i64 0,.int .i64 0,.map none,.map none] by
  rw[hw2,hh];have h1:=Blk.new (w.alloc (.cells #[.int .i64 lv,.int .i64 ow,o,g] 25)) 101 #[.int .i64 0,.int .i64 0,.map none,.map none];simpa using h1)
 have HSZ2:=Hd (show w2.heap.size=h+2 by rw[hw2,hh];simp);clear hw2;go_enter Tryz.func88,Tryz.ntmps88;go_wp2_with fail;rw[←HW2.out,←hh];refine(HPOS.out w2 HB2.out).mono ?_;rintro e w3 ⟨hb3,hp3⟩;have HB3:=Hd (HB2.out.trans (hb3.mono HB2.out.size));have HB23:=Hd hb3;have HRB3:=Hd (HRB2.out.below hb3 HRB2.out.lt);rw[←HPBE.out,←HLV.out,←HOW.out]at hp3;clear hh hb3;cases PB with
 |false=>
  rw[if_neg (by simp)]at hp3;obtain rfl:=hp3;obtain⟨q,hq⟩:=eX w3.heap.size;have HQB0:=Hd (show Blk (w3.alloc (.cells #[.int .i64 0,.int .i64 0,.map none,.map none] 101)) q 101 #[.int .i64 0,.int .i64 0,.map none,.map none] by rw[hq];exact Blk.new _ _ _);have HWA:=Hd ((Below.refl w3.heap.size w3).alloc lR (.cells #[.int .i64 0,.int .i64 0,.map none,.map none] 101));have HQE:=Hd hq;go_wp2_with fail;rw[←HQE.out];generalize hwr:w3.alloc (.cells #[.int .i64 0,.int .i64 0,.map none,.map none] 101)=wr at HQB0 HWA⊢;have HRB:=Hd (HRB3.out.below HWA.out HRB3.out.lt);have HBR:=Hd (HB3.out.trans (HWA.out.mono HB3.out.size));have hgB:h+1<wr.heap.size:=HRB.out.lt;have hqh:q≠h+1:=(by have:=HRB3.out.lt;omega);have HQB:=Hd HQB0.out;clear hwr hq HQB0;refine Bh [eF (.agg #[.int .i64 0,.int .i64 0,.map none,.map none]),eF (.bool false),eF (.bool false),eF undef,eF undef,eF (.bool false),fun v w'=>Blk w' (h+1) 101 #[.int .i64 0,.int .i64 0,.map none,.map none],eF (.bool false)]
   (bW 8 true) (fun X=>OnlyG (h+1) wr X) (fun X Y=>OnlyG (h+1) X Y) (some 6) (by kernel_rfl) ?_ ((OnlyG.of_below bR (fT hgB)).drewN 1) (fun X Y hx h=>OnlyG.of_below h (fU (fT hgB) hx.2.1)) (fun X Y hx hs=>hx.trans hs) (by kernel_rfl) (by kernel_rfl) ?_ ?_
  ·exact kE (kE (kE (kE (kE (kE (Dk (fun v x y k hi hs=>k.below hs k.lt) (kE Ai)))))))
  ·refine gOw (by kernel_rfl) ?_ (gP ?_ rfl (gP ?_ rfl (fO rfl rfl rfl rfl rfl rfl (fun _ _ hf=>hf.1) rfl (fO rfl rfl rfl rfl rfl rfl (fun _ _ hf=>hf.2.1) rfl (gP ?_ rfl (gOw (by kernel_rfl) ?_ (gP ?_ rfl .nil)))))));all_goals
    intro a wx hbx hbq ho hf;have hbx:OnlyG (h+1) wr wx:=hbx;refine⟨rfl,?_⟩;intro K hK;try have Pf2:a.tmps[2]?.getD undef=.pointer (some ⟨h+1,0,none⟩):=ho 2 (by kernel_rfl)
    try have Pf4:a.tmps[4]?.getD undef=.pointer (some ⟨q,0,none⟩):=ho 4 (by kernel_rfl)
    try have Pf5:a.tmps[5]?.getD undef=.bool false:=ho 5 (by kernel_rfl)
    try have Ef0:=eqn hf.1
    try have Ce0:=HRB.out.below hbq HRB.out.lt
    try(refine Hd ?_;go_simp;exact hK _ rfl)
   ·exact wp_load_row 101 (.tmp 4) rfl _ (evs Pf4) _ _ (0,0) _ (HQB.out.only2 hbx (by omega)) Tryz.underlying101 rfl (by kernel_rfl) (hK _ _ rfl (Ae rfl bR))
   ·refine wp_store_row 101 (.tmp 2) (.tmp 11) rfl (h+1) #[.int .i64 0,.int .i64 0,.map none,.map none] (evs Pf2) (evs Ef0) _ _ Ce0 (by kernel_rfl) rfl (by rw[←Array.all_toList];rfl) ?_;exact hK undef _ (setRow_heap wx (h+1) _ _ _ _ Ce0) (Cp rfl (OnlyG.setRow (h+1) _))
  ·rintro f w9 hb9 hfin;have hb9:OnlyG (h+1) wr w9:=hb9;have S3:f 3=.bool false:=hfin.2.2.2.2.2.2.2.1;have S2:Blk w9 (h+1) 101 #[.int .i64 0,.int .i64 0,.map none,.map none]:=hfin.2.2.2.2.2.2.1;clear hfin;simp only[Al,Au,En,cS,cT,cU,cV,Nat.reduceBEq,Nat.reduceAdd,cW,cX,cond_true,cond_false];rw[S3];clear S3;go_wp2_with fail;refine bodyPost_ret (v:=.tuple #[.agg #[.int .i64 0,.int .i64 0,.map none,.map none],.bool false]) (Bi Tryz.results88 _ _ (h+1) _ _ _ rfl S2 Tryz.underlying101 rfl (by kernel_rfl)) rfl ?_;refine⟨HBR.out.trans (hb9.1.mono (by rw[HH.out];exact fQ _)),?_⟩;rw[←HPBE.out,if_neg (by simp),HOK.out];rfl
 |true=>
  rw[if_pos rfl]at hp3;obtain⟨ob,sb,rfl,ho1,ho2,ho3,G,G',hm1,hg1,hm2,hg2⟩:=hp3;have HM1:=Hd hm1;have HM2:=Hd hm2;have HG1:=Hd hg1;have HG2:=Hd hg2;have HO3:=Hd ho3;have HO1:=Hd (show h+2≤ob by rw[←HSZ2.out];exact ho1);have HO2:=Hd (show h+2≤sb by rw[←HSZ2.out];exact ho2);clear hm1 hm2 hg1 hg2 ho1 ho2 ho3;obtain⟨q,hq⟩:=eX w3.heap.size;have HQB0:=Hd (show Blk (w3.alloc (.cells #[.int .i64 lv,.int .i64 ow,.map (some ob),.map (some sb)] 101)) q 101 #[.int .i64 lv,.int .i64 ow,.map (some ob),.map (some sb)] by rw[hq];exact Blk.new _ _ _);have HWA:=Hd ((Below.refl w3.heap.size w3).alloc lR (.cells #[.int .i64 lv,.int .i64 ow,.map (some ob),.map (some sb)] 101));have HQE:=Hd hq;go_wp2_with fail;rw[←HQE.out];generalize hwr:w3.alloc (.cells #[.int .i64 lv,.int .i64 ow,.map (some ob),.map (some sb)] 101)=wr at HQB0 HWA⊢;have HRB:=Hd (HRB3.out.below HWA.out HRB3.out.lt);have HBR:=Hd (HB3.out.trans (HWA.out.mono HB3.out.size));have hgB:h+1<wr.heap.size:=HRB.out.lt;have hqh:q≠h+1:=(by have:=HRB3.out.lt;omega);have HQB:=Hd HQB0.out;have HMA:=Hd (HM1.out.below HWA.out lR);have HMB:=Hd (HM2.out.below HWA.out lR);have HPR:=Hd fun(W:World) (hw:Below wr.heap.size wr W)=>HPRI.out ob sb W HPBE.out.symm ⟨G,HMA.out.below hw lR,HG1.out.below (HBR.out.trans (hw.mono HBR.out.size)) lR⟩ ⟨G',HMB.out.below hw lR,HG2.out.below (HBR.out.trans (hw.mono HBR.out.size)) lR⟩;clear hwr hq HQB0;refine Bh [eF (.agg #[.int .i64 lv,.int .i64 ow,.map (some ob),.map (some sb)]),eF (.bool true),eF (.bool true),eF (.agg #[.int .i64 lv,.int .i64 ow,.map (some ob),.map (some sb)]),eF (.bool RB),eF (.bool RB),fun v w'=>Blk w' (h+1) 101 #[.int .i64 lv,.int .i64 ow,.map (some ob),.map (some sb)],eF (.bool RB)]
   (bW 8 true) (fun X=>OnlyG (h+1) wr X) (fun X Y=>OnlyG (h+1) X Y) (some 6) (by kernel_rfl) ?_ ((OnlyG.of_below bR (fT hgB)).drewN 1) (fun X Y hx h=>OnlyG.of_below h (fU (fT hgB) hx.2.1)) (fun X Y hx hs=>hx.trans hs) (by kernel_rfl) (by kernel_rfl) ?_ ?_
  ·exact kE (kE (kE (kE (kE (kE (Dk (fun v x y k hi hs=>k.below hs k.lt) (kE Ai)))))))
  ·refine gOw (by kernel_rfl) ?_ (gP ?_ rfl (gP ?_ rfl (gO ?_ (gOw (by kernel_rfl) ?_ (gP ?_ rfl (gOw (by kernel_rfl) ?_ (gP ?_ rfl .nil)))))));all_goals
    intro a wx hbx hbq ho hf;have hbx:OnlyG (h+1) wr wx:=hbx;refine⟨by first|rfl|exact Ak rfl rfl rfl hf.1|exact Ak rfl rfl rfl hf.2.1,?_⟩;intro K hK;try have Pf2:a.tmps[2]?.getD undef=.pointer (some ⟨h+1,0,none⟩):=ho 2 (by kernel_rfl)
    try have Pf4:a.tmps[4]?.getD undef=.pointer (some ⟨q,0,none⟩):=ho 4 (by kernel_rfl)
    try have Pf5:a.tmps[5]?.getD undef=.bool true:=ho 5 (by kernel_rfl)
    try have Ef0:=eqn hf.1
    try have Ef1:=eqn hf.2.1
    try have Ce0:=HRB.out.below hbq HRB.out.lt
    try(refine Hd ?_;go_simp;exact hK _ rfl)
   ·exact wp_load_row 101 (.tmp 4) rfl _ (evs Pf4) _ _ (0,0) _ (HQB.out.only2 hbx (by omega)) Tryz.underlying101 rfl (by kernel_rfl) (hK _ _ rfl (Ae rfl bR))
   ·exact wp_load_row 101 (.tmp 4) rfl _ (evs Pf4) _ _ (0,0) _ (HQB.out.only2 hbx (by omega)) Tryz.underlying101 rfl (by kernel_rfl) (hK _ _ rfl (Ae rfl bR))
   ·go_simp;refine(HPR.out wx hbq).mono ?_;rintro e w2 ⟨rfl,hb2⟩;exact hK _ _ rfl (Ae rfl hb2)
   ·refine wp_store_row 101 (.tmp 2) (.tmp 11) rfl (h+1) #[.int .i64 lv,.int .i64 ow,.map (some ob),.map (some sb)] (evs Pf2) (evs Ef0) _ _ Ce0 (by kernel_rfl) rfl (by rw[←Array.all_toList];rfl) ?_;exact hK undef _ (setRow_heap wx (h+1) _ _ _ _ Ce0) (Cp rfl (OnlyG.setRow (h+1) _))
  ·rintro f w9 hb9 hfin;have hb9:OnlyG (h+1) wr w9:=hb9;have S3:f 3=.bool RB:=hfin.2.2.2.2.2.2.2.1;have S2:Blk w9 (h+1) 101 #[.int .i64 lv,.int .i64 ow,.map (some ob),.map (some sb)]:=hfin.2.2.2.2.2.2.1;clear hfin;simp only[Al,Au,En,cS,cT,cU,cV,Nat.reduceBEq,Nat.reduceAdd,cW,cX,cond_true,cond_false];rw[S3];clear S3;go_wp2_with fail;refine bodyPost_ret (v:=.tuple #[.agg #[.int .i64 lv,.int .i64 ow,.map (some ob),.map (some sb)],.bool RB]) (Bi Tryz.results88 _ _ (h+1) _ _ _ rfl S2 Tryz.underlying101 rfl (by kernel_rfl)) rfl ?_;refine⟨HBR.out.trans (hb9.1.mono (by rw[HH.out];exact fQ _)),?_⟩;rw[←HPBE.out,if_pos rfl,HOK.out,←HLV.out,←HOW.out];exact⟨ob,sb,rfl,by rw[←HH.out];have:=HO1.out;omega,by rw[←HH.out];have:=HO2.out;omega,HO3.out,G,G',HMA.out.only hb9 (by have:=HO1.out;omega),HG1.out,HMB.out.only hb9 (by have:=HO2.out;omega),HG2.out⟩
theorem Vu {l:List Int} {f:Nat→Int}(hf:∀i (hi:i<l.length),f i=l[i])(h:l.Pairwise (· < ·))(h0:∀x∈l,0≤x):Gk f l.length=true:=by
 refine Jm fun i hi=> ?_;unfold Fj;rw[hf i hi]
 by_cases e:i=0
 ·rw[if_pos e];have:=h0 l[i] (aJ hi);omega
 ·rw[if_neg e,hf (i-1) (by omega)];exact List.pairwise_iff_getElem.1 h (i-1) i (by omega) hi (by omega)
theorem Mh {l:List (Int×NodeD)}(h:(l.map (·.1)).Pairwise (· < ·)) {p:Int×NodeD}(hp:p∈l):Ah l p.1=some p.2:=by
 obtain⟨i,hi,rfl⟩:=eB hp;have hs:=Hs hi;rw[←hs];refine Pc hi (fun j hj e=> ?_) rfl;have:=List.pairwise_iff_getElem.1 h j i (by simp;omega) (by simpa using hi) hj;rw[fX,fX,←Hs (by omega),←Hs hi]at this;omega
theorem Jp {l:List (Int×List Nat)}(h:(l.map (·.1)).Pairwise (· < ·)) {p:Int×List Nat}(hp:p∈l):Ap l p.1=some p.2:=by
 obtain⟨i,hi,rfl⟩:=eB hp;have hs:=Ht hi;rw[←hs];refine Pp hi (fun j hj e=> ?_) rfl;have:=List.pairwise_iff_getElem.1 h j i (by simp;omega) (by simpa using hi) hj;rw[fX,fX,←Ht (by omega),←Ht hi]at this;omega
theorem Rp {x:Int}(h0:0≤x)(h:x%2=0):Zd9 x=2:=by rw[Zd9,eW h0,if_neg (by omega)]
theorem Vv {x:Int}(h0:0≤x)(h:x%2=1):Zd9 x=1:=by rw[Zd9,eW h0,if_pos h]
theorem Nx {n:Int} {p:Int×NodeD}(h:0≤p.1∧p.1≤2*n-2):Da n p=true↔Bz p.1 p.2=true:=by
 constructor
 ·intro hs;obtain⟨-,h2,h3,h4,h5⟩:=Kc hs;unfold Bz;rw[h2,dC,cC,cE,fV];refine⟨?_,fun u hu=>by rw[h5 u hu];simp⟩;rw[decide_eq_true_iff];rcases Int.emod_two_eq p.1 with e|e
  ·rw[Rp h.1 e];exact fun hk=>h3 ⟨e,hk⟩
  ·rw[Vv h.1 e];exact fun hk=>h4 ⟨e,hk⟩
 ·intro hp;have h5:=Nw hp;have h2:=Gx hp;unfold Bz at hp;rw[h2,dC,cC,decide_eq_true_iff]at hp;refine Vo h h2 (fun hh=>hp.1 ?_) (fun hh=>hp.1 ?_) fun i hi=>h5 _ ?_
  ·rw[Rp h.1 hh.1];exact hh.2
  ·rw[Vv h.1 hh.1];exact hh.2
  ·rw[List.getD_eq_getElem?_getD,List.getElem?_eq_getElem hi];exact aJ hi
theorem Vw {d:NodeD}(h:Aw d=true) {u:Int}(hu:u∈d.par.late):∃m:Nat,u=(m:Int)∧m<65536:=by
 have:=Dt (Bn h) u hu;exact⟨u.toNat,by omega,by omega⟩
theorem Rq (s:SparseD)(only:Bool):(Dm s&&Cb s.leaves s.own (Ah s.op) (Ap s.sh) (s.op.map (·.1)) (s.sh.map (·.1)) only)=Aj s only:=by
 rw[Bool.eq_iff_iff];cases hft:fits s.leaves.toNat with
 |false=>rw[Zax hft,Kb hft];simp
 |true=>
  by_cases ho:0≤s.own∧s.own<s.leaves
  ·obtain⟨d,hd,hlv⟩:∃d,d≤16∧s.leaves=((2^d:Nat):Int):=by
    obtain⟨d,hd,e⟩:=(fits_iff _).1 hft;exact⟨d,hd,by omega⟩
   obtain⟨i,hi⟩:∃i:Nat,s.own=(i:Int):=⟨s.own.toNat,by omega⟩;obtain⟨hM,e2⟩:=Df hd;have hp:=eU d;have hi2:2*i+1<2^(d+1):=(by omega);have SP:=Dl (F:=fun n:Nat=>Ah s.op n) (i:=i) (only:=only) d (2^d-1) 0 [] (Fu d) (by omega);have key:=fun(hL:Ct fun n:Nat=>Ah s.op n)=>(show(Cw (fun n:Nat=>Ah s.op n) i only d (2^d-1) 0 []).2.2=Bm (Ah s.op) d i only d∧_ from⟨Vj (FI:=Ah s.op) hd (fun _=>rfl) hL hi2,Zam (FI:=Ah s.op) (only:=only) hd (fun _=>rfl) hL hi2⟩);rw[Aj,Cb,hft,decide_eq_true ho,hlv,hi,dD,dD,fL];simp only[dC,cC,Ka,Pn,hi];generalize Cw (fun n:Nat=>Ah s.op n) i only d (2^d-1) 0 []=V at SP key⊢;constructor
   ·rintro⟨hpb,⟨⟨hk,hpl⟩,hh⟩,⟨hok,hv1⟩,hv2⟩;have hv1:=of_decide_eq_true hv1;have hv2:=of_decide_eq_true hv2;have r1:(s.op.map (·.1)).Pairwise (· < ·):=(by rw[←hv1];exact SP.opr);have r2:(s.sh.map (·.1)).Pairwise (· < ·):=(by rw[←hv2];exact SP.shr);have rng:∀p∈s.op,0≤p.1∧p.1≤2*((2^d:Nat):Int)-2:=fun p hpm=>by
     have hm:p.1∈V.1:=(by rw[hv1];exact fY hpm);obtain⟨m,e,h⟩:=SP.op _ hm;unfold inR at h;omega
    have hpl2:∀p∈s.op,Bz p.1 p.2=true:=fun p hpm=>by
     have:=List.all_eq_true.1 hpl p.1 (fY hpm)
     rwa [Mh r1 hpm]at this
    have hL:Ct fun n:Nat=>Ah s.op n:=fun x D hD u hu=>by
     have hpm:=Bu hD;have h1:=hpl2 _ hpm;obtain⟨m,e,hm⟩:=Vw (Gx h1) hu;exact⟨m,e,hm,by have:=Nw h1 u hu;rwa [e]at this⟩
    obtain⟨k1,k2⟩:=key hL;obtain⟨k3,k4⟩:=k2 hok;refine⟨⟨?_,?_⟩,⟨⟨hk,by rw[←k1];exact hok⟩,?_⟩,?_⟩
    ·exact List.all_eq_true.2 fun p hpm=>(Nx (rng p hpm)).2 (hpl2 p hpm)
    ·refine List.all_eq_true.2 fun p hpm=> ?_;have:=List.all_eq_true.1 hh p.1 (fY hpm)
     rwa [Jp r2 hpm]at this
    ·exact decide_eq_true (hv1.symm.trans k3.symm)
    ·exact decide_eq_true (hv2.symm.trans k4.symm)
   ·rintro⟨⟨hsp,hst⟩,⟨⟨hk,hok⟩,hv1⟩,hv2⟩;have hv1:=of_decide_eq_true hv1;have hv2:=of_decide_eq_true hv2;have hL:Ct fun n:Nat=>Ah s.op n:=fun x D hD u hu=>by
     have hpm:=Bu hD;obtain⟨-,h2,-,-,h5⟩:=Kc (List.all_eq_true.1 hsp _ hpm);obtain⟨m,e,hm⟩:=Vw h2 hu;exact⟨m,e,hm,by have:=h5 u hu;rwa [e]at this⟩
    obtain⟨k1,k2⟩:=key hL;rw[←k1]at hok;obtain⟨k3,k4⟩:=k2 hok;rw[k3]at hv1;rw[k4]at hv2;have r1:(s.op.map (·.1)).Pairwise (· < ·):=(by rw[hv1];exact SP.opr);have r2:(s.sh.map (·.1)).Pairwise (· < ·):=(by rw[hv2];exact SP.shr);have g1:∀x∈s.op.map (·.1),0≤x:=fun x hx=>(by rw[hv1]at hx;obtain⟨m,e,h⟩:=SP.op _ hx;omega);have g2:∀x∈s.sh.map (·.1),0≤x:=fun x hx=>(by rw[hv2]at hx;obtain⟨m,e,h⟩:=SP.sh _ hx;omega);have p1:Dm s=true:=by
     have a1:=Vu (l:=s.op.map (·.1)) (f:=spK s.op) (fun i hi=>by simp only[fJ]at hi;rw[fX,spK,Hs hi]) r1 g1;have a2:=Vu (l:=s.sh.map (·.1)) (f:=stK s.sh) (fun i hi=>by simp only[fJ]at hi;rw[fX,stK,Ht hi]) r2 g2;rw[fJ]at a1 a2;rw[Dm,a1,a2];rfl
    refine⟨p1,⟨⟨hk,?_⟩,?_⟩,⟨hok,by rw[decide_eq_true_iff,hv1]⟩,by rw[decide_eq_true_iff,hv2]⟩
    ·refine List.all_eq_true.2 fun x hx=> ?_;obtain⟨p,hpm,rfl⟩:=List.mem_map.1 hx;rw[Mh r1 hpm];have hs:=List.all_eq_true.1 hsp _ hpm;exact(Nx (Kc hs).1).1 hs
    ·refine List.all_eq_true.2 fun x hx=> ?_;obtain⟨p,hpm,rfl⟩:=List.mem_map.1 hx;rw[Jp r2 hpm];exact List.all_eq_true.1 hst _ hpm
  ·rw[Zea ho,Mg ho];simp
theorem Zgh (s:SparseD):okS s=Aj s false:=Rq s false
end Go.Proofs.YtfofaiommeckbaaGreat
