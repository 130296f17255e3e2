/- Walks: the document's Whole. -/
import Derived.Test.YtfofaiommeckbaaGreatZPatchMakesB
import Derived.Test.YtfofaiommeckbaaGreatZPatchMakes22
import Derived.Test.YtfofaiommeckbaaGreatZPatchMakes25
open List renaming foldl_append → fH, take_length → eI, flatMap_append → fI, length_cons → cR, length_map → fJ, length_append → aG, length_take → eC, length_nil → bL, getElem?_toArray → bN, getElem?_cons_zero → bO, getElem?_cons_succ → bP, getD_eq_getElem?_getD → aH, getElem?_eq_getElem → aI, getElem_mem → aJ, range_succ → fK, getElem_of_mem → eB
open Int renaming toNat_natCast → dD, tmod → eV, tmod_eq_emod_of_nonneg → eW
open Nat renaming log2_two_pow → fL, pow_le_pow_right → aY, lt_succ_self → cZ, lt_of_lt_of_le → dP, pow_succ → aN, two_pow_pos → eU, sub_zero → dE, log2 → aX
open Bool renaming true_and → dC, false_and → dB, not_eq_true → dA
set_option linter.unusedVariables false
set_option maxRecDepth 100000
set_option maxHeartbeats 40000000
namespace Go.Proofs.YtfofaiommeckbaaGreat
open Go.RowKit WalkM WireM
section
def SW (FI:Int→Option NodeD)(d:Nat)(x:Int)(late:List Int)(r:Nat):List Int×Bool:=Ma FI x ([x],true) ((late.take r).flatMap (upL d))
def SI (FI:Int→Option NodeD)(d:Nat)(x:Int)(late:List Int)(r k:Nat):List Int×Bool:=Ma FI x (SW FI d x late r) ((upL d (late.getD r 0)).take k)
section
variable {FI:Int→Option NodeD} {d:Nat} {x:Int} {late:List Int}
theorem Pk (r:Nat):SI FI d x late r 0=SW FI d x late r:=by simp[SI,Ma]
theorem Zan {r k:Nat}(hk:k<(upL d (late.getD r 0)).length):SI FI d x late r (k+1)=Xw FI x (SI FI d x late r k) ((upL d (late.getD r 0)).getD k 0):=by
 unfold SI Ma;rw[←El hk,fH];rfl
theorem Zd3 {r:Nat}(hr:r<late.length):SI FI d x late r (upL d (late.getD r 0)).length=SW FI d x late (r+1):=by
 unfold SI SW Ma;rw[eI,←El hr,fI,fH];simp
theorem Zao:SW FI d x late late.length=Gt FI d x late:=by rw[SW,eI];rfl
theorem Zc3 (s:List Int×Bool)(y:Int):(Xw FI x s y).1.length≤s.1.length+1:=by
 unfold Xw
 split
 ·simp
 ·omega
theorem Rb:∀(ys:List Int) (s:List Int×Bool),(Ma FI x s ys).1.length≤s.1.length+ys.length:=by
 intro ys
 induction ys with
 |nil=>intro s;simp[Ma]
 |cons y ys ih=>
  intro s;have h1:=ih (Xw FI x s y);have h2:=Zc3 (FI:=FI) (x:=x) s y;show(Ma FI x (Xw FI x s y) ys).1.length≤_;rw[cR];omega
theorem Id (hd:d≤16)(u:Int):(upL d u).length≤17:=by
 unfold upL My;rw[cR,fJ]
 split
 ·rw[Yp,dD,fL];omega
 ·simp
theorem Zd4 (hd:d≤16):∀r,(SW FI d x late r).1.length≤1+17*r:=by
 intro r;have h:=Rb (FI:=FI) (x:=x) ((late.take r).flatMap (upL d)) ([x],true);have h2:((late.take r).flatMap (upL d)).length≤17*r:=by
  have:∀L:List Int,(L.flatMap (upL d)).length≤17*L.length:=by
   intro L
   induction L with
   |nil=>simp
   |cons a L ih=>rw[List.flatMap_cons,aG,cR];have:=Id hd a;omega
  have h3:=this (late.take r);rw[eC]at h3;omega
 unfold SW;simp only[cR,bL]at h;omega
theorem Zd5 (hd:d≤16)(r k:Nat):(SI FI d x late r k).1.length≤18+17*r:=by
 have h:=Rb (FI:=FI) (x:=x) ((upL d (late.getD r 0)).take k) (SW FI d x late r);have h2:=Zd4 (FI:=FI) (d:=d) (x:=x) (late:=late) hd r;have h3:=Id hd (late.getD r 0);rw[eC]at h;unfold SI;omega
theorem Vk {s:List Int×Bool} {y:Int}(h1:y≠x)(h2:Bl y x=true)(h3:y∉s.1):Xw FI x s y=(s.1++[y],s.2&&(FI y).isSome):=by rw[Xw,if_pos ⟨h1,h2,h3⟩]
theorem Jl {s:List Int×Bool} {y:Int}(h:¬(y≠x∧Bl y x=true∧y∉s.1)):Xw FI x s y=s:=by rw[Xw,if_neg h]
end
def It (l:List (Int×NodeD)):Prop:=∀p∈l,p.2.kind<256∧p.2.par.late.length≤1000∧∀u∈p.2.par.late,0≤u∧u<65536
def Zd6 (l:List (Int×NodeD))(d k:Nat):Prop:=∀(x:Nat) (v:Value) (w:World),SpotsR w v l→IsLev x k→x+2^k≤2*2^d-1→
 Calls Tryz.prog 137 #[v,.int .i64 (x:Nat),.int .i64 ((2^d:Nat):Int)] w fun e w'=>∃vo,e=.returned (.tuple #[vo,.bool (Av (Ah l) d k x).2])∧Own w' w.heap.size 3 vo (ivs .i64 (Av (Ah l) d k x).1)∧Below w.heap.size w w'
theorem NodeC.frame {w:World} {d:NodeD} {c:Array Value}(h:NodeC w d c):∃x1 x2 x3 x4 x5 x6 x7 x8 b e,c=#[.int .u8 (d.kind:Nat),x1,x2,x3,x4,x5,x6,x7,x8,.slice b d.par.late.length e]∧Rd w (.slice b d.par.late.length e) (ivs .i64 d.par.late):=by
 obtain⟨a1,c1,a2,c2,a3,c3,a4,c4,a5,c5,b1,e1,b2,e2,b3,e3,rfl,h1,h2,h3,h4,h5,h6,h7,h8⟩:=h;exact⟨_,_,_,_,_,_,_,_,_,_,rfl,h8⟩
theorem Nr (l:List (Int×NodeD))(d k x:Nat)(v:Value)(w:World)(h:SpotsR w v l)(hF:Ah l (x:Int)=none):
  Calls Tryz.prog 137 #[v,.int .i64 (x:Nat),.int .i64 ((2^d:Nat):Int)] w fun e w'=>∃vo,e=.returned (.tuple #[vo,.bool (Av (Ah l) d k x).2])∧Own w' w.heap.size 3 vo (ivs .i64 (Av (Ah l) d k x).1)∧Below w.heap.size w w':=by
 rw[Ep hF];have FD:=fun(W:World) (hw:Below w.heap.size w W)=>Bx v l x W (h.below hw lR);rw[hF]at FD;obtain⟨n,hn⟩:=eX (2^d);rw[←hn];have HFI:=Hd FD;obtain⟨a,cp,rfl,-,-⟩:=h.sl;clear FD h hF hn;go_enter Tryz.func137,Tryz.ntmps137;go_wp2_with fail;refine(HFI.out w bR).mono ?_;rintro e w2 ⟨c,rfl,hnc,hb2⟩;have HONE:=Hd hnc.oneL;obtain⟨x0,x1,x2,x3,x4,x5,x6,x7,x8,x9,rfl⟩:=hnc.ten;have HB2:=Hd hb2;clear hnc hb2;obtain⟨q,hq⟩:=eX w2.heap.size;have HQ:=Hd hq;have HQK:=Hd (show Blk (w2.alloc (.cells #[.int .u8 0,.slice none 0 0,.slice none 0 0,.slice none 0 0,.int .u8 0,.slice none 0 0,.slice none 0 0,.slice none 0 0,.slice none 0 0,.slice none 0 0] 52)) q 52 #[.int .u8 0,.slice none 0 0,.slice none 0 0,.slice none 0 0,.int .u8 0,.slice none 0 0,.slice none 0 0,.slice none 0 0,.slice none 0 0,.slice none 0 0] by rw[hq];exact Blk.new _ _ _);clear hq;go_wp2_with (refine Ab rfl 52 (.tmp 8) (.tmp 27) rfl w2.heap.size #[x0,x1,x2,x3,x4,x5,x6,x7,x8,x9] rfl rfl 52 #[.int .u8 0,.slice none 0 0,.slice none 0 0,.slice none 0 0,.int .u8 0,.slice none 0 0,.slice none 0 0,.slice none 0 0,.slice none 0 0,.slice none 0 0] (HQ.out▸HQK.out) (by kernel_rfl) rfl HONE.out ?_);rintro w3 hblk hbl hoth hsize;have HB3:=Hd ((HB2.out.alloc HB2.out.size (.cells #[.int .u8 0,.slice none 0 0,.slice none 0 0,.slice none 0 0,.int .u8 0,.slice none 0 0,.slice none 0 0,.slice none 0 0,.slice none 0 0,.slice none 0 0] 52)).trans (hbl w.heap.size HB2.out.size));clear hblk hbl hoth hsize;go_wp2_with fail;go_ret2;exact⟨_,rfl,Own.nil _ _ _,HB3.out⟩
theorem Mc (l:List (Int×NodeD))(d x:Nat)(v:Value)(w:World)(hd:d≤16)(h:SpotsR w v l)(hK:It l)(D:NodeD)(hF:Ah l (x:Int)=some D)(hx:x≤131070)(hkk:D.kind≠0):
  Calls Tryz.prog 137 #[v,.int .i64 (x:Nat),.int .i64 ((2^d:Nat):Int)] w fun e w'=>∃vo,e=.returned (.tuple #[vo,.bool (Gt (Ah l) d x D.par.late).2])∧Own w' w.heap.size 3 vo (ivs .i64 (Gt (Ah l) d x D.par.late).1)∧Below w.heap.size w w':=by
 obtain⟨hk256,hln,hub⟩:=hK _ (Bu hF);have hk256:D.kind<256:=hk256;have hln:D.par.late.length≤1000:=hln;have hub:∀u∈D.par.late,0≤u∧u<65536:=hub;have FALL:=fun(y:Int) (W:World) (hw:Below w.heap.size w W)=>Bx v l y W (h.below hw lR);have FD:=fun(W:World) (hw:Below w.heap.size w W)=>FALL x W hw;rw[hF]at FD;have h2d:(2^d:Nat)≤2^16:=aY (by omega) hd;have h16:(2:Nat)^16=65536:=rfl;have UN:=fun(y:Int) (W:World)=>Fo y (x:Int) W;have UL:=fun(u:Int)=>Id hd u;have SIL:=fun(r k:Nat)=>Zd5 (FI:=Ah l) (d:=d) (x:=(x:Int)) (late:=D.par.late) hd r k;have ISL:=fun(r k:Nat) (hr:r<D.par.late.length)=>(show(SI (Ah l) d (x:Int) D.par.late r k).1.length≤20000 from by have:=SIL r k;omega);clear hK;obtain⟨FI,hFI⟩:=eX (Ah l);rw[←hFI]at SIL ISL⊢;simp only[←hFI]at FALL;have HFALL:=Hd FALL;have HFI:=Hd FD;obtain⟨n,hn⟩:=eX (2^d);rw[←hn];have HN:=Hd hn;have PATH:=fun(y:Int) (W:World)=>Lw y (n:Int) W (by omega) (by omega);obtain⟨a,cp,rfl,-,-⟩:=h.sl;obtain⟨kd,hkd⟩:=eX D.kind;obtain⟨L,hL⟩:=eX D.par.late;rw[←hL]at hln hub SIL ISL⊢;rw[←hkd]at hk256 hkk;have HKD:=Hd hkd;have HLE:=Hd hL;have HUB:=Hd hub;have HPATH:=Hd PATH;have HUN:=Hd UN;have HUL:=Hd UL;have HSIL:=Hd SIL;have HISL:=Hd ISL;have HLN:=Hd hln;have hb0:((kd:Int)==0)=false:=(by rw[beq_eq_false_iff_ne];omega);clear FALL FD h16 h2d PATH UN UL SIL ISL hFI hn hkd hL hub hln hF h hkk;go_enter Tryz.func137,Tryz.ntmps137;go_wp2_with fail;refine(HFI.out w bR).mono ?_;rintro e w2 ⟨c,rfl,hnc,hb2⟩;have HONE:=Hd hnc.oneL;obtain⟨x1,x2,x3,x4,x5,x6,x7,x8,b3,e3,rfl,hrd⟩:=hnc.frame;have hnc2:(some D).getD Ar=D:=rfl;rw[hnc2,←HKD.out,←HLE.out]at HONE⊢;rw[hnc2,←HLE.out]at hrd;obtain⟨l8,hl8⟩:=eX L.length;rw[←hl8]at HONE hrd⊢;have HB2:=Hd hb2;have HRD2:=Hd hrd;have HL8:=Hd hl8;have hl81:l8≤1000:=(by rw[hl8];exact HLN.out);clear hnc hb2 hnc2 hrd hl8;obtain⟨q,hq⟩:=eX w2.heap.size;have HQ:=Hd hq;have HQK:=Hd (show Blk (w2.alloc (.cells #[.int .u8 0,.slice none 0 0,.slice none 0 0,.slice none 0 0,.int .u8 0,.slice none 0 0,.slice none 0 0,.slice none 0 0,.slice none 0 0,.slice none 0 0] 52)) q 52 #[.int .u8 0,.slice none 0 0,.slice none 0 0,.slice none 0 0,.int .u8 0,.slice none 0 0,.slice none 0 0,.slice none 0 0,.slice none 0 0,.slice none 0 0] by rw[hq];exact Blk.new _ _ _);clear hq;go_wp2_with (refine Ab rfl 52 (.tmp 8) (.tmp 27) rfl w2.heap.size #[.int .u8 (kd:Nat),x1,x2,x3,x4,x5,x6,x7,x8,.slice b3 l8 e3] rfl rfl 52 #[.int .u8 0,.slice none 0 0,.slice none 0 0,.slice none 0 0,.int .u8 0,.slice none 0 0,.slice none 0 0,.slice none 0 0,.slice none 0 0,.slice none 0 0] (HQ.out▸HQK.out) (by kernel_rfl) rfl HONE.out ?_);rintro w3 hblk hbl hoth hsize;rw[←HQ.out]at hblk⊢;have HB3:=Hd ((HB2.out.alloc HB2.out.size (.cells #[.int .u8 0,.slice none 0 0,.slice none 0 0,.slice none 0 0,.int .u8 0,.slice none 0 0,.slice none 0 0,.slice none 0 0,.slice none 0 0,.slice none 0 0] 52)).trans (hbl w.heap.size HB2.out.size));have HSZ:=Hd (show w3.heap.size=q+1 from by rw[hsize];simp[HQ.out]);have HBK:=Hd hblk;have HRD3:=Hd (HRD2.out.below (((Below.refl w2.heap.size w2).alloc lR (.cells #[.int .u8 0,.slice none 0 0,.slice none 0 0,.slice none 0 0,.int .u8 0,.slice none 0 0,.slice none 0 0,.slice none 0 0,.slice none 0 0,.slice none 0 0] 52)).trans (hbl w2.heap.size lR)) lR);have c0:=hblk.cell 0;have c9:=hblk.cell 9;simp only[bN,bO,bP]at c0 c9;have hqlt:q<w3.heap.size:=(by rw[hsize];simp[HQ.out]);clear hblk hbl hoth hsize;go_wp2_with fail;have HO0:=Hd (show Own (w3.alloc (.cells #[.int .i64 (x:Nat)] 3)) (q+1) 3 (.slice (some ⟨w3.heap.size,0,none⟩) 1 1) (ivs .i64 [(x:Int)])from Own.full (B:=q+1) (cs:=#[.int .i64 (x:Nat)]) rfl (by rw[HSZ.out];exact lR) (by unfold maxLen;simp) rfl);have HBW0:=Hd (show Below (q+1) w3 (w3.alloc (.cells #[.int .i64 (x:Nat)] 3))from bR.alloc (by rw[HSZ.out];exact lR) _);generalize hw4:w3.alloc (.cells #[.int .i64 (x:Nat)] 3)=w4 at HO0 HBW0⊢;obtain⟨ov0,hov0⟩:=eX (Value.slice (some ⟨w3.heap.size,0,none⟩) 1 1);clear hw4 c0 c9 hov0 hqlt
 go_loopg [9,10,17] l8 (fun q0 kv ov iv wr=>∃r:Nat,r+q0=l8∧iv=.int .i64 (r:Nat)∧kv=.bool (SW FI d x L r).2∧Own wr (q+1) 3 ov (ivs .i64 (SW FI d x L r).1)∧Below (q+1) w3 wr)
 case atStart=>exact⟨0,by omega,rfl,rfl,HO0.out,HBW0.out⟩
 case round=>
  obtain⟨r,hr,rfl,rfl,hown,hb⟩:=hrel;have HR:=Hd hr;have HO:=Hd hown;have HB:=Hd hb;have HBK1:=Hd (HBK.out.below hb (cZ _));have c9:=HBK1.out.cell 9;simp only[bN,bO,bP]at c9;have HBA:=Hd (HB3.out.trans (hb.mono (by have:=HB2.out.size;have:=HQ.out;omega)));clear hr hown hb
  by_cases hlt:r<l8
  ·have hlt':decide (r<l8)=true:=decide_eq_true hlt;have hltI:(r:Int)<(l8:Int):=(by omega);obtain⟨bl,ol,rfl,hbl,cu⟩:=(HRD3.out.below HB.out (by rw[HSZ.out];exact lR)).at3 (Bq (show r<L.length by rw[←HL8.out];exact hlt));have hub:=HUB.out (L.getD r 0) (by rw[aH,aI (show r<L.length by rw[←HL8.out];exact hlt)];exact aJ _);obtain⟨u,hu⟩:=eX (L.getD r 0);rw[←hu]at cu hub;have HU:=Hd hu;obtain⟨hu0,hu1⟩:=hub;have hw:wrap64 (2*u)=2*u:=(by unfold wrap64;omega);obtain⟨g1,rfl⟩:=eX gk;obtain⟨wo,rfl⟩:∃wo:World,wo=wr:=⟨_,rfl⟩;obtain⟨ok0,hok0⟩:=eX ((SW FI d x L r).2);rw[←hok0];have HOK0:=Hd hok0;obtain⟨p1,p2,p3,rfl⟩:=Dp HO.out;clear hu hok0;go_wp2_with fail;have HPA:=Hd (HPATH.out (2*u) (wo.alloc (.cells #[.int .i64 (2*u)] 3)));have HOL:=Hd (show Own (wo.alloc (.cells #[.int .i64 (2*u)] 3)) wo.heap.size 3 (.slice (some ⟨wo.heap.size,0,none⟩) 1 1) [.int .i64 (2*u)]from Own.full (B:=wo.heap.size) (cs:=#[.int .i64 (2*u)]) rfl lR (by unfold maxLen;simp) rfl);have HAL:=Hd ((Below.refl wo.heap.size wo).alloc lR (.cells #[.int .i64 (2*u)] 3));refine HPA.out.mono ?_;rintro e w5 ⟨pv,rfl,hpo,hb5⟩;have HPR:=Hd hpo.rd;have HOL5:=Hd (HOL.out.below hb5 lR);have HB5:=Hd (HAL.out.trans (hb5.mono HAL.out.size));obtain⟨s1,s2,s3,rfl⟩:=Dp hpo;clear hpo hb5;go_wp2_with (at_builtin;refine Am rfl (.tmp 85) (.tmp 88) 48 rfl wo.heap.size 3 _ 8 Cl _ [.int .i64 (2*u)] rfl HOL5.out _ _ rfl HPR.out ?d1 ?d2 ?d3 ?_);case d1=>exact Ec _
   case d2=>have:=HUL.out u;rw[upL,cR,fJ,←HN.out]at this;rw[Ou];simp;omega
   case d3=>exact HB5.out.size
   rintro uv w6 hown6-hb6;have HUV:=Hd (show Own w6 wo.heap.size 3 uv (ivs .i64 (upL d u))from by
    have e:Value.int .i64 (2*u)::nvs (My (2*u) ((2^d:Nat):Int))=ivs .i64 (upL d u):=(by simp[upL,nvs,ivs]);rw[HN.out,e]at hown6;exact hown6)
   have HB6:=Hd (HB5.out.trans hb6);have HO6:=Hd (HO.out.below HB6.out lR);have HAP:=Hd (show Gj (.slice p1 p2 p3) uv from fun g e1 e2=>by have:=(HO.out.blockLt e1).1;have:=(HUV.out.blockLt e2).2;omega);have HB6':=Hd (HB.out.trans (HB6.out.mono (show q+1≤wo.heap.size by have:=HB.out.size;have:=HSZ.out;omega)));clear hown6 hb6;obtain⟨ul,hul⟩:=eX ((upL d u).length);have HULN:=Hd hul;have hul17:ul≤17:=(by rw[hul];exact HUL.out u);obtain⟨v1,v2,rfl⟩:=Nm HUV.out hul.symm;clear hul;go_wp2_with fail
   go_loopg [9,10,20] ul (fun q0 kv ov iv wr=>∃k:Nat,k+q0=ul∧iv=.int .i64 (k:Nat)∧kv=.bool (SI FI d x L r k).2∧Own wr (q+1) 3 ov (ivs .i64 (SI FI d x L r k).1)∧Own wr wo.heap.size 3 (.slice v1 ul v2) (ivs .i64 (upL d u))∧Gj ov (.slice v1 ul v2)∧Below (q+1) w3 wr)
   case atStart=>exact⟨0,by omega,rfl,by rw[Pk,HOK0.out],by rw[Pk];exact HO6.out,HUV.out,HAP.out,HB6'.out⟩
   case round=>
    obtain⟨k,hk,rfl,rfl,hown,huv,hap,hb⟩:=hrel;have HK:=Hd hk;have HO:=Hd hown;have HUV:=Hd huv;have HAP:=Hd hap;have HB:=Hd hb;have HBA:=Hd (HB3.out.trans (hb.mono (by have:=HB2.out.size;have:=HQ.out;omega)));have hqw:q+1≤wr.heap.size:=(by have:=hb.size;have:=HSZ.out;omega);have hww:w.heap.size≤wr.heap.size:=HBA.out.size;have HQW:=Hd hqw;obtain⟨ok1,hok1⟩:=eX ((SI FI d x L r k).2);rw[←hok1];have HOK1:=Hd hok1;clear hk hown huv hap hb hok1 hqw hww
    by_cases hku:k<ul
    ·have hku':decide (k<ul)=true:=decide_eq_true hku;have hkuI:(k:Int)<(ul:Int):=(by omega);obtain⟨bu,ou,rfl,hbu,cy⟩:=HUV.out.rd.at3 (Bq (show k<(upL d u).length by rw[←HULN.out];exact hku));have HSS:=Hd (Zan (FI:=FI) (d:=d) (x:=x) (late:=L) (r:=r) (k:=k) (by rw[←HU.out,←HULN.out];exact hku));rw[←HU.out]at HSS;obtain⟨y,hy⟩:=eX ((upL d u).getD k 0);rw[←hy]at cy HSS;have HYE:=Hd hy;clear hy;obtain⟨p1,p2,p3,rfl⟩:=Dp HO.out
     by_cases c1:y=x
     ·have hq1:(y !=x)=false:=(by simp[c1]);have HS:=Hd (show SI FI d x L r (k+1)=SI FI d x L r k from by rw[HSS.out];exact Jl fun h=>h.1 c1);clear c1;go_wp2_with fail;go_roundg (gk-1);case measure=>have:=HK.out;omega
      case rel=>exact⟨k+1,by have:=HK.out;omega,by go_num,by rw[HS.out,HOK1.out],by rw[HS.out];exact HO.out,HUV.out,HAP.out,HB.out⟩
     ·have hq1:(y !=x)=true:=(by simp[c1]);have HC1:=Hd c1;clear c1;have UN:=HUN.out y wr;obtain⟨bb,hbb⟩:=eX (Bl y x);rw[←hbb]at UN;have HUND:=Hd UN;have HBB:=Hd hbb;clear UN hbb;cases bb with
      |false=>
       have HS:=Hd (show SI FI d x L r (k+1)=SI FI d x L r k from by rw[HSS.out];exact Jl fun h=>by rw[←HBB.out]at h;cases h.2.1);clear HBB;go_wp2_with fail;refine HUND.out.mono ?_;rintro e w7 ⟨rfl,hb7⟩;have HB7:=Hd hb7;clear hb7;go_wp2_with fail;go_roundg (gk-1);case measure=>have:=HK.out;omega
       case rel=>exact⟨k+1,by have:=HK.out;omega,by go_num,by rw[HS.out,HOK1.out],by rw[HS.out];exact HO.out.below HB7.out lR,HUV.out.below HB7.out lR,HAP.out,HB.out.trans (HB7.out.mono HQW.out)⟩
      |true=>
       go_wp2_with fail;refine HUND.out.mono ?_;rintro e w7 ⟨rfl,hb7⟩;have HB7:=Hd hb7;have HO7:=Hd (HO.out.below hb7 lR);have HUV7:=Hd (HUV.out.below hb7 lR);have HBW7:=Hd (HB.out.trans (hb7.mono HQW.out));have HBA7:=Hd (HBA.out.trans (hb7.mono HBA.out.size));have hcy:=(hb7.cell (p:=⟨bu,ou+k,none⟩) hbu).trans cy;have HBU7:=Hd (show bu<w7.heap.size from dP hbu hb7.size);have HA:=Bo _ (SI FI d x L r k).1 y w7 HO7.out.rd;obtain⟨hh,hhh⟩:=eX (decide (y∈(SI FI d x L r k).1));rw[←hhh]at HA;have HHAS:=Hd HA;have HHH:=Hd hhh;clear HA hhh hb7 cy hbu;cases hh with
       |true=>
        have HS:=Hd (show SI FI d x L r (k+1)=SI FI d x L r k from by rw[HSS.out];exact Jl fun h=>absurd (of_decide_eq_true HHH.out.symm) h.2.2);clear HHH HBB;go_wp2_with fail;refine HHAS.out.mono ?_;rintro e w8 ⟨rfl,rfl⟩;go_wp2_with fail;go_roundg (gk-1);case measure=>have:=HK.out;omega
        case rel=>exact⟨k+1,by have:=HK.out;omega,by go_num,by rw[HS.out,HOK1.out],by rw[HS.out];exact HO7.out,HUV7.out,HAP.out,HBW7.out⟩
       |false=>
        have HS:=Hd (show SI FI d x L r (k+1)=((SI FI d x L r k).1++[y],(SI FI d x L r k).2&&(FI y).isSome)from by rw[HSS.out];exact Vk HC1.out HBB.out.symm (of_decide_eq_false HHH.out.symm));clear HHH HBB;go_wp2_with fail;refine HHAS.out.mono ?_;rintro e w8 ⟨rfl,rfl⟩;go_wp2_with (at_builtin;refine Bj rfl (.tmp 119) (.tmp 124) 48 rfl (q+1) 3 _ 8 Cl _ _ rfl (HO7.out.alloc _) _ (.int .i64 y) rfl ?c1 rfl ?c2 ?c3 ?_);case c1=>exact Aq rfl
        case c2=>have:=HSIL.out r k;simp[ivs];omega
        case c3=>have:=HBW7.out.size;have:=HSZ.out;simp;omega
        rintro ov9 w9 hown9 hg9 hb9 hnear;have HO9:=Hd hown9;have HUV9:=Hd (show Own w9 wo.heap.size 3 _ _ from(HUV7.out.alloc (.cells #[.int .i64 y] 3)).grown hg9 fun g e1 e2=>HAP.out g e2 e1);have HAP9:=Hd (Fq hnear HAP.out (HUV7.out.alloc (.cells #[.int .i64 y] 3)));have HBW9:=Hd ((HBW7.out.alloc (by have:=HBW7.out.size;have:=HSZ.out;omega) (.cells #[.int .i64 y] 3)).trans hb9);have HBA9:=Hd (HB3.out.trans (HBW9.out.mono (by have:=HB2.out.size;have:=HQ.out;omega)));obtain⟨b9,o9,e9,hbu9,hcyo⟩:=HUV9.out.rd.at3 (Bq (show k<(upL d u).length by rw[←HULN.out];exact hku));cases e9;have hcy9:w9.cell? ⟨bu,ou+k,none⟩=some (.int .i64 y):=hcyo.trans (by rw[HYE.out]);have HFD:=Hd (HFALL.out y w9 HBA9.out);clear hown9 hg9 hb9 hnear hcy hbu9 hcyo;obtain⟨o1,o2,o3,rfl⟩:=Dp HO9.out;go_wp2_with fail;refine HFD.out.mono ?_;rintro e w10 ⟨c10,rfl,hnc10,hb10⟩;obtain⟨fk,hfk⟩:=eX ((FI y).isSome);rw[←hfk];have HFK:=Hd hfk;have HONE10:=Hd hnc10.oneL;obtain⟨y0,y1,y2,y3,y4,y5,y6,y7,y8,y9,rfl⟩:=hnc10.ten;have HB10:=Hd hb10;clear hnc10 hb10 hfk;obtain⟨q10,hq10⟩:=eX w10.heap.size;have HQ10:=Hd hq10;have HQK10:=Hd (show Blk (w10.alloc (.cells #[.int .u8 0,.slice none 0 0,.slice none 0 0,.slice none 0 0,.int .u8 0,.slice none 0 0,.slice none 0 0,.slice none 0 0,.slice none 0 0,.slice none 0 0] 52)) q10 52 #[.int .u8 0,.slice none 0 0,.slice none 0 0,.slice none 0 0,.int .u8 0,.slice none 0 0,.slice none 0 0,.slice none 0 0,.slice none 0 0,.slice none 0 0] by rw[hq10];exact Blk.new _ _ _);clear hq10;go_wp2_with (refine Ab rfl 52 (.tmp 21) (.tmp 133) rfl w10.heap.size #[y0,y1,y2,y3,y4,y5,y6,y7,y8,y9] rfl rfl 52 #[.int .u8 0,.slice none 0 0,.slice none 0 0,.slice none 0 0,.int .u8 0,.slice none 0 0,.slice none 0 0,.slice none 0 0,.slice none 0 0,.slice none 0 0] (HQ10.out▸HQK10.out) (by kernel_rfl) rfl HONE10.out ?_);rintro w11 hblk hbl hoth hsize;have HB11:=Hd (HB10.out.trans (((Below.refl w10.heap.size w10).alloc lR (.cells #[.int .u8 0,.slice none 0 0,.slice none 0 0,.slice none 0 0,.int .u8 0,.slice none 0 0,.slice none 0 0,.slice none 0 0,.slice none 0 0,.slice none 0 0] 52)).trans (hbl w10.heap.size lR)|>.mono HB10.out.size));clear hblk hbl hoth hsize;have HEND:=Hd (show(SI FI d x L r (k+1)).2=(ok1&&fk)from by rw[HS.out,HOK1.out,HFK.out]);have HEND1:=Hd (show(SI FI d x L r (k+1)).1=(SI FI d x L r k).1++[y]from by rw[HS.out]);have HSZ9:=Hd (show q+1≤w9.heap.size from by have:=HBW9.out.size;have:=HSZ.out;omega);clear HFK HOK1 HS;cases ok1 with
        |true=>
         go_wp2_with fail;go_roundg (gk-1);case measure=>have:=HK.out;omega
         case rel=>
          refine⟨k+1,by have:=HK.out;omega,by go_num,by rw[HEND.out,dC],?_,HUV9.out.below HB11.out lR,HAP9.out,HBW9.out.trans (HB11.out.mono HSZ9.out)⟩;have:=HO9.out.below HB11.out lR;rw[HEND1.out];simpa [ivs]using this
        |false=>
         go_wp2_with fail;go_roundg (gk-1);case measure=>have:=HK.out;omega
         case rel=>
          refine⟨k+1,by have:=HK.out;omega,by go_num,by rw[HEND.out,dB],?_,HUV9.out.below HB11.out lR,HAP9.out,HBW9.out.trans (HB11.out.mono HSZ9.out)⟩;have:=HO9.out.below HB11.out lR;rw[HEND1.out];simpa [ivs]using this
    ·obtain rfl:k=ul:=(by have:=HK.out;omega);have hku':decide (k<k)=false:=decide_eq_false hku;have HE:=Hd (show SI FI d x L r k=SW FI d x L (r+1)from by
      rw[HULN.out,HU.out];exact Zd3 (by rw[←HL8.out];exact hlt))
     clear hku;go_wp2_with fail;go_roundg (g1-1);case measure=>have:=HR.out;omega
     case rel=>exact⟨r+1,by have:=HR.out;omega,by go_num,by rw[←HE.out,HOK1.out],by rw[←HE.out];exact HO.out,HB.out⟩
  ·obtain rfl:r=l8:=(by have:=HR.out;omega);have hlt':decide (r<r)=false:=decide_eq_false hlt;have HE:=Hd (show SW FI d x L r=Gt FI d x L from by rw[HL8.out];exact Zao);obtain⟨ok0,hok0⟩:=eX ((SW FI d x L r).2);rw[←hok0];have HOK0:=Hd hok0;clear hlt hok0;go_wp2_with fail;go_ret2;obtain rfl:ok0=(Gt FI d x L).2:=(by rw[HOK0.out,HE.out]);refine⟨_,rfl,?_,HBA.out⟩;rw[←HE.out];exact HO.out.mono (by have:=HB2.out.size;have:=HQ.out;omega)
theorem Tn (l:List (Int×NodeD))(d x:Nat)(v:Value)(w:World)(hd:d≤16)(h:SpotsR w v l)(hK:It l)(D:NodeD)(hF:Ah l (x:Int)=some D)(hx:x≤131070)(hkk:D.kind=0∧x%2=0):
  Calls Tryz.prog 137 #[v,.int .i64 (x:Nat),.int .i64 ((2^d:Nat):Int)] w fun e w'=>∃vo,e=.returned (.tuple #[vo,.bool (Gt (Ah l) d x D.par.late).2])∧Own w' w.heap.size 3 vo (ivs .i64 (Gt (Ah l) d x D.par.late).1)∧Below w.heap.size w w':=by
 obtain⟨hk256,hln,hub⟩:=hK _ (Bu hF);have hk256:D.kind<256:=hk256;have hln:D.par.late.length≤1000:=hln;have hub:∀u∈D.par.late,0≤u∧u<65536:=hub;have FALL:=fun(y:Int) (W:World) (hw:Below w.heap.size w W)=>Bx v l y W (h.below hw lR);have FD:=fun(W:World) (hw:Below w.heap.size w W)=>FALL x W hw;rw[hF]at FD;have h2d:(2^d:Nat)≤2^16:=aY (by omega) hd;have h16:(2:Nat)^16=65536:=rfl;have UN:=fun(y:Int) (W:World)=>Fo y (x:Int) W;have UL:=fun(u:Int)=>Id hd u;have SIL:=fun(r k:Nat)=>Zd5 (FI:=Ah l) (d:=d) (x:=(x:Int)) (late:=D.par.late) hd r k;have ISL:=fun(r k:Nat) (hr:r<D.par.late.length)=>(show(SI (Ah l) d (x:Int) D.par.late r k).1.length≤20000 from by have:=SIL r k;omega);clear hK;obtain⟨FI,hFI⟩:=eX (Ah l);rw[←hFI]at SIL ISL⊢;simp only[←hFI]at FALL;have HFALL:=Hd FALL;have HFI:=Hd FD;obtain⟨n,hn⟩:=eX (2^d);rw[←hn];have HN:=Hd hn;have PATH:=fun(y:Int) (W:World)=>Lw y (n:Int) W (by omega) (by omega);obtain⟨a,cp,rfl,-,-⟩:=h.sl;obtain⟨kd,hkd⟩:=eX D.kind;obtain⟨L,hL⟩:=eX D.par.late;rw[←hL]at hln hub SIL ISL⊢;rw[←hkd]at hk256 hkk;have HKD:=Hd hkd;have HLE:=Hd hL;have HUB:=Hd hub;have HPATH:=Hd PATH;have HUN:=Hd UN;have HUL:=Hd UL;have HSIL:=Hd SIL;have HISL:=Hd ISL;have HLN:=Hd hln;have hk1:=hkk.1;have hk2:=hkk.2;have hb0:((kd:Int)==0)=true:=(by rw[beq_iff_eq];omega);have hb1:(((x:Nat):Int)%2==1)=false:=(by rw[beq_eq_false_iff_ne];omega);have hb2:(eV (x:Int) 2==1)=false:=(by rw[eW (by omega),beq_eq_false_iff_ne];omega);clear FALL FD h16 h2d PATH UN UL SIL ISL hFI hn hkd hL hub hln hF h hkk hk1 hk2;go_enter Tryz.func137,Tryz.ntmps137;go_wp2_with fail;refine(HFI.out w bR).mono ?_;rintro e w2 ⟨c,rfl,hnc,hb2⟩;have HONE:=Hd hnc.oneL;obtain⟨x1,x2,x3,x4,x5,x6,x7,x8,b3,e3,rfl,hrd⟩:=hnc.frame;have hnc2:(some D).getD Ar=D:=rfl;rw[hnc2,←HKD.out,←HLE.out]at HONE⊢;rw[hnc2,←HLE.out]at hrd;obtain⟨l8,hl8⟩:=eX L.length;rw[←hl8]at HONE hrd⊢;have HB2:=Hd hb2;have HRD2:=Hd hrd;have HL8:=Hd hl8;have hl81:l8≤1000:=(by rw[hl8];exact HLN.out);clear hnc hb2 hnc2 hrd hl8;obtain⟨q,hq⟩:=eX w2.heap.size;have HQ:=Hd hq;have HQK:=Hd (show Blk (w2.alloc (.cells #[.int .u8 0,.slice none 0 0,.slice none 0 0,.slice none 0 0,.int .u8 0,.slice none 0 0,.slice none 0 0,.slice none 0 0,.slice none 0 0,.slice none 0 0] 52)) q 52 #[.int .u8 0,.slice none 0 0,.slice none 0 0,.slice none 0 0,.int .u8 0,.slice none 0 0,.slice none 0 0,.slice none 0 0,.slice none 0 0,.slice none 0 0] by rw[hq];exact Blk.new _ _ _);clear hq;go_wp2_with (refine Ab rfl 52 (.tmp 8) (.tmp 27) rfl w2.heap.size #[.int .u8 (kd:Nat),x1,x2,x3,x4,x5,x6,x7,x8,.slice b3 l8 e3] rfl rfl 52 #[.int .u8 0,.slice none 0 0,.slice none 0 0,.slice none 0 0,.int .u8 0,.slice none 0 0,.slice none 0 0,.slice none 0 0,.slice none 0 0,.slice none 0 0] (HQ.out▸HQK.out) (by kernel_rfl) rfl HONE.out ?_);rintro w3 hblk hbl hoth hsize;rw[←HQ.out]at hblk⊢;have HB3:=Hd ((HB2.out.alloc HB2.out.size (.cells #[.int .u8 0,.slice none 0 0,.slice none 0 0,.slice none 0 0,.int .u8 0,.slice none 0 0,.slice none 0 0,.slice none 0 0,.slice none 0 0,.slice none 0 0] 52)).trans (hbl w.heap.size HB2.out.size));have HSZ:=Hd (show w3.heap.size=q+1 from by rw[hsize];simp[HQ.out]);have HBK:=Hd hblk;have HRD3:=Hd (HRD2.out.below (((Below.refl w2.heap.size w2).alloc lR (.cells #[.int .u8 0,.slice none 0 0,.slice none 0 0,.slice none 0 0,.int .u8 0,.slice none 0 0,.slice none 0 0,.slice none 0 0,.slice none 0 0,.slice none 0 0] 52)).trans (hbl w2.heap.size lR)) lR);have c0:=hblk.cell 0;have c9:=hblk.cell 9;simp only[bN,bO,bP]at c0 c9;have hqlt:q<w3.heap.size:=(by rw[hsize];simp[HQ.out]);clear hblk hbl hoth hsize;go_wp2_with fail;have HO0:=Hd (show Own (w3.alloc (.cells #[.int .i64 (x:Nat)] 3)) (q+1) 3 (.slice (some ⟨w3.heap.size,0,none⟩) 1 1) (ivs .i64 [(x:Int)])from Own.full (B:=q+1) (cs:=#[.int .i64 (x:Nat)]) rfl (by rw[HSZ.out];exact lR) (by unfold maxLen;simp) rfl);have HBW0:=Hd (show Below (q+1) w3 (w3.alloc (.cells #[.int .i64 (x:Nat)] 3))from bR.alloc (by rw[HSZ.out];exact lR) _);generalize hw4:w3.alloc (.cells #[.int .i64 (x:Nat)] 3)=w4 at HO0 HBW0⊢;obtain⟨ov0,hov0⟩:=eX (Value.slice (some ⟨w3.heap.size,0,none⟩) 1 1);clear hw4 c0 c9 hov0 hqlt
 go_loopg [9,10,17] l8 (fun q0 kv ov iv wr=>∃r:Nat,r+q0=l8∧iv=.int .i64 (r:Nat)∧kv=.bool (SW FI d x L r).2∧Own wr (q+1) 3 ov (ivs .i64 (SW FI d x L r).1)∧Below (q+1) w3 wr)
 case atStart=>exact⟨0,by omega,rfl,rfl,HO0.out,HBW0.out⟩
 case round=>
  obtain⟨r,hr,rfl,rfl,hown,hb⟩:=hrel;have HR:=Hd hr;have HO:=Hd hown;have HB:=Hd hb;have HBK1:=Hd (HBK.out.below hb (cZ _));have c9:=HBK1.out.cell 9;simp only[bN,bO,bP]at c9;have HBA:=Hd (HB3.out.trans (hb.mono (by have:=HB2.out.size;have:=HQ.out;omega)));clear hr hown hb
  by_cases hlt:r<l8
  ·have hlt':decide (r<l8)=true:=decide_eq_true hlt;have hltI:(r:Int)<(l8:Int):=(by omega);obtain⟨bl,ol,rfl,hbl,cu⟩:=(HRD3.out.below HB.out (by rw[HSZ.out];exact lR)).at3 (Bq (show r<L.length by rw[←HL8.out];exact hlt));have hub:=HUB.out (L.getD r 0) (by rw[aH,aI (show r<L.length by rw[←HL8.out];exact hlt)];exact aJ _);obtain⟨u,hu⟩:=eX (L.getD r 0);rw[←hu]at cu hub;have HU:=Hd hu;obtain⟨hu0,hu1⟩:=hub;have hw:wrap64 (2*u)=2*u:=(by unfold wrap64;omega);obtain⟨g1,rfl⟩:=eX gk;obtain⟨wo,rfl⟩:∃wo:World,wo=wr:=⟨_,rfl⟩;obtain⟨ok0,hok0⟩:=eX ((SW FI d x L r).2);rw[←hok0];have HOK0:=Hd hok0;obtain⟨p1,p2,p3,rfl⟩:=Dp HO.out;clear hu hok0;go_wp2_with fail;have HPA:=Hd (HPATH.out (2*u) (wo.alloc (.cells #[.int .i64 (2*u)] 3)));have HOL:=Hd (show Own (wo.alloc (.cells #[.int .i64 (2*u)] 3)) wo.heap.size 3 (.slice (some ⟨wo.heap.size,0,none⟩) 1 1) [.int .i64 (2*u)]from Own.full (B:=wo.heap.size) (cs:=#[.int .i64 (2*u)]) rfl lR (by unfold maxLen;simp) rfl);have HAL:=Hd ((Below.refl wo.heap.size wo).alloc lR (.cells #[.int .i64 (2*u)] 3));refine HPA.out.mono ?_;rintro e w5 ⟨pv,rfl,hpo,hb5⟩;have HPR:=Hd hpo.rd;have HOL5:=Hd (HOL.out.below hb5 lR);have HB5:=Hd (HAL.out.trans (hb5.mono HAL.out.size));obtain⟨s1,s2,s3,rfl⟩:=Dp hpo;clear hpo hb5;go_wp2_with (at_builtin;refine Am rfl (.tmp 85) (.tmp 88) 48 rfl wo.heap.size 3 _ 8 Cl _ [.int .i64 (2*u)] rfl HOL5.out _ _ rfl HPR.out ?d1 ?d2 ?d3 ?_);case d1=>exact Ec _
   case d2=>have:=HUL.out u;rw[upL,cR,fJ,←HN.out]at this;rw[Ou];simp;omega
   case d3=>exact HB5.out.size
   rintro uv w6 hown6-hb6;have HUV:=Hd (show Own w6 wo.heap.size 3 uv (ivs .i64 (upL d u))from by
    have e:Value.int .i64 (2*u)::nvs (My (2*u) ((2^d:Nat):Int))=ivs .i64 (upL d u):=(by simp[upL,nvs,ivs]);rw[HN.out,e]at hown6;exact hown6)
   have HB6:=Hd (HB5.out.trans hb6);have HO6:=Hd (HO.out.below HB6.out lR);have HAP:=Hd (show Gj (.slice p1 p2 p3) uv from fun g e1 e2=>by have:=(HO.out.blockLt e1).1;have:=(HUV.out.blockLt e2).2;omega);have HB6':=Hd (HB.out.trans (HB6.out.mono (show q+1≤wo.heap.size by have:=HB.out.size;have:=HSZ.out;omega)));clear hown6 hb6;obtain⟨ul,hul⟩:=eX ((upL d u).length);have HULN:=Hd hul;have hul17:ul≤17:=(by rw[hul];exact HUL.out u);obtain⟨v1,v2,rfl⟩:=Nm HUV.out hul.symm;clear hul;go_wp2_with fail
   go_loopg [9,10,20] ul (fun q0 kv ov iv wr=>∃k:Nat,k+q0=ul∧iv=.int .i64 (k:Nat)∧kv=.bool (SI FI d x L r k).2∧Own wr (q+1) 3 ov (ivs .i64 (SI FI d x L r k).1)∧Own wr wo.heap.size 3 (.slice v1 ul v2) (ivs .i64 (upL d u))∧Gj ov (.slice v1 ul v2)∧Below (q+1) w3 wr)
   case atStart=>exact⟨0,by omega,rfl,by rw[Pk,HOK0.out],by rw[Pk];exact HO6.out,HUV.out,HAP.out,HB6'.out⟩
   case round=>
    obtain⟨k,hk,rfl,rfl,hown,huv,hap,hb⟩:=hrel;have HK:=Hd hk;have HO:=Hd hown;have HUV:=Hd huv;have HAP:=Hd hap;have HB:=Hd hb;have HBA:=Hd (HB3.out.trans (hb.mono (by have:=HB2.out.size;have:=HQ.out;omega)));have hqw:q+1≤wr.heap.size:=(by have:=hb.size;have:=HSZ.out;omega);have hww:w.heap.size≤wr.heap.size:=HBA.out.size;have HQW:=Hd hqw;obtain⟨ok1,hok1⟩:=eX ((SI FI d x L r k).2);rw[←hok1];have HOK1:=Hd hok1;clear hk hown huv hap hb hok1 hqw hww
    by_cases hku:k<ul
    ·have hku':decide (k<ul)=true:=decide_eq_true hku;have hkuI:(k:Int)<(ul:Int):=(by omega);obtain⟨bu,ou,rfl,hbu,cy⟩:=HUV.out.rd.at3 (Bq (show k<(upL d u).length by rw[←HULN.out];exact hku));have HSS:=Hd (Zan (FI:=FI) (d:=d) (x:=x) (late:=L) (r:=r) (k:=k) (by rw[←HU.out,←HULN.out];exact hku));rw[←HU.out]at HSS;obtain⟨y,hy⟩:=eX ((upL d u).getD k 0);rw[←hy]at cy HSS;have HYE:=Hd hy;clear hy;obtain⟨p1,p2,p3,rfl⟩:=Dp HO.out
     by_cases c1:y=x
     ·have hq1:(y !=x)=false:=(by simp[c1]);have HS:=Hd (show SI FI d x L r (k+1)=SI FI d x L r k from by rw[HSS.out];exact Jl fun h=>h.1 c1);clear c1;go_wp2_with fail;go_roundg (gk-1);case measure=>have:=HK.out;omega
      case rel=>exact⟨k+1,by have:=HK.out;omega,by go_num,by rw[HS.out,HOK1.out],by rw[HS.out];exact HO.out,HUV.out,HAP.out,HB.out⟩
     ·have hq1:(y !=x)=true:=(by simp[c1]);have HC1:=Hd c1;clear c1;have UN:=HUN.out y wr;obtain⟨bb,hbb⟩:=eX (Bl y x);rw[←hbb]at UN;have HUND:=Hd UN;have HBB:=Hd hbb;clear UN hbb;cases bb with
      |false=>
       have HS:=Hd (show SI FI d x L r (k+1)=SI FI d x L r k from by rw[HSS.out];exact Jl fun h=>by rw[←HBB.out]at h;cases h.2.1);clear HBB;go_wp2_with fail;refine HUND.out.mono ?_;rintro e w7 ⟨rfl,hb7⟩;have HB7:=Hd hb7;clear hb7;go_wp2_with fail;go_roundg (gk-1);case measure=>have:=HK.out;omega
       case rel=>exact⟨k+1,by have:=HK.out;omega,by go_num,by rw[HS.out,HOK1.out],by rw[HS.out];exact HO.out.below HB7.out lR,HUV.out.below HB7.out lR,HAP.out,HB.out.trans (HB7.out.mono HQW.out)⟩
      |true=>
       go_wp2_with fail;refine HUND.out.mono ?_;rintro e w7 ⟨rfl,hb7⟩;have HB7:=Hd hb7;have HO7:=Hd (HO.out.below hb7 lR);have HUV7:=Hd (HUV.out.below hb7 lR);have HBW7:=Hd (HB.out.trans (hb7.mono HQW.out));have HBA7:=Hd (HBA.out.trans (hb7.mono HBA.out.size));have hcy:=(hb7.cell (p:=⟨bu,ou+k,none⟩) hbu).trans cy;have HBU7:=Hd (show bu<w7.heap.size from dP hbu hb7.size);have HA:=Bo _ (SI FI d x L r k).1 y w7 HO7.out.rd;obtain⟨hh,hhh⟩:=eX (decide (y∈(SI FI d x L r k).1));rw[←hhh]at HA;have HHAS:=Hd HA;have HHH:=Hd hhh;clear HA hhh hb7 cy hbu;cases hh with
       |true=>
        have HS:=Hd (show SI FI d x L r (k+1)=SI FI d x L r k from by rw[HSS.out];exact Jl fun h=>absurd (of_decide_eq_true HHH.out.symm) h.2.2);clear HHH HBB;go_wp2_with fail;refine HHAS.out.mono ?_;rintro e w8 ⟨rfl,rfl⟩;go_wp2_with fail;go_roundg (gk-1);case measure=>have:=HK.out;omega
        case rel=>exact⟨k+1,by have:=HK.out;omega,by go_num,by rw[HS.out,HOK1.out],by rw[HS.out];exact HO7.out,HUV7.out,HAP.out,HBW7.out⟩
       |false=>
        have HS:=Hd (show SI FI d x L r (k+1)=((SI FI d x L r k).1++[y],(SI FI d x L r k).2&&(FI y).isSome)from by rw[HSS.out];exact Vk HC1.out HBB.out.symm (of_decide_eq_false HHH.out.symm));clear HHH HBB;go_wp2_with fail;refine HHAS.out.mono ?_;rintro e w8 ⟨rfl,rfl⟩;go_wp2_with (at_builtin;refine Bj rfl (.tmp 119) (.tmp 124) 48 rfl (q+1) 3 _ 8 Cl _ _ rfl (HO7.out.alloc _) _ (.int .i64 y) rfl ?c1 rfl ?c2 ?c3 ?_);case c1=>exact Aq rfl
        case c2=>have:=HSIL.out r k;simp[ivs];omega
        case c3=>have:=HBW7.out.size;have:=HSZ.out;simp;omega
        rintro ov9 w9 hown9 hg9 hb9 hnear;have HO9:=Hd hown9;have HUV9:=Hd (show Own w9 wo.heap.size 3 _ _ from(HUV7.out.alloc (.cells #[.int .i64 y] 3)).grown hg9 fun g e1 e2=>HAP.out g e2 e1);have HAP9:=Hd (Fq hnear HAP.out (HUV7.out.alloc (.cells #[.int .i64 y] 3)));have HBW9:=Hd ((HBW7.out.alloc (by have:=HBW7.out.size;have:=HSZ.out;omega) (.cells #[.int .i64 y] 3)).trans hb9);have HBA9:=Hd (HB3.out.trans (HBW9.out.mono (by have:=HB2.out.size;have:=HQ.out;omega)));obtain⟨b9,o9,e9,hbu9,hcyo⟩:=HUV9.out.rd.at3 (Bq (show k<(upL d u).length by rw[←HULN.out];exact hku));cases e9;have hcy9:w9.cell? ⟨bu,ou+k,none⟩=some (.int .i64 y):=hcyo.trans (by rw[HYE.out]);have HFD:=Hd (HFALL.out y w9 HBA9.out);clear hown9 hg9 hb9 hnear hcy hbu9 hcyo;obtain⟨o1,o2,o3,rfl⟩:=Dp HO9.out;go_wp2_with fail;refine HFD.out.mono ?_;rintro e w10 ⟨c10,rfl,hnc10,hb10⟩;obtain⟨fk,hfk⟩:=eX ((FI y).isSome);rw[←hfk];have HFK:=Hd hfk;have HONE10:=Hd hnc10.oneL;obtain⟨y0,y1,y2,y3,y4,y5,y6,y7,y8,y9,rfl⟩:=hnc10.ten;have HB10:=Hd hb10;clear hnc10 hb10 hfk;obtain⟨q10,hq10⟩:=eX w10.heap.size;have HQ10:=Hd hq10;have HQK10:=Hd (show Blk (w10.alloc (.cells #[.int .u8 0,.slice none 0 0,.slice none 0 0,.slice none 0 0,.int .u8 0,.slice none 0 0,.slice none 0 0,.slice none 0 0,.slice none 0 0,.slice none 0 0] 52)) q10 52 #[.int .u8 0,.slice none 0 0,.slice none 0 0,.slice none 0 0,.int .u8 0,.slice none 0 0,.slice none 0 0,.slice none 0 0,.slice none 0 0,.slice none 0 0] by rw[hq10];exact Blk.new _ _ _);clear hq10;go_wp2_with (refine Ab rfl 52 (.tmp 21) (.tmp 133) rfl w10.heap.size #[y0,y1,y2,y3,y4,y5,y6,y7,y8,y9] rfl rfl 52 #[.int .u8 0,.slice none 0 0,.slice none 0 0,.slice none 0 0,.int .u8 0,.slice none 0 0,.slice none 0 0,.slice none 0 0,.slice none 0 0,.slice none 0 0] (HQ10.out▸HQK10.out) (by kernel_rfl) rfl HONE10.out ?_);rintro w11 hblk hbl hoth hsize;have HB11:=Hd (HB10.out.trans (((Below.refl w10.heap.size w10).alloc lR (.cells #[.int .u8 0,.slice none 0 0,.slice none 0 0,.slice none 0 0,.int .u8 0,.slice none 0 0,.slice none 0 0,.slice none 0 0,.slice none 0 0,.slice none 0 0] 52)).trans (hbl w10.heap.size lR)|>.mono HB10.out.size));clear hblk hbl hoth hsize;have HEND:=Hd (show(SI FI d x L r (k+1)).2=(ok1&&fk)from by rw[HS.out,HOK1.out,HFK.out]);have HEND1:=Hd (show(SI FI d x L r (k+1)).1=(SI FI d x L r k).1++[y]from by rw[HS.out]);have HSZ9:=Hd (show q+1≤w9.heap.size from by have:=HBW9.out.size;have:=HSZ.out;omega);clear HFK HOK1 HS;cases ok1 with
        |true=>
         go_wp2_with fail;go_roundg (gk-1);case measure=>have:=HK.out;omega
         case rel=>
          refine⟨k+1,by have:=HK.out;omega,by go_num,by rw[HEND.out,dC],?_,HUV9.out.below HB11.out lR,HAP9.out,HBW9.out.trans (HB11.out.mono HSZ9.out)⟩;have:=HO9.out.below HB11.out lR;rw[HEND1.out];simpa [ivs]using this
        |false=>
         go_wp2_with fail;go_roundg (gk-1);case measure=>have:=HK.out;omega
         case rel=>
          refine⟨k+1,by have:=HK.out;omega,by go_num,by rw[HEND.out,dB],?_,HUV9.out.below HB11.out lR,HAP9.out,HBW9.out.trans (HB11.out.mono HSZ9.out)⟩;have:=HO9.out.below HB11.out lR;rw[HEND1.out];simpa [ivs]using this
    ·obtain rfl:k=ul:=(by have:=HK.out;omega);have hku':decide (k<k)=false:=decide_eq_false hku;have HE:=Hd (show SI FI d x L r k=SW FI d x L (r+1)from by
      rw[HULN.out,HU.out];exact Zd3 (by rw[←HL8.out];exact hlt))
     clear hku;go_wp2_with fail;go_roundg (g1-1);case measure=>have:=HR.out;omega
     case rel=>exact⟨r+1,by have:=HR.out;omega,by go_num,by rw[←HE.out,HOK1.out],by rw[←HE.out];exact HO.out,HB.out⟩
  ·obtain rfl:r=l8:=(by have:=HR.out;omega);have hlt':decide (r<r)=false:=decide_eq_false hlt;have HE:=Hd (show SW FI d x L r=Gt FI d x L from by rw[HL8.out];exact Zao);obtain⟨ok0,hok0⟩:=eX ((SW FI d x L r).2);rw[←hok0];have HOK0:=Hd hok0;clear hlt hok0;go_wp2_with fail;go_ret2;obtain rfl:ok0=(Gt FI d x L).2:=(by rw[HOK0.out,HE.out]);refine⟨_,rfl,?_,HBA.out⟩;rw[←HE.out];exact HO.out.mono (by have:=HB2.out.size;have:=HQ.out;omega)
end
theorem Rc {FI:Int→Option NodeD} {d:Nat} {x:Int} {late:List Int}(hd:d≤16)(h:late.length≤1000):(Gt FI d x late).1.length≤17001:=by
 have:=Zd4 (FI:=FI) (d:=d) (x:=x) (late:=late) hd late.length;rw[Zao]at this;omega
theorem Hi {l:List (Int×NodeD)} {d:Nat}(hd:d≤16)(hK:It l):∀k x,(Av (Ah l) d k x).1.length+20000≤20000*2^(k+1):=by
 intro k
 induction k with
 |zero=>
  intro x;cases hF:Ah l (x:Int)with
  |none=>rw[Ep hF];simp
  |some D=>
   rw[Gg hF];have:=Rc (FI:=Ah l) (x:=(x:Int)) (late:=D.par.late) hd (hK _ (Bu hF)).2.1;have e:2^(0+1)=2:=rfl;omega
 |succ k ih=>
  intro x;have e:2^(k+1+1)=2*2^(k+1):=(by rw[aN];omega);have hp:=eU (k+1);cases hF:Ah l (x:Int)with
  |none=>rw[Ep hF];simp;omega
  |some D=>
   by_cases hk:D.kind=0
   ·rw[Gu hF hk];have h1:=ih (x-2^k);have h2:=ih (x+2^k);simp only[aG,cR,bL];omega
   ·rw[Ia hF hk];have:=Rc (FI:=Ah l) (x:=(x:Int)) (late:=D.par.late) hd (hK _ (Bu hF)).2.1;omega
theorem Zap (l:List (Int×NodeD))(d k x:Nat)(v:Value)(w:World)(hd:d≤16)(h:SpotsR w v l)(hK:It l)(D:NodeD)(hF:Ah l (x:Int)=some D)(hlx:IsLev x (k+1))(hx:x+2^(k+1)≤2*2^d-1)(hk0:D.kind=0)(IH:Zd6 l d k):
  Calls Tryz.prog 137 #[v,.int .i64 (x:Nat),.int .i64 ((2^d:Nat):Int)] w fun e w'=>∃vo,e=.returned (.tuple #[vo,.bool (Av (Ah l) d (k+1) x).2])∧Own w' w.heap.size 3 vo (ivs .i64 (Av (Ah l) d (k+1) x).1)∧Below w.heap.size w w':=by
 obtain⟨hM,e2⟩:=Df hd;obtain⟨l1,l2,hx0,hb1,hb2,kl,kr⟩:=Fd hlx hx hM;have hodd:=He hlx;have hpp:=eU k;have hppk:=eU (k+1);have hkd:k≤16:=by
  rcases Nat.lt_or_ge 16 k with h|h
  ·have:=aY (show 0<2 by omega) (show 17≤k from h);have h17:(2:Nat)^17=131072:=rfl;omega
  ·exact h
 have hp17:2^(k+1)≤2^17:=aY (by omega) (by omega);have h17:(2:Nat)^17=131072:=rfl;have FALL:=fun(y:Int) (W:World) (hw:Below w.heap.size w W)=>Bx v l y W (h.below hw lR);have FD:=fun(W:World) (hw:Below w.heap.size w W)=>FALL x W hw;rw[hF]at FD;have KD:=fun(W:World)=>Fa (x:Int) W;rw[kl,kr]at KD;have R1:=fun(W:World) (hw:Below w.heap.size w W)=>IH (x-2^k) v W (h.below hw lR) l1 hb1;have R2:=fun(W:World) (hw:Below w.heap.size w W)=>IH (x+2^k) v W (h.below hw lR) l2 hb2;have n1:=Hi hd hK k (x-2^k);have n2:=Hi hd hK k (x+2^k);rw[Gu hF hk0];obtain⟨W1,hW1⟩:=eX (Av (Ah l) d k (x-2^k));obtain⟨W2,hW2⟩:=eX (Av (Ah l) d k (x+2^k));rw[←hW1]at R1 n1⊢;rw[←hW2]at R2 n2⊢;have hn1:W1.1.length≤3000000000:=(by omega);have hn2:W2.1.length≤3000000000:=(by omega);obtain⟨n,hn⟩:=eX (2^d);rw[←hn]at R1 R2⊢;obtain⟨xl,hxl⟩:=eX (x-2^k);obtain⟨xr,hxr⟩:=eX (x+2^k);rw[←hxl]at KD R1;rw[←hxr]at KD R2;have HFI:=Hd FD;have HKI:=Hd KD;have HR1:=Hd R1;have HR2:=Hd R2;have HN1:=Hd hn1;have HN2:=Hd hn2;have hxb:x≤131070:=(by omega);obtain⟨a,cp,rfl,-,-⟩:=h.sl;obtain⟨kd,hkd2⟩:=eX D.kind;obtain⟨L,hL⟩:=eX D.par.late;rw[←hkd2]at hk0;have HKD:=Hd hkd2;have HLE:=Hd hL;have HLN:=Hd (show L.length≤1000 by rw[hL];exact(hK _ (Bu hF)).2.1);have hq0:((kd:Int)==0)=true:=(by rw[beq_iff_eq];omega);have hq1:(((x:Nat):Int)%2==1)=true:=(by rw[beq_iff_eq];omega);have hq2:(eV (x:Int) 2==1)=true:=(by rw[eW (by omega),beq_iff_eq];omega);clear FALL FD KD R1 R2 n1 n2 hn1 hn2 hW1 hW2 hn hxl hxr kl kr l1 l2 hb1 hb2 hx0 hpp hppk hp17 h17 hkd hM e2 hodd hlx hx hk0 hkd2 hL hK IH h hF;go_enter Tryz.func137,Tryz.ntmps137;go_wp2_with fail;refine(HFI.out w bR).mono ?_;rintro e w2 ⟨c,rfl,hnc,hb2⟩;have HONE:=Hd hnc.oneL;obtain⟨x1,x2,x3,x4,x5,x6,x7,x8,b3,e3,rfl,hrd⟩:=hnc.frame;have hnc2:(some D).getD Ar=D:=rfl;rw[hnc2,←HKD.out,←HLE.out]at HONE⊢;rw[hnc2,←HLE.out]at hrd;obtain⟨l8,hl8⟩:=eX L.length;rw[←hl8]at HONE hrd⊢;have HB2:=Hd hb2;have HRD2:=Hd hrd;have HL8:=Hd hl8;have hl81:l8≤1000:=(by rw[hl8];exact HLN.out);clear hnc hb2 hnc2 hrd hl8;obtain⟨q,hq⟩:=eX w2.heap.size;have HQ:=Hd hq;have HQK:=Hd (show Blk (w2.alloc (.cells #[.int .u8 0,.slice none 0 0,.slice none 0 0,.slice none 0 0,.int .u8 0,.slice none 0 0,.slice none 0 0,.slice none 0 0,.slice none 0 0,.slice none 0 0] 52)) q 52 #[.int .u8 0,.slice none 0 0,.slice none 0 0,.slice none 0 0,.int .u8 0,.slice none 0 0,.slice none 0 0,.slice none 0 0,.slice none 0 0,.slice none 0 0] by rw[hq];exact Blk.new _ _ _);clear hq;go_wp2_with (refine Ab rfl 52 (.tmp 8) (.tmp 27) rfl w2.heap.size #[.int .u8 (kd:Nat),x1,x2,x3,x4,x5,x6,x7,x8,.slice b3 l8 e3] rfl rfl 52 #[.int .u8 0,.slice none 0 0,.slice none 0 0,.slice none 0 0,.int .u8 0,.slice none 0 0,.slice none 0 0,.slice none 0 0,.slice none 0 0,.slice none 0 0] (HQ.out▸HQK.out) (by kernel_rfl) rfl HONE.out ?_);rintro w3 hblk hbl hoth hsize;rw[←HQ.out]at hblk⊢;have HB3:=Hd ((HB2.out.alloc HB2.out.size (.cells #[.int .u8 0,.slice none 0 0,.slice none 0 0,.slice none 0 0,.int .u8 0,.slice none 0 0,.slice none 0 0,.slice none 0 0,.slice none 0 0,.slice none 0 0] 52)).trans (hbl w.heap.size HB2.out.size));have HSZ:=Hd (show w3.heap.size=q+1 from by rw[hsize];simp[HQ.out]);have HBK:=Hd hblk;have HRD3:=Hd (HRD2.out.below (((Below.refl w2.heap.size w2).alloc lR (.cells #[.int .u8 0,.slice none 0 0,.slice none 0 0,.slice none 0 0,.int .u8 0,.slice none 0 0,.slice none 0 0,.slice none 0 0,.slice none 0 0,.slice none 0 0] 52)).trans (hbl w2.heap.size lR)) lR);have c0:=hblk.cell 0;have c9:=hblk.cell 9;simp only[bN,bO,bP]at c0 c9;have hqlt:q<w3.heap.size:=(by rw[hsize];simp[HQ.out]);clear hblk hbl hoth hsize;clear c9;go_wp2_with fail;refine(HKI.out _).mono ?_;rintro e w5 ⟨rfl,hb5⟩;have HBL:=Hd (HB3.out.alloc HB3.out.size (.cells #[.int .i64 (x:Nat)] 3));have HB5:=Hd (HBL.out.trans (hb5.mono HBL.out.size));have HO5:=Hd ((show Own (w3.alloc (.cells #[.int .i64 (x:Nat)] 3)) w.heap.size 3 (.slice (some ⟨w3.heap.size,0,none⟩) 1 1) [.int .i64 (x:Nat)]from Own.full (B:=w.heap.size) (cs:=#[.int .i64 (x:Nat)]) rfl HB3.out.size (by unfold maxLen;simp) rfl).below hb5 lR);clear hb5;go_wp2_with fail;refine(HR1.out _ HB5.out).mono ?_;rintro e w6 ⟨v1,rfl,hown1,hb1⟩;have HO1:=Hd hown1.rd;have HB6:=Hd (HB5.out.trans (hb1.mono HB5.out.size));have HO6:=Hd (HO5.out.below hb1 lR);obtain⟨p1,p2,p3,rfl⟩:=Dp hown1;clear hown1 hb1;go_wp2_with fail;refine(HR2.out _ HB6.out).mono ?_;rintro e w7 ⟨v2,rfl,hown2,hb2⟩;have HO2:=Hd hown2.rd;have HO17:=Hd (HO1.out.below hb2 lR);have HB7:=Hd (HB6.out.trans (hb2.mono HB6.out.size));have HO7:=Hd (HO6.out.below hb2 lR);have HOWN2:=Hd hown2;have HW6:=Hd HB6.out.size;obtain⟨q1,q2,q3,rfl⟩:=Dp hown2;clear hown2 hb2;obtain⟨b1,hb1⟩:=eX W1.2;obtain⟨b2,hb2⟩:=eX W2.2;have HE:=Hd (show(W1.2&&W2.2)=(b1&&b2) by rw[hb1,hb2]);rw[←hb1,←hb2];clear hb1 hb2;cases b1
 ·go_wp2_with (at_builtin;refine Am rfl (.tmp 60) (.tmp 61) 48 rfl w.heap.size 3 _ 8 Cl _ _ rfl HO7.out _ _ rfl HO17.out ?d1 ?d2 ?d3 ?_);case d1=>exact Ec _
  case d2=>have:=HN1.out;simp[ivs];omega
  case d3=>exact HB7.out.size
  rintro v8 w8 hown8 hg8 hb8;have HO8:=Hd hown8;have HO28:=Hd (show Rd w8 _ _ from(HOWN2.out.grown hg8 fun g e1 e2=>by
   have h1:=(HOWN2.out.blockLt e1).2;have h2:=(HO6.out.blockLt e2).1
   omega).rd)
  have HB8:=Hd (HB7.out.trans hb8);obtain⟨r1,r2,r3,rfl⟩:=Dp hown8;clear hown8 hg8 hb8;go_wp2_with (at_builtin;refine Am rfl (.tmp 62) (.tmp 63) 48 rfl w.heap.size 3 _ 8 Cl _ _ rfl HO8.out _ _ rfl HO28.out ?e1 ?e2 ?e3 ?_);case e1=>exact Ec _
  case e2=>have:=HN1.out;have:=HN2.out;simp[ivs];omega
  case e3=>exact HB8.out.size
  rintro v9 w9 hown9-hb9;have HO9:=Hd hown9;have HB9:=Hd (HB8.out.trans hb9);clear hown9 hb9;go_wp2_with fail;go_ret2;rw[HE.out];refine⟨_,rfl,?_,HB9.out⟩;have:=HO9.out;simpa [ivs]using this
 ·go_wp2_with (at_builtin;refine Am rfl (.tmp 60) (.tmp 61) 48 rfl w.heap.size 3 _ 8 Cl _ _ rfl HO7.out _ _ rfl HO17.out ?d1 ?d2 ?d3 ?_);case d1=>exact Ec _
  case d2=>have:=HN1.out;simp[ivs];omega
  case d3=>exact HB7.out.size
  rintro v8 w8 hown8 hg8 hb8;have HO8:=Hd hown8;have HO28:=Hd (show Rd w8 _ _ from(HOWN2.out.grown hg8 fun g e1 e2=>by
   have h1:=(HOWN2.out.blockLt e1).2;have h2:=(HO6.out.blockLt e2).1
   omega).rd)
  have HB8:=Hd (HB7.out.trans hb8);obtain⟨r1,r2,r3,rfl⟩:=Dp hown8;clear hown8 hg8 hb8;go_wp2_with (at_builtin;refine Am rfl (.tmp 62) (.tmp 63) 48 rfl w.heap.size 3 _ 8 Cl _ _ rfl HO8.out _ _ rfl HO28.out ?e1 ?e2 ?e3 ?_);case e1=>exact Ec _
  case e2=>have:=HN1.out;have:=HN2.out;simp[ivs];omega
  case e3=>exact HB8.out.size
  rintro v9 w9 hown9-hb9;have HO9:=Hd hown9;have HB9:=Hd (HB8.out.trans hb9);clear hown9 hb9;go_wp2_with fail;go_ret2;rw[HE.out];refine⟨_,rfl,?_,HB9.out⟩;have:=HO9.out;simpa [ivs]using this
theorem Zaq (l:List (Int×NodeD))(d:Nat)(hd:d≤16)(hK:It l):∀k,Zd6 l d k:=by
 obtain⟨hM,e2⟩:=Df hd;intro k
 induction k with
 |zero=>
  intro x v w h hlx hx;cases hF:Ah l (x:Int)with
  |none=>exact Nr l d 0 x v w h hF
  |some D=>
   rw[Gg hF];have hp:=eU 0
   by_cases hk:D.kind=0
   ·exact Tn l d x v w hd h hK D hF (by omega) ⟨hk,Fb hlx⟩
   ·exact Mc l d x v w hd h hK D hF (by omega) hk
 |succ k ih=>
  intro x v w h hlx hx;cases hF:Ah l (x:Int)with
  |none=>exact Nr l d (k+1) x v w h hF
  |some D=>
   have hp:=eU (k+1)
   by_cases hk:D.kind=0
   ·exact Zap l d k x v w hd h hK D hF hlx hx hk ih
   ·rw[Ia hF hk];exact Mc l d x v w hd h hK D hF (by omega) hk
section
theorem Ie {P:Program} {w:World} {ops:Array Oper} {rest:List Oper} {o:Oper} {a:Act} {Q:Exit→Act→World→Prop} (hgd:o.guard=none) (s x:Operand) (t:TypeId)
  (ho:o.op=.call {callee:=.builtin .append,args:=#[s,x],argTypes:=#[t,t]})
  (B:Nat) (e:TypeId) (z:Value) (bytes:Nat) (F:Elem P t e z bytes)
  (v:Value) (xs:List Value) (hs:a.eval s=v) (hown:Own w B e v xs)
  (r:Value) (ys:List Value) (hx:a.eval x=r) (hr:Rd w r ys) (h1:∀u∈ys,u.oneCell'=true)
  (hn:xs.length+ys.length<1099511627776) (hB:B≤w.heap.size)
  (h:∀v' w',Own w' B e v' (xs++ys)→w.grownBy w' v.ownBlock→Below B w w'→Pd w v v'→wpList P ops Q rest (a.put o.dst v') w'):wpList P ops Q (o::rest) a w:=by
 refine wpList_plain hgd fun K' hK'=> ?_;exact Zs s x t ho B e z bytes F v xs hs hown r ys hx hr h1 hn hB fun v' w' a1 a2 a3 a4=>hK' _ _ (h v' w' a1 a2 a3 a4)
theorem Zgf {d z j:Nat}(hd:d≤16)(hz:z+1<2^(d+1))(hj:j<d):Zdw ((anc z j:Nat):Int) ((2^d:Nat):Int)=((Ic z j:Nat):Int):=by
 obtain⟨hM,e2⟩:=Df hd;have hb:=Zge hd hz (j:=j+1) (by omega);have hp:=eU (j+1);obtain⟨-,-,h0,-,-,kl,kr⟩:=Fd (anc_lev z (j+1)) hb hM;rw[Zdw,Zcc hd hz (by omega),nxt,if_pos hj,if_neg (by omega),kl,kr];unfold Ic
 by_cases h:anc z j<anc z (j+1)
 ·rw[if_pos (by omega),if_pos h]
 ·rw[if_neg (by omega),if_neg h]
theorem Ze9 {d i r:Nat}(hd:d≤16)(hi:2*i+1<2^(d+1))(hr:r<d):(Zco (2*(i:Int)) ((2^d:Nat):Int)).getD r 0=((Ic (2*i) r:Nat):Int):=by
 obtain⟨hM,e2⟩:=Df hd;have hl:=Ip (q:=2*i) (by omega) (by omega);rw[show 2*(i:Int)=((2*i:Nat):Int) by omega,Tc hd hi,hl,dE,aH];unfold Zcn;rw[List.getElem?_map,List.getElem?_range hr];show Zdw ((anc (2*i) (0+r):Nat):Int) _=_;rw[Nat.zero_add,Zgf hd hi hr]
theorem Zfa {d i:Nat}(hd:d≤16)(hi:2*i+1<2^(d+1)):(Zco (2*(i:Int)) ((2^d:Nat):Int)).length=d:=by
 obtain⟨hM,e2⟩:=Df hd;have hl:=Ip (q:=2*i) (by omega) (by omega);rw[show 2*(i:Int)=((2*i:Nat):Int) by omega,Tc hd hi,Ux,hl,dE]
def okA (FI:Int→Option NodeD)(L:List Int)(r:Nat):Bool:=(L.take r).all fun y=>(FI y).isSome
theorem Zc4 {FI:Int→Option NodeD} {L:List Int} {r:Nat}(hr:r<L.length):okA FI L (r+1)=(okA FI L r&&(FI (L.getD r 0)).isSome):=by
 unfold okA;rw[←El hr,List.all_append];simp
theorem Zfb {FI:Int→Option NodeD} {L:List Int}:okA FI L L.length=L.all fun y=>(FI y).isSome:=by rw[okA,eI]
section
variable {FI:Int→Option NodeD} {d i:Nat}
theorem Vl:Ac FI d i false 0=upL d (i:Int):=by simp[Ac]
theorem Pm (r:Nat):Ac FI d i true r=upL d (i:Int):=by simp[Ac]
theorem Vm (r:Nat):Ac FI d i false (r+1)=Ac FI d i false r++(Av FI d r (Ic (2*i) r)).1:=by
 simp[Ac,fK]
theorem Zc5 (only:Bool):Bm FI d i only 0=(upL d (i:Int)).all fun y=>(FI y).isSome:=by simp[Bm]
theorem Zc6 (r:Nat):Bm FI d i true r=(upL d (i:Int)).all fun y=>(FI y).isSome:=by simp[Bm]
theorem Zc7 (r:Nat):Bm FI d i false (r+1)=(Bm FI d i false r&&(Av FI d r (Ic (2*i) r)).2):=by
 simp[Bm,fK,Bool.and_assoc]
end
theorem Zfc {l:List (Int×NodeD)} {d i:Nat}(hd:d≤16)(hK:It l):∀r,(Ac (Ah l) d i false r).length≤17+20000*2^(r+1):=by
 intro r
 induction r with
 |zero=>rw[Vl];have:=Id hd (i:Int);omega
 |succ r ih=>
  rw[Vm,aG];have:=Hi hd hK r (Ic (2*i) r);have e:2^(r+1+1)=2*2^(r+1):=(by rw[aN];omega);omega
def Xx (out:List Int)(a:Int):List Int:=if 0≤a∧a∉out then [a]else []
theorem Xe (out:List Int)(z:Int):Hu out z=Xx out (Do z)++Xx out (Br z):=rfl
theorem Dd {out:List Int} {a:Int}(h:¬0≤a):Xx out a=[]:=by rw[Xx,if_neg fun h2=>h h2.1]
theorem Eh {out:List Int} {a:Int}(h:true=decide (a∈out)):Xx out a=[]:=by rw[Xx,if_neg fun h2=>h2.2 (of_decide_eq_true h.symm)]
theorem De {out:List Int} {a:Int}(h0:0≤a)(h:false=decide (a∈out)):Xx out a=[a]:=by rw[Xx,if_pos ⟨h0,of_decide_eq_false h.symm⟩]
def Ho (out:List Int)(r:Nat):List Int:=(out.take r).flatMap (Hu out)
theorem Hj {out:List Int} {r:Nat}(hr:r<out.length):Ho out (r+1)=Ho out r++(Xx out (Do (out.getD r 0))++Xx out (Br (out.getD r 0))):=by
 unfold Ho;rw[←El hr,fI,←Xe];simp
theorem Md {out:List Int}:Ho out out.length=Cv out:=by rw[Ho,eI];rfl
theorem Vn (out:List Int)(a:Int):(Xx out a).length≤1:=by unfold Xx;split<;>simp
theorem Me {out:List Int}:∀r,r≤out.length→(Ho out r).length≤2*r:=by
 intro r
 induction r with
 |zero=>intro _;simp[Ho]
 |succ r ih=>
  intro hr;rw[Hj (by omega),aG,aG];have:=ih (by omega);have h1:=Vn out (Do (out.getD r 0));have h2:=Vn out (Br (out.getD r 0));omega
theorem Mf (l:List (Int×NodeD))(d i:Nat)(only:Bool)(v:Value)(w:World)(hd:d≤16)(hi:2*i+1<2^(d+1))(h:SpotsR w v l)(hK:It l):
  Calls Tryz.prog 79 #[v,.int .i64 ((2^d:Nat):Int),.int .i64 (i:Nat),.bool only] w fun e w'=>∃v1 v2,e=.returned (.tuple #[v1,v2,.bool (Bm (Ah l) d i only d)])∧Own w' w.heap.size 3 v1 (ivs .i64 (Du (Ac (Ah l) d i only d)))∧Own w' w.heap.size 3 v2 (ivs .i64 (Du (Cv (Ac (Ah l) d i only d))))∧Below w.heap.size w w':=by
 obtain⟨hM,e2⟩:=Df hd;have FALL:=fun(y:Int) (W:World) (hw:Below w.heap.size w W)=>Bx v l y W (h.below hw lR);have WH:=fun(r:Nat) (hr:r<d) (W:World) (hw:Below w.heap.size w W)=>Zaq l d hd hK r (Ic (2*i) r) v W (h.below hw lR) (Mb hd hi hr).1 (Mb hd hi hr).2;have WLEN:=fun(r:Nat) (hr:r<d)=>(show(Av (Ah l) d r (Ic (2*i) r)).1.length≤3000000000 from by
  have:=Hi hd hK r (Ic (2*i) r);have h17:2^(r+1)≤2^17:=aY (by omega) (by omega);have h17':(2:Nat)^17=131072:=rfl
  omega)
 have OLEN:=fun(r:Nat) (hr:r≤d)=>(show(Ac (Ah l) d i only r).length≤6000000000 from by
  cases only with
  |true=>rw[Pm];have:=Id hd (i:Int);omega
  |false=>
   have:=Zfc (i:=i) hd hK r;have h17:2^(r+1)≤2^17:=aY (by omega) (by omega);have h17':(2:Nat)^17=131072:=rfl
   omega)
 have UL:=Id hd (i:Int);have CL:=Zfa hd hi;have CG:=fun(r:Nat) (hr:r<d)=>Ze9 hd hi hr;have hib:i≤131072:=(by omega);have hnb:2^d≤131072:=(by omega);clear hK;obtain⟨FI,hFI⟩:=eX (Ah l);simp only[←hFI]at FALL WH WLEN OLEN⊢;obtain⟨n,hn⟩:=eX (2^d);rw[←hn]at hnb CL CG⊢;simp only[←hn]at WH;have PATH:=fun(y:Int) (W:World)=>Lw y (n:Int) W (by omega) (by omega);have COP:=fun(y:Int) (W:World)=>Td y (n:Int) W (by omega) (by omega);have HN:=Hd hn;have HFALL:=Hd FALL;have HWH:=Hd WH;have HWLEN:=Hd WLEN;have HOLEN:=Hd OLEN;have HUL:=Hd UL;have HCL:=Hd CL;have HCG:=Hd CG;have HPATH:=Hd PATH;have HCOP:=Hd COP;have hw2:wrap64 (2*(i:Int))=2*(i:Int):=(by unfold wrap64;omega);obtain⟨a,cp,rfl,-,-⟩:=h.sl;clear FALL WH WLEN OLEN UL CL CG PATH COP hFI hn h hi hM e2;go_enter Tryz.func79,Tryz.ntmps79;go_wp2_with fail;have HOL:=Hd (show Own (w.alloc (.cells #[.int .i64 (2*(i:Int))] 3)) w.heap.size 3 (.slice (some ⟨w.heap.size,0,none⟩) 1 1) [.int .i64 (2*(i:Int))]from Own.full (B:=w.heap.size) (cs:=#[.int .i64 (2*(i:Int))]) rfl lR (by unfold maxLen;simp) rfl);have HAL:=Hd ((Below.refl w.heap.size w).alloc lR (.cells #[.int .i64 (2*(i:Int))] 3));refine(HPATH.out (2*(i:Int)) _).mono ?_;rintro e w5 ⟨pv,rfl,hpo,hb5⟩;have HPR:=Hd hpo.rd;have HOL5:=Hd (HOL.out.below hb5 lR);have HB5:=Hd (HAL.out.trans (hb5.mono HAL.out.size));obtain⟨s1,s2,s3,rfl⟩:=Dp hpo;clear hpo hb5;go_wp2_with (at_builtin;refine Am rfl (.tmp 26) (.tmp 30) 48 rfl w.heap.size 3 _ 8 Cl _ [.int .i64 (2*(i:Int))] rfl HOL5.out _ _ rfl HPR.out ?d1 ?d2 ?d3 ?_);case d1=>exact Ec _
 case d2=>have:=HUL.out;rw[upL,cR,fJ,←HN.out]at this;rw[Ou];simp;omega
 case d3=>exact HB5.out.size
 rintro uv w6 hown6-hb6;have HUV:=Hd (show Own w6 w.heap.size 3 uv (ivs .i64 (upL d (i:Int)))from by
  have e:Value.int .i64 (2*(i:Int))::nvs (My (2*(i:Int)) ((2^d:Nat):Int))=ivs .i64 (upL d (i:Int)):=(by simp[upL,nvs,ivs]);rw[HN.out,e]at hown6;exact hown6)
 have HB6:=Hd (HB5.out.trans hb6);clear hown6 hb6;obtain⟨ul,hul⟩:=eX ((upL d (i:Int)).length);have HULN:=Hd hul;have hul17:ul≤17:=(by rw[hul];exact HUL.out);obtain⟨v1,v2,rfl⟩:=Nm HUV.out hul.symm;clear hul;go_wp2_with fail;refine(HCOP.out (2*(i:Int)) _).mono ?_;rintro e w7 ⟨av,rfl,hao,hb7⟩;have HAV:=Hd hao;have HB7:=Hd (HB6.out.trans (hb7.mono HB6.out.size));have HUV7:=Hd (HUV.out.below hb7 lR);have HAP:=Hd (show Gj (.slice v1 ul v2) av from fun g e1 e2=>by have:=(HUV.out.blockLt e1).1;have:=(hao.blockLt e2).2;omega);have HW6:=Hd (show w.heap.size≤w6.heap.size from HB6.out.size);have HW67:=Hd (show w6.heap.size≤w7.heap.size from hb7.size);obtain⟨z1,z2,rfl⟩:=Nm hao HCL.out;have hd16:d≤16:=hd;clear hao hb7;go_wp2_with fail
 go_loopg [13,14] ul (fun q kv iv wr=>∃r:Nat,r+q=ul∧iv=.int .i64 (r:Nat)∧kv=.bool (okA FI (upL d (i:Int)) r)∧Below w7.heap.size w7 wr)
 case atStart=>exact⟨0,by omega,rfl,rfl,bR⟩
 case round=>
  obtain⟨r,hr,rfl,rfl,hb⟩:=hrel;have HR:=Hd hr;have HB:=Hd hb;have HBA:=Hd (HB7.out.trans (hb.mono HB7.out.size));have HUVr:=Hd (HUV7.out.below hb lR);have HAVr:=Hd (HAV.out.below hb lR);obtain⟨ok0,hok0⟩:=eX (okA FI (upL d (i:Int)) r);rw[←hok0];have HOK0:=Hd hok0;clear hr hb hok0
  by_cases hlt:r<ul
  ·have hlt':decide (r<ul)=true:=decide_eq_true hlt;have hltI:(r:Int)<(ul:Int):=(by omega);obtain⟨bu,ou,rfl,hbu,cy⟩:=HUVr.out.rd.at3 (Bq (show r<(upL d (i:Int)).length by rw[←HULN.out];exact hlt));have HS:=Hd (Zc4 (FI:=FI) (L:=upL d (i:Int)) (r:=r) (by rw[←HULN.out];exact hlt));obtain⟨y,hy⟩:=eX ((upL d (i:Int)).getD r 0);rw[←hy]at cy HS;clear hy;have HFD:=Hd (HFALL.out y wr HBA.out);go_wp2_with fail;refine HFD.out.mono ?_;rintro e w10 ⟨c10,rfl,hnc10,hb10⟩;obtain⟨fk,hfk⟩:=eX ((FI y).isSome);rw[←hfk]at HS⊢;have HONE10:=Hd hnc10.oneL;obtain⟨y0,y1,y2,y3,y4,y5,y6,y7,y8,y9,rfl⟩:=hnc10.ten;have HB10:=Hd hb10;clear hnc10 hb10 hfk;obtain⟨q10,hq10⟩:=eX w10.heap.size;have HQ10:=Hd hq10;have HQK10:=Hd (show Blk (w10.alloc (.cells #[.int .u8 0,.slice none 0 0,.slice none 0 0,.slice none 0 0,.int .u8 0,.slice none 0 0,.slice none 0 0,.slice none 0 0,.slice none 0 0,.slice none 0 0] 52)) q10 52 #[.int .u8 0,.slice none 0 0,.slice none 0 0,.slice none 0 0,.int .u8 0,.slice none 0 0,.slice none 0 0,.slice none 0 0,.slice none 0 0,.slice none 0 0] by rw[hq10];exact Blk.new _ _ _);clear hq10;go_wp2_with (refine Ab rfl 52 (.tmp 15) (.tmp 49) rfl w10.heap.size #[y0,y1,y2,y3,y4,y5,y6,y7,y8,y9] rfl rfl 52 #[.int .u8 0,.slice none 0 0,.slice none 0 0,.slice none 0 0,.int .u8 0,.slice none 0 0,.slice none 0 0,.slice none 0 0,.slice none 0 0,.slice none 0 0] (HQ10.out▸HQK10.out) (by kernel_rfl) rfl HONE10.out ?_);rintro w11 hblk hbl hoth hsize;have HB11:=Hd (HB10.out.trans (((Below.refl w10.heap.size w10).alloc lR (.cells #[.int .u8 0,.slice none 0 0,.slice none 0 0,.slice none 0 0,.int .u8 0,.slice none 0 0,.slice none 0 0,.slice none 0 0,.slice none 0 0,.slice none 0 0] 52)).trans (hbl w10.heap.size lR)|>.mono HB10.out.size));have HBN:=Hd (HB.out.trans (HB11.out.mono HB.out.size));clear hblk hbl hoth hsize;have HS2:=Hd (show okA FI (upL d (i:Int)) (r+1)=(ok0&&fk)from by rw[HS.out,HOK0.out]);clear HS HOK0;cases ok0
   ·go_wp2_with fail;go_roundg (gk-1);case measure=>have:=HR.out;omega
    case rel=>exact⟨r+1,by have:=HR.out;omega,by go_num,by rw[HS2.out,dB],HBN.out⟩
   ·go_wp2_with fail;go_roundg (gk-1);case measure=>have:=HR.out;omega
    case rel=>exact⟨r+1,by have:=HR.out;omega,by go_num,by rw[HS2.out,dC],HBN.out⟩
  ·obtain rfl:r=ul:=(by have:=HR.out;omega);have hlt':decide (r<r)=false:=decide_eq_false hlt;have HOK1:=Hd (show ok0=(upL d (i:Int)).all fun y=>(FI y).isSome from by rw[HOK0.out,HULN.out];exact Zfb);have HSW:=Hd (show w6.heap.size≤wr.heap.size from Nat.le_trans HW67.out HB.out.size);clear hlt HOK0 HFALL;cases only with
   |true=>
    go_wp2_with fail
    go_loopg [11,13,17] 0 (fun q ov kv iv w2=>ov=.slice v1 r v2∧kv=.bool ok0∧iv=.int .i64 0∧w2=wr)
    case atStart=>exact⟨rfl,rfl,rfl,rfl⟩
    case round=>
     obtain⟨rfl,rfl,rfl,rfl⟩:=hrel;have HOKE:=Hd (show ok0=Bm FI d i true d from by rw[HOK1.out,Zc6]);have HOUT:=Hd (show Own wr w.heap.size 3 (.slice v1 r v2) (ivs .i64 (Ac FI d i true d))from by rw[Pm];exact HUVr.out);have HOB:=Hd (HOLEN.out d lR);have HLN:=Hd (show r=(Ac FI d i true d).length from by rw[Pm];exact HULN.out)
     by_cases hd0:0<d
     ·have hd0':decide (0<d)=true:=decide_eq_true hd0;have hd0I:decide ((0:Int)<(d:Int))=true:=decide_eq_true (by omega);go_wp2_with fail;obtain⟨wq,rfl⟩:∃wq:World,wq=wr:=⟨_,rfl⟩;have HBQ:=Hd HBA.out;have HOQ:=Hd HOUT.out;have hLB:r≤6000000000:=by rw[HLN.out];exact HOB.out
      go_loopg [20,21] r (fun q ov iv wr=>∃s:Nat,s+q=r∧iv=.int .i64 (s:Nat)∧Own wr wq.heap.size 3 ov (ivs .i64 (Ho (Ac FI d i true d) s))∧Below wq.heap.size wq wr)
      case atStart=>exact⟨0,by omega,rfl,Own.nil _ _ _,bR⟩
      case round=>
       obtain⟨s,hs,rfl,hown,hb⟩:=hrel;have HR3:=Hd hs;have HS3:=Hd hown;have HB3:=Hd hb;have HO3:=Hd (HOQ.out.below hb lR);have HSL:=Hd (Me (out:=(Ac FI d i true d)) s (by rw[←HLN.out];omega));obtain⟨j1,j2,j3,rfl⟩:=Dp hown;clear hs hown hb
       by_cases hlt:s<r
       ·have hlt':decide (s<r)=true:=decide_eq_true hlt;have hltI:(s:Int)<(r:Int):=(by omega);obtain⟨bo,oo,rfl,hbo,co⟩:=HO3.out.rd.at3 (Bq (show s<((Ac FI d i true d)).length by rw[←HLN.out];exact hlt));have HSS:=Hd (Hj (out:=(Ac FI d i true d)) (r:=s) (by rw[←HLN.out];exact hlt));obtain⟨z,hz⟩:=eX (((Ac FI d i true d)).getD s 0);rw[←hz]at co HSS;have HKI:=Hd (Fa z wr);obtain⟨a2,ha2⟩:=eX (Do z);obtain⟨b,hb2⟩:=eX (Br z);rw[←ha2,←hb2]at HKI HSS;clear hz ha2 hb2;go_wp2_with fail;refine HKI.out.mono ?_;rintro e w5 ⟨rfl,hb5⟩;have HB53:=Hd (HB3.out.trans (hb5.mono HB3.out.size));have HS5:=Hd (HS3.out.below hb5 lR);clear hb5 co hbo
        by_cases ha0:0≤a2
        ·have ha0':decide (a2≥0)=true:=decide_eq_true ha0;have HHA0:=Hd (fun W hw=>Bo (.slice (some ⟨bo,oo,none⟩) r v2) (Ac FI d i true d) a2 W hw);obtain⟨ba,hba⟩:=eX (decide (a2∈(Ac FI d i true d)));rw[←hba]at HHA0;have HHA:=Hd HHA0.out;have HBAE:=Hd hba;have HAZ:=Hd ha0;clear hba ha0 HHA0;cases ba with
         |true=>
          have HKA:=Hd (Eh HBAE.out);clear HBAE;go_wp2_with fail;refine(HHA.out _ (HOQ.out.rd.below HB53.out lR)).mono ?_;rintro e wx ⟨rfl,rfl⟩
          by_cases hb0:0≤b
          ·have hb0':decide (b≥0)=true:=decide_eq_true hb0;have HHB0:=Hd (fun W hw=>Bo (.slice (some ⟨bo,oo,none⟩) r v2) (Ac FI d i true d) b W hw);obtain⟨bb,hbb⟩:=eX (decide (b∈(Ac FI d i true d)));rw[←hbb]at HHB0;have HHB:=Hd HHB0.out;have HBBE:=Hd hbb;have HBZ:=Hd hb0;clear hbb hb0 HHB0;cases bb with
           |true=>
            have HKB:=Hd (Eh HBBE.out);clear HBBE;go_wp2_with fail;refine(HHB.out _ (HOQ.out.rd.below HB53.out lR)).mono ?_;rintro e wx ⟨rfl,rfl⟩;go_wp2_with fail;go_roundg (gk-1);case measure=>have:=HR3.out;omega
            case rel=>
             refine⟨s+1,by have:=HR3.out;omega,by go_num,?_,HB53.out⟩;rw[HSS.out,HKA.out,HKB.out];have:=HS5.out;simpa [ivs]using this
           |false=>
            have HKB:=Hd (De HBZ.out HBBE.out);clear HBBE;go_wp2_with fail;refine(HHB.out _ (HOQ.out.rd.below HB53.out lR)).mono ?_;rintro e wx ⟨rfl,rfl⟩;go_wp2_with (at_builtin;refine An rfl (.tmp 116) (.tmp 118) 48 rfl wq.heap.size 3 _ 8 Cl _ _ rfl (HS5.out.alloc _) _ (.int .i64 b) rfl ?c1 rfl ?c2 ?c3 ?_);case c1=>exact Aq rfl
            case c2=>have:=HSL.out;have:=hlt;simp[ivs];omega
            case c3=>have:=HB53.out.size;simp;omega
            rintro vb wb hownb-hbb;have HOB2:=Hd hownb;have HBB2:=Hd ((HB53.out.alloc HB53.out.size (.cells #[.int .i64 b] 3)).trans hbb);clear hownb hbb;go_wp2_with fail;go_roundg (gk-1);case measure=>have:=HR3.out;omega
            case rel=>
             refine⟨s+1,by have:=HR3.out;omega,by go_num,?_,HBB2.out⟩;rw[HSS.out,HKA.out,HKB.out];have:=HOB2.out;simpa [ivs]using this
          ·have hb0':decide (b≥0)=false:=decide_eq_false hb0;have HKB:=Hd (Dd (out:=(Ac FI d i true d)) hb0);clear hb0;go_wp2_with fail;go_roundg (gk-1);case measure=>have:=HR3.out;omega
           case rel=>
            refine⟨s+1,by have:=HR3.out;omega,by go_num,?_,HB53.out⟩;rw[HSS.out,HKA.out,HKB.out];have:=HS5.out;simpa [ivs]using this
         |false=>
          have HKA:=Hd (De HAZ.out HBAE.out);clear HBAE;go_wp2_with fail;refine(HHA.out _ (HOQ.out.rd.below HB53.out lR)).mono ?_;rintro e wx ⟨rfl,rfl⟩;go_wp2_with (at_builtin;refine An rfl (.tmp 104) (.tmp 106) 48 rfl wq.heap.size 3 _ 8 Cl _ _ rfl (HS5.out.alloc _) _ (.int .i64 a2) rfl ?c1 rfl ?c2 ?c3 ?_);case c1=>exact Aq rfl
          case c2=>have:=HSL.out;have:=hlt;simp[ivs];omega
          case c3=>have:=HB53.out.size;simp;omega
          rintro va wa howna-hba;have HSA:=Hd howna;have HBA2:=Hd ((HB53.out.alloc HB53.out.size (.cells #[.int .i64 a2] 3)).trans hba);clear howna hba;obtain⟨k1,k2,k3,rfl⟩:=Dp HSA.out
          by_cases hb0:0≤b
          ·have hb0':decide (b≥0)=true:=decide_eq_true hb0;have HHB0:=Hd (fun W hw=>Bo (.slice (some ⟨bo,oo,none⟩) r v2) (Ac FI d i true d) b W hw);obtain⟨bb,hbb⟩:=eX (decide (b∈(Ac FI d i true d)));rw[←hbb]at HHB0;have HHB:=Hd HHB0.out;have HBBE:=Hd hbb;have HBZ:=Hd hb0;clear hbb hb0 HHB0;cases bb with
           |true=>
            have HKB:=Hd (Eh HBBE.out);clear HBBE;go_wp2_with fail;refine(HHB.out _ (HOQ.out.rd.below HBA2.out lR)).mono ?_;rintro e wx ⟨rfl,rfl⟩;go_wp2_with fail;go_roundg (gk-1);case measure=>have:=HR3.out;omega
            case rel=>
             refine⟨s+1,by have:=HR3.out;omega,by go_num,?_,HBA2.out⟩;rw[HSS.out,HKA.out,HKB.out];have:=HSA.out;simpa [ivs]using this
           |false=>
            have HKB:=Hd (De HBZ.out HBBE.out);clear HBBE;go_wp2_with fail;refine(HHB.out _ (HOQ.out.rd.below HBA2.out lR)).mono ?_;rintro e wx ⟨rfl,rfl⟩;go_wp2_with (at_builtin;refine An rfl (.tmp 116) (.tmp 118) 48 rfl wq.heap.size 3 _ 8 Cl _ _ rfl (HSA.out.alloc _) _ (.int .i64 b) rfl ?c1 rfl ?c2 ?c3 ?_);case c1=>exact Aq rfl
            case c2=>have:=HSL.out;have:=hlt;simp[ivs];omega
            case c3=>have:=HBA2.out.size;simp;omega
            rintro vb wb hownb-hbb;have HOB2:=Hd hownb;have HBB2:=Hd ((HBA2.out.alloc HBA2.out.size (.cells #[.int .i64 b] 3)).trans hbb);clear hownb hbb;go_wp2_with fail;go_roundg (gk-1);case measure=>have:=HR3.out;omega
            case rel=>
             refine⟨s+1,by have:=HR3.out;omega,by go_num,?_,HBB2.out⟩;rw[HSS.out,HKA.out,HKB.out];have:=HOB2.out;simpa [ivs]using this
          ·have hb0':decide (b≥0)=false:=decide_eq_false hb0;have HKB:=Hd (Dd (out:=(Ac FI d i true d)) hb0);clear hb0;go_wp2_with fail;go_roundg (gk-1);case measure=>have:=HR3.out;omega
           case rel=>
            refine⟨s+1,by have:=HR3.out;omega,by go_num,?_,HBA2.out⟩;rw[HSS.out,HKA.out,HKB.out];have:=HSA.out;simpa [ivs]using this
        ·have ha0':decide (a2≥0)=false:=decide_eq_false ha0;have HKA:=Hd (Dd (out:=(Ac FI d i true d)) ha0);clear ha0
         by_cases hb0:0≤b
         ·have hb0':decide (b≥0)=true:=decide_eq_true hb0;have HHB0:=Hd (fun W hw=>Bo (.slice (some ⟨bo,oo,none⟩) r v2) (Ac FI d i true d) b W hw);obtain⟨bb,hbb⟩:=eX (decide (b∈(Ac FI d i true d)));rw[←hbb]at HHB0;have HHB:=Hd HHB0.out;have HBBE:=Hd hbb;have HBZ:=Hd hb0;clear hbb hb0 HHB0;cases bb with
          |true=>
           have HKB:=Hd (Eh HBBE.out);clear HBBE;go_wp2_with fail;refine(HHB.out _ (HOQ.out.rd.below HB53.out lR)).mono ?_;rintro e wx ⟨rfl,rfl⟩;go_wp2_with fail;go_roundg (gk-1);case measure=>have:=HR3.out;omega
           case rel=>
            refine⟨s+1,by have:=HR3.out;omega,by go_num,?_,HB53.out⟩;rw[HSS.out,HKA.out,HKB.out];have:=HS5.out;simpa [ivs]using this
          |false=>
           have HKB:=Hd (De HBZ.out HBBE.out);clear HBBE;go_wp2_with fail;refine(HHB.out _ (HOQ.out.rd.below HB53.out lR)).mono ?_;rintro e wx ⟨rfl,rfl⟩;go_wp2_with (at_builtin;refine An rfl (.tmp 116) (.tmp 118) 48 rfl wq.heap.size 3 _ 8 Cl _ _ rfl (HS5.out.alloc _) _ (.int .i64 b) rfl ?c1 rfl ?c2 ?c3 ?_);case c1=>exact Aq rfl
           case c2=>have:=HSL.out;have:=hlt;simp[ivs];omega
           case c3=>have:=HB53.out.size;simp;omega
           rintro vb wb hownb-hbb;have HOB2:=Hd hownb;have HBB2:=Hd ((HB53.out.alloc HB53.out.size (.cells #[.int .i64 b] 3)).trans hbb);clear hownb hbb;go_wp2_with fail;go_roundg (gk-1);case measure=>have:=HR3.out;omega
           case rel=>
            refine⟨s+1,by have:=HR3.out;omega,by go_num,?_,HBB2.out⟩;rw[HSS.out,HKA.out,HKB.out];have:=HOB2.out;simpa [ivs]using this
         ·have hb0':decide (b≥0)=false:=decide_eq_false hb0;have HKB:=Hd (Dd (out:=(Ac FI d i true d)) hb0);clear hb0;go_wp2_with fail;go_roundg (gk-1);case measure=>have:=HR3.out;omega
          case rel=>
           refine⟨s+1,by have:=HR3.out;omega,by go_num,?_,HB53.out⟩;rw[HSS.out,HKA.out,HKB.out];have:=HS5.out;simpa [ivs]using this
       ·obtain rfl:s=r:=(by have:=HR3.out;omega);have hlt':decide (s<s)=false:=decide_eq_false hlt;have HE:=Hd (show Ho (Ac FI d i true d) s=Cv (Ac FI d i true d)from by rw[HLN.out];exact Md);clear hlt;go_wp2_with fail;refine(Di _ (Ac FI d i true d) _ HO3.out.rd (by have:=HOB.out;omega)).mono ?_;rintro e w12 ⟨vo,rfl,hvo,hb12⟩;have HVO:=Hd hvo;have HB12:=Hd hb12;have HS12:=Hd (HS3.out.below hb12 lR);have HBW:=Hd (HBQ.out.trans (HB3.out.mono HBQ.out.size));have HBW2:=Hd (HBW.out.trans (hb12.mono HBW.out.size));clear hvo hb12;go_wp2_with fail;refine(Di _ (Ho (Ac FI d i true d) s) _ HS12.out.rd (by have:=HSL.out;omega)).mono ?_;rintro e w13 ⟨vs,rfl,hvs,hb13⟩;have HVS:=Hd hvs;have HVO13:=Hd (HVO.out.below hb13 lR);have HBW3:=Hd (HBW2.out.trans (hb13.mono HBW2.out.size));clear hvs hb13;go_wp2_with fail
        go_ret3
        rw[←HOKE.out];refine⟨_,_,rfl,HVO13.out.mono HBW.out.size,?_,HBW3.out⟩;rw[←HE.out];exact HVS.out.mono HBW2.out.size
     ·have hd0':decide (0<d)=false:=decide_eq_false hd0;have hd0I:decide ((0:Int)<(d:Int))=false:=decide_eq_false (by omega);go_wp2_with fail;obtain⟨wq,rfl⟩:∃wq:World,wq=wr:=⟨_,rfl⟩;have HBQ:=Hd HBA.out;have HOQ:=Hd HOUT.out;have hLB:r≤6000000000:=by rw[HLN.out];exact HOB.out
      go_loopg [20,21] r (fun q ov iv wr=>∃s:Nat,s+q=r∧iv=.int .i64 (s:Nat)∧Own wr wq.heap.size 3 ov (ivs .i64 (Ho (Ac FI d i true d) s))∧Below wq.heap.size wq wr)
      case atStart=>exact⟨0,by omega,rfl,Own.nil _ _ _,bR⟩
      case round=>
       obtain⟨s,hs,rfl,hown,hb⟩:=hrel;have HR3:=Hd hs;have HS3:=Hd hown;have HB3:=Hd hb;have HO3:=Hd (HOQ.out.below hb lR);have HSL:=Hd (Me (out:=(Ac FI d i true d)) s (by rw[←HLN.out];omega));obtain⟨j1,j2,j3,rfl⟩:=Dp hown;clear hs hown hb
       by_cases hlt:s<r
       ·have hlt':decide (s<r)=true:=decide_eq_true hlt;have hltI:(s:Int)<(r:Int):=(by omega);obtain⟨bo,oo,rfl,hbo,co⟩:=HO3.out.rd.at3 (Bq (show s<((Ac FI d i true d)).length by rw[←HLN.out];exact hlt));have HSS:=Hd (Hj (out:=(Ac FI d i true d)) (r:=s) (by rw[←HLN.out];exact hlt));obtain⟨z,hz⟩:=eX (((Ac FI d i true d)).getD s 0);rw[←hz]at co HSS;have HKI:=Hd (Fa z wr);obtain⟨a2,ha2⟩:=eX (Do z);obtain⟨b,hb2⟩:=eX (Br z);rw[←ha2,←hb2]at HKI HSS;clear hz ha2 hb2;go_wp2_with fail;refine HKI.out.mono ?_;rintro e w5 ⟨rfl,hb5⟩;have HB53:=Hd (HB3.out.trans (hb5.mono HB3.out.size));have HS5:=Hd (HS3.out.below hb5 lR);clear hb5 co hbo
        by_cases ha0:0≤a2
        ·have ha0':decide (a2≥0)=true:=decide_eq_true ha0;have HHA0:=Hd (fun W hw=>Bo (.slice (some ⟨bo,oo,none⟩) r v2) (Ac FI d i true d) a2 W hw);obtain⟨ba,hba⟩:=eX (decide (a2∈(Ac FI d i true d)));rw[←hba]at HHA0;have HHA:=Hd HHA0.out;have HBAE:=Hd hba;have HAZ:=Hd ha0;clear hba ha0 HHA0;cases ba with
         |true=>
          have HKA:=Hd (Eh HBAE.out);clear HBAE;go_wp2_with fail;refine(HHA.out _ (HOQ.out.rd.below HB53.out lR)).mono ?_;rintro e wx ⟨rfl,rfl⟩
          by_cases hb0:0≤b
          ·have hb0':decide (b≥0)=true:=decide_eq_true hb0;have HHB0:=Hd (fun W hw=>Bo (.slice (some ⟨bo,oo,none⟩) r v2) (Ac FI d i true d) b W hw);obtain⟨bb,hbb⟩:=eX (decide (b∈(Ac FI d i true d)));rw[←hbb]at HHB0;have HHB:=Hd HHB0.out;have HBBE:=Hd hbb;have HBZ:=Hd hb0;clear hbb hb0 HHB0;cases bb with
           |true=>
            have HKB:=Hd (Eh HBBE.out);clear HBBE;go_wp2_with fail;refine(HHB.out _ (HOQ.out.rd.below HB53.out lR)).mono ?_;rintro e wx ⟨rfl,rfl⟩;go_wp2_with fail;go_roundg (gk-1);case measure=>have:=HR3.out;omega
            case rel=>
             refine⟨s+1,by have:=HR3.out;omega,by go_num,?_,HB53.out⟩;rw[HSS.out,HKA.out,HKB.out];have:=HS5.out;simpa [ivs]using this
           |false=>
            have HKB:=Hd (De HBZ.out HBBE.out);clear HBBE;go_wp2_with fail;refine(HHB.out _ (HOQ.out.rd.below HB53.out lR)).mono ?_;rintro e wx ⟨rfl,rfl⟩;go_wp2_with (at_builtin;refine An rfl (.tmp 116) (.tmp 118) 48 rfl wq.heap.size 3 _ 8 Cl _ _ rfl (HS5.out.alloc _) _ (.int .i64 b) rfl ?c1 rfl ?c2 ?c3 ?_);case c1=>exact Aq rfl
            case c2=>have:=HSL.out;have:=hlt;simp[ivs];omega
            case c3=>have:=HB53.out.size;simp;omega
            rintro vb wb hownb-hbb;have HOB2:=Hd hownb;have HBB2:=Hd ((HB53.out.alloc HB53.out.size (.cells #[.int .i64 b] 3)).trans hbb);clear hownb hbb;go_wp2_with fail;go_roundg (gk-1);case measure=>have:=HR3.out;omega
            case rel=>
             refine⟨s+1,by have:=HR3.out;omega,by go_num,?_,HBB2.out⟩;rw[HSS.out,HKA.out,HKB.out];have:=HOB2.out;simpa [ivs]using this
          ·have hb0':decide (b≥0)=false:=decide_eq_false hb0;have HKB:=Hd (Dd (out:=(Ac FI d i true d)) hb0);clear hb0;go_wp2_with fail;go_roundg (gk-1);case measure=>have:=HR3.out;omega
           case rel=>
            refine⟨s+1,by have:=HR3.out;omega,by go_num,?_,HB53.out⟩;rw[HSS.out,HKA.out,HKB.out];have:=HS5.out;simpa [ivs]using this
         |false=>
          have HKA:=Hd (De HAZ.out HBAE.out);clear HBAE;go_wp2_with fail;refine(HHA.out _ (HOQ.out.rd.below HB53.out lR)).mono ?_;rintro e wx ⟨rfl,rfl⟩;go_wp2_with (at_builtin;refine An rfl (.tmp 104) (.tmp 106) 48 rfl wq.heap.size 3 _ 8 Cl _ _ rfl (HS5.out.alloc _) _ (.int .i64 a2) rfl ?c1 rfl ?c2 ?c3 ?_);case c1=>exact Aq rfl
          case c2=>have:=HSL.out;have:=hlt;simp[ivs];omega
          case c3=>have:=HB53.out.size;simp;omega
          rintro va wa howna-hba;have HSA:=Hd howna;have HBA2:=Hd ((HB53.out.alloc HB53.out.size (.cells #[.int .i64 a2] 3)).trans hba);clear howna hba;obtain⟨k1,k2,k3,rfl⟩:=Dp HSA.out
          by_cases hb0:0≤b
          ·have hb0':decide (b≥0)=true:=decide_eq_true hb0;have HHB0:=Hd (fun W hw=>Bo (.slice (some ⟨bo,oo,none⟩) r v2) (Ac FI d i true d) b W hw);obtain⟨bb,hbb⟩:=eX (decide (b∈(Ac FI d i true d)));rw[←hbb]at HHB0;have HHB:=Hd HHB0.out;have HBBE:=Hd hbb;have HBZ:=Hd hb0;clear hbb hb0 HHB0;cases bb with
           |true=>
            have HKB:=Hd (Eh HBBE.out);clear HBBE;go_wp2_with fail;refine(HHB.out _ (HOQ.out.rd.below HBA2.out lR)).mono ?_;rintro e wx ⟨rfl,rfl⟩;go_wp2_with fail;go_roundg (gk-1);case measure=>have:=HR3.out;omega
            case rel=>
             refine⟨s+1,by have:=HR3.out;omega,by go_num,?_,HBA2.out⟩;rw[HSS.out,HKA.out,HKB.out];have:=HSA.out;simpa [ivs]using this
           |false=>
            have HKB:=Hd (De HBZ.out HBBE.out);clear HBBE;go_wp2_with fail;refine(HHB.out _ (HOQ.out.rd.below HBA2.out lR)).mono ?_;rintro e wx ⟨rfl,rfl⟩;go_wp2_with (at_builtin;refine An rfl (.tmp 116) (.tmp 118) 48 rfl wq.heap.size 3 _ 8 Cl _ _ rfl (HSA.out.alloc _) _ (.int .i64 b) rfl ?c1 rfl ?c2 ?c3 ?_);case c1=>exact Aq rfl
            case c2=>have:=HSL.out;have:=hlt;simp[ivs];omega
            case c3=>have:=HBA2.out.size;simp;omega
            rintro vb wb hownb-hbb;have HOB2:=Hd hownb;have HBB2:=Hd ((HBA2.out.alloc HBA2.out.size (.cells #[.int .i64 b] 3)).trans hbb);clear hownb hbb;go_wp2_with fail;go_roundg (gk-1);case measure=>have:=HR3.out;omega
            case rel=>
             refine⟨s+1,by have:=HR3.out;omega,by go_num,?_,HBB2.out⟩;rw[HSS.out,HKA.out,HKB.out];have:=HOB2.out;simpa [ivs]using this
          ·have hb0':decide (b≥0)=false:=decide_eq_false hb0;have HKB:=Hd (Dd (out:=(Ac FI d i true d)) hb0);clear hb0;go_wp2_with fail;go_roundg (gk-1);case measure=>have:=HR3.out;omega
           case rel=>
            refine⟨s+1,by have:=HR3.out;omega,by go_num,?_,HBA2.out⟩;rw[HSS.out,HKA.out,HKB.out];have:=HSA.out;simpa [ivs]using this
        ·have ha0':decide (a2≥0)=false:=decide_eq_false ha0;have HKA:=Hd (Dd (out:=(Ac FI d i true d)) ha0);clear ha0
         by_cases hb0:0≤b
         ·have hb0':decide (b≥0)=true:=decide_eq_true hb0;have HHB0:=Hd (fun W hw=>Bo (.slice (some ⟨bo,oo,none⟩) r v2) (Ac FI d i true d) b W hw);obtain⟨bb,hbb⟩:=eX (decide (b∈(Ac FI d i true d)));rw[←hbb]at HHB0;have HHB:=Hd HHB0.out;have HBBE:=Hd hbb;have HBZ:=Hd hb0;clear hbb hb0 HHB0;cases bb with
          |true=>
           have HKB:=Hd (Eh HBBE.out);clear HBBE;go_wp2_with fail;refine(HHB.out _ (HOQ.out.rd.below HB53.out lR)).mono ?_;rintro e wx ⟨rfl,rfl⟩;go_wp2_with fail;go_roundg (gk-1);case measure=>have:=HR3.out;omega
           case rel=>
            refine⟨s+1,by have:=HR3.out;omega,by go_num,?_,HB53.out⟩;rw[HSS.out,HKA.out,HKB.out];have:=HS5.out;simpa [ivs]using this
          |false=>
           have HKB:=Hd (De HBZ.out HBBE.out);clear HBBE;go_wp2_with fail;refine(HHB.out _ (HOQ.out.rd.below HB53.out lR)).mono ?_;rintro e wx ⟨rfl,rfl⟩;go_wp2_with (at_builtin;refine An rfl (.tmp 116) (.tmp 118) 48 rfl wq.heap.size 3 _ 8 Cl _ _ rfl (HS5.out.alloc _) _ (.int .i64 b) rfl ?c1 rfl ?c2 ?c3 ?_);case c1=>exact Aq rfl
           case c2=>have:=HSL.out;have:=hlt;simp[ivs];omega
           case c3=>have:=HB53.out.size;simp;omega
           rintro vb wb hownb-hbb;have HOB2:=Hd hownb;have HBB2:=Hd ((HB53.out.alloc HB53.out.size (.cells #[.int .i64 b] 3)).trans hbb);clear hownb hbb;go_wp2_with fail;go_roundg (gk-1);case measure=>have:=HR3.out;omega
           case rel=>
            refine⟨s+1,by have:=HR3.out;omega,by go_num,?_,HBB2.out⟩;rw[HSS.out,HKA.out,HKB.out];have:=HOB2.out;simpa [ivs]using this
         ·have hb0':decide (b≥0)=false:=decide_eq_false hb0;have HKB:=Hd (Dd (out:=(Ac FI d i true d)) hb0);clear hb0;go_wp2_with fail;go_roundg (gk-1);case measure=>have:=HR3.out;omega
          case rel=>
           refine⟨s+1,by have:=HR3.out;omega,by go_num,?_,HB53.out⟩;rw[HSS.out,HKA.out,HKB.out];have:=HS5.out;simpa [ivs]using this
       ·obtain rfl:s=r:=(by have:=HR3.out;omega);have hlt':decide (s<s)=false:=decide_eq_false hlt;have HE:=Hd (show Ho (Ac FI d i true d) s=Cv (Ac FI d i true d)from by rw[HLN.out];exact Md);clear hlt;go_wp2_with fail;refine(Di _ (Ac FI d i true d) _ HO3.out.rd (by have:=HOB.out;omega)).mono ?_;rintro e w12 ⟨vo,rfl,hvo,hb12⟩;have HVO:=Hd hvo;have HB12:=Hd hb12;have HS12:=Hd (HS3.out.below hb12 lR);have HBW:=Hd (HBQ.out.trans (HB3.out.mono HBQ.out.size));have HBW2:=Hd (HBW.out.trans (hb12.mono HBW.out.size));clear hvo hb12;go_wp2_with fail;refine(Di _ (Ho (Ac FI d i true d) s) _ HS12.out.rd (by have:=HSL.out;omega)).mono ?_;rintro e w13 ⟨vs,rfl,hvs,hb13⟩;have HVS:=Hd hvs;have HVO13:=Hd (HVO.out.below hb13 lR);have HBW3:=Hd (HBW2.out.trans (hb13.mono HBW2.out.size));clear hvs hb13;go_wp2_with fail
        go_ret3
        rw[←HOKE.out];refine⟨_,_,rfl,HVO13.out.mono HBW.out.size,?_,HBW3.out⟩;rw[←HE.out];exact HVS.out.mono HBW2.out.size
   |false=>
    go_wp2_with fail;obtain⟨w8,rfl⟩:∃w8:World,w8=wr:=⟨_,rfl⟩
    go_loopg [11,13,17] d (fun q ov kv iv wr=>∃k:Nat,k+q=d∧iv=.int .i64 (k:Nat)∧kv=.bool (Bm FI d i false k)∧Own wr w.heap.size 3 ov (ivs .i64 (Ac FI d i false k))∧Own wr w6.heap.size 3 (.slice z1 d z2) (ivs .i64 (Zco (2*(i:Int)) (n:Int)))∧Gj ov (.slice z1 d z2)∧Below w.heap.size w wr)
    case atStart=>exact⟨0,by omega,rfl,by rw[Zc5,HOK1.out],by rw[Vl];exact HUVr.out,HAVr.out,HAP.out,HBA.out⟩
    case round=>
     obtain⟨k,hk,rfl,rfl,hown,hav,hap,hb⟩:=hrel;have HK:=Hd hk;have HO:=Hd hown;have HAV:=Hd hav;have HAP:=Hd hap;have HB:=Hd hb;obtain⟨ok1,hok1⟩:=eX (Bm FI d i false k);rw[←hok1];have HOK1:=Hd hok1;clear hk hown hav hap hb hok1
     by_cases hkd:k<d
     ·have hkd':decide (k<d)=true:=decide_eq_true hkd;have hkdI:(k:Int)<(d:Int):=(by omega);obtain⟨bu,ou,rfl,hbu,cy⟩:=HAV.out.rd.at3 (Bq (show k<(Zco (2*(i:Int)) (n:Int)).length by rw[HCL.out];exact hkd));rw[HCG.out k hkd]at cy;have HWC:=Hd (HWH.out k hkd wr HB.out);have HWL:=Hd (HWLEN.out k hkd);have HOL2:=Hd (HOLEN.out k (by omega));have HOS:=Hd (Vm (FI:=FI) (d:=d) (i:=i) k);have HKS:=Hd (show Bm FI d i false (k+1)=(ok1&&(Av FI d k (Ic (2*i) k)).2)from by rw[Zc7,HOK1.out]);obtain⟨sb,hsb⟩:=eX (Ic (2*i) k);rw[←hsb]at cy HWC HWL HOS HKS;obtain⟨W1,hW1⟩:=eX (Av FI d k sb);rw[←hW1]at HWC HWL HOS HKS;obtain⟨p1,p2,p3,rfl⟩:=Dp HO.out;clear hsb hW1 HOK1;go_wp2_with fail;refine HWC.out.mono ?_;rintro e w9 ⟨v9,rfl,hown9,hb9⟩;have HO9:=Hd hown9.rd;have HB9:=Hd (HB.out.trans (hb9.mono HB.out.size));have HOO:=Hd (HO.out.below hb9 lR);have HAV9:=Hd (HAV.out.below hb9 lR);obtain⟨fk,hfk⟩:=eX W1.2;rw[←hfk]at HKS⊢;obtain⟨t1,t2,t3,rfl⟩:=Dp hown9;clear hown9 hb9 hfk;go_wp2_with (at_builtin;refine Ie rfl (.tmp 75) (.tmp 76) 48 rfl w.heap.size 3 _ 8 Cl _ _ rfl HOO.out _ _ rfl HO9.out ?d1 ?d2 ?d3 ?_);case d1=>exact Ec _
      case d2=>have:=HOL2.out;have:=HWL.out;simp[ivs];omega
      case d3=>exact HB9.out.size
      rintro v10 w10 hown10 hg10 hb10 hnear;have HO10:=Hd (show Own w10 w.heap.size 3 v10 (ivs .i64 (Ac FI d i false (k+1)))from by
       rw[HOS.out];simpa [ivs]using hown10)
      have HAV10:=Hd (show Own w10 w6.heap.size 3 _ _ from HAV9.out.grown hg10 fun g e1 e2=>HAP.out g e2 e1);have HAP10:=Hd (Fq hnear HAP.out HAV9.out);have HB10:=Hd (HB9.out.trans hb10);clear hown10 hg10 hb10 hnear;cases ok1
      ·go_wp2_with fail;go_roundg (gk-1);case measure=>have:=HK.out;omega
       case rel=>exact⟨k+1,by have:=HK.out;omega,by go_num,by rw[HKS.out,dB],HO10.out,HAV10.out,HAP10.out,HB10.out⟩
      ·go_wp2_with fail;go_roundg (gk-1);case measure=>have:=HK.out;omega
       case rel=>exact⟨k+1,by have:=HK.out;omega,by go_num,by rw[HKS.out,dC],HO10.out,HAV10.out,HAP10.out,HB10.out⟩
     ·obtain rfl:k=d:=(by have:=HK.out;omega);have hkd':decide (k<k)=false:=decide_eq_false hkd;have HOKE:=Hd (show ok1=Bm FI k i false k from HOK1.out);have HOB:=Hd (HOLEN.out k lR);obtain⟨r2,hr2⟩:=eX ((Ac FI k i false k).length);have HLN:=Hd hr2;obtain⟨p1,p2,rfl⟩:=Nm HO.out hr2.symm;have HOUT:=Hd HO.out;clear hkd hr2;go_wp2_with fail;obtain⟨wq,rfl⟩:∃wq:World,wq=wr:=⟨_,rfl⟩;have HBQ:=Hd HB.out;have HOQ:=Hd HOUT.out;have hLB:r2≤6000000000:=by rw[HLN.out];exact HOB.out
      go_loopg [20,21] r2 (fun q ov iv wr=>∃s:Nat,s+q=r2∧iv=.int .i64 (s:Nat)∧Own wr wq.heap.size 3 ov (ivs .i64 (Ho (Ac FI k i false k) s))∧Below wq.heap.size wq wr)
      case atStart=>exact⟨0,by omega,rfl,Own.nil _ _ _,bR⟩
      case round=>
       obtain⟨s,hs,rfl,hown,hb⟩:=hrel;have HR3:=Hd hs;have HS3:=Hd hown;have HB3:=Hd hb;have HO3:=Hd (HOQ.out.below hb lR);have HSL:=Hd (Me (out:=(Ac FI k i false k)) s (by rw[←HLN.out];omega));obtain⟨j1,j2,j3,rfl⟩:=Dp hown;clear hs hown hb
       by_cases hlt:s<r2
       ·have hlt':decide (s<r2)=true:=decide_eq_true hlt;have hltI:(s:Int)<(r2:Int):=(by omega);obtain⟨bo,oo,rfl,hbo,co⟩:=HO3.out.rd.at3 (Bq (show s<((Ac FI k i false k)).length by rw[←HLN.out];exact hlt));have HSS:=Hd (Hj (out:=(Ac FI k i false k)) (r:=s) (by rw[←HLN.out];exact hlt));obtain⟨z,hz⟩:=eX (((Ac FI k i false k)).getD s 0);rw[←hz]at co HSS;have HKI:=Hd (Fa z wr);obtain⟨a2,ha2⟩:=eX (Do z);obtain⟨b,hb2⟩:=eX (Br z);rw[←ha2,←hb2]at HKI HSS;clear hz ha2 hb2;go_wp2_with fail;refine HKI.out.mono ?_;rintro e w5 ⟨rfl,hb5⟩;have HB53:=Hd (HB3.out.trans (hb5.mono HB3.out.size));have HS5:=Hd (HS3.out.below hb5 lR);clear hb5 co hbo
        by_cases ha0:0≤a2
        ·have ha0':decide (a2≥0)=true:=decide_eq_true ha0;have HHA0:=Hd (fun W hw=>Bo (.slice (some ⟨bo,oo,none⟩) r2 p2) (Ac FI k i false k) a2 W hw);obtain⟨ba,hba⟩:=eX (decide (a2∈(Ac FI k i false k)));rw[←hba]at HHA0;have HHA:=Hd HHA0.out;have HBAE:=Hd hba;have HAZ:=Hd ha0;clear hba ha0 HHA0;cases ba with
         |true=>
          have HKA:=Hd (Eh HBAE.out);clear HBAE;go_wp2_with fail;refine(HHA.out _ (HOQ.out.rd.below HB53.out lR)).mono ?_;rintro e wx ⟨rfl,rfl⟩
          by_cases hb0:0≤b
          ·have hb0':decide (b≥0)=true:=decide_eq_true hb0;have HHB0:=Hd (fun W hw=>Bo (.slice (some ⟨bo,oo,none⟩) r2 p2) (Ac FI k i false k) b W hw);obtain⟨bb,hbb⟩:=eX (decide (b∈(Ac FI k i false k)));rw[←hbb]at HHB0;have HHB:=Hd HHB0.out;have HBBE:=Hd hbb;have HBZ:=Hd hb0;clear hbb hb0 HHB0;cases bb with
           |true=>
            have HKB:=Hd (Eh HBBE.out);clear HBBE;go_wp2_with fail;refine(HHB.out _ (HOQ.out.rd.below HB53.out lR)).mono ?_;rintro e wx ⟨rfl,rfl⟩;go_wp2_with fail;go_roundg (gk-1);case measure=>have:=HR3.out;omega
            case rel=>
             refine⟨s+1,by have:=HR3.out;omega,by go_num,?_,HB53.out⟩;rw[HSS.out,HKA.out,HKB.out];have:=HS5.out;simpa [ivs]using this
           |false=>
            have HKB:=Hd (De HBZ.out HBBE.out);clear HBBE;go_wp2_with fail;refine(HHB.out _ (HOQ.out.rd.below HB53.out lR)).mono ?_;rintro e wx ⟨rfl,rfl⟩;go_wp2_with (at_builtin;refine An rfl (.tmp 116) (.tmp 118) 48 rfl wq.heap.size 3 _ 8 Cl _ _ rfl (HS5.out.alloc _) _ (.int .i64 b) rfl ?c1 rfl ?c2 ?c3 ?_);case c1=>exact Aq rfl
            case c2=>have:=HSL.out;have:=hlt;simp[ivs];omega
            case c3=>have:=HB53.out.size;simp;omega
            rintro vb wb hownb-hbb;have HOB2:=Hd hownb;have HBB2:=Hd ((HB53.out.alloc HB53.out.size (.cells #[.int .i64 b] 3)).trans hbb);clear hownb hbb;go_wp2_with fail;go_roundg (gk-1);case measure=>have:=HR3.out;omega
            case rel=>
             refine⟨s+1,by have:=HR3.out;omega,by go_num,?_,HBB2.out⟩;rw[HSS.out,HKA.out,HKB.out];have:=HOB2.out;simpa [ivs]using this
          ·have hb0':decide (b≥0)=false:=decide_eq_false hb0;have HKB:=Hd (Dd (out:=(Ac FI k i false k)) hb0);clear hb0;go_wp2_with fail;go_roundg (gk-1);case measure=>have:=HR3.out;omega
           case rel=>
            refine⟨s+1,by have:=HR3.out;omega,by go_num,?_,HB53.out⟩;rw[HSS.out,HKA.out,HKB.out];have:=HS5.out;simpa [ivs]using this
         |false=>
          have HKA:=Hd (De HAZ.out HBAE.out);clear HBAE;go_wp2_with fail;refine(HHA.out _ (HOQ.out.rd.below HB53.out lR)).mono ?_;rintro e wx ⟨rfl,rfl⟩;go_wp2_with (at_builtin;refine An rfl (.tmp 104) (.tmp 106) 48 rfl wq.heap.size 3 _ 8 Cl _ _ rfl (HS5.out.alloc _) _ (.int .i64 a2) rfl ?c1 rfl ?c2 ?c3 ?_);case c1=>exact Aq rfl
          case c2=>have:=HSL.out;have:=hlt;simp[ivs];omega
          case c3=>have:=HB53.out.size;simp;omega
          rintro va wa howna-hba;have HSA:=Hd howna;have HBA2:=Hd ((HB53.out.alloc HB53.out.size (.cells #[.int .i64 a2] 3)).trans hba);clear howna hba;obtain⟨k1,k2,k3,rfl⟩:=Dp HSA.out
          by_cases hb0:0≤b
          ·have hb0':decide (b≥0)=true:=decide_eq_true hb0;have HHB0:=Hd (fun W hw=>Bo (.slice (some ⟨bo,oo,none⟩) r2 p2) (Ac FI k i false k) b W hw);obtain⟨bb,hbb⟩:=eX (decide (b∈(Ac FI k i false k)));rw[←hbb]at HHB0;have HHB:=Hd HHB0.out;have HBBE:=Hd hbb;have HBZ:=Hd hb0;clear hbb hb0 HHB0;cases bb with
           |true=>
            have HKB:=Hd (Eh HBBE.out);clear HBBE;go_wp2_with fail;refine(HHB.out _ (HOQ.out.rd.below HBA2.out lR)).mono ?_;rintro e wx ⟨rfl,rfl⟩;go_wp2_with fail;go_roundg (gk-1);case measure=>have:=HR3.out;omega
            case rel=>
             refine⟨s+1,by have:=HR3.out;omega,by go_num,?_,HBA2.out⟩;rw[HSS.out,HKA.out,HKB.out];have:=HSA.out;simpa [ivs]using this
           |false=>
            have HKB:=Hd (De HBZ.out HBBE.out);clear HBBE;go_wp2_with fail;refine(HHB.out _ (HOQ.out.rd.below HBA2.out lR)).mono ?_;rintro e wx ⟨rfl,rfl⟩;go_wp2_with (at_builtin;refine An rfl (.tmp 116) (.tmp 118) 48 rfl wq.heap.size 3 _ 8 Cl _ _ rfl (HSA.out.alloc _) _ (.int .i64 b) rfl ?c1 rfl ?c2 ?c3 ?_);case c1=>exact Aq rfl
            case c2=>have:=HSL.out;have:=hlt;simp[ivs];omega
            case c3=>have:=HBA2.out.size;simp;omega
            rintro vb wb hownb-hbb;have HOB2:=Hd hownb;have HBB2:=Hd ((HBA2.out.alloc HBA2.out.size (.cells #[.int .i64 b] 3)).trans hbb);clear hownb hbb;go_wp2_with fail;go_roundg (gk-1);case measure=>have:=HR3.out;omega
            case rel=>
             refine⟨s+1,by have:=HR3.out;omega,by go_num,?_,HBB2.out⟩;rw[HSS.out,HKA.out,HKB.out];have:=HOB2.out;simpa [ivs]using this
          ·have hb0':decide (b≥0)=false:=decide_eq_false hb0;have HKB:=Hd (Dd (out:=(Ac FI k i false k)) hb0);clear hb0;go_wp2_with fail;go_roundg (gk-1);case measure=>have:=HR3.out;omega
           case rel=>
            refine⟨s+1,by have:=HR3.out;omega,by go_num,?_,HBA2.out⟩;rw[HSS.out,HKA.out,HKB.out];have:=HSA.out;simpa [ivs]using this
        ·have ha0':decide (a2≥0)=false:=decide_eq_false ha0;have HKA:=Hd (Dd (out:=(Ac FI k i false k)) ha0);clear ha0
         by_cases hb0:0≤b
         ·have hb0':decide (b≥0)=true:=decide_eq_true hb0;have HHB0:=Hd (fun W hw=>Bo (.slice (some ⟨bo,oo,none⟩) r2 p2) (Ac FI k i false k) b W hw);obtain⟨bb,hbb⟩:=eX (decide (b∈(Ac FI k i false k)));rw[←hbb]at HHB0;have HHB:=Hd HHB0.out;have HBBE:=Hd hbb;have HBZ:=Hd hb0;clear hbb hb0 HHB0;cases bb with
          |true=>
           have HKB:=Hd (Eh HBBE.out);clear HBBE;go_wp2_with fail;refine(HHB.out _ (HOQ.out.rd.below HB53.out lR)).mono ?_;rintro e wx ⟨rfl,rfl⟩;go_wp2_with fail;go_roundg (gk-1);case measure=>have:=HR3.out;omega
           case rel=>
            refine⟨s+1,by have:=HR3.out;omega,by go_num,?_,HB53.out⟩;rw[HSS.out,HKA.out,HKB.out];have:=HS5.out;simpa [ivs]using this
          |false=>
           have HKB:=Hd (De HBZ.out HBBE.out);clear HBBE;go_wp2_with fail;refine(HHB.out _ (HOQ.out.rd.below HB53.out lR)).mono ?_;rintro e wx ⟨rfl,rfl⟩;go_wp2_with (at_builtin;refine An rfl (.tmp 116) (.tmp 118) 48 rfl wq.heap.size 3 _ 8 Cl _ _ rfl (HS5.out.alloc _) _ (.int .i64 b) rfl ?c1 rfl ?c2 ?c3 ?_);case c1=>exact Aq rfl
           case c2=>have:=HSL.out;have:=hlt;simp[ivs];omega
           case c3=>have:=HB53.out.size;simp;omega
           rintro vb wb hownb-hbb;have HOB2:=Hd hownb;have HBB2:=Hd ((HB53.out.alloc HB53.out.size (.cells #[.int .i64 b] 3)).trans hbb);clear hownb hbb;go_wp2_with fail;go_roundg (gk-1);case measure=>have:=HR3.out;omega
           case rel=>
            refine⟨s+1,by have:=HR3.out;omega,by go_num,?_,HBB2.out⟩;rw[HSS.out,HKA.out,HKB.out];have:=HOB2.out;simpa [ivs]using this
         ·have hb0':decide (b≥0)=false:=decide_eq_false hb0;have HKB:=Hd (Dd (out:=(Ac FI k i false k)) hb0);clear hb0;go_wp2_with fail;go_roundg (gk-1);case measure=>have:=HR3.out;omega
          case rel=>
           refine⟨s+1,by have:=HR3.out;omega,by go_num,?_,HB53.out⟩;rw[HSS.out,HKA.out,HKB.out];have:=HS5.out;simpa [ivs]using this
       ·obtain rfl:s=r2:=(by have:=HR3.out;omega);have hlt':decide (s<s)=false:=decide_eq_false hlt;have HE:=Hd (show Ho (Ac FI k i false k) s=Cv (Ac FI k i false k)from by rw[HLN.out];exact Md);clear hlt;go_wp2_with fail;refine(Di _ (Ac FI k i false k) _ HO3.out.rd (by have:=HOB.out;omega)).mono ?_;rintro e w12 ⟨vo,rfl,hvo,hb12⟩;have HVO:=Hd hvo;have HB12:=Hd hb12;have HS12:=Hd (HS3.out.below hb12 lR);have HBW:=Hd (HBQ.out.trans (HB3.out.mono HBQ.out.size));have HBW2:=Hd (HBW.out.trans (hb12.mono HBW.out.size));clear hvo hb12;go_wp2_with fail;refine(Di _ (Ho (Ac FI k i false k) s) _ HS12.out.rd (by have:=HSL.out;omega)).mono ?_;rintro e w13 ⟨vs,rfl,hvs,hb13⟩;have HVS:=Hd hvs;have HVO13:=Hd (HVO.out.below hb13 lR);have HBW3:=Hd (HBW2.out.trans (hb13.mono HBW2.out.size));clear hvs hb13;go_wp2_with fail
        go_ret3
        rw[←HOKE.out];refine⟨_,_,rfl,HVO13.out.mono HBW.out.size,?_,HBW3.out⟩;rw[←HE.out];exact HVS.out.mono HBW2.out.size
end
def Da (n:Int)(p:Int×NodeD):Bool:=
 decide (0≤p.1∧p.1≤2*n-2)&&Aw p.2&& !(decide (p.1%2=0)&&decide (p.2.kind=2))&& !(decide (p.1%2=1)&&decide (p.2.kind=1))&&p.2.par.late.all fun u=>Bl (2*u) p.1
def Pn (s:SparseD):Nat:=((Ah s.op (2*s.own)).getD Ar).kind
def Aj (s:SparseD)(only:Bool):Bool:=
 fits s.leaves.toNat&&decide (0≤s.own∧s.own<s.leaves)&&s.op.all (Da s.leaves)&&s.sh.all (fun p=>decide (p.2.length=32))&&(decide (Pn s=1)&&Bm (Ah s.op) (aX s.leaves.toNat) s.own.toNat only (aX s.leaves.toNat)
  &&decide (s.op.map (·.1)=(Ka (Ah s.op) (aX s.leaves.toNat) s.own.toNat only).1)&&decide (s.sh.map (·.1)=(Ka (Ah s.op) (aX s.leaves.toNat) s.own.toNat only).2.1))
def Bg (s:SparseD):Bool:=decide (s.op.length≤5000)&&decide (s.sh.length≤5000)&&s.op.all (fun p=>Cc p.2)&&s.sh.all fun p=>decide (p.2.length≤100)
theorem Kb {s:SparseD} {only:Bool}(h:fits s.leaves.toNat=false):Aj s only=false:=by rw[Aj,h];rfl
theorem Mg {s:SparseD} {only:Bool}(h:¬(0≤s.own∧s.own<s.leaves)):Aj s only=false:=by rw[Aj,decide_eq_false h];simp
theorem Re {s:SparseD} {only:Bool} {i:Nat}(hi:i<s.op.length)(h:Da s.leaves (spt s.op i)=false):Aj s only=false:=by
 have:s.op.all (Da s.leaves)=false:=List.all_eq_false.2 ⟨_,Dy hi,by rw[h];simp⟩;rw[Aj,this];simp
theorem Rf {s:SparseD} {only:Bool} {i:Nat}(hi:i<s.sh.length)(h:(stb s.sh i).2.length≠32):Aj s only=false:=by
 have:s.sh.all (fun p=>decide (p.2.length=32))=false:=List.all_eq_false.2 ⟨_,Gs hi,by simpa using h⟩;rw[Aj,this];simp
theorem Rg {s:SparseD} {only:Bool}(h1:fits s.leaves.toNat=true)(h2:0≤s.own∧s.own<s.leaves)(h3:∀i,i<s.op.length→Da s.leaves (spt s.op i)=true)(h4:∀i,i<s.sh.length→(stb s.sh i).2.length=32):
  Aj s only=(decide (Pn s=1)&&Bm (Ah s.op) (aX s.leaves.toNat) s.own.toNat only (aX s.leaves.toNat)
  &&decide (s.op.map (·.1)=(Ka (Ah s.op) (aX s.leaves.toNat) s.own.toNat only).1)&&decide (s.sh.map (·.1)=(Ka (Ah s.op) (aX s.leaves.toNat) s.own.toNat only).2.1)):=by
 have e3:s.op.all (Da s.leaves)=true:=List.all_eq_true.2 fun p hp=>by
  obtain⟨i,hi,rfl⟩:=eB hp;have:=h3 i hi
  rwa [Hs hi]at this
 have e4:s.sh.all (fun p=>decide (p.2.length=32))=true:=List.all_eq_true.2 fun p hp=>by
  obtain⟨i,hi,rfl⟩:=eB hp;have:=h4 i hi;rw[Ht hi]at this;exact decide_eq_true this
 rw[Aj,h1,decide_eq_true h2,e3,e4];simp
theorem Xf {n:Int} {p:Int×NodeD}(h:¬(0≤p.1∧p.1≤2*n-2)):Da n p=false:=by rw[Da,decide_eq_false h];simp
theorem Xg {n:Int} {p:Int×NodeD}(h:Aw p.2=false):Da n p=false:=by rw[Da,h];simp
theorem Zar {n:Int} {p:Int×NodeD}(h:p.1%2=0)(hk:p.2.kind=2):Da n p=false:=by rw[Da,decide_eq_true h,decide_eq_true hk];simp
theorem Zc8 {n:Int} {p:Int×NodeD}(h:p.1%2=1)(hk:p.2.kind=1):Da n p=false:=by rw[Da,decide_eq_true h,decide_eq_true hk];simp
theorem Zas {n:Int} {p:Int×NodeD} {u:Int}(hu:u∈p.2.par.late)(h:Bl (2*u) p.1=false):Da n p=false:=by
 have:p.2.par.late.all (fun u=>Bl (2*u) p.1)=false:=List.all_eq_false.2 ⟨u,hu,by rw[h];simp⟩;rw[Da,this];simp
theorem Vo {n:Int} {p:Int×NodeD}(h1:0≤p.1∧p.1≤2*n-2)(h2:Aw p.2=true)(h3:¬(p.1%2=0∧p.2.kind=2))(h4:¬(p.1%2=1∧p.2.kind=1))(h5:∀i,i<p.2.par.late.length→Bl (2*p.2.par.late.getD i 0) p.1=true):Da n p=true:=by
 have e5:p.2.par.late.all (fun u=>Bl (2*u) p.1)=true:=List.all_eq_true.2 fun u hu=>by
  obtain⟨i,hi,rfl⟩:=eB hu;have:=h5 i hi
  rwa [aH,aI hi]at this
 have e3:(decide (p.1%2=0)&&decide (p.2.kind=2))=false:=(by rw[←dA];simpa using h3);have e4:(decide (p.1%2=1)&&decide (p.2.kind=1))=false:=(by rw[←dA];simpa using h4);rw[Da,decide_eq_true h1,h2,e3,e4,e5];rfl
theorem Kc {n:Int} {p:Int×NodeD}(h:Da n p=true):(0≤p.1∧p.1≤2*n-2)∧Aw p.2=true∧¬(p.1%2=0∧p.2.kind=2)∧¬(p.1%2=1∧p.2.kind=1)∧∀u∈p.2.par.late,Bl (2*u) p.1=true:=by
 unfold Da at h;simp only[Bool.and_eq_true,Bool.not_eq_true',decide_eq_true_eq]at h;obtain⟨⟨⟨⟨h1,h2⟩,h3⟩,h4⟩,h5⟩:=h;refine⟨h1,h2,fun hh=> ?_,fun hh=> ?_,fun u hu=>List.all_eq_true.1 h5 u hu⟩
 ·rw[decide_eq_true hh.1,decide_eq_true hh.2]at h3;cases h3
 ·rw[decide_eq_true hh.1,decide_eq_true hh.2]at h4;cases h4
theorem To (v:Value)(s:SparseD)(only:Bool)(w:World)(h:SparseR w v s)(hok:SparseOk s)(h1:s.op.length≤10000)(h2:s.sh.length≤10000)(hl60:∀p∈s.op,p.2.par.late.length≤1000):
  Calls Tryz.prog 62 #[v,.bool only] w fun e w'=>e=.returned (.bool (Aj s only))∧Below w.heap.size w w':=by
 obtain⟨o,g,rfl,ho,hg⟩:=h;obtain⟨oa,oc,rfl,hoc,hoc2⟩:=ho.sl;obtain⟨ga,gc,rfl,hgc,hgc2⟩:=hg.sl;have HRF:=Hd (Kb (s:=s) (only:=only));have HRO:=Hd (Mg (s:=s) (only:=only));have HRS:=Hd (fun i=>Re (s:=s) (only:=only) (i:=i));have HRT:=Hd (fun i=>Rf (s:=s) (only:=only) (i:=i));have HRR:=Hd (Rg (s:=s) (only:=only));have HG1:=Hd fun(i:Nat) (hi:i<s.op.length)=>ho.at hi;have HG2:=Hd fun(i:Nat) (hi:i<s.sh.length)=>hg.at hi;have HNK:=Hd fun(i:Nat) (hi:i<s.op.length)=>(hok.op _ (Dy hi));have HLL:=Hd fun(i:Nat) (hi:i<s.op.length)=>hl60 _ (Dy hi);have HPL:=Hd fun(W:World) (hw:Below w.heap.size w W)=>Qv _ s W (show SparseR W _ s from⟨_,_,rfl,ho.below hw lR,hg.below hw lR⟩) (by omega) (by omega);have HSPO:=Hd ho;have HLV:=hok.leaves;have HOW:=hok.own;obtain⟨RES,hRES⟩:=eX (Aj s only);rw[←hRES]at HRF HRO HRS HRT HRR⊢;obtain⟨lv,hlv⟩:=eX s.leaves;obtain⟨ow,how⟩:=eX s.own;obtain⟨n,hn⟩:=eX s.op.length;obtain⟨m,hm⟩:=eX s.sh.length;rw[←hlv]at HRF HRO HRS HRR HLV HPL⊢;rw[←how]at HRO HRR HOW HPL⊢;rw[←hn]at HRS HRR HG1 HNK HLL HPL h1 hoc⊢;rw[←hm]at HRT HRR HG2 HPL h2 hgc⊢;have HN:=Hd hn;have HM:=Hd hm;have HLVE:=Hd hlv;have HOWE:=Hd how;unfold inI at HLV HOW;have HLV2:=Hd HLV;have HOW2:=Hd HOW;clear hRES hlv how hn hm ho hg hok hl60 HLV HOW;go_enter Tryz.func62,Tryz.ntmps62;go_wp2_with fail;obtain⟨N,hN⟩:=eX w.heap.size;have HBK0:=Hd (show Blk (w.alloc (.cells #[.int .i64 lv,.int .i64 ow,.slice oa n oc,.slice ga m gc] 25)) N 25 #[.int .i64 lv,.int .i64 ow,.slice oa n oc,.slice ga m gc]from by rw[hN];exact Blk.new _ _ _);have HB0:=Hd ((Below.refl w.heap.size w).alloc lR (.cells #[.int .i64 lv,.int .i64 ow,.slice oa n oc,.slice ga m gc] 25));rw[←hN];have HNN:=Hd (show N+1=(w.alloc (.cells #[.int .i64 lv,.int .i64 ow,.slice oa n oc,.slice ga m gc] 25)).heap.size from by simp[hN]);generalize hw1:w.alloc (.cells #[.int .i64 lv,.int .i64 ow,.slice oa n oc,.slice ga m gc] 25)=w1 at HBK0 HB0 HNN⊢;have HNE:=Hd hN;clear hw1 hN;have c0:=HBK0.out.cell 0;have c1:=HBK0.out.cell 1;simp only[bN,bO,bP]at c0 c1;have HFT:=Hd (Ll lv w1);obtain⟨ft,hft⟩:=eX (fits lv.toNat);rw[←hft]at HFT;have HFTE:=Hd hft;clear hft;cases ft with
 |false=>
  have HE:=Hd (HRF.out HFTE.out.symm);go_wp2_with fail;refine HFT.out.mono ?_;rintro e w2 ⟨rfl,rfl⟩;go_wp2_with fail;go_ret;exact⟨Ek HE.out,HB0.out⟩
 |true=>
  by_cases ho1:0≤ow
  ·have ho1':decide (ow<0)=false:=decide_eq_false (by omega)
   by_cases ho2:ow<lv
   ·have ho2':decide (ow≥lv)=false:=decide_eq_false (by omega);have HOO:=Hd (show 0≤ow∧ow<lv from⟨ho1,ho2⟩);clear ho1 ho2;go_wp2_with fail;refine HFT.out.mono ?_;rintro e w2 ⟨rfl,rfl⟩;go_wp2_with fail;have HLVB:=Hd (show lv≤65536 from by
     obtain⟨d,hd,e⟩:=(fits_iff _).1 HFTE.out.symm;have:2^d≤2^16:=aY (by omega) hd;have h16:(2:Nat)^16=65536:=rfl
     omega)
    clear c0 c1 ho1' ho2' HFT
    go_loopg [5] n (fun q iv wr=>∃r:Nat,r+q=n∧iv=.int .i64 (r:Nat)∧(∀i,i<r→Da lv (spt s.op i)=true)∧Below w1.heap.size w1 wr)
    case atStart=>exact⟨0,by omega,rfl,fun i hi=>by omega,bR⟩
    case round=>
     obtain⟨r,hr,rfl,hall,hb⟩:=hrel;have HR:=Hd hr;have HALL:=Hd hall;have HB:=Hd hb;have HBA:=Hd (HB0.out.trans (hb.mono HB0.out.size));have HBK:=Hd (HBK0.out.below hb HBK0.out.lt);have c0:=HBK.out.cell 0;have c2:=HBK.out.cell 2;have c3:=HBK.out.cell 3;simp only[bN,bO,bP]at c0 c2 c3;have hNlt:N<wr.heap.size:=HBK.out.lt;clear hr hall hb
     by_cases hlt:r<n
     ·have hlt':decide (r<n)=true:=decide_eq_true hlt;have hltI:(r:Int)<(n:Int):=(by omega);obtain⟨b,off,c,rfl,hbl,hnc,hra⟩:=HG1.out r hlt;obtain⟨hin,hnk⟩:=HNK.out r hlt;have cx:=(HBA.out.cell (p:=⟨b,off+r*11,none⟩) hbl).trans (Bf hra);have HRA:=Hd (Af (Bv hra) HBA.out hbl);have HNC:=Hd hnc;have hk256:=hnk.kind;have HNOK:=Hd hnk;obtain⟨x1,x2,x3,x4,x5,x6,x7,x8,b3,e3,rfl,hrd⟩:=hnc.frame;have HONE:=Hd hnc.oneL;have HRD:=Hd hrd;have HLN:=Hd (HLL.out r hlt);have HSK:=Hd (fun h=>HRS.out r hlt h);have HSY:=Hd (fun h1=>Vo (n:=lv) (p:=spt s.op r) h1);have HS1:=Hd (fun h1=>Xf (n:=lv) (p:=spt s.op r) h1);have HS2:=Hd (fun h1=>Xg (n:=lv) (p:=spt s.op r) h1);have HS3:=Hd (fun h1=>Zar (n:=lv) (p:=spt s.op r) h1);have HS4:=Hd (fun h1=>Zc8 (n:=lv) (p:=spt s.op r) h1);have HS5:=Hd (fun u=>Zas (n:=lv) (p:=spt s.op r) (u:=u));obtain⟨x,hx⟩:=eX ((spt s.op r).1);obtain⟨D,hD⟩:=eX ((spt s.op r).2);rw[←hx]at hin cx HSY HS1 HS3 HS4 HS5;rw[←hD]at hk256 HNOK HNC HRA HONE HRD HLN HSY HS2 HS3 HS4 HS5;obtain⟨kd,hkd⟩:=eX D.kind;obtain⟨L,hL⟩:=eX D.par.late;rw[←hkd]at hk256 HNC HRA HONE HSY HS3 HS4;rw[←hL]at HNC HRA HONE HRD HLN HSY HS5;obtain⟨l8,hl8⟩:=eX L.length;rw[←hl8]at HNC HRA HONE HRD HLN HSY;have HL8:=Hd hl8;have HKD:=Hd hkd;have HLD:=Hd hL;have HXE:=Hd hx;have HDE:=Hd hD;unfold inI at hin;clear hx hD hkd hL hl8 hra hnc hrd hnk;go_wp2_with fail;have hblr:b<wr.heap.size:=dP hbl (by have:=HNE.out;have:=hNlt;omega);refine Bh [eF (.pointer (some ⟨N,2,none⟩)),eF (.slice (some ⟨b,off,none⟩) n oc),eF (.int .i64 (r:Nat)),eF (.pointer (some ⟨b,off+r*11,none⟩)),eF (.pointer (some ⟨b,off+r*11,none⟩)),eF (.int .i64 x),eF (.pointer (some ⟨N,2,none⟩)),eF (.slice (some ⟨b,off,none⟩) n oc),eF (.int .i64 (r:Nat)),eF (.pointer (some ⟨b,off+r*11,none⟩)),eF (.pointer (some ⟨b,off+r*11+1,none⟩)),eF (.agg #[.int .u8 (kd:Nat),x1,x2,x3,x4,x5,x6,x7,x8,.slice b3 l8 e3]),fun v w'=>∃g cs,v=.pointer (some ⟨g,0,none⟩)∧wr.heap.size≤g∧Blk w' g 52 cs∧cs.size=10,eF (.int .i64 x),fun v w'=>∃g,v=.pointer (some ⟨g,0,none⟩)∧wr.heap.size≤g∧Blk w' g 52 #[.int .u8 (kd:Nat),x1,x2,x3,x4,x5,x6,x7,x8,.slice b3 l8 e3]]
       (List.replicate 15 true) (fun X=>Below wr.heap.size wr X) (fun X Y=>(∀g t cs,Blk X g t cs→∃cs2,Blk Y g t cs2∧cs2.size=cs.size)∧Below wr.heap.size X Y) (some 14) (by kernel_rfl) ?_ (⟨rfl,rfl,rfl,lR,fun _ _=>rfl⟩) (fun X Y hx h=>⟨fun g t cs k=>⟨cs,k.below h k.lt,rfl⟩,h.mono hx.size⟩) (fun X Y hx hs=>hx.trans hs.2) (by kernel_rfl) (by kernel_rfl) ?_ ?_
      ·exact kE (kE (kE (kE (kE (kE (kE (kE (kE (kE (kE (kE (Cn (fun v x y h hi hs=>let⟨g,cs,e,hg,k,hc⟩:=h;let⟨cs2,k2,e2⟩:=hs.1 g _ cs k;⟨g,cs2,e,hg,k2,e2.trans hc⟩) (kE (Dk (fun v x y h hi hs=>let⟨g,e,hg,k⟩:=h;⟨g,e,hg,k.below hs k.lt⟩) (Ai)))))))))))))))
      ·refine gPw (by kernel_rfl) ?_ rfl (gPw (by kernel_rfl) ?_ rfl (gPw (by kernel_rfl) ?_ rfl (gPw (by kernel_rfl) ?_ rfl (gPw (by kernel_rfl) ?_ rfl (gPw (by kernel_rfl) ?_ rfl (gPw (by kernel_rfl) ?_ rfl (gPw (by kernel_rfl) ?_ rfl (gPw (by kernel_rfl) ?_ rfl (gPw (by kernel_rfl) ?_ rfl (gPw (by kernel_rfl) ?_ rfl (gOw (by kernel_rfl) ?_ (gOw (by kernel_rfl) ?_ (gPw (by kernel_rfl) ?_ rfl (gOw (by kernel_rfl) ?_ .nil))))))))))))));all_goals
        intro a wx hbx hbq ho hf;have hbx:Below wr.heap.size wr wx:=hbx;refine⟨rfl,?_⟩;intro K hK;try have Pf2:a.tmps[2]?.getD undef=.pointer (some ⟨N,0,none⟩):=ho 2 (by kernel_rfl)
        try have Pf5:a.tmps[5]?.getD undef=.int .i64 (r:Nat):=ho 5 (by kernel_rfl)
        try have Ef0:=eqn hf.1
        try have Ef1:=eqn hf.2.1
        try have Ce0:=(hbx.cell (p:=⟨N,2,none⟩) hNlt).trans c2
        try have Ce1:=(hbx.cell (p:=⟨b,off+r*11,none⟩) hblr).trans cx
        try(refine Hd ?_;go_simp;exact hK _ rfl)
       ·exact wp_load_mid 52 (.tmp 50) rfl b (off+r*11+1) (evs Ef0) _ _ (Af HRA.out hbx hblr) Tryz.underlying52 rfl (Ba) (hK _ _ rfl (Ae rfl bR))
       ·
        go_simp;exact hK _ _ ⟨_,_,rfl,hbx.size,Blk.new _ _ _,rfl⟩ (Ae rfl (bR.alloc lR _))
       ·have o0:∃g cs,(a.tmps[7]?.getD undef)=.pointer (some ⟨g,0,none⟩)∧wr.heap.size≤g∧Blk wx g 52 cs∧cs.size=10:=hf.1;obtain⟨v0,hv0⟩:=eX (a.tmps[7]?.getD undef);rw[←hv0]at o0;have e0:=hv0.symm;clear hv0;obtain⟨g,cs,hv,hg,hblk,hcs⟩:=o0;refine wp_store_row 52 (.tmp 7) (.tmp 51) rfl g #[.int .u8 (kd:Nat),x1,x2,x3,x4,x5,x6,x7,x8,.slice b3 l8 e3] (evs (e0.trans hv)) (evs Ef1) _ cs hblk (by kernel_rfl) (by rw[hcs];rfl) (by rw[←Array.all_toList];exact HONE.out) ?_;refine hK undef _ ⟨g,by first|exact e0.trans hv|exact hv,hg,setRow_heap wx g cs _ _ _ hblk⟩ (Cp rfl ⟨fun g2 t cs2 k2=> ?_,⟨rfl,rfl,rfl,by simp,fun i hi=>setRow_other wx g i _ (by omega)⟩⟩)
        by_cases e:g2=g
        ·subst e;have hkk:=hblk.symm.trans k2;simp only[Option.some.injEq,Obj.cells.injEq]at hkk;obtain⟨rfl,rfl,-⟩:=hkk;exact⟨_,setRow_heap wx g2 cs _ _ _ hblk,hcs.symm⟩
        ·exact⟨cs2,(setRow_other wx g g2 _ e).trans k2,rfl⟩
      ·rintro f w9 hb9 hfin;have hb9:Below wr.heap.size wr w9:=hb9;have S6:f 6=.int .i64 x:=hfin.2.2.2.2.2.2.2.2.2.2.2.2.2.1;have S7:∃g,(f 7)=.pointer (some ⟨g,0,none⟩)∧wr.heap.size≤g∧Blk w9 g 52 #[.int .u8 (kd:Nat),x1,x2,x3,x4,x5,x6,x7,x8,.slice b3 l8 e3]:=hfin.2.2.2.2.2.2.2.2.2.2.2.2.2.2.1;clear hfin;simp only[Al,Au,En,List.filterMap_cons,List.filterMap_nil,List.contains_cons,List.contains_nil,Nat.reduceBEq,Nat.reduceAdd,Bool.or_false,Bool.or_true,cond_true,cond_false];rw[S6];clear S6;obtain⟨qb,hq7,hqB,hblk⟩:=S7;rw[hq7];clear hq7 hqB;have hblr9:=hb9;have HB9:=Hd (HBA.out.trans (hb9.mono HBA.out.size));have HB19:=Hd (HB.out.trans (hb9.mono HB.out.size));have HBQ:=Hd hblk;have HBK9:=Hd (HBK.out.below hb9 HBK.out.lt);have HN9:=Hd (show NodeC w9 D #[.int .u8 (kd:Nat),x1,x2,x3,x4,x5,x6,x7,x8,.slice b3 l8 e3]from HNC.out.below HB9.out lR);clear hb9 hblk hblr9 c0 c2 c3 cx;have c0:=HBK9.out.cell 0;simp only[bN,bO]at c0;have k0:=HBQ.out.cell 0;have k1:=HBQ.out.cell 1;have k2:=HBQ.out.cell 2;have k3:=HBQ.out.cell 3;have k4:=HBQ.out.cell 4;have k5:=HBQ.out.cell 5;have k6:=HBQ.out.cell 6;have k7:=HBQ.out.cell 7;have k8:=HBQ.out.cell 8;have k9:=HBQ.out.cell 9;simp only[bN,bO,bP]at k0 k1 k2 k3 k4 k5 k6 k7 k8 k9;have hlv1:0<lv:=(by have:=HOO.out;omega);have hlv2:lv≤65536:=HLVB.out
       by_cases hx0:0≤x
       ·have hx0':decide (x<0)=false:=decide_eq_false (by omega)
        by_cases hx2:x≤2*lv-2
        ·have hx2':decide (x>2*lv-2)=false:=decide_eq_false (by omega);have HXR:=Hd (show 0≤x∧x≤2*lv-2 from⟨hx0,hx2⟩);have RR:=Wq D _ w9 HN9.out HNOK.out;obtain⟨rb,hrb⟩:=eX (Aw D);rw[←hrb]at RR;have HRI:=Hd RR;have HRBE:=Hd hrb;clear RR hrb;cases rb with
         |false=>
          have HE:=Hd (HSK.out (HS2.out HRBE.out.symm));go_wp2_with fail;refine HRI.out.mono ?_;rintro e w10 ⟨rfl,hb10⟩;have HB10:=Hd (HB9.out.trans (hb10.mono HB9.out.size));clear hb10;go_wp2_with fail;go_ret;exact⟨Ek HE.out,HB10.out⟩
         |true=>
          have HRB:=Hd (show Aw D=true from HRBE.out.symm)
          by_cases hev:x%2=0
          ·have he1:(x%2==0)=true:=(by rw[beq_iff_eq];exact hev);have he2:(eV x 2==0)=true:=(by rw[eW hx0];exact he1);have he3:(x%2==1)=false:=(by rw[beq_eq_false_iff_ne];omega);have he4:(eV x 2==1)=false:=by rw[eW hx0];exact he3
           by_cases hk2:kd=2
           ·have hk2':((kd:Int)==2)=true:=(by rw[beq_iff_eq];omega);have HE:=Hd (HSK.out (HS3.out hev hk2));clear hk2 hev;go_wp2_with fail;refine HRI.out.mono ?_;rintro e w10 ⟨rfl,hb10⟩;clear k0 k1 k2 k3 k4 k5 k6 k7 k8 k9;have HB10:=Hd (HB9.out.trans (hb10.mono HB9.out.size));have q0:=(HBQ.out.below hb10 HBQ.out.lt).cell 0;simp only[bN,bO]at q0;clear hb10;go_wp2_with fail;go_ret;exact⟨Ek HE.out,HB10.out⟩
           ·have hk2':((kd:Int)==2)=false:=(by rw[beq_eq_false_iff_ne];omega);have HEV:=Hd (show¬(x%2=0∧kd=2)from fun h=>hk2 h.2);have HOD:=Hd (show¬(x%2=1∧kd=1)from fun h=>by omega);clear hk2 hev;go_wp2_with fail;refine HRI.out.mono ?_;rintro e w10 ⟨rfl,hb10⟩;have HB10:=Hd (HB9.out.trans (hb10.mono HB9.out.size));have HB110:=Hd (HB19.out.trans (hb10.mono HB19.out.size));have HBQ:=Hd (HBQ.out.below hb10 HBQ.out.lt);have q0:=HBQ.out.cell 0;simp only[bN,bO]at q0;clear hb10 c0 k0 k1 k2 k3 k4 k5 k6 k7 k8 k9;go_wp2_with fail;clear q0;have c9:=HBQ.out.cell 9;simp only[bN,bO,bP]at c9;have HUB:=Hd (Dt (Bn HRB.out));rw[←HLD.out]at HUB;obtain⟨g1,rfl⟩:=eX gk;obtain⟨wo,rfl⟩:∃wo:World,wo=wr:=⟨_,rfl⟩;have hl81:l8≤1000:=HLN.out
            go_loopg [8] l8 (fun q iv W=>∃k:Nat,k+q=l8∧iv=.int .i64 (k:Nat)∧(∀i,i<k→Bl (2*L.getD i 0) x=true)∧Below w10.heap.size w10 W)
            case atStart=>exact⟨0,by omega,rfl,fun i hi=>by omega,bR⟩
            case round=>
             obtain⟨k,hk,rfl,hun,hb⟩:=hrel;have HK:=Hd hk;have HUN:=Hd hun;have HB2:=Hd hb;have HBQ2:=Hd (HBQ.out.below hb HBQ.out.lt);have d9:=HBQ2.out.cell 9;simp only[bN,bO,bP]at d9;have HBA2:=Hd (HB10.out.trans (hb.mono HB10.out.size));clear hk hun hb
             by_cases hkl:k<l8
             ·have hkl':decide (k<l8)=true:=decide_eq_true hkl;have hklI:(k:Int)<(l8:Int):=(by omega);obtain⟨bl,ol,rfl,hbl2,cu⟩:=(HRD.out.below HBA2.out lR).at3 (Bq (show k<L.length by rw[←HL8.out];exact hkl));have hub:=HUB.out (L.getD k 0) (by rw[aH,aI (show k<L.length by rw[←HL8.out];exact hkl)];exact aJ _);have HMEM:=Hd (show L.getD k 0∈L from by rw[aH,aI (show k<L.length by rw[←HL8.out];exact hkl)];exact aJ _);obtain⟨u,hu⟩:=eX (L.getD k 0);rw[←hu]at cu hub HMEM;have HU:=Hd hu;obtain⟨hu0,hu1⟩:=hub;have hw:wrap64 (2*u)=2*u:=(by unfold wrap64;omega);have UN:=Fo (2*u) x;obtain⟨bb,hbb⟩:=eX (Bl (2*u) x);rw[←hbb]at UN;have HUND:=Hd UN;have HBB:=Hd hbb;clear UN hbb hu;cases bb with
              |false=>
               have HE:=Hd (HSK.out (HS5.out u HMEM.out HBB.out.symm));go_wp2_with fail;refine(HUND.out _).mono ?_;rintro e w11 ⟨rfl,hb11⟩;have HB11:=Hd (HBA2.out.trans (hb11.mono HBA2.out.size));clear hb11;go_wp2_with fail;go_ret;exact⟨Ek HE.out,HB11.out⟩
              |true=>
               go_wp2_with fail;refine(HUND.out _).mono ?_;rintro e w11 ⟨rfl,hb11⟩;have HB11:=Hd (HB2.out.trans (hb11.mono HB2.out.size));clear hb11;go_wp2_with fail;go_roundg (gk-1);case measure=>have:=HK.out;omega
               case rel=>
                refine⟨k+1,by have:=HK.out;omega,by go_num,fun i hi=> ?_,HB11.out⟩
                by_cases e:i=k
                ·rw[e,←HU.out];exact HBB.out.symm
                ·exact HUN.out i (by omega)
             ·obtain rfl:k=l8:=(by have:=HK.out;omega);have hkl':decide (k<k)=false:=decide_eq_false hkl;have HSO:=Hd (HSY.out HXR.out HRB.out HEV.out HOD.out HUN.out);have HBE:=Hd (HB110.out.trans (HB2.out.mono HB110.out.size));clear hkl;go_wp2_with fail;go_roundg (g1-1);case measure=>have:=HR.out;omega
              case rel=>
               refine⟨r+1,by have:=HR.out;omega,by go_num,fun i hi=> ?_,HBE.out⟩
               by_cases e:i=r
               ·rw[e];exact HSO.out
               ·exact HALL.out i (by omega)
          ·have hev1:x%2=1:=(by omega);have he1:(x%2==0)=false:=(by rw[beq_eq_false_iff_ne];exact hev);have he2:(eV x 2==0)=false:=(by rw[eW hx0];exact he1);have he3:(x%2==1)=true:=(by rw[beq_iff_eq];exact hev1);have he4:(eV x 2==1)=true:=by rw[eW hx0];exact he3
           by_cases hk2:kd=1
           ·have hk2':((kd:Int)==1)=true:=(by rw[beq_iff_eq];omega);have HE:=Hd (HSK.out (HS4.out hev1 hk2));clear hk2 hev hev1;go_wp2_with fail;refine HRI.out.mono ?_;rintro e w10 ⟨rfl,hb10⟩;clear k0 k1 k2 k3 k4 k5 k6 k7 k8 k9;have HB10:=Hd (HB9.out.trans (hb10.mono HB9.out.size));have q0:=(HBQ.out.below hb10 HBQ.out.lt).cell 0;simp only[bN,bO]at q0;clear hb10;go_wp2_with fail;go_ret;exact⟨Ek HE.out,HB10.out⟩
           ·have hk2':((kd:Int)==1)=false:=(by rw[beq_eq_false_iff_ne];omega);have HEV:=Hd (show¬(x%2=0∧kd=2)from fun h=>hev h.1);have HOD:=Hd (show¬(x%2=1∧kd=1)from fun h=>hk2 h.2);clear hk2 hev hev1;go_wp2_with fail;refine HRI.out.mono ?_;rintro e w10 ⟨rfl,hb10⟩;have HB10:=Hd (HB9.out.trans (hb10.mono HB9.out.size));have HB110:=Hd (HB19.out.trans (hb10.mono HB19.out.size));have HBQ:=Hd (HBQ.out.below hb10 HBQ.out.lt);have q0:=HBQ.out.cell 0;simp only[bN,bO]at q0;clear hb10 c0 k0 k1 k2 k3 k4 k5 k6 k7 k8 k9;go_wp2_with fail;clear q0;have c9:=HBQ.out.cell 9;simp only[bN,bO,bP]at c9;have HUB:=Hd (Dt (Bn HRB.out));rw[←HLD.out]at HUB;obtain⟨g1,rfl⟩:=eX gk;obtain⟨wo,rfl⟩:∃wo:World,wo=wr:=⟨_,rfl⟩;have hl81:l8≤1000:=HLN.out
            go_loopg [8] l8 (fun q iv W=>∃k:Nat,k+q=l8∧iv=.int .i64 (k:Nat)∧(∀i,i<k→Bl (2*L.getD i 0) x=true)∧Below w10.heap.size w10 W)
            case atStart=>exact⟨0,by omega,rfl,fun i hi=>by omega,bR⟩
            case round=>
             obtain⟨k,hk,rfl,hun,hb⟩:=hrel;have HK:=Hd hk;have HUN:=Hd hun;have HB2:=Hd hb;have HBQ2:=Hd (HBQ.out.below hb HBQ.out.lt);have d9:=HBQ2.out.cell 9;simp only[bN,bO,bP]at d9;have HBA2:=Hd (HB10.out.trans (hb.mono HB10.out.size));clear hk hun hb
             by_cases hkl:k<l8
             ·have hkl':decide (k<l8)=true:=decide_eq_true hkl;have hklI:(k:Int)<(l8:Int):=(by omega);obtain⟨bl,ol,rfl,hbl2,cu⟩:=(HRD.out.below HBA2.out lR).at3 (Bq (show k<L.length by rw[←HL8.out];exact hkl));have hub:=HUB.out (L.getD k 0) (by rw[aH,aI (show k<L.length by rw[←HL8.out];exact hkl)];exact aJ _);have HMEM:=Hd (show L.getD k 0∈L from by rw[aH,aI (show k<L.length by rw[←HL8.out];exact hkl)];exact aJ _);obtain⟨u,hu⟩:=eX (L.getD k 0);rw[←hu]at cu hub HMEM;have HU:=Hd hu;obtain⟨hu0,hu1⟩:=hub;have hw:wrap64 (2*u)=2*u:=(by unfold wrap64;omega);have UN:=Fo (2*u) x;obtain⟨bb,hbb⟩:=eX (Bl (2*u) x);rw[←hbb]at UN;have HUND:=Hd UN;have HBB:=Hd hbb;clear UN hbb hu;cases bb with
              |false=>
               have HE:=Hd (HSK.out (HS5.out u HMEM.out HBB.out.symm));go_wp2_with fail;refine(HUND.out _).mono ?_;rintro e w11 ⟨rfl,hb11⟩;have HB11:=Hd (HBA2.out.trans (hb11.mono HBA2.out.size));clear hb11;go_wp2_with fail;go_ret;exact⟨Ek HE.out,HB11.out⟩
              |true=>
               go_wp2_with fail;refine(HUND.out _).mono ?_;rintro e w11 ⟨rfl,hb11⟩;have HB11:=Hd (HB2.out.trans (hb11.mono HB2.out.size));clear hb11;go_wp2_with fail;go_roundg (gk-1);case measure=>have:=HK.out;omega
               case rel=>
                refine⟨k+1,by have:=HK.out;omega,by go_num,fun i hi=> ?_,HB11.out⟩
                by_cases e:i=k
                ·rw[e,←HU.out];exact HBB.out.symm
                ·exact HUN.out i (by omega)
             ·obtain rfl:k=l8:=(by have:=HK.out;omega);have hkl':decide (k<k)=false:=decide_eq_false hkl;have HSO:=Hd (HSY.out HXR.out HRB.out HEV.out HOD.out HUN.out);have HBE:=Hd (HB110.out.trans (HB2.out.mono HB110.out.size));clear hkl;go_wp2_with fail;go_roundg (g1-1);case measure=>have:=HR.out;omega
              case rel=>
               refine⟨r+1,by have:=HR.out;omega,by go_num,fun i hi=> ?_,HBE.out⟩
               by_cases e:i=r
               ·rw[e];exact HSO.out
               ·exact HALL.out i (by omega)
        ·have hx2':decide (x>2*lv-2)=true:=decide_eq_true (by omega);have HE:=Hd (HSK.out (HS1.out fun h=>hx2 h.2));clear hx2;go_wp2_with fail;go_ret;exact⟨Ek HE.out,HB9.out⟩
       ·have hx0':decide (x<0)=true:=decide_eq_true (by omega);have HE:=Hd (HSK.out (HS1.out fun h=>hx0 h.1));clear hx0;go_wp2_with fail;go_ret;exact⟨Ek HE.out,HB9.out⟩
     ·obtain rfl:r=n:=(by have:=HR.out;omega);have hlt':decide (r<r)=false:=decide_eq_false hlt;obtain⟨wo,rfl⟩:∃wo:World,wo=wr:=⟨_,rfl⟩;clear hlt c0 c2 c3;have c2:=HBK.out.cell 2;simp only[bN,bO,bP]at c2;go_wp2_with fail;clear c2
      go_loopg [9] m (fun q iv W=>∃k:Nat,k+q=m∧iv=.int .i64 (k:Nat)∧(∀i,i<k→(stb s.sh i).2.length=32)∧W=wo)
      case atStart=>exact⟨0,by omega,rfl,fun i hi=>by omega,rfl⟩
      case round=>
       obtain⟨k,hk,rfl,hst,rfl⟩:=hrel;have HK:=Hd hk;have HST:=Hd hst;clear hk hst;have c3:=HBK.out.cell 3;simp only[bN,bO,bP]at c3
       by_cases hkm:k<m
       ·have hkm':decide (k<m)=true:=decide_eq_true hkm;have hkmI:(k:Int)<(m:Int):=(by omega);obtain⟨b,off,u,rfl,hbl,hru,hra⟩:=HG2.out k hkm;have cu:=(HBA.out.cell (p:=⟨b,off+k*2+1,none⟩) hbl).trans (Bf (Bv hra));obtain⟨ua,uc,rfl⟩:∃a c,u=.slice a (stb s.sh k).2.length c:=(by obtain⟨a,c,e,_⟩:=hru;exact⟨a,c,by rw[e,bvs_len]⟩);have HSK:=Hd (HRT.out k hkm);obtain⟨ul,hul⟩:=eX ((stb s.sh k).2.length);rw[←hul]at cu HSK;have HUL:=Hd hul;clear hul hru hra
        by_cases h32:ul=32
        ·have h32':((ul:Int) !=32)=false:=(by simp;omega);have H32:=Hd h32;clear h32;go_wp2_with fail;go_roundg (gk-1);case measure=>have:=HK.out;omega
         case rel=>
          refine⟨k+1,by have:=HK.out;omega,by go_num,fun i hi=> ?_,rfl⟩
          by_cases e:i=k
          ·rw[e,←HUL.out];exact H32.out
          ·exact HST.out i (by omega)
        ·have h32':((ul:Int) !=32)=true:=(by simp;omega);have HE:=Hd (HSK.out h32);clear h32;go_wp2_with fail;go_ret;exact⟨Ek HE.out,HBA.out⟩
       ·obtain rfl:k=m:=(by have:=HK.out;omega);have hkm':decide (k<k)=false:=decide_eq_false hkm;obtain⟨d,hd,hlv⟩:∃d,d≤16∧lv=((2^d:Nat):Int):=by
         obtain⟨d,hd,e⟩:=(fits_iff _).1 HFTE.out.symm;exact⟨d,hd,by have:=HOO.out;omega⟩
        obtain⟨i,rfl⟩:∃i:Nat,ow=(i:Int):=⟨ow.toNat,by have:=HOO.out.1;omega⟩;have hi:2*i+1<2^(d+1):=(by have:=HOO.out.2;rw[aN];omega);have hib:i≤65536:=(by have:=HOO.out.2;have:=HLVB.out;omega);have SK:It s.op:=by
         intro p hp;obtain⟨j,hj,rfl⟩:=eB hp;have hj':j<r:=(by rw[HN.out];exact hj);have h1:=Kc (HALL.out j hj');have h2:=HLL.out j hj';have h3:=HNK.out j hj';rw[Hs hj]at h1 h2 h3;exact⟨h3.2.kind,h2,Dt (Bn h1.2.1)⟩
        have RST:=HRR.out HFTE.out.symm HOO.out HALL.out HST.out;rw[hlv,dD,fL,dD]at RST;have OPS:=fun(W:World) (hw:Below w.heap.size w W)=>Mf s.op d i only _ W hd hi (HSPO.out.below hw lR) SK;rw[←HN.out,←hlv]at OPS;have FND:=fun(W:World) (hw:Below w.heap.size w W)=>Bx _ s.op (2*(i:Int)) W (HSPO.out.below hw lR);rw[←HN.out]at FND;unfold Pn at RST;rw[←HOWE.out]at RST;obtain⟨OK,hOK⟩:=eX (Ah s.op (2*(i:Int)));rw[←hOK]at FND RST;obtain⟨OD,hOD⟩:=eX (OK.getD Ar);rw[←hOD]at FND RST;simp only[Ka]at RST;obtain⟨O1,hO1⟩:=eX (Du (Ac (Ah s.op) d i only d));obtain⟨O2,hO2⟩:=eX (Du (Cv (Ac (Ah s.op) d i only d)));obtain⟨O3,hO3⟩:=eX (Bm (Ah s.op) d i only d);simp only[←hO1,←hO2,←hO3]at OPS RST;have KK:OD.kind<256:=by
         rw[hOD,hOK];cases hf:Ah s.op (2*(i:Int))with
         |none=>decide
         |some D=>exact(SK _ (Bu hf)).1
        have HRST:=Hd RST;have HOPS:=Hd OPS;have HFND:=Hd FND;have HWN:=Hd (show Below w.heap.size w wr from HBA.out);have HPLS:=Hd HPL.out;have hwi:wrap64 (2*(i:Int))=2*(i:Int):=(by unfold wrap64;omega);clear hkm RST OPS FND hOK hOD hO1 hO2 hO3 SK hlv hi hd;have c1:=HBK.out.cell 1;have c2:=HBK.out.cell 2;have c0:=HBK.out.cell 0;simp only[bN,bO,bP]at c0 c1 c2;go_wp2_with fail;refine(HFND.out _ HWN.out).mono ?_;rintro e w5 ⟨cc,rfl,hnc5,hb5⟩;have HONE5:=Hd hnc5.oneL;obtain⟨x1,x2,x3,x4,x5,x6,x7,x8,b3,e3,rfl,-⟩:=hnc5.frame;obtain⟨kd,hkd⟩:=eX OD.kind;obtain⟨l8,hl8⟩:=eX OD.par.late.length;rw[←hkd]at KK HONE5⊢;rw[←hl8]at HONE5⊢;have HKD:=Hd hkd;have HW5:=Hd (HWN.out.trans (hb5.mono HWN.out.size));have HBK5:=Hd (HBK.out.below hb5 HBK.out.lt);clear hnc5 hb5 hkd hl8 c0 c1 c2 c3;obtain⟨q5,hq5⟩:=eX w5.heap.size;have HQ5:=Hd hq5;have HQK5:=Hd (show Blk (w5.alloc (.cells #[.int .u8 0,.slice none 0 0,.slice none 0 0,.slice none 0 0,.int .u8 0,.slice none 0 0,.slice none 0 0,.slice none 0 0,.slice none 0 0,.slice none 0 0] 52)) q5 52 #[.int .u8 0,.slice none 0 0,.slice none 0 0,.slice none 0 0,.int .u8 0,.slice none 0 0,.slice none 0 0,.slice none 0 0,.slice none 0 0,.slice none 0 0] by rw[hq5];exact Blk.new _ _ _);clear hq5;go_wp2_with (refine Ab rfl 52 (.tmp 10) (.tmp 127) rfl w5.heap.size #[.int .u8 (kd:Nat),x1,x2,x3,x4,x5,x6,x7,x8,.slice b3 l8 e3] rfl rfl 52 #[.int .u8 0,.slice none 0 0,.slice none 0 0,.slice none 0 0,.int .u8 0,.slice none 0 0,.slice none 0 0,.slice none 0 0,.slice none 0 0,.slice none 0 0] (HQ5.out▸HQK5.out) (by kernel_rfl) rfl HONE5.out ?_);rintro w6 hblk hbl hoth hsize;rw[←HQ5.out]at hblk⊢;have hb56:=((Below.refl w5.heap.size w5).alloc lR (.cells #[.int .u8 0,.slice none 0 0,.slice none 0 0,.slice none 0 0,.int .u8 0,.slice none 0 0,.slice none 0 0,.slice none 0 0,.slice none 0 0,.slice none 0 0] 52)).trans (hbl w5.heap.size lR);have HQ6:=Hd hblk;have HW6:=Hd (HW5.out.trans (hb56.mono HW5.out.size));have HBK6:=Hd (HBK5.out.below hb56 HBK5.out.lt);clear hblk hbl hoth hsize hb56;have c1:=HBK6.out.cell 1;have c2:=HBK6.out.cell 2;have c0:=HBK6.out.cell 0;simp only[bN,bO,bP]at c0 c1 c2;go_wp2_with fail;refine(HOPS.out _ HW6.out).mono ?_;rintro e w7 ⟨v1,v2,rfl,hv1,hv2,hb7⟩;have HW7:=Hd (HW6.out.trans (hb7.mono HW6.out.size));have HQ7:=Hd (HQ6.out.below hb7 HQ6.out.lt);have HBK7:=Hd (HBK6.out.below hb7 HBK6.out.lt);have HV1:=Hd hv1.rd;have HV2:=Hd hv2.rd;obtain⟨s1,s2,s3,rfl⟩:=Dp hv1;obtain⟨t1,t2,t3,rfl⟩:=Dp hv2;clear hv1 hv2 hb7 c0 c1 c2;have c0:=HBK7.out.cell 0;have c1:=HBK7.out.cell 1;have c2:=HBK7.out.cell 2;have c3:=HBK7.out.cell 3;simp only[bN,bO,bP]at c0 c1 c2 c3;go_wp2_with fail;refine(HPLS.out _ HW7.out).mono ?_;rintro e w8 ⟨a1,a2,rfl,ha1,ha2,hb8⟩;have HW8:=Hd (HW7.out.trans (hb8.mono HW7.out.size));have HV18:=Hd (HV1.out.below hb8 lR);have HV28:=Hd (HV2.out.below hb8 lR);have HA1:=Hd ha1.rd;have HA2:=Hd ha2.rd;have k0:=(HQ7.out.below hb8 HQ7.out.lt).cell 0;simp only[bN,bO]at k0;obtain⟨m1,m2,m3,rfl⟩:=Dp ha1;obtain⟨n1,n2,n3,rfl⟩:=Dp ha2;clear ha1 ha2 hb8
        by_cases hk1:kd=1
        ·have hk1':((kd:Int)==1)=true:=(by rw[beq_iff_eq];omega);have HD1:=Hd (show decide (OD.kind=1)=true from decide_eq_true (by rw[←HKD.out];exact hk1));clear hk1;cases O3 with
         |false=>
          go_wp2_with fail;go_ret;exact⟨Ek (by rw[HRST.out];simp),HW8.out⟩
         |true=>
          have SA:=fun W (h1:Rd W (.slice m1 m2 m3) (ivs .i64 (s.op.map (·.1)))) (h2:Rd W (.slice s1 s2 s3) (ivs .i64 O1))=>Ld _ _ _ _ W h1 h2;obtain⟨b1,hb1⟩:=eX (decide (s.op.map (·.1)=O1));rw[←hb1]at SA;have HSA:=Hd SA;have HB1:=Hd hb1;clear SA hb1;cases b1 with
          |false=>
           go_wp2_with fail;refine(HSA.out _ HA1.out HV18.out).mono ?_;rintro e w9 ⟨rfl,n9,rfl⟩;go_wp2_with fail;go_ret;exact⟨Ek (by rw[HRST.out,←HB1.out];simp),Aa HW8.out _⟩
          |true=>
           have SB:=fun W (h1:Rd W (.slice n1 n2 n3) (ivs .i64 (s.sh.map (·.1)))) (h2:Rd W (.slice t1 t2 t3) (ivs .i64 O2))=>Ld _ _ _ _ W h1 h2;obtain⟨b2,hb2⟩:=eX (decide (s.sh.map (·.1)=O2));rw[←hb2]at SB;have HSB:=Hd SB;have HB2:=Hd hb2;clear SB hb2;go_wp2_with fail;refine(HSA.out _ HA1.out HV18.out).mono ?_;rintro e w9 ⟨rfl,n9,rfl⟩;go_wp2_with fail;refine(HSB.out _ (HA2.out.drewN n9) (HV28.out.drewN n9)).mono ?_;rintro e w10 ⟨rfl,n10,rfl⟩;go_wp2_with fail;go_ret;exact⟨Ek (by rw[HRST.out,←HB1.out,←HB2.out,HD1.out];simp),Aa HW8.out _⟩
        ·have hk1':((kd:Int)==1)=false:=(by rw[beq_eq_false_iff_ne];omega);have HD1:=Hd (show decide (OD.kind=1)=false from decide_eq_false (by rw[←HKD.out];exact hk1));clear hk1;go_wp2_with fail;go_ret;exact⟨Ek (by rw[HRST.out,HD1.out];simp),HW8.out⟩
   ·have ho2':decide (ow≥lv)=true:=decide_eq_true (by omega);have HE:=Hd (HRO.out fun h=>ho2 h.2);clear ho1 ho2;go_wp2_with fail;refine HFT.out.mono ?_;rintro e w2 ⟨rfl,rfl⟩;go_wp2_with fail;go_ret;exact⟨Ek HE.out,HB0.out⟩
  ·have ho1':decide (ow<0)=true:=decide_eq_true (by omega);have HE:=Hd (HRO.out fun h=>ho1 h.1);clear ho1;go_wp2_with fail;refine HFT.out.mono ?_;rintro e w2 ⟨rfl,rfl⟩;go_wp2_with fail;go_ret;exact⟨Ek HE.out,HB0.out⟩
theorem Kd (v:Value)(s:SparseD)(w:World)(h:SparseR w v s)(hok:SparseOk s)(h1:s.op.length≤10000)(h2:s.sh.length≤10000)(hl60:∀p∈s.op,p.2.par.late.length≤1000):
  Calls Tryz.prog 18 #[v] w fun e w'=>e=.returned (.bool (Aj s false))∧Below w.heap.size w w':=by
 have HR:=Hd fun(W:World) (hw:Below w.heap.size w W)=>To v s false W (h.below hw lR) hok h1 h2 hl60;obtain⟨o,g,rfl,-,-⟩:=h;obtain⟨RES,hRES⟩:=eX (Aj s false);rw[←hRES]at HR⊢;clear hRES h1 h2 hl60 hok;go_enter Tryz.func18,Tryz.ntmps18;go_wp2_with fail;have hba:=(Below.refl w.heap.size w).alloc lR (.cells #[.int .i64 s.leaves,.int .i64 s.own,o,g] 25);refine(HR.out _ hba).mono ?_;rintro e w1 ⟨rfl,hb⟩;go_wp2_with fail;go_ret;exact⟨rfl,hba.trans (hb.mono hba.size)⟩
end Go.Proofs.YtfofaiommeckbaaGreat
