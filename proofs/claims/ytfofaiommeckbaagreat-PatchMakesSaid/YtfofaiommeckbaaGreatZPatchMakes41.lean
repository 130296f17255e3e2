/- Walks: the document's Bytes and Hash of a right sparse tree. -/
import Derived.Test.YtfofaiommeckbaaGreatZPatchMakesB
import Derived.Test.YtfofaiommeckbaaGreatZPatchMakes35
open List renaming getElem?_toArray → bN, getElem?_cons_zero → bO, getElem?_cons_succ → bP
set_option linter.unusedVariables false
set_option maxRecDepth 100000
set_option maxHeartbeats 40000000
namespace Go.Proofs.YtfofaiommeckbaaGreat
open Go.RowKit Go.Maps WalkM ShaM WireM
end Go.Proofs.YtfofaiommeckbaaGreat
namespace Go.Proofs.YtfofaiommeckbaaGreat
open Go.RowKit WalkM ShaM WireM
theorem Sd (l:List (Int×NodeD))(h:List (Int×List Nat))(x lv ow:Int)(o v:Value)(w:World)(ho:SpotsR w o l)(hst:StubsR w v h)(hF:Ah l x=none):
  Calls Tryz.prog 105 #[.agg #[.int .i64 lv,.int .i64 ow,o,v],.int .i64 x] w fun e w'=>∃u,e=.returned u∧Rd w' u (bvs ((Ap h x).getD []))∧Below w.heap.size w w':=by
 have FIND:=fun(W:World) (hw:Below w.heap.size w W)=>Bx o l x W (ho.below hw lR);have STUB:=fun(W:World) (hw:Below w.heap.size w W)=>Nv lv ow o v h x W (hst.below hw lR);rw[hF]at FIND;have HSTUB:=Hd STUB;clear STUB;obtain⟨p,hp⟩:=eX w.heap.size;have HP:=Hd hp;have HF:=Hd (FIND _ ((Below.refl w.heap.size w).alloc lR (.cells #[.int .i64 lv,.int .i64 ow,o,v] 25)));have HBR:=Hd (show Blk (w.alloc (.cells #[.int .i64 lv,.int .i64 ow,o,v] 25)) w.heap.size 25 #[.int .i64 lv,.int .i64 ow,o,v]from Blk.new _ _ _);have HB1:=Hd ((Below.refl w.heap.size w).alloc lR (.cells #[.int .i64 lv,.int .i64 ow,o,v] 25));have p2:=(HBR.out).cell 2;simp only[bN,bO,bP]at p2;clear FIND hp ho hst hF;go_enter Tryz.func105,Tryz.ntmps105;go_wp2_with fail;refine HF.out.mono ?_;rintro e w2 ⟨c,rfl,hnc,hb2⟩;have HONE:=Hd hnc.oneL;obtain⟨c0,c1,c2,c3,c4,c5,c6,c7,c8,c9,rfl⟩:=hnc.ten;have HNC:=Hd hnc;have HR2:=Hd (HBR.out.below hb2 HBR.out.lt);have HB2:=Hd (HB1.out.trans (hb2.mono HB1.out.size));rw[←HP.out]at HR2⊢;obtain⟨q,hq⟩:=eX w2.heap.size;have HQ:=Hd hq;clear hnc hb2 p2 hq;go_wp2_with (refine Ab rfl 52 (.tmp 5) (.tmp 12) rfl w2.heap.size #[c0,c1,c2,c3,c4,c5,c6,c7,c8,c9] rfl rfl 52 #[.int .u8 0,.slice none 0 0,.slice none 0 0,.slice none 0 0,.int .u8 0,.slice none 0 0,.slice none 0 0,.slice none 0 0,.slice none 0 0,.slice none 0 0] (Blk.new _ _ _) (by kernel_rfl) rfl HONE.out ?_);rintro w3 hblk hbl hoth hsize;have HB3:=Hd ((HB2.out.alloc HB2.out.size (.cells #[.int .u8 0,.slice none 0 0,.slice none 0 0,.slice none 0 0,.int .u8 0,.slice none 0 0,.slice none 0 0,.slice none 0 0,.slice none 0 0,.slice none 0 0] 52)).trans ((hbl w2.heap.size lR).mono HB2.out.size));have HB23:=Hd (((Below.refl w2.heap.size w2).alloc lR (.cells #[.int .u8 0,.slice none 0 0,.slice none 0 0,.slice none 0 0,.int .u8 0,.slice none 0 0,.slice none 0 0,.slice none 0 0,.slice none 0 0,.slice none 0 0] 52)).trans (hbl w2.heap.size lR));have HR3:=Hd (HR2.out.below HB23.out HR2.out.lt);have HN3:=Hd (HNC.out.below HB23.out lR);rw[←HQ.out]at hblk⊢;have HK3:=Hd hblk;clear hblk hbl hoth hsize;have k0:=HR3.out.cell 0;have k1:=HR3.out.cell 1;have k2:=HR3.out.cell 2;have k3:=HR3.out.cell 3;simp only[bN,bO,bP]at k0 k1 k2 k3;go_wp2_with fail;refine(HSTUB.out _ HB3.out).mono ?_;rintro e w4 ⟨u,rfl,hru,hb4⟩;have HRU:=Hd hru;have HB4:=Hd (HB3.out.trans (hb4.mono HB3.out.size));clear hru hb4;go_wp2_with fail;go_ret;exact⟨_,rfl,HRU.out,HB4.out⟩
theorem Xt {s:SparseD} {only:Bool}(hr:Aj s only=true)(hok:SparseOk s)(hs:Bg s=true)(x lv ow:Int)(o v:Value)(w:World)(ho:SpotsR w o s.op)(hst:StubsR w v s.sh):
  Calls Tryz.prog 105 #[.agg #[.int .i64 lv,.int .i64 ow,o,v],.int .i64 x] w fun e w'=>∃u,e=.returned u∧Rd w' u (bvs (Ke s x))∧Below w.heap.size w w':=by
 unfold Ke;cases hF:Ah s.op x with
 |none=>exact Sd s.op s.sh x lv ow o v w ho hst hF
 |some d=>
  obtain⟨n,rfl,hn⟩:=Xp hr hF;rw[if_pos (show(some d).isSome=true from rfl),Int.toNat_natCast];exact Xq s.op s.sh (Gh hr hok hs).1 (lev n) n lv ow o v w (lev_is hn) (Zfs hn) ho hst
def Zft (h:List (Int×List Nat))(x:Int)(r:Nat):Bool:=(h.take r).any fun p=>p.1==x
theorem Zbm (h:List (Int×List Nat))(x:Int):Zft h x 0=false:=rfl
theorem Zbn {h:List (Int×List Nat)} {x:Int} {r:Nat}(hr:r<h.length):Zft h x (r+1)=(Zft h x r||((stb h r).1==x)):=by
 unfold Zft;rw[List.take_succ_eq_append_getElem hr,List.any_append,Ht hr];simp
theorem Zdp (h:List (Int×List Nat))(x:Int):Zft h x h.length=(Ap h x).isSome:=by
 rw[Bool.eq_iff_iff,←Fv,Zft,List.take_length,List.any_eq_true,List.mem_map];constructor
 ·rintro⟨p,hp,e⟩;exact⟨p,hp,by simpa using e⟩
 ·rintro⟨p,hp,e⟩;exact⟨p,hp,by simpa using e⟩
theorem Mp (s:SparseD)(x lv ow:Int)(o v:Value)(hr:Aj s false=true)(hok:SparseOk s)(hs:Bg s=true)(w:World)(ho:SpotsR w o s.op)(hst:StubsR w v s.sh):
  Calls Tryz.prog 116 #[.agg #[.int .i64 lv,.int .i64 ow,o,v],.int .i64 x] w fun e w'=>∃u,e=.returned (.tuple #[u,.bool (Fe s x)])∧Rd w' u (bvs (bif Fe s x then Ke s x else []))∧Below w.heap.size w w':=by
 have FIND:=fun(W:World) (hw:Below w.heap.size w W)=>Bx o s.op x W (ho.below hw lR);have RH:=fun(W:World) (hw:Below w.heap.size w W)=>Xt hr hok hs x lv ow o v W (ho.below hw lR) (hst.below hw lR);obtain⟨a,cp,rfl,hc,hc2⟩:=hst.sl;have G:=fun(W:World) (hw:Below w.heap.size w W) (i:Nat) (hi:i<s.sh.length)=>(hst.below hw lR).at hi;have A1:=fun(r:Nat) (hr:r<s.sh.length)=>Zbn (x:=x) hr;have A2:=Zdp s.sh x;have A0:=Zbm s.sh x;unfold Fe;obtain⟨A,hA⟩:=eX (Zft s.sh x);rw[←hA]at A0;simp only[←hA]at A1 A2;obtain⟨R,hR⟩:=eX (Ah s.op x);rw[←hR]at FIND⊢;rw[←A2];obtain⟨n,hn⟩:=eX s.sh.length;rw[←hn]at G A1 hc⊢;simp only[←hn]at RH;obtain⟨S,hS⟩:∃S:Nat→Int×List Nat,S=stb s.sh:=⟨_,rfl⟩;rw[←hS]at G;simp only[←hS]at A1;obtain⟨L,hL⟩:=eX (Ke s x);rw[←hL]at RH⊢;have HRH:=Hd RH;have HG:=Hd G;have HA1:=Hd A1;clear RH G A1 A2 hA hR hn hS hL ho hst hr hok hs;obtain⟨is,his⟩:=eX R.isSome;rw[←his]at FIND⊢;clear his;obtain⟨p,hp⟩:=eX w.heap.size;have HP:=Hd hp;have HF:=Hd (FIND _ ((Below.refl w.heap.size w).alloc lR (.cells #[.int .i64 lv,.int .i64 ow,o,.slice a n cp] 25)));have HBR:=Hd (show Blk (w.alloc (.cells #[.int .i64 lv,.int .i64 ow,o,.slice a n cp] 25)) w.heap.size 25 #[.int .i64 lv,.int .i64 ow,o,.slice a n cp]from Blk.new _ _ _);have HB1:=Hd ((Below.refl w.heap.size w).alloc lR (.cells #[.int .i64 lv,.int .i64 ow,o,.slice a n cp] 25));have p2:=(HBR.out).cell 2;simp only[bN,bO,bP]at p2;clear FIND hp;go_enter Tryz.func116,Tryz.ntmps116;go_wp2_with fail;refine HF.out.mono ?_;rintro e w2 ⟨c,rfl,hnc,hb2⟩;have HONE:=Hd hnc.oneL;obtain⟨c0,c1,c2,c3,c4,c5,c6,c7,c8,c9,rfl⟩:=hnc.ten;have HNC:=Hd hnc;have HR2:=Hd (HBR.out.below hb2 HBR.out.lt);have HB2:=Hd (HB1.out.trans (hb2.mono HB1.out.size));rw[←HP.out]at HR2⊢;obtain⟨q,hq⟩:=eX w2.heap.size;have HQ:=Hd hq;clear hnc hb2 p2 hq;go_wp2_with (refine Ab rfl 52 (.tmp 6) (.tmp 15) rfl w2.heap.size #[c0,c1,c2,c3,c4,c5,c6,c7,c8,c9] rfl rfl 52 #[.int .u8 0,.slice none 0 0,.slice none 0 0,.slice none 0 0,.int .u8 0,.slice none 0 0,.slice none 0 0,.slice none 0 0,.slice none 0 0,.slice none 0 0] (Blk.new _ _ _) (by kernel_rfl) rfl HONE.out ?_);rintro w3 hblk hbl hoth hsize;have HB3:=Hd ((HB2.out.alloc HB2.out.size (.cells #[.int .u8 0,.slice none 0 0,.slice none 0 0,.slice none 0 0,.int .u8 0,.slice none 0 0,.slice none 0 0,.slice none 0 0,.slice none 0 0,.slice none 0 0] 52)).trans ((hbl w2.heap.size lR).mono HB2.out.size));have HB23:=Hd (((Below.refl w2.heap.size w2).alloc lR (.cells #[.int .u8 0,.slice none 0 0,.slice none 0 0,.slice none 0 0,.int .u8 0,.slice none 0 0,.slice none 0 0,.slice none 0 0,.slice none 0 0,.slice none 0 0] 52)).trans (hbl w2.heap.size lR));have HR3:=Hd (HR2.out.below HB23.out HR2.out.lt);have HN3:=Hd (HNC.out.below HB23.out lR);rw[←HQ.out]at hblk⊢;have HK3:=Hd hblk;clear hblk hbl hoth hsize;have k0:=HR3.out.cell 0;have k1:=HR3.out.cell 1;have k2:=HR3.out.cell 2;have k3:=HR3.out.cell 3;simp only[bN,bO,bP]at k0 k1 k2 k3;have HA0:=Hd A0;clear A0;go_wp2_with fail
 go_loopg [8,9] n (fun q bv iv wr=>∃r:Nat,r+q=n∧bv=.bool (A r)∧iv=.int .i64 (r:Nat)∧wr=w3)
 case atStart=>exact⟨0,by omega,by rw[HA0.out],rfl,rfl⟩
 case round=>
  obtain⟨r,hr,rfl,rfl,rfl⟩:=hrel;have HR:=Hd hr
  by_cases hlt:r<n
  ·have hlt':decide (r<n)=true:=decide_eq_true hlt;have hltI:(r:Int)<(n:Int):=(by omega);obtain⟨b,off,u,rfl,hbl,hru,hra⟩:=HG.out wr HB3.out r hlt;have hcell:=Bf hra;have hcell2:=Bv hra 0 u rfl;have hS:=HA1.out r hlt;obtain⟨y,hy⟩:=eX ((S r).1);rw[←hy]at hcell hS;have HS:=Hd hS;clear hy hra hru hS hr;cases hAr:A r with
   |true=>
    have HAR:=Hd hAr;clear hAr;go_wp2_with fail;go_roundg (gk-1);case measure=>have:=HR.out;omega
    case rel=>exact⟨r+1,by have:=HR.out;omega,by rw[HS.out,HAR.out];rfl,by go_num,rfl⟩
   |false=>
    have HAR:=Hd hAr;clear hAr;obtain⟨z,hz⟩:=eX ((y==x));have hz2:=hz.symm;have HZ:=Hd hz;clear hz;go_wp2_with fail;go_roundg (gk-1);case measure=>have:=HR.out;omega
    case rel=>exact⟨r+1,by have:=HR.out;omega,by rw[HS.out,HAR.out,←HZ.out];rfl,by go_num,rfl⟩
  ·obtain rfl:r=n:=(by have:=HR.out;omega);have hlt':decide (r<r)=false:=decide_eq_false hlt;clear hr;cases hAr:A r with
   |true=>
    cases is;all_goals
     go_wp2_with fail;refine(HRH.out _ HB3.out).mono ?_;rintro e w4 ⟨u,rfl,hru,hb4⟩;have HRU:=Hd hru;have HB4:=Hd (HB3.out.trans (hb4.mono HB3.out.size));clear hru hb4;go_wp2_with fail;go_ret2;rw[hAr];exact⟨_,rfl,HRU.out,HB4.out⟩
   |false=>
    cases is with
    |true=>
     go_wp2_with fail;refine(HRH.out _ HB3.out).mono ?_;rintro e w4 ⟨u,rfl,hru,hb4⟩;have HRU:=Hd hru;have HB4:=Hd (HB3.out.trans (hb4.mono HB3.out.size));clear hru hb4;go_wp2_with fail;go_ret2;rw[hAr];exact⟨_,rfl,HRU.out,HB4.out⟩
    |false=>
     go_wp2_with fail;go_ret2;rw[hAr];exact⟨_,rfl,(Own.nil _ 0 5).rd,HB3.out⟩
end Go.Proofs.YtfofaiommeckbaaGreat
