/- Walks: sha.words. -/
import Derived.Test.YtfofaiommeckbaaGreatZSliceReadsB
import Derived.Test.YtfofaiommeckbaaGreatZSliceReads17
import Derived.Test.YtfofaiommeckbaaGreatZSliceReads14
import Derived.BigRegion
open List renaming getD_eq_getElem?_getD → aH, replicate → cS
open Nat renaming shiftLeft_add_eq_or_of_lt → cT, shiftLeft_eq → cU
open Int renaming natCast_mul → cV, natCast_add → cW
set_option linter.unusedVariables false
set_option maxRecDepth 100000
set_option maxHeartbeats 40000000
namespace Go.Proofs.YtfofaiommeckbaaGreat
open Go.RowKit ShaM
def Zek (L:List Nat):List Value:=L.map fun(n:Nat)=> .int .u32 (n:Int)
def Gu (L:List Nat):Array Value:=(Zek L).toArray
theorem Ze9 (L:List Nat):(Zek L).length=L.length:=by simp[Zek]
theorem Bm (L:List Nat):(Gu L).size=L.length:=by simp[Gu,Zek]
theorem Ei {L:List Nat} {i:Nat}(h:i<L.length):(Gu L)[i]? =some (.int .u32 ((L.getD i 0:Nat):Int)):=by
 simp[Gu,Zek,aH,h]
theorem Jj (L:List Nat)(i n:Nat):(Gu L).setIfInBounds i (.int .u32 (n:Int))=Gu (L.set i n):=by
 simp[Gu,Zek]
theorem Fe (L:List Nat):(Gu L).all (·.oneCell')=true:=by
 rw[Array.all_eq_true_iff_forall_mem];intro x hx;simp only[Gu,Zek,List.mem_toArray,List.mem_map]at hx;obtain⟨n,_,rfl⟩:=hx
 rfl
def Z64:Array Value:=Gu (cS 64 0)
def wP (B:List Nat)(t:Nat):List Nat:=wL B t++cS (64-t) 0
theorem Zh5 (B:List Nat):Gu (wP B 0)=Z64:=by rw[wP,wL,List.nil_append,Nat.sub_zero,Z64]
theorem Si (B:List Nat) {t:Nat}(h:t≤64):(wP B t).length=64:=by simp[wP,wL_len];omega
theorem Zjn (B:List Nat) {t i:Nat}(h:i<t):(wP B t).getD i 0=(wL B t).getD i 0:=by
 rw[wP,aH,List.getElem?_append_left (by rw[wL_len];exact h),aH]
theorem Zbf (B:List Nat) {t:Nat}(h:t<64):(wP B t).set t (wNext B (wL B t) t)=wP B (t+1):=by
 rw[wP,wP,wL,show 64-t=(64-(t+1))+1 by omega,List.replicate_succ,List.set_append_right _ _ (by rw[wL_len];omega),wL_len];simp
theorem Zhd {w:World} {a:Option Addr} {n c:Nat} {B:List Nat}(h:Rd w (.slice a n c) (bvs B)) {i:Nat}(hi:i<B.length):∃b off,a=some ⟨b,off,none⟩∧b<w.heap.size∧w.cell? ⟨b,off+i,none⟩=some (.int .u8 ((B.getD i 0:Nat):Int)):=
 h.at3 (Wd hi)
theorem Zks (a b c d:Nat)(ha:a<256)(hb:b<256)(hc:c<256)(hd:d<256):
  bits .or .u32 (bits .or .u32 (bits .or .u32 ((a:Int)*16777216) ((b:Int)*65536)) ((c:Int)*256)) (d:Int)=((((a*256+b)*256+c)*256+d:Nat):Int):=by
 have h1:a*16777216|||b*65536=a*16777216+b*65536:=by
  have h:=cT (a:=a) (b:=b*65536) (i:=24) (by omega);rw[cU]at h;exact h.symm
 have h2:(a*16777216+b*65536)|||c*256=a*16777216+b*65536+c*256:=by
  have h:=cT (a:=a*256+b) (b:=c*256) (i:=16) (by omega);rw[cU,show(a*256+b)*2^16=a*16777216+b*65536 by rw[Nat.add_mul,Nat.mul_assoc]]at h;exact h.symm
 have h3:(a*16777216+b*65536+c*256)|||d=a*16777216+b*65536+c*256+d:=by
  have h:=cT (a:=(a*256+b)*256+c) (b:=d) (i:=8) (by omega);rw[cU,show((a*256+b)*256+c)*2^8=a*16777216+b*65536+c*256 by omega]at h;exact h.symm
 rw[show(a:Int)*16777216=((a*16777216:Nat):Int)from(cV a 16777216).symm,show(b:Int)*65536=((b*65536:Nat):Int)from(cV b 65536).symm,show(c:Int)*256=((c*256:Nat):Int)from(cV c 256).symm,
  Zki _ _ (by omega) (by omega),h1,Zki _ _ (by omega) (by omega),h2,Zki _ _ (by omega) (by omega),h3]
 omega
theorem Wt (L:List Nat)(h:L.length=64):(Tryz.prog.info? 272).map (·.size)=some (Gu L).size:=by
 rw[Bm,h]
 kernel_rfl
theorem Zbg (v:Value)(B:List Nat)(w:World)(h:Rd w v (bvs B))(hB:∀x∈B,x<256)(hl:B.length=64):
  Calls Tryz.prog 271 #[v] w fun e w'=>e=.returned (.agg (Gu (wL B 64)))∧Below w.heap.size w w':=by
 have hz:∀w,(zeroValue 272).run Tryz.prog w=.ok (.agg Z64) w:=fun _=>(by kernel_rfl);have hzs:Z64.size=64:=(by unfold Z64;rw[Bm,List.length_replicate]);have hv:∃a c,v=.slice a 64 c:=(by obtain⟨a,c,e,_⟩:=h;exact⟨a,c,by rw[e,bvs_len,hl]⟩);obtain⟨a,c,rfl⟩:=hv;have HR:=Hd h;have HLN:=Hd hl;have HBB:=Hd hB;obtain⟨b,off,rfl,hbl,_⟩:=Zhd h (i:=0) (by omega);have BC:=fun(i:Nat) (hi:i<64)=>(by
  obtain⟨b',off',e,_,hc⟩:=Zhd h (i:=i) (by omega);simp only[Option.some.injEq,Addr.mk.injEq,and_true]at e;obtain⟨rfl,rfl⟩:=e;exact hc:w.cell? ⟨b,off+i,none⟩=some (.int .u8 ((B.getD i 0:Nat):Int)))
 have HBC:=Hd BC;clear BC h hl hB;go_enter Tryz.func271,Tryz.ntmps271;go_wp2_with fail
 go_loopg [10] 16 (fun q iv wr=>∃t:Nat,t+q=16∧iv=.int .i64 (t:Nat)∧Blk wr w.heap.size 272 Z64∧Blk wr (w.heap.size+1) 272 (Gu (wP B t))∧Below w.heap.size w wr)
 case atStart=>exact⟨0,rfl,rfl,(Blk.new w _ _).alloc _,by rw[Zh5];have:=Blk.new (w.alloc (.cells Z64 272)) 272 Z64;simpa using this,(bR.alloc lR _).alloc (by simp) _⟩
 case round=>
  obtain⟨t,ht,rfl,k0,k1,hb⟩:=hrel;have HT:=Hd ht;have HK0:=Hd k0;have HK1:=Hd k1;have HB:=Hd hb
  by_cases hlt:t<16
  ·have hlt':decide ((t:Int)<16)=true:=(by rw[decide_eq_true_iff];omega);obtain⟨p0,hp0⟩:=eX (4*t);obtain⟨p1,hp1⟩:=eX (4*t+1);obtain⟨p2,hp2⟩:=eX (4*t+2);obtain⟨p3,hp3⟩:=eX (4*t+3);have i0:4*(t:Int)=(p0:Int):=(by omega);have i1:(p0:Int)+1=(p1:Int):=(by omega);have i2:(p0:Int)+2=(p2:Int):=(by omega);have i3:(p0:Int)+3=(p3:Int):=(by omega);have l0:p0<64:=(by omega);have l1:p1<64:=(by omega);have l2:p2<64:=(by omega);have l3:p3<64:=(by omega);have c0:=(hb.cell (p:=⟨b,off+p0,none⟩) hbl).trans (HBC.out p0 l0);have c1:=(hb.cell (p:=⟨b,off+p1,none⟩) hbl).trans (HBC.out p1 l1);have c2:=(hb.cell (p:=⟨b,off+p2,none⟩) hbl).trans (HBC.out p2 l2);have c3:=(hb.cell (p:=⟨b,off+p3,none⟩) hbl).trans (HBC.out p3 l3);obtain⟨y0,hy0⟩:=eX (B.getD p0 0);obtain⟨y1,hy1⟩:=eX (B.getD p1 0);obtain⟨y2,hy2⟩:=eX (B.getD p2 0);obtain⟨y3,hy3⟩:=eX (B.getD p3 0);rw[←hy0]at c0;rw[←hy1]at c1;rw[←hy2]at c2;rw[←hy3]at c3;have x0:y0<256:=(by rw[hy0];exact Il HBB.out (by omega) _);have x1:y1<256:=(by rw[hy1];exact Il HBB.out (by omega) _);have x2:y2<256:=(by rw[hy2];exact Il HBB.out (by omega) _);have x3:y3<256:=(by rw[hy3];exact Il HBB.out (by omega) _);have HY0:=Hd hy0;have HY1:=Hd hy1;have HY2:=Hd hy2;have HY3:=Hd hy3;have HP0:=Hd hp0;have HP1:=Hd hp1;have HP2:=Hd hp2;have HP3:=Hd hp3;have f1:=k1.frozen t;have g1:=k1.cell t;rw[Ei (by rw[Si _ (by omega)];omega)]at g1;obtain⟨old,hold⟩:=eX ((wP B t).getD t 0);rw[←hold]at g1;clear ht hp0 hp1 hp2 hp3 hy0 hy1 hy2 hy3 k0 k1 hb hold;go_wp2_with fail
   go_region
   go_wp2_with fail;go_roundg (gk-1);case measure=>have:=HT.out;omega
   case rel=>
    refine⟨t+1,by have:=HT.out;omega,by go_num,(HK0.out.far (p:=⟨w.heap.size+1,t,none⟩) (by simp) _).drewN 1,?_,(HB.out.setCell (p:=⟨w.heap.size+1,t,none⟩) (by simp) _).drew⟩;rw[Zks y0 y1 y2 y3 x0 x1 x2 x3];have hn:((y0*256+y1)*256+y2)*256+y3=wNext B (wL B t) t:=by
     unfold wNext;rw[if_pos hlt,HY0.out,HY1.out,HY2.out,HY3.out,HP0.out,HP1.out,HP2.out,HP3.out]
    rw[hn,←Zbf B (show t<64 by omega),←Jj];exact(HK1.out.set t _).drewN 1
  ·obtain rfl:t=16:=(by omega);clear ht k0 k1 hb hlt;go_wp2_with fail;obtain⟨g1,rfl⟩:=eX gk;obtain⟨w1,rfl⟩:=eX wr
   go_loopg [5] 48 (fun q iv wr=>∃t:Nat,t+q=64∧16≤t∧iv=.int .i64 (t:Nat)∧Blk wr w.heap.size 272 Z64∧Blk wr (w.heap.size+1) 272 (Gu (wP B t))∧Below w.heap.size w wr)
   case atStart=>exact⟨16,rfl,lR,rfl,HK0.out,HK1.out,HB.out⟩
   case round=>
    obtain⟨t,ht,ht16,rfl,k0,k1,hb⟩:=hrel;have HT:=Hd ht;have HJ0:=Hd k0;have HJ1:=Hd k1;have HB2:=Hd hb
    by_cases hlt:t<64
    ·have hlt':decide ((t:Int)<64)=true:=(by rw[decide_eq_true_iff];omega);have wl:=wL_lt HBB.out t;obtain⟨p0,hp0⟩:=eX (t-15);obtain⟨p1,hp1⟩:=eX (t-2);obtain⟨p2,hp2⟩:=eX (t-7);obtain⟨p3,hp3⟩:=eX (t-16);have i0:(t:Int)-15=(p0:Int):=(by omega);have i1:(t:Int)-2=(p1:Int):=(by omega);have i2:(t:Int)-7=(p2:Int):=(by omega);have i3:(t:Int)-16=(p3:Int):=(by omega);have l0:p0<64:=(by omega);have l1:p1<64:=(by omega);have l2:p2<64:=(by omega);have l3:p3<64:=(by omega);have CC:=fun(i:Nat) (hi:i<t)=>(show wr.cell? ⟨w.heap.size+1,i,none⟩=some (.int .u32 (((wL B t).getD i 0:Nat):Int)) by
      rw[k1.cell i,Ei (by rw[Si _ (by omega)];omega),Zjn _ hi])
     have c0:=CC p0 (by omega);have c1:=CC p1 (by omega);have c2:=CC p2 (by omega);have c3:=CC p3 (by omega);obtain⟨y0,hy0⟩:=eX ((wL B t).getD p0 0);obtain⟨y1,hy1⟩:=eX ((wL B t).getD p1 0);obtain⟨y2,hy2⟩:=eX ((wL B t).getD p2 0);obtain⟨y3,hy3⟩:=eX ((wL B t).getD p3 0);rw[←hy0]at c0;rw[←hy1]at c1;rw[←hy2]at c2;rw[←hy3]at c3;have x0:y0<4294967296:=(by rw[hy0];exact getD_lt32 wl _);have x1:y1<4294967296:=(by rw[hy1];exact getD_lt32 wl _);have x2:y2<4294967296:=(by rw[hy2];exact getD_lt32 wl _);have x3:y3<4294967296:=(by rw[hy3];exact getD_lt32 wl _);obtain⟨q0,hq0⟩:=eX (y0/8);obtain⟨q1,hq1⟩:=eX (y1/1024);have d0:(y0:Int)/8=(q0:Int):=(by omega);have d1:(y1:Int)/1024=(q1:Int):=(by omega);obtain⟨r1,hr1⟩:=eX (rot y0 7);obtain⟨r2,hr2⟩:=eX (rot y0 18);obtain⟨r3,hr3⟩:=eX (rot y1 17);obtain⟨r4,hr4⟩:=eX (rot y1 19);have S1:=fun W=>Fp y0 7 x0 (by omega) (by omega) W;have S2:=fun W=>Fp y0 18 x0 (by omega) (by omega) W;have S3:=fun W=>Fp y1 17 x1 (by omega) (by omega) W;have S4:=fun W=>Fp y1 19 x1 (by omega) (by omega) W;rw[←hr1]at S1;rw[←hr2]at S2;rw[←hr3]at S3;rw[←hr4]at S4;have b1:r1<4294967296:=(by rw[hr1];exact rot_lt x0 (by omega));have b2:r2<4294967296:=(by rw[hr2];exact rot_lt x0 (by omega));have b3:r3<4294967296:=(by rw[hr3];exact rot_lt x1 (by omega));have b4:r4<4294967296:=(by rw[hr4];exact rot_lt x1 (by omega));have X1:=Li r1 r2 b1 b2;have X2:=Li (r1^^^r2) q0 (xor_lt32 b1 b2) (by omega);have X3:=Li r3 r4 b3 b4;have X4:=Li (r3^^^r4) q1 (xor_lt32 b3 b4) (by omega);obtain⟨z1,hz1⟩:=eX (r1^^^r2);obtain⟨z3,hz3⟩:=eX (r3^^^r4);rw[←hz1]at X1 X2;rw[←hz3]at X3 X4;obtain⟨z2,hz2⟩:=eX (z1^^^q0);obtain⟨z4,hz4⟩:=eX (z3^^^q1);rw[←hz2]at X2;rw[←hz4]at X4;have HV:=Hd (show(z4+y2+z2+y3)%4294967296=wNext B (wL B t) t by
      unfold wNext;rw[if_neg (by omega),s0N,s1N,←hp0,←hp1,←hp2,←hp3,←hy0,←hy1,←hy2,←hy3,←hr1,←hr2,←hr3,←hr4,←hz1,←hz3,←hq0,←hq1,←hz2,←hz4])
     have b5:z2<4294967296:=(by rw[hz2,hz1];exact xor_lt32 (xor_lt32 b1 b2) (by omega));have b6:z4<4294967296:=(by rw[hz4,hz3];exact xor_lt32 (xor_lt32 b3 b4) (by omega));have HS1:=Hd S1;have HS2:=Hd S2;have HS3:=Hd S3;have HS4:=Hd S4;have f1:=k1.frozen t;have g1':=k1.cell t;rw[Ei (by rw[Si _ (by omega)];omega)]at g1';obtain⟨old,hold⟩:=eX ((wP B t).getD t 0);rw[←hold]at g1';clear ht hp0 hp1 hp2 hp3 hy0 hy1 hy2 hy3 k0 k1 hb hold CC wl S1 S2 S3 S4 hq0 hq1 hr1 hr2 hr3 hr4 hz1 hz2 hz3 hz4;go_wp2_with fail
     go_quiet (fail)
     go_wp2_with fail;refine(HS1.out _).mono ?_;rintro e w' ⟨rfl,rfl⟩;go_wp2_with fail;refine(HS2.out _).mono ?_;rintro e w' ⟨rfl,rfl⟩;go_wp2_with fail;refine(HS3.out _).mono ?_;rintro e w' ⟨rfl,rfl⟩;go_wp2_with fail;refine(HS4.out _).mono ?_;rintro e w' ⟨rfl,rfl⟩;go_wp2_with fail
     go_region
     go_wp2_with fail;go_roundg (gk-1);case measure=>have:=HT.out;omega
     case rel=>
      refine⟨t+1,by have:=HT.out;omega,by omega,by go_num,?_,?_,?_⟩
      ·exact((HJ0.out.drewN _).far (p:=⟨w.heap.size+1,t,none⟩) (by simp) _)
      ·have e:((z4:Int)+(y2:Int)+(z2:Int)+(y3:Int))%4294967296=((wNext B (wL B t) t:Nat):Int):=(by rw[←HV.out,Int.natCast_emod,cW,cW,cW];rfl);rw[e,←Zbf B hlt,←Jj];exact(HJ1.out.drewN _).set t _
      ·exact(Ac HB2.out _).setCell (p:=⟨w.heap.size+1,t,none⟩) (by simp) _
    ·obtain rfl:t=64:=(by omega);clear ht k0 k1 hb hlt;have hL:wP B 64=wL B 64:=(by rw[wP,Nat.sub_self,List.replicate_zero,List.append_nil]);have HI':=Wt (wP B 64) (Si B lR);have HZS':Z64.size=(Gu (wP B 64)).size:=(by rw[hzs,Bm,Si B lR]);have HON':=Fe (wP B 64);have HJ':=HJ1.out;obtain⟨CS,hCS⟩:=eX (Gu (wP B 64));rw[←hCS]at HI' HZS' HON' HJ';have HI:=Hd HI';have HZS:=Hd HZS';have HON:=Hd HON';have HJ:=Hd HJ';have HCS:=Hd (show CS=Gu (wL B 64) by rw[hCS,hL]);clear HI' HZS' HON' HJ' hCS hL hzs hz HJ1 HK0 HK1 HB HT HBC HBB HR HLN;go_wp2_with (first|(refine wpList_load_row rfl 272 (.tmp 3) rfl (w.heap.size+1) rfl 272 CS (0,0) _ HJ.out Tryz.underlying272 rfl HI.out ?_)|(refine wpList_store_row rfl 272 (.tmp 2) (.tmp 92) rfl w.heap.size CS rfl rfl 272 Z64 HJ0.out HI.out HZS.out HON.out ?_));refine bodyPost_ret (results_cell_row rfl _ _ w.heap.size 272 CS (0,0) _ rfl (setRow_heap _ _ _ _ _ _ HJ0.out) Tryz.underlying272 rfl HI.out) rfl ⟨?_,?_⟩
     ·rw[HCS.out]
     ·exact HB2.out.trans ⟨rfl,rfl,rfl,by simp,fun i hi=>setRow_other _ _ _ _ (by omega)⟩
def Z8a:Array Value:=Gu (cS 8 0)
theorem Zfa (L:List Nat)(h:L.length=8):(Tryz.prog.info? 244).map (·.size)=some (Gu L).size:=by
 rw[Bm,h]
 kernel_rfl
theorem Oq {P:Program} {w:World} {ops:Array Oper} {rest:List Oper} {o:Oper} {a:Act} {Q:Exit→Act→World→Prop} (hgd:o.guard=none) (t:TypeId) (ps:Array (Nat×Operand)) (ho:o.op=.build t ps)
  (cs:Array Value) (hf:P.built t (ps.map fun(i,x)=>(i,a.eval x)).toList=some cs) (h:wpList P ops Q rest (a.put o.dst (.agg cs)) w):wpList P ops Q (o::rest) a w:=by
 have k:=wpList_build (P:=P) (w:=w) (ops:=ops) (rest:=rest) (a:=a) (Q:=Q) hgd t ps ho (by rw[hf];rfl);rw[hf]at k;exact k h
def HLa:Array Value:=Gu HL0
def KLa:Array Value:=Gu KL
theorem Zbh (w:World):
  Calls Tryz.prog 231 #[] w fun e w'=>e=.returned (.agg HLa)∧Below w.heap.size w w':=by
 have hz:∀w,(zeroValue 244).run Tryz.prog w=.ok (.agg Z8a) w:=fun _=>(by kernel_rfl);have HI:=Hd (show(Tryz.prog.info? 244).map (·.size)=some HLa.size from Zfa HL0 rfl);have HZS:=Hd (show Z8a.size=HLa.size by unfold Z8a HLa;rw[Bm,Bm];rfl);have HON:=Hd (show HLa.all (·.oneCell')=true from Fe HL0);have HN:=Hd (heap_alloc_new w (.cells Z8a 244));go_enter Tryz.func231,Tryz.ntmps231;go_wp2_with (first|(refine Oq rfl 244 _ rfl HLa (by kernel_rfl) ?_)|(refine wpList_store_row rfl 244 (.tmp 0) (.tmp 1) rfl w.heap.size HLa rfl rfl 244 Z8a HN.out HI.out HZS.out HON.out ?_));refine bodyPost_ret (results_cell_row rfl _ _ w.heap.size 244 HLa (0,0) _ rfl (setRow_heap _ _ _ _ _ _ HN.out) Tryz.underlying244 rfl HI.out) rfl ⟨rfl,?_⟩;exact(bR.alloc lR _).trans ⟨rfl,rfl,rfl,by simp,fun i hi=>setRow_other _ _ _ _ (by omega)⟩
theorem Yz (w:World):
  Calls Tryz.prog 272 #[] w fun e w'=>e=.returned (.agg KLa)∧Below w.heap.size w w':=by
 have hz:∀w,(zeroValue 272).run Tryz.prog w=.ok (.agg Z64) w:=fun _=>(by kernel_rfl);have HI:=Hd (show(Tryz.prog.info? 272).map (·.size)=some KLa.size from Wt KL rfl);have HZS:=Hd (show Z64.size=KLa.size by unfold Z64 KLa;rw[Bm,Bm];rfl);have HON:=Hd (show KLa.all (·.oneCell')=true from Fe KL);have HN:=Hd (heap_alloc_new w (.cells Z64 272));go_enter Tryz.func272,Tryz.ntmps272;go_wp2_with (first|(refine Oq rfl 272 _ rfl KLa (by kernel_rfl) ?_)|(refine wpList_store_row rfl 272 (.tmp 0) (.tmp 1) rfl w.heap.size KLa rfl rfl 272 Z64 HN.out HI.out HZS.out HON.out ?_));refine bodyPost_ret (results_cell_row rfl _ _ w.heap.size 272 KLa (0,0) _ rfl (setRow_heap _ _ _ _ _ _ HN.out) Tryz.underlying272 rfl HI.out) rfl ⟨rfl,?_⟩;exact(bR.alloc lR _).trans ⟨rfl,rfl,rfl,by simp,fun i hi=>setRow_other _ _ _ _ (by omega)⟩
end Go.Proofs.YtfofaiommeckbaaGreat
