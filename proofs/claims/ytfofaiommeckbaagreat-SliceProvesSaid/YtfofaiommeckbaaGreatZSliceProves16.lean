import Derived.Test.YtfofaiommeckbaaGreatZSliceProves13
import Derived.BigRegion
open Go.Value renaming slice → q9, int → rA
open Option renaming none → rF
open Go.Proofs.Tryz
open List renaming getD_eq_getElem?_getD → aH, replicate → cI
open Nat renaming shiftLeft_add_eq_or_of_lt → dL, shiftLeft_eq → dM
open Int renaming natCast_mul → dN, natCast_add → dO
set_option linter.unusedVariables false
set_option maxRecDepth 100000
set_option maxHeartbeats 40000000
namespace Go.Proofs.YtfofaiommeckbaaGreat
open Go.RowKit ShaM
def Zg0 (L:List Nat):List Value:=L.map fun(n:Nat)=> .int .u32 (n:Int)
def Hz (L:List Nat):Array Value:=(Zg0 L).toArray
theorem Zhw (L:List Nat):(Zg0 L).length=L.length:=by simp[Zg0]
theorem Bq (L:List Nat):(Hz L).size=L.length:=by simp[Hz,Zg0]
theorem Fa {L:List Nat} {i:Nat}(h:i<L.length):(Hz L)[i]? =some (.int .u32 ((L.getD i 0:Nat):Int)):=by
 simp[Hz,Zg0,aH,h]
theorem Kq (L:List Nat)(i n:Nat):(Hz L).setIfInBounds i (.int .u32 (n:Int))=Hz (L.set i n):=by
 simp[Hz,Zg0]
theorem Gd (L:List Nat):(Hz L).all (·.oneCell')=true:=by
 rw[Array.all_eq_true_iff_forall_mem];intro x hx;simp only[Hz,Zg0,List.mem_toArray,List.mem_map]at hx;obtain⟨n,_,rfl⟩:=hx
 rfl
def Z64:Array Value:=Hz (cI 64 0)
def wP (B:List Nat)(t:Nat):List Nat:=wL B t++cI (64-t) 0
theorem Zkt (B:List Nat):Hz (wP B 0)=Z64:=by rw[wP,wL,List.nil_append,Nat.sub_zero,Z64]
theorem Ue (B:List Nat) {t:Nat}(h:t≤64):(wP B t).length=64:=by simp[wP,wL_len];omega
theorem Zmk (B:List Nat) {t i:Nat}(h:i<t):(wP B t).getD i 0=(wL B t).getD i 0:=by
 rw[wP,aH,List.getElem?_append_left (by rw[wL_len];exact h),aH]
theorem Zdr (B:List Nat) {t:Nat}(h:t<64):(wP B t).set t (wNext B (wL B t) t)=wP B (t+1):=by
 rw[wP,wP,wL,show 64-t=(64-(t+1))+1 by omega,List.replicate_succ,List.set_append_right _ _ (by rw[wL_len];omega),wL_len];simp
theorem Zj6 {w:World} {a:Option Addr} {n c:Nat} {B:List Nat}(h:Rd w (q9 a n c) (bvs B)) {i:Nat}(hi:i<B.length):∃b off,a=some ⟨b,off,rF⟩∧b<w.heap.size∧w.cell? ⟨b,off+i,rF⟩=some (rA .u8 ((B.getD i 0:Nat):Int)):=
 h.at3 (Rk hi)
theorem Zne (a b c d:Nat)(j:a<256)(g:b<256)(f:c<256)(e:d<256):
  bits .or .u32 (bits .or .u32 (bits .or .u32 ((a:Int)*16777216) ((b:Int)*65536)) ((c:Int)*256)) (d:Int)=((((a*256+b)*256+c)*256+d:Nat):Int):=by
 have h1:a*16777216|||b*65536=a*16777216+b*65536:=by
  have h:=dL (a:=a) (b:=b*65536) (i:=24) (by omega);rw[dM]at h;exact h.symm
 have h2:(a*16777216+b*65536)|||c*256=a*16777216+b*65536+c*256:=by
  have h:=dL (a:=a*256+b) (b:=c*256) (i:=16) (by omega);rw[dM,show(a*256+b)*2^16=a*16777216+b*65536 by rw[Nat.add_mul,Nat.mul_assoc]]at h;exact h.symm
 have h3:(a*16777216+b*65536+c*256)|||d=a*16777216+b*65536+c*256+d:=by
  have h:=dL (a:=(a*256+b)*256+c) (b:=d) (i:=8) (by omega);rw[dM,show((a*256+b)*256+c)*2^8=a*16777216+b*65536+c*256 by omega]at h;exact h.symm
 rw[show(a:Int)*16777216=((a*16777216:Nat):Int)from(dN a 16777216).symm,show(b:Int)*65536=((b*65536:Nat):Int)from(dN b 65536).symm,show(c:Int)*256=((c*256:Nat):Int)from(dN c 256).symm,
  Zm6 _ _ (by omega) (by omega),h1,Zm6 _ _ (by omega) (by omega),h2,Zm6 _ _ (by omega) (by omega),h3]
 omega
theorem Zd (L:List Nat)(h:L.length=64):(prog.info? 272).map (·.size)=some (Hz L).size:=by
 rw[Bq,h]
 kernel_rfl
theorem Zds (v:Value)(B:List Nat)(w:World)(h:Rd w v (bvs B))(hB:∀x∈B,x<256)(hl:B.length=64):
  Calls prog 271 #[v] w fun e w'=>e=.returned (.agg (Hz (wL B 64)))∧Below w.heap.size w w':=by
 have hz:∀w,(zeroValue 272).run prog w=.ok (.agg Z64) w:=fun _=>(by kernel_rfl);have aG:Z64.size=64:=(by unfold Z64;rw[Bq,List.length_replicate]);have hv:∃a c,v=.slice a 64 c:=(by obtain⟨a,c,e,_⟩:=h;exact⟨a,c,by rw[e,bvs_len,hl]⟩);obtain⟨a,c,rfl⟩:=hv;have HR:=Hd h;have aV:=Hd hl;have m:=Hd hB;obtain⟨b,r,rfl,Q,_⟩:=Zj6 h (i:=0) (by omega);have BC:=fun(i:Nat) (hi:i<64)=>(by
  obtain⟨b',off',e,_,hc⟩:=Zj6 h (i:=i) (by omega);simp only[Option.some.injEq,Addr.mk.injEq,and_true]at e;obtain⟨rfl,rfl⟩:=e;exact hc:w.cell? ⟨b,r+i,rF⟩=some (rA .u8 ((B.getD i 0:Nat):Int)))
 have A:=Hd BC;clear BC h hl hB;go_enter func271,ntmps271;go_wp2_with fail
 go_loopg [10] 16 (fun q iv wr=>∃t:Nat,t+q=16∧iv=rA .i64 (t:Nat)∧Blk wr w.heap.size 272 Z64∧Blk wr (w.heap.size+1) 272 (Hz (wP B t))∧Below w.heap.size w wr)
 case atStart=>exact⟨0,rfl,rfl,(Blk.new w _ _).alloc _,by rw[Zkt];have:=Blk.new (w.alloc (.cells Z64 272)) 272 Z64;simpa using this,(bR.alloc lR _).alloc (by simp) _⟩
 case round=>
  obtain⟨t,ht,rfl,Y,n,F⟩:=hrel;have HT:=Hd ht;have S:=Hd Y;have aB:=Hd n;have HB:=Hd F
  by_cases hlt:t<16
  ·have aC:decide ((t:Int)<16)=true:=(by rw[decide_eq_true_iff];omega);obtain⟨l,z⟩:=eX (4*t);obtain⟨H,u⟩:=eX (4*t+1);obtain⟨I,y⟩:=eX (4*t+2);obtain⟨G,s⟩:=eX (4*t+3);have i0:4*(t:Int)=(l:Int):=(by omega);have i1:(l:Int)+1=(H:Int):=(by omega);have i2:(l:Int)+2=(I:Int):=(by omega);have i3:(l:Int)+3=(G:Int):=(by omega);have l0:l<64:=(by omega);have l1:H<64:=(by omega);have l2:I<64:=(by omega);have l3:G<64:=(by omega);have c0:=(F.cell (p:=⟨b,r+l,rF⟩) Q).trans (A.out l l0);have c1:=(F.cell (p:=⟨b,r+H,rF⟩) Q).trans (A.out H l1);have c2:=(F.cell (p:=⟨b,r+I,rF⟩) Q).trans (A.out I l2);have c3:=(F.cell (p:=⟨b,r+G,rF⟩) Q).trans (A.out G l3);obtain⟨E,j⟩:=eX (B.getD l 0);obtain⟨C,d⟩:=eX (B.getD H 0);obtain⟨y2,g⟩:=eX (B.getD I 0);obtain⟨T,f⟩:=eX (B.getD G 0);rw[←j]at c0;rw[←d]at c1;rw[←g]at c2;rw[←f]at c3;have x0:E<256:=(by rw[j];exact Hh m.out (by omega) _);have x1:C<256:=(by rw[d];exact Hh m.out (by omega) _);have x2:y2<256:=(by rw[g];exact Hh m.out (by omega) _);have x3:T<256:=(by rw[f];exact Hh m.out (by omega) _);have aQ:=Hd j;have aJ:=Hd d;have aM:=Hd g;have aY:=Hd f;have aX:=Hd z;have aR:=Hd u;have aI:=Hd y;have aW:=Hd s;have f1:=n.frozen t;have g1:=n.cell t;rw[Fa (by rw[Ue _ (by omega)];omega)]at g1;obtain⟨aN,k⟩:=eX ((wP B t).getD t 0);rw[←k]at g1;clear ht z u y s j d g f Y n F k;go_wp2_with fail
   go_region
   go_wp2_with fail;go_roundg (gk-1);case measure=>have:=HT.out;omega
   case rel=>
    refine⟨t+1,by have:=HT.out;omega,by go_num,(S.out.far (p:=⟨w.heap.size+1,t,rF⟩) (by simp) _).drewN 1,?_,(HB.out.setCell (p:=⟨w.heap.size+1,t,rF⟩) (by simp) _).drew⟩;rw[Zne E C y2 T x0 x1 x2 x3];have hn:((E*256+C)*256+y2)*256+T=wNext B (wL B t) t:=by
     unfold wNext;rw[if_pos hlt,aQ.out,aJ.out,aM.out,aY.out,aX.out,aR.out,aI.out,aW.out]
    rw[hn,←Zdr B (show t<64 by omega),←Kq];exact(aB.out.set t _).drewN 1
  ·obtain rfl:t=16:=(by omega);clear ht Y n F hlt;go_wp2_with fail;obtain⟨g1,rfl⟩:=eX gk;obtain⟨w1,rfl⟩:=eX wr
   go_loopg [5] 48 (fun q iv wr=>∃t:Nat,t+q=64∧16≤t∧iv=rA .i64 (t:Nat)∧Blk wr w.heap.size 272 Z64∧Blk wr (w.heap.size+1) 272 (Hz (wP B t))∧Below w.heap.size w wr)
   case atStart=>exact⟨16,rfl,lR,rfl,S.out,aB.out,HB.out⟩
   case round=>
    obtain⟨t,ht,aZ,rfl,Y,n,F⟩:=hrel;have HT:=Hd ht;have Z:=Hd Y;have aA:=Hd n;have aD:=Hd F
    by_cases hlt:t<64
    ·have aC:decide ((t:Int)<64)=true:=(by rw[decide_eq_true_iff];omega);have wl:=wL_lt m.out t;obtain⟨l,z⟩:=eX (t-15);obtain⟨H,u⟩:=eX (t-2);obtain⟨I,y⟩:=eX (t-7);obtain⟨G,s⟩:=eX (t-16);have i0:(t:Int)-15=(l:Int):=(by omega);have i1:(t:Int)-2=(H:Int):=(by omega);have i2:(t:Int)-7=(I:Int):=(by omega);have i3:(t:Int)-16=(G:Int):=(by omega);have l0:l<64:=(by omega);have l1:H<64:=(by omega);have l2:I<64:=(by omega);have l3:G<64:=(by omega);have CC:=fun(i:Nat) (hi:i<t)=>(show wr.cell? ⟨w.heap.size+1,i,rF⟩=some (.int .u32 (((wL B t).getD i 0:Nat):Int)) by
      rw[n.cell i,Fa (by rw[Ue _ (by omega)];omega),Zmk _ hi])
     have c0:=CC l (by omega);have c1:=CC H (by omega);have c2:=CC I (by omega);have c3:=CC G (by omega);obtain⟨E,j⟩:=eX ((wL B t).getD l 0);obtain⟨C,d⟩:=eX ((wL B t).getD H 0);obtain⟨y2,g⟩:=eX ((wL B t).getD I 0);obtain⟨T,f⟩:=eX ((wL B t).getD G 0);rw[←j]at c0;rw[←d]at c1;rw[←g]at c2;rw[←f]at c3;have x0:E<4294967296:=(by rw[j];exact getD_lt32 wl _);have x1:C<4294967296:=(by rw[d];exact getD_lt32 wl _);have x2:y2<4294967296:=(by rw[g];exact getD_lt32 wl _);have x3:T<4294967296:=(by rw[f];exact getD_lt32 wl _);obtain⟨q0,aH⟩:=eX (E/8);obtain⟨q1,aF⟩:=eX (C/1024);have d0:(E:Int)/8=(q0:Int):=(by omega);have d1:(C:Int)/1024=(q1:Int):=(by omega);obtain⟨r1,M⟩:=eX (rot E 7);obtain⟨r2,J⟩:=eX (rot E 18);obtain⟨r3,R⟩:=eX (rot C 17);obtain⟨r4,N⟩:=eX (rot C 19);have S1:=fun W=>Gp E 7 x0 (by omega) (by omega) W;have S2:=fun W=>Gp E 18 x0 (by omega) (by omega) W;have S3:=fun W=>Gp C 17 x1 (by omega) (by omega) W;have S4:=fun W=>Gp C 19 x1 (by omega) (by omega) W;rw[←M]at S1;rw[←J]at S2;rw[←R]at S3;rw[←N]at S4;have b1:r1<4294967296:=(by rw[M];exact rot_lt x0 (by omega));have b2:r2<4294967296:=(by rw[J];exact rot_lt x0 (by omega));have b3:r3<4294967296:=(by rw[R];exact rot_lt x1 (by omega));have b4:r4<4294967296:=(by rw[N];exact rot_lt x1 (by omega));have X1:=Mq r1 r2 b1 b2;have X2:=Mq (r1^^^r2) q0 (xor_lt32 b1 b2) (by omega);have X3:=Mq r3 r4 b3 b4;have X4:=Mq (r3^^^r4) q1 (xor_lt32 b3 b4) (by omega);obtain⟨z1,L⟩:=eX (r1^^^r2);obtain⟨z3,K⟩:=eX (r3^^^r4);rw[←L]at X1 X2;rw[←K]at X3 X4;obtain⟨z2,P⟩:=eX (z1^^^q0);obtain⟨z4,O⟩:=eX (z3^^^q1);rw[←P]at X2;rw[←O]at X4;have HV:=Hd (show(z4+y2+z2+T)%4294967296=wNext B (wL B t) t by
      unfold wNext;rw[if_neg (by omega),s0N,s1N,←z,←u,←y,←s,←j,←d,←g,←f,←M,←J,←R,←N,←L,←K,←aH,←aF,←P,←O])
     have b5:z2<4294967296:=(by rw[P,L];exact xor_lt32 (xor_lt32 b1 b2) (by omega));have b6:z4<4294967296:=(by rw[O,K];exact xor_lt32 (xor_lt32 b3 b4) (by omega));have aO:=Hd S1;have aL:=Hd S2;have aU:=Hd S3;have aK:=Hd S4;have f1:=n.frozen t;have aE:=n.cell t;rw[Fa (by rw[Ue _ (by omega)];omega)]at aE;obtain⟨aN,k⟩:=eX ((wP B t).getD t 0);rw[←k]at aE;clear ht z u y s j d g f Y n F k CC wl S1 S2 S3 S4 aH aF M J R N L P K O;go_wp2_with fail
     go_quiet (fail)
     go_wp2_with fail;refine(aO.out _).mono ?_;rintro e w' ⟨rfl,rfl⟩;go_wp2_with fail;refine(aL.out _).mono ?_;rintro e w' ⟨rfl,rfl⟩;go_wp2_with fail;refine(aU.out _).mono ?_;rintro e w' ⟨rfl,rfl⟩;go_wp2_with fail;refine(aK.out _).mono ?_;rintro e w' ⟨rfl,rfl⟩;go_wp2_with fail
     go_region
     go_wp2_with fail;go_roundg (gk-1);case measure=>have:=HT.out;omega
     case rel=>
      refine⟨t+1,by have:=HT.out;omega,by omega,by go_num,?_,?_,?_⟩
      ·exact((Z.out.drewN _).far (p:=⟨w.heap.size+1,t,rF⟩) (by simp) _)
      ·have e:((z4:Int)+(y2:Int)+(z2:Int)+(T:Int))%4294967296=((wNext B (wL B t) t:Nat):Int):=(by rw[←HV.out,Int.natCast_emod,dO,dO,dO];rfl);rw[e,←Zdr B hlt,←Kq];exact(aA.out.drewN _).set t _
      ·exact(Ab aD.out _).setCell (p:=⟨w.heap.size+1,t,rF⟩) (by simp) _
    ·obtain rfl:t=64:=(by omega);clear ht Y n F hlt;have hL:wP B 64=wL B 64:=(by rw[wP,Nat.sub_self,List.replicate_zero,List.append_nil]);have U:=Zd (wP B 64) (Ue B lR);have o:Z64.size=(Hz (wP B 64)).size:=(by rw[aG,Bq,Ue B lR]);have D:=Gd (wP B 64);have X:=aA.out;obtain⟨CS,V⟩:=eX (Hz (wP B 64));rw[←V]at U o D X;have HI:=Hd U;have aS:=Hd o;have aT:=Hd D;have HJ:=Hd X;have aP:=Hd (show CS=Hz (wL B 64) by rw[V,hL]);clear U o D X V hL aG hz aA S aB HB HT A m HR aV;go_wp2_with (first|(refine wpList_load_row rfl 272 (.tmp 3) rfl (w.heap.size+1) rfl 272 CS (0,0) _ HJ.out underlying272 rfl HI.out ?_)|(refine wpList_store_row rfl 272 (.tmp 2) (.tmp 92) rfl w.heap.size CS rfl rfl 272 Z64 Z.out HI.out aS.out aT.out ?_));refine bodyPost_ret (results_cell_row rfl _ _ w.heap.size 272 CS (0,0) _ rfl (setRow_heap _ _ _ _ _ _ Z.out) underlying272 rfl HI.out) rfl ⟨?_,?_⟩
     ·rw[aP.out]
     ·exact aD.out.trans ⟨rfl,rfl,rfl,by simp,fun i hi=>setRow_other _ _ _ _ (by omega)⟩
def Z8a:Array Value:=Hz (cI 8 0)
theorem Zhx (L:List Nat)(h:L.length=8):(prog.info? 244).map (·.size)=some (Hz L).size:=by
 rw[Bq,h]
 kernel_rfl
theorem Pz {P:Program} {w:World} {ops:Array Oper} {rest:List Oper} {o:Oper} {a:Act} {Q:Exit→Act→World→Prop} (b:o.guard=none) (t:TypeId) (c:Array (Nat×Operand)) (e:o.op=.build t c)
  (cs:Array Value) (d:P.built t (c.map fun(i,x)=>(i,a.eval x)).toList=some cs) (h:wpList P ops Q rest (a.put o.dst (.agg cs)) w):wpList P ops Q (o::rest) a w:=by
 have k:=wpList_build (P:=P) (w:=w) (ops:=ops) (rest:=rest) (a:=a) (Q:=Q) b t c e (by rw[d];rfl);rw[d]at k;exact k h
def HLa:Array Value:=Hz HL0
def KLa:Array Value:=Hz KL
theorem Zdt (w:World):
  Calls prog 231 #[] w fun e w'=>e=.returned (.agg HLa)∧Below w.heap.size w w':=by
 have f:∀w,(zeroValue 244).run prog w=.ok (.agg Z8a) w:=fun _=>(by kernel_rfl);have d:=Hd (show(prog.info? 244).map (·.size)=some HLa.size from Zhx HL0 rfl);have b:=Hd (show Z8a.size=HLa.size by unfold Z8a HLa;rw[Bq,Bq];rfl);have a:=Hd (show HLa.all (·.oneCell')=true from Gd HL0);have c:=Hd (heap_alloc_new w (.cells Z8a 244));go_enter func231,ntmps231;go_wp2_with (first|(refine Pz rfl 244 _ rfl HLa (by kernel_rfl) ?_)|(refine wpList_store_row rfl 244 (.tmp 0) (.tmp 1) rfl w.heap.size HLa rfl rfl 244 Z8a c.out d.out b.out a.out ?_));refine bodyPost_ret (results_cell_row rfl _ _ w.heap.size 244 HLa (0,0) _ rfl (setRow_heap _ _ _ _ _ _ c.out) underlying244 rfl d.out) rfl ⟨rfl,?_⟩;exact(bR.alloc lR _).trans ⟨rfl,rfl,rfl,by simp,fun i g=>setRow_other _ _ _ _ (by omega)⟩
theorem Zbk (w:World):
  Calls prog 272 #[] w fun e w'=>e=.returned (.agg KLa)∧Below w.heap.size w w':=by
 have f:∀w,(zeroValue 272).run prog w=.ok (.agg Z64) w:=fun _=>(by kernel_rfl);have d:=Hd (show(prog.info? 272).map (·.size)=some KLa.size from Zd KL rfl);have b:=Hd (show Z64.size=KLa.size by unfold Z64 KLa;rw[Bq,Bq];rfl);have a:=Hd (show KLa.all (·.oneCell')=true from Gd KL);have c:=Hd (heap_alloc_new w (.cells Z64 272));go_enter func272,ntmps272;go_wp2_with (first|(refine Pz rfl 272 _ rfl KLa (by kernel_rfl) ?_)|(refine wpList_store_row rfl 272 (.tmp 0) (.tmp 1) rfl w.heap.size KLa rfl rfl 272 Z64 c.out d.out b.out a.out ?_));refine bodyPost_ret (results_cell_row rfl _ _ w.heap.size 272 KLa (0,0) _ rfl (setRow_heap _ _ _ _ _ _ c.out) underlying272 rfl d.out) rfl ⟨rfl,?_⟩;exact(bR.alloc lR _).trans ⟨rfl,rfl,rfl,by simp,fun i g=>setRow_other _ _ _ _ (by omega)⟩
end Go.Proofs.YtfofaiommeckbaaGreat
