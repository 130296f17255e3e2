/- Walks: sha.words. -/
import Derived.Test.YtfofaiommeckbaaGreatZSliceSoundB
import Derived.Test.YtfofaiommeckbaaGreatZSliceSound13
import Derived.BigRegion
open List renaming getD_eq_getElem?_getD → aJ, replicate → cK
open Nat renaming shiftLeft_add_eq_or_of_lt → dP, shiftLeft_eq → dQ
open Int renaming natCast_mul → dR, natCast_add → dS
set_option linter.unusedVariables false
set_option maxRecDepth 100000
set_option maxHeartbeats 40000000
namespace Go.Proofs.YtfofaiommeckbaaGreat
open Go.RowKit ShaM
def Zga (L:List Nat):List Value:=L.map fun(n:Nat)=> .int .u32 (n:Int)
def Hp (L:List Nat):Array Value:=(Zga L).toArray
theorem Zg8 (L:List Nat):(Zga L).length=L.length:=by simp[Zga]
theorem Bi (L:List Nat):(Hp L).size=L.length:=by simp[Hp,Zga]
theorem Ez {L:List Nat} {i:Nat}(h:i<L.length):(Hp L)[i]? =some (.int .u32 ((L.getD i 0:Nat):Int)):=by
 simp[Hp,Zga,aJ,h]
theorem Jv (L:List Nat)(i n:Nat):(Hp L).setIfInBounds i (.int .u32 (n:Int))=Hp (L.set i n):=by
 simp[Hp,Zga]
theorem Ft (L:List Nat):(Hp L).all (·.oneCell')=true:=by
 rw[Array.all_eq_true_iff_forall_mem];intro x hx;simp only[Hp,Zga,List.mem_toArray,List.mem_map]at hx;obtain⟨n,_,rfl⟩:=hx
 rfl
def Z64:Array Value:=Hp (cK 64 0)
def wP (B:List Nat)(t:Nat):List Nat:=wL B t++cK (64-t) 0
theorem Zj5 (B:List Nat):Hp (wP B 0)=Z64:=by rw[wP,wL,List.nil_append,Nat.sub_zero,Z64]
theorem Tb (B:List Nat) {t:Nat}(h:t≤64):(wP B t).length=64:=by simp[wP,wL_len];omega
theorem Zlo (B:List Nat) {t i:Nat}(h:i<t):(wP B t).getD i 0=(wL B t).getD i 0:=by
 rw[wP,aJ,List.getElem?_append_left (by rw[wL_len];exact h),aJ]
theorem Zc0 (B:List Nat) {t:Nat}(h:t<64):(wP B t).set t (wNext B (wL B t) t)=wP B (t+1):=by
 rw[wP,wP,wL,show 64-t=(64-(t+1))+1 by omega,List.replicate_succ,List.set_append_right _ _ (by rw[wL_len];omega),wL_len];simp
theorem Zjh {w:World} {a:Option Addr} {n c:Nat} {B:List Nat}(h:Rd w (.slice a n c) (bvs B)) {i:Nat}(hi:i<B.length):∃b off,a=some ⟨b,off,none⟩∧b<w.heap.size∧w.cell? ⟨b,off+i,none⟩=some (.int .u8 ((B.getD i 0:Nat):Int)):=
 h.at3 (Qj hi)
theorem Zmt (a b c d:Nat)(j:a<256)(g:b<256)(f:c<256)(k:d<256):
  bits .or .u32 (bits .or .u32 (bits .or .u32 ((a:Int)*16777216) ((b:Int)*65536)) ((c:Int)*256)) (d:Int)=((((a*256+b)*256+c)*256+d:Nat):Int):=by
 have e:a*16777216|||b*65536=a*16777216+b*65536:=by
  have h:=dP (a:=a) (b:=b*65536) (i:=24) (by omega);rw[dQ]at h;exact h.symm
 have h2:(a*16777216+b*65536)|||c*256=a*16777216+b*65536+c*256:=by
  have h:=dP (a:=a*256+b) (b:=c*256) (i:=16) (by omega);rw[dQ,show(a*256+b)*2^16=a*16777216+b*65536 by rw[Nat.add_mul,Nat.mul_assoc]]at h;exact h.symm
 have h3:(a*16777216+b*65536+c*256)|||d=a*16777216+b*65536+c*256+d:=by
  have h:=dP (a:=(a*256+b)*256+c) (b:=d) (i:=8) (by omega);rw[dQ,show((a*256+b)*256+c)*2^8=a*16777216+b*65536+c*256 by omega]at h;exact h.symm
 rw[show(a:Int)*16777216=((a*16777216:Nat):Int)from(dR a 16777216).symm,show(b:Int)*65536=((b*65536:Nat):Int)from(dR b 65536).symm,show(c:Int)*256=((c*256:Nat):Int)from(dR c 256).symm,
  Zmi _ _ (by omega) (by omega),e,Zmi _ _ (by omega) (by omega),h2,Zmi _ _ (by omega) (by omega),h3]
 omega
theorem Yh (L:List Nat)(h:L.length=64):(Tryz.prog.info? 272).map (·.size)=some (Hp L).size:=by
 rw[Bi,h]
 kernel_rfl
theorem Zc1 (v:Value)(B:List Nat)(w:World)(h:Rd w v (bvs B))(hB:∀x∈B,x<256)(hl:B.length=64):
  Calls Tryz.prog 271 #[v] w fun e w'=>e=.returned (.agg (Hp (wL B 64)))∧Below w.heap.size w w':=by
 have hz:∀w,(zeroValue 272).run Tryz.prog w=.ok (.agg Z64) w:=fun _=>(by kernel_rfl);have aI:Z64.size=64:=(by unfold Z64;rw[Bi,List.length_replicate]);have hv:∃a c,v=.slice a 64 c:=(by obtain⟨a,c,e,_⟩:=h;exact⟨a,c,by rw[e,bvs_len,hl]⟩);obtain⟨a,c,rfl⟩:=hv;have HR:=Hd h;have aU:=Hd hl;have m:=Hd hB;obtain⟨b,F,rfl,R,_⟩:=Zjh h (i:=0) (by omega);have BC:=fun(i:Nat) (hi:i<64)=>(by
  obtain⟨b',off',e,_,hc⟩:=Zjh h (i:=i) (by omega);simp only[Option.some.injEq,Addr.mk.injEq,and_true]at e;obtain⟨rfl,rfl⟩:=e;exact hc:w.cell? ⟨b,F+i,none⟩=some (.int .u8 ((B.getD i 0:Nat):Int)))
 have z:=Hd BC;clear BC h hl hB;go_enter Tryz.func271,Tryz.ntmps271;go_wp2_with fail
 go_loopg [10] 16 (fun q iv wr=>∃t:Nat,t+q=16∧iv=.int .i64 (t:Nat)∧Blk wr w.heap.size 272 Z64∧Blk wr (w.heap.size+1) 272 (Hp (wP B t))∧Below w.heap.size w wr)
 case atStart=>exact⟨0,rfl,rfl,(Blk.new w _ _).alloc _,by rw[Zj5];have:=Blk.new (w.alloc (.cells Z64 272)) 272 Z64;simpa using this,(bR.alloc lR _).alloc (by simp) _⟩
 case round=>
  obtain⟨t,ht,rfl,T,n,s⟩:=hrel;have HT:=Hd ht;have aA:=Hd T;have X:=Hd n;have HB:=Hd s
  by_cases hlt:t<16
  ·have aF:decide ((t:Int)<16)=true:=(by rw[decide_eq_true_iff];omega);obtain⟨l,D⟩:=eX (4*t);obtain⟨H,E⟩:=eX (4*t+1);obtain⟨G,u⟩:=eX (4*t+2);obtain⟨I,A⟩:=eX (4*t+3);have i0:4*(t:Int)=(l:Int):=(by omega);have i1:(l:Int)+1=(H:Int):=(by omega);have i2:(l:Int)+2=(G:Int):=(by omega);have i3:(l:Int)+3=(I:Int):=(by omega);have l0:l<64:=(by omega);have l1:H<64:=(by omega);have l2:G<64:=(by omega);have l3:I<64:=(by omega);have c0:=(s.cell (p:=⟨b,F+l,none⟩) R).trans (z.out l l0);have c1:=(s.cell (p:=⟨b,F+H,none⟩) R).trans (z.out H l1);have c2:=(s.cell (p:=⟨b,F+G,none⟩) R).trans (z.out G l2);have c3:=(s.cell (p:=⟨b,F+I,none⟩) R).trans (z.out I l3);obtain⟨r,g⟩:=eX (B.getD l 0);obtain⟨o,f⟩:=eX (B.getD H 0);obtain⟨Y,j⟩:=eX (B.getD G 0);obtain⟨S,d⟩:=eX (B.getD I 0);rw[←g]at c0;rw[←f]at c1;rw[←j]at c2;rw[←d]at c3;have x0:r<256:=(by rw[g];exact Gz m.out (by omega) _);have x1:o<256:=(by rw[f];exact Gz m.out (by omega) _);have x2:Y<256:=(by rw[j];exact Gz m.out (by omega) _);have x3:S<256:=(by rw[d];exact Gz m.out (by omega) _);have aY:=Hd g;have aJ:=Hd f;have aV:=Hd j;have aW:=Hd d;have aL:=Hd D;have aR:=Hd E;have aT:=Hd u;have aK:=Hd A;have f1:=n.frozen t;have g1:=n.cell t;rw[Ez (by rw[Tb _ (by omega)];omega)]at g1;obtain⟨aX,k⟩:=eX ((wP B t).getD t 0);rw[←k]at g1;clear ht D E u A g f j d T n s k;go_wp2_with fail
   go_region
   go_wp2_with fail;go_roundg (gk-1);case measure=>have:=HT.out;omega
   case rel=>
    refine⟨t+1,by have:=HT.out;omega,by go_num,(aA.out.far (p:=⟨w.heap.size+1,t,none⟩) (by simp) _).drewN 1,?_,(HB.out.setCell (p:=⟨w.heap.size+1,t,none⟩) (by simp) _).drew⟩;rw[Zmt r o Y S x0 x1 x2 x3];have hn:((r*256+o)*256+Y)*256+S=wNext B (wL B t) t:=by
     unfold wNext;rw[if_pos hlt,aY.out,aJ.out,aV.out,aW.out,aL.out,aR.out,aT.out,aK.out]
    rw[hn,←Zc0 B (show t<64 by omega),←Jv];exact(X.out.set t _).drewN 1
  ·obtain rfl:t=16:=(by omega);clear ht T n s hlt;go_wp2_with fail;obtain⟨g1,rfl⟩:=eX gk;obtain⟨w1,rfl⟩:=eX wr
   go_loopg [5] 48 (fun q iv wr=>∃t:Nat,t+q=64∧16≤t∧iv=.int .i64 (t:Nat)∧Blk wr w.heap.size 272 Z64∧Blk wr (w.heap.size+1) 272 (Hp (wP B t))∧Below w.heap.size w wr)
   case atStart=>exact⟨16,rfl,lR,rfl,aA.out,X.out,HB.out⟩
   case round=>
    obtain⟨t,ht,a0,rfl,T,n,s⟩:=hrel;have HT:=Hd ht;have aB:=Hd T;have aC:=Hd n;have aE:=Hd s
    by_cases hlt:t<64
    ·have aF:decide ((t:Int)<64)=true:=(by rw[decide_eq_true_iff];omega);have wl:=wL_lt m.out t;obtain⟨l,D⟩:=eX (t-15);obtain⟨H,E⟩:=eX (t-2);obtain⟨G,u⟩:=eX (t-7);obtain⟨I,A⟩:=eX (t-16);have i0:(t:Int)-15=(l:Int):=(by omega);have i1:(t:Int)-2=(H:Int):=(by omega);have i2:(t:Int)-7=(G:Int):=(by omega);have i3:(t:Int)-16=(I:Int):=(by omega);have l0:l<64:=(by omega);have l1:H<64:=(by omega);have l2:G<64:=(by omega);have l3:I<64:=(by omega);have CC:=fun(i:Nat) (hi:i<t)=>(show wr.cell? ⟨w.heap.size+1,i,none⟩=some (.int .u32 (((wL B t).getD i 0:Nat):Int)) by
      rw[n.cell i,Ez (by rw[Tb _ (by omega)];omega),Zlo _ hi])
     have c0:=CC l (by omega);have c1:=CC H (by omega);have c2:=CC G (by omega);have c3:=CC I (by omega);obtain⟨r,g⟩:=eX ((wL B t).getD l 0);obtain⟨o,f⟩:=eX ((wL B t).getD H 0);obtain⟨Y,j⟩:=eX ((wL B t).getD G 0);obtain⟨S,d⟩:=eX ((wL B t).getD I 0);rw[←g]at c0;rw[←f]at c1;rw[←j]at c2;rw[←d]at c3;have x0:r<4294967296:=(by rw[g];exact getD_lt32 wl _);have x1:o<4294967296:=(by rw[f];exact getD_lt32 wl _);have x2:Y<4294967296:=(by rw[j];exact getD_lt32 wl _);have x3:S<4294967296:=(by rw[d];exact getD_lt32 wl _);obtain⟨q0,aH⟩:=eX (r/8);obtain⟨q1,aD⟩:=eX (o/1024);have d0:(r:Int)/8=(q0:Int):=(by omega);have d1:(o:Int)/1024=(q1:Int):=(by omega);obtain⟨r1,N⟩:=eX (rot r 7);obtain⟨r2,L⟩:=eX (rot r 18);obtain⟨r3,J⟩:=eX (rot o 17);obtain⟨r4,Q⟩:=eX (rot o 19);have S1:=fun W=>Gj r 7 x0 (by omega) (by omega) W;have S2:=fun W=>Gj r 18 x0 (by omega) (by omega) W;have S3:=fun W=>Gj o 17 x1 (by omega) (by omega) W;have S4:=fun W=>Gj o 19 x1 (by omega) (by omega) W;rw[←N]at S1;rw[←L]at S2;rw[←J]at S3;rw[←Q]at S4;have b1:r1<4294967296:=(by rw[N];exact rot_lt x0 (by omega));have b2:r2<4294967296:=(by rw[L];exact rot_lt x0 (by omega));have b3:r3<4294967296:=(by rw[J];exact rot_lt x1 (by omega));have b4:r4<4294967296:=(by rw[Q];exact rot_lt x1 (by omega));have X1:=Lq r1 r2 b1 b2;have X2:=Lq (r1^^^r2) q0 (xor_lt32 b1 b2) (by omega);have X3:=Lq r3 r4 b3 b4;have X4:=Lq (r3^^^r4) q1 (xor_lt32 b3 b4) (by omega);obtain⟨z1,P⟩:=eX (r1^^^r2);obtain⟨z3,O⟩:=eX (r3^^^r4);rw[←P]at X1 X2;rw[←O]at X3 X4;obtain⟨z2,K⟩:=eX (z1^^^q0);obtain⟨z4,M⟩:=eX (z3^^^q1);rw[←K]at X2;rw[←M]at X4;have HV:=Hd (show(z4+Y+z2+S)%4294967296=wNext B (wL B t) t by
      unfold wNext;rw[if_neg (by omega),s0N,s1N,←D,←E,←u,←A,←g,←f,←j,←d,←N,←L,←J,←Q,←P,←O,←aH,←aD,←K,←M])
     have b5:z2<4294967296:=(by rw[K,P];exact xor_lt32 (xor_lt32 b1 b2) (by omega));have b6:z4<4294967296:=(by rw[M,O];exact xor_lt32 (xor_lt32 b3 b4) (by omega));have aQ:=Hd S1;have aP:=Hd S2;have aM:=Hd S3;have aS:=Hd S4;have f1:=n.frozen t;have aG:=n.cell t;rw[Ez (by rw[Tb _ (by omega)];omega)]at aG;obtain⟨aX,k⟩:=eX ((wP B t).getD t 0);rw[←k]at aG;clear ht D E u A g f j d T n s k CC wl S1 S2 S3 S4 aH aD N L J Q P K O M;go_wp2_with fail
     go_quiet (fail)
     go_wp2_with fail;refine(aQ.out _).mono ?_;rintro e w' ⟨rfl,rfl⟩;go_wp2_with fail;refine(aP.out _).mono ?_;rintro e w' ⟨rfl,rfl⟩;go_wp2_with fail;refine(aM.out _).mono ?_;rintro e w' ⟨rfl,rfl⟩;go_wp2_with fail;refine(aS.out _).mono ?_;rintro e w' ⟨rfl,rfl⟩;go_wp2_with fail
     go_region
     go_wp2_with fail;go_roundg (gk-1);case measure=>have:=HT.out;omega
     case rel=>
      refine⟨t+1,by have:=HT.out;omega,by omega,by go_num,?_,?_,?_⟩
      ·exact((aB.out.drewN _).far (p:=⟨w.heap.size+1,t,none⟩) (by simp) _)
      ·have e:((z4:Int)+(Y:Int)+(z2:Int)+(S:Int))%4294967296=((wNext B (wL B t) t:Nat):Int):=(by rw[←HV.out,Int.natCast_emod,dS,dS,dS];rfl);rw[e,←Zc0 B hlt,←Jv];exact(aC.out.drewN _).set t _
      ·exact(Ab aE.out _).setCell (p:=⟨w.heap.size+1,t,none⟩) (by simp) _
    ·obtain rfl:t=64:=(by omega);clear ht T n s hlt;have hL:wP B 64=wL B 64:=(by rw[wP,Nat.sub_self,List.replicate_zero,List.append_nil]);have Z:=Yh (wP B 64) (Tb B lR);have y:Z64.size=(Hp (wP B 64)).size:=(by rw[aI,Bi,Tb B lR]);have C:=Ft (wP B 64);have V:=aC.out;obtain⟨CS,U⟩:=eX (Hp (wP B 64));rw[←U]at Z y C V;have HI:=Hd Z;have aN:=Hd y;have aZ:=Hd C;have HJ:=Hd V;have aO:=Hd (show CS=Hp (wL B 64) by rw[U,hL]);clear Z y C V U hL aI hz aC aA X HB HT z m HR aU;go_wp2_with (first|(refine wpList_load_row rfl 272 (.tmp 3) rfl (w.heap.size+1) rfl 272 CS (0,0) _ HJ.out Tryz.underlying272 rfl HI.out ?_)|(refine wpList_store_row rfl 272 (.tmp 2) (.tmp 92) rfl w.heap.size CS rfl rfl 272 Z64 aB.out HI.out aN.out aZ.out ?_));refine bodyPost_ret (results_cell_row rfl _ _ w.heap.size 272 CS (0,0) _ rfl (setRow_heap _ _ _ _ _ _ aB.out) Tryz.underlying272 rfl HI.out) rfl ⟨?_,?_⟩
     ·rw[aO.out]
     ·exact aE.out.trans ⟨rfl,rfl,rfl,by simp,fun i hi=>setRow_other _ _ _ _ (by omega)⟩
def Z8a:Array Value:=Hp (cK 8 0)
theorem Zg9 (L:List Nat)(h:L.length=8):(Tryz.prog.info? 244).map (·.size)=some (Hp L).size:=by
 rw[Bi,h]
 kernel_rfl
theorem Pb {P:Program} {w:World} {ops:Array Oper} {rest:List Oper} {o:Oper} {a:Act} {Q:Exit→Act→World→Prop} (b:o.guard=none) (t:TypeId) (c:Array (Nat×Operand)) (e:o.op=.build t c)
  (cs:Array Value) (d:P.built t (c.map fun(i,x)=>(i,a.eval x)).toList=some cs) (h:wpList P ops Q rest (a.put o.dst (.agg cs)) w):wpList P ops Q (o::rest) a w:=by
 have k:=wpList_build (P:=P) (w:=w) (ops:=ops) (rest:=rest) (a:=a) (Q:=Q) b t c e (by rw[d];rfl);rw[d]at k;exact k h
def HLa:Array Value:=Hp HL0
def KLa:Array Value:=Hp KL
theorem Zc2 (w:World):
  Calls Tryz.prog 231 #[] w fun e w'=>e=.returned (.agg HLa)∧Below w.heap.size w w':=by
 have g:∀w,(zeroValue 244).run Tryz.prog w=.ok (.agg Z8a) w:=fun _=>(by kernel_rfl);have d:=Hd (show(Tryz.prog.info? 244).map (·.size)=some HLa.size from Zg9 HL0 rfl);have a:=Hd (show Z8a.size=HLa.size by unfold Z8a HLa;rw[Bi,Bi];rfl);have b:=Hd (show HLa.all (·.oneCell')=true from Ft HL0);have c:=Hd (heap_alloc_new w (.cells Z8a 244));go_enter Tryz.func231,Tryz.ntmps231;go_wp2_with (first|(refine Pb rfl 244 _ rfl HLa (by kernel_rfl) ?_)|(refine wpList_store_row rfl 244 (.tmp 0) (.tmp 1) rfl w.heap.size HLa rfl rfl 244 Z8a c.out d.out a.out b.out ?_));refine bodyPost_ret (results_cell_row rfl _ _ w.heap.size 244 HLa (0,0) _ rfl (setRow_heap _ _ _ _ _ _ c.out) Tryz.underlying244 rfl d.out) rfl ⟨rfl,?_⟩;exact(bR.alloc lR _).trans ⟨rfl,rfl,rfl,by simp,fun i f=>setRow_other _ _ _ _ (by omega)⟩
theorem Zay (w:World):
  Calls Tryz.prog 272 #[] w fun e w'=>e=.returned (.agg KLa)∧Below w.heap.size w w':=by
 have g:∀w,(zeroValue 272).run Tryz.prog w=.ok (.agg Z64) w:=fun _=>(by kernel_rfl);have d:=Hd (show(Tryz.prog.info? 272).map (·.size)=some KLa.size from Yh KL rfl);have a:=Hd (show Z64.size=KLa.size by unfold Z64 KLa;rw[Bi,Bi];rfl);have b:=Hd (show KLa.all (·.oneCell')=true from Ft KL);have c:=Hd (heap_alloc_new w (.cells Z64 272));go_enter Tryz.func272,Tryz.ntmps272;go_wp2_with (first|(refine Pb rfl 272 _ rfl KLa (by kernel_rfl) ?_)|(refine wpList_store_row rfl 272 (.tmp 0) (.tmp 1) rfl w.heap.size KLa rfl rfl 272 Z64 c.out d.out a.out b.out ?_));refine bodyPost_ret (results_cell_row rfl _ _ w.heap.size 272 KLa (0,0) _ rfl (setRow_heap _ _ _ _ _ _ c.out) Tryz.underlying272 rfl d.out) rfl ⟨rfl,?_⟩;exact(bR.alloc lR _).trans ⟨rfl,rfl,rfl,by simp,fun i f=>setRow_other _ _ _ _ (by omega)⟩
end Go.Proofs.YtfofaiommeckbaaGreat
