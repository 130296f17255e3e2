import Derived.Test.YtfofaiommeckbaaGreatZCk08
import Derived.BigRegion
import Derived.OrdersIn
import Derived.RangeFuncCalls
open Go.Obj renaming cells -> rJ
open Go.Ending renaming returned -> rK
open Go.Value renaming slice -> rC, int -> rD, pointer -> rE
open Go.IntKind renaming u8 -> rG
open Option renaming none -> rI
open Go.Proofs.Tryz
open List renaming getD_eq_getElem?_getD -> aS, mem_map -> eA, replicate -> eK, getElem?_eq_getElem -> bB, length_set -> eL, filterMap_cons -> dG, filterMap_nil -> dH, contains_cons -> dJ, contains_nil -> dK, all_cons -> eM, all_nil -> eN
open Nat renaming shiftLeft_add_eq_or_of_lt -> eQ, shiftLeft_eq -> eR, le_trans -> eT, lt_of_lt_of_le -> cH, testBit_xor -> cA, testBit_two_pow_sub_one -> eU, testBit_lt_two_pow -> eV, pow_le_pow_right -> bQ, le_of_lt -> eW, lt_or_ge -> aB, add_mod -> eY
open Int renaming natCast_mul -> eZ, natCast_emod -> fA, natCast_add -> fB
open Array renaming all_toList -> fC, getElem?_eq_none -> aE
set_option linter.unusedVariables false
set_option maxRecDepth 100000
set_option maxHeartbeats 40000000
namespace Go.Proofs.YtfofaiommeckbaaGreat
open Go.RowKit ShaM
def Zge (L:List Nat):List Value:=L.map fun(n:Nat)=> .int .u32 (n:Int)
def Hg (L:List Nat):Array Value:=(Zge L).toArray
theorem Zhi (L:List Nat):(Zge L).length=L.length:=by simp[Zge]
theorem Bm (L:List Nat):(Hg L).size=L.length:=by simp[Hg,Zge]
theorem Eo {L:List Nat} {i:Nat}(h:i<L.length):(Hg L)[i]? =some (.int .u32 ((L.getD i 0:Nat):Int)):=by
 simp[Hg,Zge,aS,h]
theorem Ki (L:List Nat)(i n:Nat):(Hg L).setIfInBounds i (.int .u32 (n:Int))=Hg (L.set i n):=by
 simp[Hg,Zge]
theorem Fk (L:List Nat):(Hg L).all (·.oneCell')=true:=by
 rw[Array.all_eq_true_iff_forall_mem];intro x hx;simp only[Hg,Zge,List.mem_toArray,eA]at hx;obtain⟨n,_,rfl⟩:=hx
 rfl
def Z64:Array Value:=Hg (eK 64 0)
def wP (B:List Nat)(t:Nat):List Nat:=wL B t++eK (64-t) 0
theorem Zki (B:List Nat):Hg (wP B 0)=Z64:=by rw[wP,wL,List.nil_append,Nat.sub_zero,Z64]
theorem Tv (B:List Nat) {t:Nat}(h:t<=64):(wP B t).length=64:=by simp[wP,wL_len];omega
theorem Zly (B:List Nat) {t i:Nat}(h:i<t):(wP B t).getD i 0=(wL B t).getD i 0:=by
 rw[wP,aS,List.getElem?_append_left (by rw[wL_len];exact h),aS]
theorem Zda (B:List Nat) {t:Nat}(h:t<64):(wP B t).set t (wNext B (wL B t) t)=wP B (t+1):=by
 rw[wP,wP,wL,show 64-t=(64-(t+1))+1 by omega,List.replicate_succ,List.set_append_right _ _ (by rw[wL_len];omega),wL_len];simp
theorem Zjh {w:World} {a:Option Addr} {n c:Nat} {B:List Nat}(h:Rd w (rC a n c) (bvs B)) {i:Nat}(hi:i<B.length):∃b off,a=some ⟨b,off,rI⟩/\b<w.heap.size/\w.cell? ⟨b,off+i,rI⟩=some (rD rG ((B.getD i 0:Nat):Int)):=
 h.at3 (Rc hi)
theorem Zm5 (a b c d:Nat)(e:a<256)(f:b<256)(g:c<256)(j:d<256):
  bits .or .u32 (bits .or .u32 (bits .or .u32 ((a:Int)*16777216) ((b:Int)*65536)) ((c:Int)*256)) (d:Int)=((((a*256+b)*256+c)*256+d:Nat):Int):=by
 have h1:a*16777216|||b*65536=a*16777216+b*65536:=by
  have h:=eQ (a:=a) (b:=b*65536) (i:=24) (by omega);rw[eR]at h;exact h.symm
 have h2:(a*16777216+b*65536)|||c*256=a*16777216+b*65536+c*256:=by
  have h:=eQ (a:=a*256+b) (b:=c*256) (i:=16) (by omega);rw[eR,show(a*256+b)*2^16=a*16777216+b*65536 by rw[Nat.add_mul,Nat.mul_assoc]]at h;exact h.symm
 have h3:(a*16777216+b*65536+c*256)|||d=a*16777216+b*65536+c*256+d:=by
  have h:=eQ (a:=(a*256+b)*256+c) (b:=d) (i:=8) (by omega);rw[eR,show((a*256+b)*256+c)*2^8=a*16777216+b*65536+c*256 by omega]at h;exact h.symm
 rw[show(a:Int)*16777216=((a*16777216:Nat):Int)from(eZ a 16777216).symm,show(b:Int)*65536=((b*65536:Nat):Int)from(eZ b 65536).symm,show(c:Int)*256=((c*256:Nat):Int)from(eZ c 256).symm,
  Zmq _ _ (by omega) (by omega),h1,Zmq _ _ (by omega) (by omega),h2,Zmq _ _ (by omega) (by omega),h3]
 omega
theorem Ym (L:List Nat)(h:L.length=64):(prog.info? 272).map (·.size)=some (Hg L).size:=by
 rw[Bm,h]
 kernel_rfl
theorem Zdb (v:Value)(B:List Nat)(w:World)(h:Rd w v (bvs B))(hB:∀x∈B,x<256)(hl:B.length=64):
  Calls prog 271 #[v] w fun e w'=>e=rK (.agg (Hg (wL B 64)))/\Below w.heap.size w w':=by
 have hz:∀w,(zeroValue 272).run prog w=.ok (.agg Z64) w:=fun _=>(by kernel_rfl);have aF:Z64.size=64:=(by unfold Z64;rw[Bm,List.length_replicate]);have hv:∃a c,v=.slice a 64 c:=(by obtain⟨a,c,e,_⟩:=h;exact⟨a,c,by rw[e,bvs_len,hl]⟩);obtain⟨a,c,rfl⟩:=hv;have HR:=Hd h;have aH:=Hd hl;have l:=Hd hB;obtain⟨b,D,rfl,J,_⟩:=Zjh h (i:=0) (by omega);have BC:=fun(i:Nat) (hi:i<64)=>(by
  obtain⟨b',off',e,_,hc⟩:=Zjh h (i:=i) (by omega);simp only[Option.some.injEq,Addr.mk.injEq,and_true]at e;obtain⟨rfl,rfl⟩:=e;exact hc:w.cell? ⟨b,D+i,rI⟩=some (rD rG ((B.getD i 0:Nat):Int)))
 have o:=Hd BC;clear BC h hl hB;go_in;go_wp2_with fail
 go_loopg [10] 16 (fun q iv wr=>∃t:Nat,t+q=16/\iv=rD .i64 (t:Nat)/\Blk wr w.heap.size 272 Z64/\Blk wr (w.heap.size+1) 272 (Hg (wP B t))/\Below w.heap.size w wr)
 case atStart=>exact⟨0,rfl,rfl,(Blk.new w _ _).alloc _,by rw[Zki];have:=Blk.new (w.alloc (.cells Z64 272)) 272 Z64;simpa using this,(bR.alloc lR _).alloc (by simp) _⟩
 case round=>
  obtain⟨t,ht,rfl,k0,n,u⟩:=hrel;have HT:=Hd ht;have X:=Hd k0;have Y:=Hd n;have HB:=Hd u
  by_cases hlt:t<16
  ·have aC:decide ((t:Int)<16)=true:=(by rw[dI];omega);obtain⟨m,y⟩:=eX (4*t);obtain⟨G,z⟩:=eX (4*t+1);obtain⟨H,A⟩:=eX (4*t+2);obtain⟨I,C⟩:=eX (4*t+3);have i0:4*(t:Int)=(m:Int):=(by omega);have i1:(m:Int)+1=(G:Int):=(by omega);have i2:(m:Int)+2=(H:Int):=(by omega);have i3:(m:Int)+3=(I:Int):=(by omega);have l0:m<64:=(by omega);have l1:G<64:=(by omega);have l2:H<64:=(by omega);have l3:I<64:=(by omega);have c0:=(u.cell (p:=⟨b,D+m,rI⟩) J).trans (o.out m l0);have c1:=(u.cell (p:=⟨b,D+G,rI⟩) J).trans (o.out G l1);have c2:=(u.cell (p:=⟨b,D+H,rI⟩) J).trans (o.out H l2);have c3:=(u.cell (p:=⟨b,D+I,rI⟩) J).trans (o.out I l3);obtain⟨E,d⟩:=eX (B.getD m 0);obtain⟨F,f⟩:=eX (B.getD G 0);obtain⟨y2,g⟩:=eX (B.getD H 0);obtain⟨y3,j⟩:=eX (B.getD I 0);rw[<-d]at c0;rw[<-f]at c1;rw[<-g]at c2;rw[<-j]at c3;have x0:E<256:=(by rw[d];exact Gl l.out (by omega) _);have x1:F<256:=(by rw[f];exact Gl l.out (by omega) _);have x2:y2<256:=(by rw[g];exact Gl l.out (by omega) _);have x3:y3<256:=(by rw[j];exact Gl l.out (by omega) _);have aR:=Hd d;have aS:=Hd f;have aT:=Hd g;have aU:=Hd j;have aJ:=Hd y;have aK:=Hd z;have aL:=Hd A;have aM:=Hd C;have f1:=n.frozen t;have g1:=n.cell t;rw[Eo (by rw[Tv _ (by omega)];omega)]at g1;obtain⟨aW,k⟩:=eX ((wP B t).getD t 0);rw[<-k]at g1;clear ht y z A C d f g j k0 n u k;go_wp2_with fail
   go_region
   go_wp2_with fail;go_roundg (gk-1);case measure=>have:=HT.out;omega
   case rel=>
    refine⟨t+1,by have:=HT.out;omega,by go_num,(X.out.far (p:=⟨w.heap.size+1,t,rI⟩) (by simp) _).drewN 1,?_,(HB.out.setCell (p:=⟨w.heap.size+1,t,rI⟩) (by simp) _).drew⟩;rw[Zm5 E F y2 y3 x0 x1 x2 x3];have hn:((E*256+F)*256+y2)*256+y3=wNext B (wL B t) t:=by
     unfold wNext;rw[iP hlt,aR.out,aS.out,aT.out,aU.out,aJ.out,aK.out,aL.out,aM.out]
    rw[hn,<-Zda B (show t<64 by omega),<-Ki];exact(Y.out.set t _).drewN 1
  ·obtain rfl:t=16:=(by omega);clear ht k0 n u hlt;go_wp2_with fail;obtain⟨g1,rfl⟩:=eX gk;obtain⟨w1,rfl⟩:=eX wr
   go_loopg [5] 48 (fun q iv wr=>∃t:Nat,t+q=64/\16<=t/\iv=rD .i64 (t:Nat)/\Blk wr w.heap.size 272 Z64/\Blk wr (w.heap.size+1) 272 (Hg (wP B t))/\Below w.heap.size w wr)
   case atStart=>exact⟨16,rfl,lR,rfl,X.out,Y.out,HB.out⟩
   case round=>
    obtain⟨t,ht,aX,rfl,k0,n,u⟩:=hrel;have HT:=Hd ht;have U:=Hd k0;have V:=Hd n;have aA:=Hd u
    by_cases hlt:t<64
    ·have aC:decide ((t:Int)<64)=true:=(by rw[dI];omega);have wl:=wL_lt l.out t;obtain⟨m,y⟩:=eX (t-15);obtain⟨G,z⟩:=eX (t-2);obtain⟨H,A⟩:=eX (t-7);obtain⟨I,C⟩:=eX (t-16);have i0:(t:Int)-15=(m:Int):=(by omega);have i1:(t:Int)-2=(G:Int):=(by omega);have i2:(t:Int)-7=(H:Int):=(by omega);have i3:(t:Int)-16=(I:Int):=(by omega);have l0:m<64:=(by omega);have l1:G<64:=(by omega);have l2:H<64:=(by omega);have l3:I<64:=(by omega);have CC:=fun(i:Nat) (hi:i<t)=>(show wr.cell? ⟨w.heap.size+1,i,rI⟩=some (.int .u32 (((wL B t).getD i 0:Nat):Int)) by
      rw[n.cell i,Eo (by rw[Tv _ (by omega)];omega),Zly _ hi])
     have c0:=CC m (by omega);have c1:=CC G (by omega);have c2:=CC H (by omega);have c3:=CC I (by omega);obtain⟨E,d⟩:=eX ((wL B t).getD m 0);obtain⟨F,f⟩:=eX ((wL B t).getD G 0);obtain⟨y2,g⟩:=eX ((wL B t).getD H 0);obtain⟨y3,j⟩:=eX ((wL B t).getD I 0);rw[<-d]at c0;rw[<-f]at c1;rw[<-g]at c2;rw[<-j]at c3;have x0:E<4294967296:=(by rw[d];exact getD_lt32 wl _);have x1:F<4294967296:=(by rw[f];exact getD_lt32 wl _);have x2:y2<4294967296:=(by rw[g];exact getD_lt32 wl _);have x3:y3<4294967296:=(by rw[j];exact getD_lt32 wl _);obtain⟨q0,aD⟩:=eX (E/8);obtain⟨q1,aE⟩:=eX (F/1024);have d0:(E:Int)/8=(q0:Int):=(by omega);have d1:(F:Int)/1024=(q1:Int):=(by omega);obtain⟨r1,K⟩:=eX (rot E 7);obtain⟨r2,L⟩:=eX (rot E 18);obtain⟨r3,M⟩:=eX (rot F 17);obtain⟨r4,N⟩:=eX (rot F 19);have S1:=fun W=>Ft E 7 x0 (by omega) (by omega) W;have S2:=fun W=>Ft E 18 x0 (by omega) (by omega) W;have S3:=fun W=>Ft F 17 x1 (by omega) (by omega) W;have S4:=fun W=>Ft F 19 x1 (by omega) (by omega) W;rw[<-K]at S1;rw[<-L]at S2;rw[<-M]at S3;rw[<-N]at S4;have b1:r1<4294967296:=(by rw[K];exact rot_lt x0 (by omega));have b2:r2<4294967296:=(by rw[L];exact rot_lt x0 (by omega));have b3:r3<4294967296:=(by rw[M];exact rot_lt x1 (by omega));have b4:r4<4294967296:=(by rw[N];exact rot_lt x1 (by omega));have X1:=Mi r1 r2 b1 b2;have X2:=Mi (r1^^^r2) q0 (xor_lt32 b1 b2) (by omega);have X3:=Mi r3 r4 b3 b4;have X4:=Mi (r3^^^r4) q1 (xor_lt32 b3 b4) (by omega);obtain⟨z1,O⟩:=eX (r1^^^r2);obtain⟨z3,Q⟩:=eX (r3^^^r4);rw[<-O]at X1 X2;rw[<-Q]at X3 X4;obtain⟨z2,P⟩:=eX (z1^^^q0);obtain⟨z4,R⟩:=eX (z3^^^q1);rw[<-P]at X2;rw[<-R]at X4;have HV:=Hd (show(z4+y2+z2+y3)%4294967296=wNext B (wL B t) t by
      unfold wNext;rw[iN (by omega),s0N,s1N,<-y,<-z,<-A,<-C,<-d,<-f,<-g,<-j,<-K,<-L,<-M,<-N,<-O,<-Q,<-aD,<-aE,<-P,<-R])
     have b5:z2<4294967296:=(by rw[P,O];exact xor_lt32 (xor_lt32 b1 b2) (by omega));have b6:z4<4294967296:=(by rw[R,Q];exact xor_lt32 (xor_lt32 b3 b4) (by omega));have aN:=Hd S1;have aO:=Hd S2;have aP:=Hd S3;have aQ:=Hd S4;have f1:=n.frozen t;have aB:=n.cell t;rw[Eo (by rw[Tv _ (by omega)];omega)]at aB;obtain⟨aW,k⟩:=eX ((wP B t).getD t 0);rw[<-k]at aB;clear ht y z A C d f g j k0 n u k CC wl S1 S2 S3 S4 aD aE K L M N O P Q R;go_wp2_with fail
     go_quiet (fail)
     go_wp2_with fail;refine(aN.out _).mono ?_;rintro e w' ⟨rfl,rfl⟩;go_wp2_with fail;refine(aO.out _).mono ?_;rintro e w' ⟨rfl,rfl⟩;go_wp2_with fail;refine(aP.out _).mono ?_;rintro e w' ⟨rfl,rfl⟩;go_wp2_with fail;refine(aQ.out _).mono ?_;rintro e w' ⟨rfl,rfl⟩;go_wp2_with fail
     go_region
     go_wp2_with fail;go_roundg (gk-1);case measure=>have:=HT.out;omega
     case rel=>
      refine⟨t+1,by have:=HT.out;omega,by omega,by go_num,?_,?_,?_⟩
      ·exact((U.out.drewN _).far (p:=⟨w.heap.size+1,t,rI⟩) (by simp) _)
      ·have e:((z4:Int)+(y2:Int)+(z2:Int)+(y3:Int))%4294967296=((wNext B (wL B t) t:Nat):Int):=(by rw[<-HV.out,fA,fB,fB,fB];rfl);rw[e,<-Zda B hlt,<-Ki];exact(V.out.drewN _).set t _
      ·exact(Ab aA.out _).setCell (p:=⟨w.heap.size+1,t,rI⟩) (by simp) _
    ·obtain rfl:t=64:=(by omega);clear ht k0 n u hlt;have hL:wP B 64=wL B 64:=(by rw[wP,Nat.sub_self,List.replicate_zero,List.append_nil]);have S:=Ym (wP B 64) (Tv B lR);have s:Z64.size=(Hg (wP B 64)).size:=(by rw[aF,Bm,Tv B lR]);have r:=Fk (wP B 64);have T:=V.out;obtain⟨CS,Z⟩:=eX (Hg (wP B 64));rw[<-Z]at S s r T;have HI:=Hd S;have aV:=Hd s;have aI:=Hd r;have HJ:=Hd T;have aG:=Hd (show CS=Hg (wL B 64) by rw[Z,hL]);clear S s r T Z hL aF hz V X Y HB HT o l HR aH;go_wp2_with (first|(refine wpList_load_row rfl 272 (.tmp 3) rfl (w.heap.size+1) rfl 272 CS (0,0) _ HJ.out underlying272 rfl HI.out ?_)|(refine wpList_store_row rfl 272 (.tmp 2) (.tmp 92) rfl w.heap.size CS rfl rfl 272 Z64 U.out HI.out aV.out aI.out ?_));refine bodyPost_ret (results_cell_row rfl _ _ w.heap.size 272 CS (0,0) _ rfl (setRow_heap _ _ _ _ _ _ U.out) underlying272 rfl HI.out) rfl ⟨?_,?_⟩
     ·rw[aG.out]
     ·exact aA.out.trans ⟨rfl,rfl,rfl,by simp,fun i hi=>setRow_other _ _ _ _ (by omega)⟩
def Z8a:Array Value:=Hg (eK 8 0)
theorem Zhj (L:List Nat)(h:L.length=8):(prog.info? 244).map (·.size)=some (Hg L).size:=by
 rw[Bm,h]
 kernel_rfl
theorem Qc {P:Program} {w:World} {ops:Array Oper} {rest:List Oper} {o:Oper} {a:Act} {Q:Exit->Act->World->Prop} (b:o.guard=none) (t:TypeId) (c:Array (Nat×Operand)) (e:o.op=.build t c)
  (cs:Array Value) (d:P.built t (c.map fun(i,x)=>(i,a.eval x)).toList=some cs) (h:wpList P ops Q rest (a.put o.dst (.agg cs)) w):wpList P ops Q (o::rest) a w:=by
 have k:=wpList_build (P:=P) (w:=w) (ops:=ops) (rest:=rest) (a:=a) (Q:=Q) b t c e (by rw[d];rfl);rw[d]at k;exact k h
def HLa:Array Value:=Hg HL0
def KLa:Array Value:=Hg KL
theorem Zdc (w:World):
  Calls prog 231 #[] w fun e w'=>e=rK (.agg HLa)/\Below w.heap.size w w':=by
 have g:∀w,(zeroValue 244).run prog w=.ok (.agg Z8a) w:=fun _=>(by kernel_rfl);have c:=Hd (show(prog.info? 244).map (·.size)=some HLa.size from Zhj HL0 rfl);have b:=Hd (show Z8a.size=HLa.size by unfold Z8a HLa;rw[Bm,Bm];rfl);have a:=Hd (show HLa.all (·.oneCell')=true from Fk HL0);have d:=Hd (heap_alloc_new w (.cells Z8a 244));go_in;go_wp2_with (first|(refine Qc rfl 244 _ rfl HLa (by kernel_rfl) ?_)|(refine wpList_store_row rfl 244 (.tmp 0) (.tmp 1) rfl w.heap.size HLa rfl rfl 244 Z8a d.out c.out b.out a.out ?_));refine bodyPost_ret (results_cell_row rfl _ _ w.heap.size 244 HLa (0,0) _ rfl (setRow_heap _ _ _ _ _ _ d.out) underlying244 rfl c.out) rfl ⟨rfl,?_⟩;exact(bR.alloc lR _).trans ⟨rfl,rfl,rfl,by simp,fun i f=>setRow_other _ _ _ _ (by omega)⟩
theorem Za5 (w:World):
  Calls prog 272 #[] w fun e w'=>e=rK (.agg KLa)/\Below w.heap.size w w':=by
 have g:∀w,(zeroValue 272).run prog w=.ok (.agg Z64) w:=fun _=>(by kernel_rfl);have c:=Hd (show(prog.info? 272).map (·.size)=some KLa.size from Ym KL rfl);have b:=Hd (show Z64.size=KLa.size by unfold Z64 KLa;rw[Bm,Bm];rfl);have a:=Hd (show KLa.all (·.oneCell')=true from Fk KL);have d:=Hd (heap_alloc_new w (.cells Z64 272));go_in;go_wp2_with (first|(refine Qc rfl 272 _ rfl KLa (by kernel_rfl) ?_)|(refine wpList_store_row rfl 272 (.tmp 0) (.tmp 1) rfl w.heap.size KLa rfl rfl 272 Z64 d.out c.out b.out a.out ?_));refine bodyPost_ret (results_cell_row rfl _ _ w.heap.size 272 KLa (0,0) _ rfl (setRow_heap _ _ _ _ _ _ d.out) underlying272 rfl c.out) rfl ⟨rfl,?_⟩;exact(bR.alloc lR _).trans ⟨rfl,rfl,rfl,by simp,fun i f=>setRow_other _ _ _ _ (by omega)⟩
end Go.Proofs.YtfofaiommeckbaaGreat
namespace Go.Proofs.YtfofaiommeckbaaGreat
open Go.RowKit
open ShaM
theorem Kj {A B:List Nat}(hl:A.length=B.length)(h:∀j,j<A.length->A.getD j 0=B.getD j 0):A=B:=by
 apply List.ext_getElem hl;intro i h1 h2;have:=h i h1;simpa [aS,bB h1,bB h2]using this
theorem Eu {P:Program} {f:FuncId} {args:Array Value} {w:World} {a n:Nat} {v:Value}
  (h:Calls P f args (w.drewN (a+n)) fun e w'=>e=rK v/\w'=w.drewN (a+n)):Calls P f args (w.drewN (a+n)) fun e w''=>e=rK v/\∃m,w''=w.drewN (a+m):=
 h.mono fun _ _ ⟨he,hm⟩=>⟨he,n,hm⟩
def OnlyG (g:Nat)(w w':World):Prop:=Below g w w'/\w.heap.size<=w'.heap.size/\∀i,i<w.heap.size->i≠g->w'.heap[i]? =w.heap[i]?
theorem OnlyG.of_below {g:Nat} {w w':World}(h:Below w.heap.size w w')(hg:g<=w.heap.size):OnlyG g w w':=⟨h.mono hg,h.size,fun i hi _=>h.block i hi⟩
theorem OnlyG.trans {g:Nat} {a b c:World}(h:OnlyG g a b)(k:OnlyG g b c):OnlyG g a c:=⟨h.1.trans k.1,eT h.2.1 k.2.1,fun i hi hne=>(k.2.2 i (cH hi h.2.1) hne).trans (h.2.2 i hi hne)⟩
theorem OnlyG.setCell {g:Nat} {w:World}(i:Nat)(u:Value):OnlyG g w (w.setCell ⟨g,i,rI⟩ u):=⟨bR.setCell (p:=⟨g,i,rI⟩) lR u,by simp,fun k hk hne=>Below.heap_setCell w ⟨g,i,rI⟩ u k (fun e=>hne e)⟩
theorem Blk.only2 {w w':World} {g b:Nat} {t:TypeId} {cs:Array Value}(h:Blk w b t cs)(ho:OnlyG g w w')(hne:b≠g):Blk w' b t cs:=(ho.2.2 b h.lt hne).trans h
theorem OnlyG.setRow {w:World}(g:Nat)(cs:Array Value):OnlyG g w (w.setRow g cs):=⟨⟨rfl,rfl,rfl,by simp,fun i hi=>setRow_other w g i cs (by omega)⟩,by simp,fun i _ hne=>setRow_other w g i cs hne⟩
theorem OnlyG.drewN {g:Nat} {a b:World}(h:OnlyG g a b)(n:Nat):OnlyG g a (b.drewN n):=⟨Ab h.1 n,h.2.1,h.2.2⟩
theorem evs {a:Act} {s:Nat} {v:Value}(h:a.tmps[s]?.getD undef=v):a.eval (.tmp s)=v:=by
 first
 |exact h
 |simpa [Act.eval,Array.getD_eq_getD_getElem?]using h
theorem Wl {P:Program} {w:World} {o:Oper} {a:Act} {K:Act->World->Prop} {Q:Exit->Act->World->Prop} (d s:Operand) (dT r:TypeId)
  (z:o.op=.call {callee:=.builtin .copy,args:=#[d,s],argTypes:=#[dT,r]}) (e:TypeId) (g n c i:Nat) (p:Addr) (f k:Nat) (b:Array Value) (t:TypeId) (cs:List Value)
  (u:a.eval d=rC (some ⟨g,n,rI⟩) c i) (B:a.eval s=.slice (some p) f k) (C:P.underlying dT=some (.slice e)) (q:(P.info? e).map (·.size)=some 1)
  (x:w.heap[g]? =some (.cells b t (0,0))) (y:cs.length=Nat.min f c) (m:∀j v,cs[j]? =some v->w.cell? (p.add j)=some v) (l:n+cs.length<=b.size) (h1:∀v∈cs,v.oneCell'=true)
  (h:K (a.put o.dst (goInt cs.length)) (w.setRow g (b.toList.take n++cs++b.toList.drop (n+cs.length)).toArray)):o.wp P a w K Q:=by
 have A:=run_copy_row (P:=P) w dT r o.type e g n c i p f k b t cs C q x y m l h1;unfold Oper.wp execOp;simp only[z,resolve,invoke,builtin,Sem.run_bind,Sem.run_pure,Result.andThen_ok,List.map_toArray,List.map_cons,List.map_nil,u,B,A];exact h
theorem Zm6 (x:Nat)(hx:x<4294967296):bits .xor .u32 IntKind.u32.max (x:Int)=((4294967295-x:Nat):Int):=by
 have e:IntKind.u32.max=((4294967295:Nat):Int):=rfl;have h:4294967295^^^x=4294967295-x:=by
  apply Nat.eq_of_testBit_eq;intro i
  by_cases hi:i<32
  ·rw[not_bit hx hi,cA,show(4294967295:Nat)=2^32-1 from rfl,eU,dT hi,Bool.true_xor]
  ·have h1:(4294967295-x).testBit i=false:=eV (cH (show 4294967295-x<2^32 by omega) (bQ (by omega) (by omega)));have h2:x.testBit i=false:=eV (cH (show x<2^32 by omega) (bQ (by omega) (by omega)));rw[h1,cA,h2,show(4294967295:Nat)=2^32-1 from rfl,eU,dF hi];rfl
 rw[e,Mi _ _ (by omega) hx,h]
theorem OnlyG.far {g p:Nat} {w a b:World}(h:OnlyG g w a)(k:OnlyG p a b)(hp:w.heap.size<=p)(hg:g<=p):OnlyG g w b:=⟨h.1.trans (k.1.mono hg),eT h.2.1 k.2.1,fun i hi hne=>(k.2.2 i (cH hi h.2.1) (by omega)).trans (h.2.2 i hi hne)⟩
def Tw (S X:List Nat)(i:Nat):List Nat:=(List.range 8).map fun j=>if j<i then(S.getD j 0+X.getD j 0)%4294967296 else S.getD j 0
theorem Fl (S X:List Nat)(i:Nat):(Tw S X i).length=8:=by simp[Tw]
theorem Kk (S X:List Nat)(i:Nat) {j:Nat}(h:j<8):(Tw S X i).getD j 0=if j<i then(S.getD j 0+X.getD j 0)%4294967296 else S.getD j 0:=by simp[Tw,aS,h]
theorem Tx {S:List Nat}(X:List Nat)(hl:S.length=8):Tw S X 0=S:=by
 refine Kj (by rw[Fl,hl]) fun j hj=> ?_;rw[Fl]at hj;rw[Kk _ _ _ hj,iN (by omega)]
theorem Ty (S X:List Nat) {i:Nat}(h:i<8):(Tw S X i).set i ((S.getD i 0+X.getD i 0)%4294967296)=Tw S X (i+1):=by
 refine Kj (by rw[eL,Fl,Fl]) fun j a=> ?_;rw[eL,Fl]at a;rw[Kk _ _ _ a,aS,List.getElem?_set]
 by_cases e:i=j
 ·subst e;rw[iP rfl,iP (by rw[Fl];exact a),iP (by omega)];rfl
 ·rw[iN e,<-aS,Kk _ _ _ a]
  by_cases h1:j<i
  ·rw[iP h1,iP (by omega)]
  ·rw[iN h1,iN (by omega)]
theorem Yn (S B:List Nat):Tw S (rndsN (wL B 64) S 64) 8=stepN S B:=by
 unfold Tw stepN;refine List.map_congr_left fun j hj=> ?_;rw[iP (List.mem_range.1 hj)]
theorem Zhk (g:Nat)(v:Value)(S B:List Nat)(w:World)(hg:Blk w g 244 (Hg S))(hS:∀x∈S,x<4294967296)(hl:S.length=8)(h:Rd w v (bvs B))(hB:∀x∈B,x<256)(bO:B.length=64):
  Calls prog 233 #[rE (some ⟨g,0,rI⟩),v] w fun e w'=>e=rK (.tuple #[])/\Blk w' g 244 (Hg (stepN S B))/\OnlyG g w w':=by
 have hz:∀w,(zeroValue 272).run prog w=.ok (.agg Z64) w:=fun _=>(by kernel_rfl);have cV:∀w,(zeroValue 244).run prog w=.ok (.agg Z8a) w:=fun _=>(by kernel_rfl);have WD:=Zdb v B w h hB bO;have CN:=fun(W:World)=>Za5 W;have U:=wL_lt hB 64;have Y:=wL_len B 64;obtain⟨W,hW⟩:=eX (wL B 64);rw[<-hW]at WD U Y;obtain⟨WA,J⟩:=eX (Hg W);obtain⟨SA,I⟩:=eX (Hg S);obtain⟨KA,H⟩:=eX KLa;rw[<-J]at WD;rw[<-I]at hg;simp only[<-H]at CN;have IW:=Hd (show(prog.info? 272).map (·.size)=some WA.size by rw[J];exact Ym W Y);have IK:=Hd (show(prog.info? 272).map (·.size)=some KA.size by rw[H,KLa];exact Ym KL rfl);have IS:=Hd (show(prog.info? 244).map (·.size)=some SA.size by rw[I];exact Zhj S hl);have ZW:=Hd (show Z64.size=WA.size by rw[J];unfold Z64;rw[Bm,Bm,Y];rfl);have ZK:=Hd (show Z64.size=KA.size by rw[H];unfold Z64 KLa;rw[Bm,Bm];rfl);have ZS:=Hd (show Z8a.size=SA.size by rw[I];unfold Z8a;rw[Bm,Bm,hl];rfl);have OW:=Hd (show WA.toList.all (·.oneCell')=true by rw[J,fC];exact Fk W);have OK:=Hd (show KA.toList.all (·.oneCell')=true by rw[H,fC];exact Fk KL);have OS:=Hd (show SA.toList.all (·.oneCell')=true by rw[I,fC];exact Fk S);have bG:=Hd WD;have a9:=Hd CN;have HG:=Hd hg;have EW:=Hd hW;have a8:=Hd J;have aM:=Hd I;have a7:=Hd H;have aP:=Hd hS;have aO:=Hd hl;have bH:=Hd U;have bI:=Hd Y;have hv:∃a b c,v=.slice a b c:=(by obtain⟨a,c,e,_⟩:=h;exact⟨a,_,c,e⟩);obtain⟨a1,a2,a3,rfl⟩:=hv;clear WD CN U Y hW J I H h hB bO hg hS hl;go_in;go_wp2_with fail;refine(bG.out).mono ?_;rintro e w1 ⟨rfl,aW⟩;go_wp2_with fail;refine(a9.out w1).mono ?_;rintro e m ⟨rfl,bM⟩;have aN:=Hd (aW.trans (bM.mono aW.size));clear aW bM;have bN:g<w.heap.size:=HG.out.lt;have a4:w.heap.size<=m.heap.size:=aN.out.size;have K0:=Hd (show Blk ((m.alloc (.cells Z64 272)).alloc (.cells Z64 272)) m.heap.size 272 Z64 from(Blk.new m _ _).alloc _);have K1:=Hd (show Blk ((m.alloc (.cells Z64 272)).alloc (.cells Z64 272)) (m.heap.size+1) 272 Z64 by have:=Blk.new (m.alloc (.cells Z64 272)) 272 Z64;simpa using this);have KB:=Hd (show Below w.heap.size w ((m.alloc (.cells Z64 272)).alloc (.cells Z64 272))from(aN.out.alloc a4 _).alloc (by simp;omega) _);go_wp2_with (refine Aa rfl 272 (.tmp 4) (.tmp 14) rfl m.heap.size WA rfl rfl 272 Z64 K0.out IW.out ZW.out OW.out ?_);intro w3 m0 mb mo Z;have J0:=Hd m0;have J1:=Hd ((mo (m.heap.size+1) (by omega)).trans K1.out:Blk w3 (m.heap.size+1) 272 Z64);have JB:=Hd (KB.out.trans ((mb m.heap.size lR).mono a4));have cS:w3.heap.size=m.heap.size+2:=(by omega);clear m0 mb mo Z K0 K1 KB;go_wp2_with (refine Aa rfl 272 (.tmp 5) (.tmp 15) rfl (m.heap.size+1) KA rfl rfl 272 Z64 J1.out IK.out ZK.out OK.out ?_);intro w4 m0 mb mo Z;have L1:=Hd m0;have L0:=Hd ((mo m.heap.size (by omega)).trans J0.out:Blk w4 m.heap.size 272 WA);have LB:=Hd (JB.out.trans ((mb (m.heap.size+1) lR).mono (by omega)));have bQ:w4.heap.size=m.heap.size+2:=(by omega);have LG:=Hd (HG.out.below LB.out bN);obtain⟨p0,aA⟩:=eX m.heap.size;obtain⟨p1,aC⟩:=eX (m.heap.size+1);obtain⟨d,aY⟩:=eX (m.heap.size+2);rw[<-aA]at L0;rw[<-aC]at L1;have N2:=Hd (show Blk (w4.alloc (.cells Z8a 244)) d 244 Z8a by rw[aY,<-bQ];exact Blk.new w4 _ _);have NB:=Hd (LB.out.alloc (by omega) (.cells Z8a 244));have q0:p0<d:=(by omega);have q1:p1<d:=(by omega);have q2:g<p0:=(by omega);have q3:p0≠p1:=(by omega);have Q:=Hd (show w.heap.size<=d by omega);have cH:=Hd aA;have cI:=Hd aC;have G:=Hd aY;rw[<-aC,<-aA];clear m0 mb mo Z J0 J1 JB cS a4;clear aA aC;go_wp2_with (first|(refine wpList_load_row rfl 244 (.tmp 17) rfl g rfl 244 SA (0,0) _ LG.out underlying244 rfl IS.out ?_)|(refine Aa rfl 244 (.tmp 6) (.tmp 18) rfl (m.heap.size+2) SA rfl rfl 244 Z8a (by rw[<-G.out];exact N2.out) IS.out ZS.out OS.out ?_));intro w5 m0 mb mo Z;rw[<-G.out]at m0 mb mo;rw[<-G.out];have M2:=Hd (show Blk w5 d 244 (Hg (rndsN W S 0)) by rw[rndsN,<-aM.out];exact m0);have MB:=mb d lR;have cU:d<w5.heap.size:=m0.lt;have aQ:=((show Blk w4 p0 272 WA from L0.out).alloc (.cells Z8a 244)).below MB q0;have aR:=((show Blk w4 p1 272 KA from L1.out).alloc (.cells Z8a 244)).below MB q1;have aS:=((show Blk w4 g 244 SA from LG.out).alloc (.cells Z8a 244)).below MB (by omega);rw[a8.out]at aQ;rw[a7.out,KLa]at aR;rw[aM.out]at aS;have M0:=Hd aQ;have M1:=Hd aR;have MG:=Hd aS;have bK:=Hd (NB.out.trans (MB.mono Q.out));clear m0 mb mo Z MB aQ aR aS L0 L1 LG N2 NB LB;have q4:p0≠d:=(by omega);have q5:p1≠d:=(by omega);have q6:g≠d:=(by omega);clear bQ aY cH cI G aN bG a9 HG IW IK IS ZW ZK ZS OW OK OS;go_wp2_with fail
 go_loopg [19] 64 (fun q iv wr=>∃t:Nat,t+q=64/\iv=rD .i64 (t:Nat)/\Blk wr d 244 (Hg (rndsN W S t))/\OnlyG d w5 wr)
 case atStart=>exact⟨0,rfl,rfl,M2.out,OnlyG.of_below bR (by omega)⟩
 case round=>
  obtain⟨t,ht,rfl,M,A⟩:=hrel;have HT:=Hd ht;have bD:=Hd M;have HO:=Hd A;obtain⟨V,hV⟩:=eX (rndsN W S t);have L:=rndsN_ok (W:=W) aO.out aP.out t;rw[<-hV]at L M;have HV:=Hd hV
  by_cases hlt:t<64
  ·have bP:decide ((t:Int)<64)=true:=(by rw[dI];omega);have XC:=fun(i:Nat) (hi:i<8)=>(show wr.cell? ⟨d,i,rI⟩=some (.int .u32 ((V.getD i 0:Nat):Int)) by rw[M.cell i,Eo (by rw[L.1];exact hi)]);have XL:=fun(i:Nat)=>getD_lt32 L.2 i;have ck:=(show wr.cell? ⟨p1,t,rI⟩=some (.int .u32 ((KL.getD t 0:Nat):Int)) by rw[(M1.out.only2 A q5).cell t,Eo (by rw[KL_len];exact hlt)]);have cw:=(show wr.cell? ⟨p0,t,rI⟩=some (.int .u32 ((W.getD t 0:Nat):Int)) by rw[(M0.out.only2 A q4).cell t,Eo (by rw[bI.out];exact hlt)]);have cO:=getD_lt32 KL_lt t;have U:=getD_lt32 bH.out t;have x0:=XC 0 (by omega);have x1:=XC 1 (by omega);have x2:=XC 2 (by omega);have x3:=XC 3 (by omega);have x4:=XC 4 (by omega);have x5:=XC 5 (by omega);have x6:=XC 6 (by omega);have x7:=XC 7 (by omega);have C:=XL 0;have b1:=XL 1;have b2:=XL 2;have b3:=XL 3;have N:=XL 4;have b5:=XL 5;have b6:=XL 6;have b7:=XL 7;obtain⟨k,e0⟩:=eX (V.getD 0 0);obtain⟨u,e1⟩:=eX (V.getD 1 0);obtain⟨s,e2⟩:=eX (V.getD 2 0);obtain⟨D,e3⟩:=eX (V.getD 3 0);obtain⟨l,e4⟩:=eX (V.getD 4 0);obtain⟨E,e5⟩:=eX (V.getD 5 0);obtain⟨F,e6⟩:=eX (V.getD 6 0);obtain⟨v7,e7⟩:=eX (V.getD 7 0);obtain⟨kk,aT⟩:=eX (KL.getD t 0);obtain⟨ww,aU⟩:=eX (W.getD t 0);rw[<-e0]at x0 C;rw[<-e1]at x1 b1;rw[<-e2]at x2 b2;rw[<-e3]at x3 b3;rw[<-e4]at x4 N;rw[<-e5]at x5 b5;rw[<-e6]at x6 b6;rw[<-e7]at x7 b7;rw[<-aT]at ck cO;rw[<-aU]at cw U;have bF:=Hd (show V=[k,u,s,D,l,E,F,v7]from by
    refine Kj (by rw[L.1];rfl) fun j hj=> ?_;rw[L.1]at hj;rcases(show j=0\/j=1\/j=2\/j=3\/j=4\/j=5\/j=6\/j=7 by omega)with rfl|rfl|rfl|rfl|rfl|rfl|rfl|rfl
    ·exact e0.symm
    ·exact e1.symm
    ·exact e2.symm
    ·exact e3.symm
    ·exact e4.symm
    ·exact e5.symm
    ·exact e6.symm
    ·exact e7.symm)
   have cC:=Hd aT;have cD:=Hd aU;clear e0 e1 e2 e3 e4 e5 e6 e7 aT aU XC XL L hV M A ht;obtain⟨r1,aD⟩:=eX (rot l 6);obtain⟨r2,aE⟩:=eX (rot l 11);obtain⟨r3,aF⟩:=eX (rot l 25);obtain⟨r4,aG⟩:=eX (rot k 2);obtain⟨r5,aH⟩:=eX (rot k 13);obtain⟨r6,aI⟩:=eX (rot k 22);have SF:=fun(x n r:Nat) (z:Int) (hz:z=(n:Int)) (hx:x<4294967296) (h1:1<=n) (h2:n<=31) (hr:r=rot x n) (W':World)=>(show Calls prog 273 #[.int .u32 (x:Nat),rD .i64 z] W' fun e w'=>e=rK (.int .u32 (r:Nat))/\w'=W' by rw[hz,hr];exact Ft x n hx h1 h2 W');have R1:=Hd (SF l 6 r1 6 rfl N (by omega) (by omega) aD);have R2:=Hd (SF l 11 r2 11 rfl N (by omega) (by omega) aE);have R3:=Hd (SF l 25 r3 25 rfl N (by omega) (by omega) aF);have R4:=Hd (SF k 2 r4 2 rfl C (by omega) (by omega) aG);have R5:=Hd (SF k 13 r5 13 rfl C (by omega) (by omega) aH);have R6:=Hd (SF k 22 r6 22 rfl C (by omega) (by omega) aI);have d1:r1<4294967296:=(by rw[aD];exact rot_lt N (by omega));have d2:r2<4294967296:=(by rw[aE];exact rot_lt N (by omega));have d3:r3<4294967296:=(by rw[aF];exact rot_lt N (by omega));have d4:r4<4294967296:=(by rw[aG];exact rot_lt C (by omega));have d5:r5<4294967296:=(by rw[aH];exact rot_lt C (by omega));have d6:r6<4294967296:=(by rw[aI];exact rot_lt C (by omega));have X1:=Mi r1 r2 d1 d2;have X2:=Mi (r1^^^r2) r3 (xor_lt32 d1 d2) d3;have X3:=Mi r4 r5 d4 d5;have X4:=Mi (r4^^^r5) r6 (xor_lt32 d4 d5) d6;obtain⟨z1,a5⟩:=eX (r1^^^r2);obtain⟨z3,a6⟩:=eX (r4^^^r5);rw[<-a5]at X1 X2;rw[<-a6]at X3 X4;have cA:=Hd (show z1^^^r3=S1N l by rw[a5,aD,aE,aF];rfl);have cB:=Hd (show z3^^^r6=S0N k by rw[a6,aG,aH,aI];rfl);rw[cA.out]at X2;rw[cB.out]at X4;have A1:=Zck l E N b5;have A2:=Zck (4294967295-l) F (by omega) b6;have A3:=Mi (l&&&E) ((4294967295-l)&&&F) (and_lt32 N) (and_lt32 (by omega));have A4:=Zck k u C b1;have A5:=Zck k s C b2;have A6:=Zck u s b1 b2;have A7:=Mi (k&&&u) (k&&&s) (and_lt32 C) (and_lt32 C);have A8:=Mi ((k&&&u)^^^(k&&&s)) (u&&&s) (xor_lt32 (and_lt32 C) (and_lt32 C)) (and_lt32 b1);have bZ:=Hd (show(l&&&E)^^^((4294967295-l)&&&F)=chN l E F from rfl);have b8:=Hd (show((k&&&u)^^^(k&&&s))^^^(u&&&s)=majN k u s from rfl);rw[bZ.out]at A3;rw[b8.out]at A8;have cN:=chN_lt (f:=E) (g:=F) N;have cP:=majN_lt (c:=s) C b1;have cT:=S1N_lt N;have cR:=S0N_lt C;obtain⟨n4,aX⟩:=eX (4294967295-l);obtain⟨y1,bS⟩:=eX (l&&&E);obtain⟨y3,bU⟩:=eX (k&&&u);obtain⟨y4,bV⟩:=eX (k&&&s);obtain⟨y5,bW⟩:=eX (u&&&s);rw[<-aX]at A2 A3;obtain⟨y2,bT⟩:=eX (n4&&&F);rw[<-bT]at A2 A3;rw[<-bS]at A1 A3;rw[<-bU]at A4 A7 A8;rw[<-bV]at A5 A7 A8;rw[<-bW]at A6 A8;obtain⟨y6,bX⟩:=eX (y3^^^y4);rw[<-bX]at A7 A8;obtain⟨ch,O⟩:=eX (chN l E F);obtain⟨ma,P⟩:=eX (majN k u s);obtain⟨sg,T⟩:=eX (S1N l);obtain⟨s0,R⟩:=eX (S0N k);rw[<-O]at A3 cN;rw[<-P]at A8 cP;rw[<-T]at X2 cT;rw[<-R]at X4 cR;have b9:=Hd O;have cF:=Hd P;have cK:=Hd T;have cJ:=Hd R;have A0:=Zm6 l N;rw[<-aX]at A0;clear aD aE aF aG aH aI a5 a6 aX bS bT bU bV bW bX O P T R SF;go_wp2_with fail
   go_quiet (fail)
   go_wp2_with fail
   go_quiet ((go_at_call 273;first|with_reducible exact Eu (R1.out _)|with_reducible exact Eu (R2.out _)|with_reducible exact Eu (R3.out _)))
   go_wp2_with fail
   go_quiet ((go_at_call 273;first|with_reducible exact Eu (R4.out _)|with_reducible exact Eu (R5.out _)|with_reducible exact Eu (R6.out _)))
   go_wp2_with fail
   rename_i m1 m2 KX KH
   obtain⟨w8,aJ⟩:=eX ((wr.drewN (m1+m2)).drewN nq);rw[<-aJ];have K8:=Hd (show Blk w8 d 244 (Hg [k,u,s,D,l,E,F,v7]) by
    rw[aJ,<-bF.out,HV.out];exact(bD.out.drewN _).drewN _)
   have O8:=Hd (show OnlyG d w5 w8 by rw[aJ];exact(HO.out.drewN _).drewN _);clear aJ x0 x1 x2 x3 x4 x5 x6 x7 ck cw;obtain⟨t1,aZ⟩:∃n:Nat,n=(v7+sg+ch+kk+ww)%4294967296:=⟨_,rfl⟩;obtain⟨t2,a0⟩:∃n:Nat,n=(s0+ma)%4294967296:=⟨_,rfl⟩;have E1:((v7:Int)+(sg:Int)+(ch:Int)+(kk:Int)+(ww:Int))%4294967296=(t1:Int):=(by rw[aZ,fA,fB,fB,fB,fB];rfl);have E2:((s0:Int)+(ma:Int))%4294967296=(t2:Int):=(by rw[a0,fA,fB];rfl);have bA:=Hd aZ;have bB:=Hd a0;rw[E1,E2];clear aZ a0 E1 E2;refine Aw [fun v _=>v=rC (some ⟨d,1,rI⟩) 7 7,fun v _=>v=rC (some ⟨d,0,rI⟩) 7 8,fun _ w'=>Blk w' d 244 (Hg [k,k,u,s,D,l,E,F])/\OnlyG d w5 w']
    [false,false,true] (fun x=>Below w8.heap.size w8 x) (fun x y=>Below x.heap.size x y) none 2 (by kernel_rfl) ?_ (⟨rfl,rfl,rfl,lR,fun _ _=>rfl⟩) (fun x y _ h=>h) (fun x y hx hs=>hx.trans (hs.mono hx.size)) (by kernel_rfl) (by kernel_rfl) (by kernel_rfl) ?_ ?_
   ·exact Ax (fun _ _ _ h _ _=>h) (Ax (fun _ _ _ h _ _=>h) (Ax (fun _ _ _ _ _ _=>trivial) Ag))
   ·refine .cons (Mn ?_) (.cons (Mn ?_) (.cons (Mn ?_) (.nil)))
    ·intro a wx o hq A hf;have o:Below w8.heap.size w8 wx:=o;clear hq;refine⟨rfl,?_⟩;intro K hK;have e0:a.tmps[6]?.getD undef=rE (some ⟨d,0,rI⟩):=A 6 (by kernel_rfl);go_simp;exact hK _ _ rfl (fun _=>Ai rfl bR)
    ·intro a wx o hq A hf;have o:Below w8.heap.size w8 wx:=o;clear hq;refine⟨rfl,?_⟩;intro K hK;have e0:a.tmps[6]?.getD undef=rE (some ⟨d,0,rI⟩):=A 6 (by kernel_rfl);go_simp;exact hK _ _ rfl (fun _=>Ai rfl bR)
    ·intro a wx o hq A hf;have o:Below w8.heap.size w8 wx:=o;clear hq;refine⟨rfl,?_⟩;intro K hK;have e0:a.tmps[80]?.getD undef=rC (some ⟨d,1,rI⟩) 7 7:=hf.1;have e1:a.tmps[81]?.getD undef=rC (some ⟨d,0,rI⟩) 7 8:=hf.2.1;have aV:Blk wx d 244 (Hg [k,u,s,D,l,E,F,v7]):=K8.out.below o K8.out.lt;have cM:OnlyG d w5 wx:=O8.out.trans (OnlyG.of_below o (eW K8.out.lt));refine Wl (.tmp 80) (.tmp 81) 276 276 rfl 231 d 1 7 7 ⟨d,0,rI⟩ 7 8 _ 244 (Zge [k,u,s,D,l,E,F]) (evs e0) (evs e1) underlying276 (by kernel_rfl) aV rfl ?_ (by rw[Zhi,Bm];exact Nat.le_refl 8) ?_ ?_
     ·intro j v hv;have hj:j<7:=by
       rcases aB j 7 with h|h
       ·exact h
       ·rw[List.getElem?_eq_none (by simp[Zge];omega)]at hv;cases hv
      rw[Addr.add_lit,Nat.zero_add,aV.cell j,<-hv];rcases(show j=0\/j=1\/j=2\/j=3\/j=4\/j=5\/j=6 by omega)with rfl|rfl|rfl|rfl|rfl|rfl|rfl<;>rfl
     ·intro v hv;simp only[Zge,eA]at hv;obtain⟨n,_,rfl⟩:=hv
      rfl
     ·exact hK _ _ ⟨setRow_heap wx d _ _ _ _ aV,cM.trans (OnlyG.setRow d _)⟩ (fun cQ=>absurd rfl cQ)
   ·rintro f w9 aL;have S9:Blk w9 d 244 (Hg [k,k,u,s,D,l,E,F])/\OnlyG d w5 w9:=aL.2.2.1;clear aL;simp only[Ao,Av,Ej,dG,dH,dJ,dK,Nat.reduceBEq,Nat.reduceAdd,Bool.or_false,Bool.or_true,cond_true,cond_false];have bE:=Hd S9;have cX:w9.cell? ⟨d,4,rI⟩=some (.int .u32 (D:Nat)):=S9.1.cell 4;have cW:w9.cell? ⟨d,0,rI⟩=some (.int .u32 (k:Nat)):=S9.1.cell 0;have f4:=S9.1.frozen 4;have f0:=S9.1.frozen 0;clear S9;go_wp2_with fail;go_roundg (gk-1);case measure=>have:=HT.out;omega
    case rel=>
     refine⟨t+1,by have:=HT.out;omega,by go_num,?_,(bE.out.2.trans (OnlyG.setCell 4 _)).trans (OnlyG.setCell 0 _)⟩;have c1:((D:Int)+(t1:Int))%4294967296=(((D+t1)%4294967296:Nat):Int):=(by rw[fA,fB];rfl);have c2:((t1:Int)+(t2:Int))%4294967296=(((t1+t2)%4294967296:Nat):Int):=(by rw[fA,fB];rfl);have hb:=(bE.out.1.set 4 (.int .u32 (((D+t1)%4294967296:Nat):Int))).set 0 (.int .u32 (((t1+t2)%4294967296:Nat):Int));rw[Ki,Ki]at hb;have hr:rndsN W S (t+1)=([k,k,u,s,D,l,E,F].set 4 ((D+t1)%4294967296)).set 0 ((t1+t2)%4294967296):=by
      rw[rndsN,<-HV.out,bF.out,<-cC.out,<-cD.out,bA.out,bB.out,b9.out,cF.out,cK.out,cJ.out];show [_,_,_,_,_,_,_,_]=[_,_,_,_,_,_,_,_]
      congr 1
      ·show(_+_)%_=_;exact eY _ _ _
      ·congr 1;congr 1;congr 1
       congr 1
       show(D+_)%_=_;rw[eY,eY D (_%4294967296),Nat.mod_mod]
       rfl
     rw[hr];first
     |exact hb
     |(rw[c1,c2];exact hb)
  ·obtain rfl:t=64:=(by omega);have hX:=rndsN_ok (W:=W) aO.out aP.out 64;have aK:=Hd (show Tw S (rndsN W S 64) 8=stepN S B by rw[EW.out];exact Yn S B);obtain⟨X,bL⟩:=eX (rndsN W S 64);rw[hV]at M;rw[<-bL]at hX M aK;have bJ:=Hd hX;have G:=Hd M;have bC:=Hd (show Blk wr g 244 (Hg (Tw S X 0)) by rw[Tx X aO.out];exact MG.out.only2 A q6);have cG:=Hd (OnlyG.far (OnlyG.of_below bK.out (eW bN)) A Q.out (by omega));clear ht M A hX bL bD hlt HV hV HO HT M0 M1 M2 MG bK bH bI EW a8 aM a7;go_wp2_with fail;obtain⟨g1,rfl⟩:=eX gk;obtain⟨w6,rfl⟩:=eX wr
   go_loopg [93] 8 (fun q iv wr=>∃i:Nat,i+q=8/\iv=rD .i64 (i:Nat)/\Blk wr d 244 (Hg X)/\Blk wr g 244 (Hg (Tw S X i))/\OnlyG g w6 wr)
   case atStart=>exact⟨0,rfl,rfl,G.out,bC.out,OnlyG.of_below bR (eW bC.out.lt)⟩
   case round=>
    obtain⟨i,hi,rfl,M,kg,A⟩:=hrel;have HI:=Hd hi;have J2:=Hd M;have JG:=Hd kg;have HO:=Hd A
    by_cases hlt:i<8
    ·have bP:decide ((i:Int)<8)=true:=(by rw[dI];omega);have x1:wr.cell? ⟨d,i,rI⟩=some (.int .u32 ((X.getD i 0:Nat):Int)):=(by rw[M.cell i,Eo (by rw[bJ.out.1];exact hlt)]);have x2:wr.cell? ⟨g,i,rI⟩=some (.int .u32 ((S.getD i 0:Nat):Int)):=(by rw[kg.cell i,Eo (by rw[Fl];exact hlt),Kk _ _ _ hlt,iN (by omega)]);have f1:=kg.frozen i;have b1:=getD_lt32 bJ.out.2 i;have b2:=getD_lt32 aP.out i;obtain⟨a,ha⟩:=eX (X.getD i 0);obtain⟨b,hb⟩:=eX (S.getD i 0);rw[<-ha]at x1 b1;rw[<-hb]at x2 b2;have cL:=Hd (Ty S X hlt);have HA:=Hd ha;have bY:=Hd hb;clear ha hb hi M kg A;go_wp2_with fail
     go_region
     go_wp2_with fail;go_roundg (gk-1);case measure=>have:=HI.out;omega
     case rel=>
      refine⟨i+1,by have:=HI.out;omega,by go_num,?_,?_,?_⟩
      ·exact(J2.out.far (p:=⟨g,i,rI⟩) (fun e=>q6 e.symm) _).drewN 1
      ·have c1:((b:Int)+(a:Int))%4294967296=(((S.getD i 0+X.getD i 0)%4294967296:Nat):Int):=(by rw[<-HA.out,<-bY.out,fA,fB];rfl);rw[c1,<-cL.out,<-Ki];exact(JG.out.set i _).drewN 1
      ·exact(HO.out.trans (OnlyG.setCell i _)).drewN 1
    ·obtain rfl:i=8:=(by omega);rw[aK.out]at kg;have cE:=Hd kg;clear hi M kg A;go_wp2_with fail
     go_end0
     exact⟨rfl,cE.out,cG.out.trans HO.out⟩
end Go.Proofs.YtfofaiommeckbaaGreat
namespace Go.Proofs.YtfofaiommeckbaaGreat
open Go.RowKit WireM
theorem Own.onlyG {w w':World} {B g:Nat} {e:TypeId} {v:Value} {xs:List Value}(h:Own w B e v xs)(k:OnlyG g w w')(l:g<B):Own w' B e v xs:=by
 obtain⟨h1,h2|⟨a,d,b,f,i,c,rest⟩⟩:=h
 ·exact⟨h1,.inl h2⟩
 ·refine⟨h1,.inr ⟨a,d,b,f,i,?_,rest⟩⟩;have j:a<w.heap.size:=by
   rcases aB a w.heap.size with h|h
   ·exact h
   ·rw[aE h]at c;cases c
  rw[k.2.2 a j (by omega)];exact c
theorem Fp (g:Nat):∀(vs:List Value) (o:Nat) (w:World),OnlyG g w (w.setCells g o vs)
 |[],o,w=>⟨bR,lR,fun _ _ _=>rfl⟩
 |v::vs,o,w=>by
  rw[World.setCells];exact(OnlyG.setCell o v).trans (Fp g vs (o+1) _)
theorem Own.setLow {w:World} {B:Nat} {e:TypeId} {v:Value} {xs:List Value}(h:Own w B e v xs) {p:Addr}(hp:p.block<B)(u:Value):Own (w.setCell p u) B e v xs:=by
 refine h.setOther (fun hv=> ?_) u;rcases h.2 with⟨rfl,_⟩|⟨g,cp,cur,rfl,hg,_⟩
 ·simp[Value.ownBlock]at hv
 ·simp[Value.ownBlock]at hv;omega
theorem Blk.there {w:World} {g:Nat} {t:TypeId} {cs:Array Value}(h:Blk w g t cs)(o n:Nat)(hn:o+n<=cs.size):w.there g o n:=by
 intro j hj;refine⟨?_,h.frozen _⟩;rw[h.cell,Array.getElem?_eq_getElem (by omega)]
 rfl
def NodeO (w:World)(B:Nat)(d:NodeD)(c:Array Value):Prop:=
 ∃x0 x1 x2 x3 x4 u0 u1 u2,c=#[rD rG (d.kind:Nat),x0,x1,x2,rD rG (d.leaf.source:Nat),x3,x4,u0,u1,u2]/\
  Own w B 5 x0 (bvs d.leaf.box)/\Own w B 5 x1 (bvs d.leaf.sign)/\Own w B 5 x2 (bvs d.leaf.ident)/\Own w B 5 x3 (bvs d.leaf.par)/\Own w B 5 x4 (bvs d.leaf.sig)/\
  Own w B 5 u0 (bvs d.par.box)/\Own w B 5 u1 (bvs d.par.hash)/\Own w B 3 u2 (ivs .i64 d.par.late)
theorem NodeO.below {w w':World} {B B':Nat} {d:NodeD} {c:Array Value}(h:NodeO w B d c)(b:Below B' w w')(a:w.heap.size<=B'):NodeO w' B d c:=by
 obtain⟨x0,x1,x2,x3,x4,u0,u1,u2,rfl,h0,h1,h2,h3,e,f,g,i⟩:=h;exact⟨x0,x1,x2,x3,x4,u0,u1,u2,rfl,h0.below b a,h1.below b a,h2.below b a,h3.below b a,e.below b a,f.below b a,g.below b a,i.below b a⟩
theorem NodeO.mono {w:World} {B B':Nat} {d:NodeD} {c:Array Value}(h:NodeO w B d c)(hB:B'<=B):NodeO w B' d c:=by
 obtain⟨x0,x1,x2,x3,x4,u0,u1,u2,rfl,h0,h1,h2,h3,h4,h5,h6,h7⟩:=h;exact⟨x0,x1,x2,x3,x4,u0,u1,u2,rfl,h0.mono hB,h1.mono hB,h2.mono hB,h3.mono hB,h4.mono hB,h5.mono hB,h6.mono hB,h7.mono hB⟩
theorem NodeO.c {w:World} {B:Nat} {d:NodeD} {c:Array Value}(h:NodeO w B d c):NodeC w d c:=by
 obtain⟨x0,x1,x2,x3,x4,u0,u1,u2,rfl,h0,h1,h2,h3,b,f,i,j⟩:=h;have g:∀ {v:Value} {e:TypeId} {xs:List Value},Own w B e v xs->∃a c,v=.slice a xs.length c:=fun h=>(by obtain⟨a,c,e,_⟩:=h.rd;exact⟨a,c,e⟩);obtain⟨k,s,rfl⟩:=g h0;obtain⟨l,c1,rfl⟩:=g h1;obtain⟨m,c2,rfl⟩:=g h2;obtain⟨n,c3,rfl⟩:=g h3;obtain⟨o,c4,rfl⟩:=g b;obtain⟨p,c5,rfl⟩:=g f;obtain⟨q,t,rfl⟩:=g i;obtain⟨r,u,rfl⟩:=g j;have x:(ivs .i64 d.par.late).length=d.par.late.length:=Fi _ _;simp only[bvs_len,x]at h0 h1 h2 h3 b f i j|-;exact⟨k,s,l,c1,m,c2,n,c3,o,c4,p,c5,q,t,r,u,rfl,h0.rd,h1.rd,h2.rd,h3.rd,b.rd,f.rd,i.rd,j.rd⟩
theorem Lw (d:NodeD)(c:Array Value)(w:World)(h:NodeC w d c)(z:Cj d=true):
  Calls prog 73 #[.agg c] w fun e w'=>∃c',e=rK (.agg c')/\NodeO w' w.heap.size d c'/\Below w.heap.size w w':=by
 have bO:=oD z;obtain⟨G,c1,H,c2,I,c3,J,c4,L,c5,b1,e1,P,e2,Q,e3,rfl,h1,h2,h3,h4,h5,h6,h7,h8⟩:=h;have CL:=fun(W:World) (E:Below w.heap.size w W)=>Tr d.leaf #[.slice G d.leaf.box.length c1,.slice H d.leaf.sign.length c2,.slice I d.leaf.ident.length c3,rD rG (d.leaf.source:Nat),.slice J d.leaf.par.length c4,.slice L d.leaf.sig.length c5] W ⟨G,c1,H,c2,I,c3,J,c4,L,c5,rfl,h1.below E lR,h2.below E lR,h3.below E lR,h4.below E lR,h5.below E lR⟩ (by omega);have C1:=fun(W:World) (E:Below w.heap.size w W)=>Cm _ d.par.box W (h6.below E lR) (by omega);have C2:=fun(W:World) (E:Below w.heap.size w W)=>Cm _ d.par.hash W (h7.below E lR) (by omega);have C3:=fun(W:World) (E:Below w.heap.size w W)=>Zar _ d.par.late W (h8.below E lR) (by omega);obtain⟨N,aM⟩:=eX d.kind;obtain⟨l1,aN⟩:=eX d.leaf.box.length;obtain⟨l2,aO⟩:=eX d.leaf.sign.length;obtain⟨l3,aP⟩:=eX d.leaf.ident.length;obtain⟨l4,aQ⟩:=eX d.leaf.par.length;obtain⟨l5,aR⟩:=eX d.leaf.sig.length;obtain⟨S,aS⟩:=eX d.par.box.length;obtain⟨T,aT⟩:=eX d.par.hash.length;obtain⟨U,aU⟩:=eX d.par.late.length;obtain⟨s,R⟩:=eX d.leaf.source;rw[<-aN,<-aO,<-aP,<-aQ,<-aR,<-R]at CL;rw[<-aS]at C1;rw[<-aT]at C2;rw[<-aU]at C3;rw[<-aM,<-aN,<-aO,<-aP,<-aQ,<-aR,<-aS,<-aT,<-aU,<-R];have a6:=Hd CL;have a7:=Hd C1;have a8:=Hd C2;have a9:=Hd C3;have bI:=Hd aM;have HS:=Hd R;clear CL C1 C2 C3 bO z h1 h2 h3 h4 h5 h6 h7 h8 aN aO aP aQ aR aS aT aU aM R;have L0:=Hd (show((w.alloc (rJ #[rD rG (N:Nat),rC G l1 c1,rC H l2 c2,rC I l3 c3,rD rG (s:Nat),rC J l4 c4,rC L l5 c5,rC b1 S e1,rC P T e2,rC Q U e3] 52)).alloc (rJ #[rD rG 0,rC rI 0 0,rC rI 0 0,rC rI 0 0,rD rG 0,rC rI 0 0,rC rI 0 0,rC rI 0 0,rC rI 0 0,rC rI 0 0] 52)).rangeAt w.heap.size 1 [rC G l1 c1,rC H l2 c2,rC I l3 c3,rD rG (s:Nat),rC J l4 c4,rC L l5 c5]from by
  intro j u D;have hb:Blk ((w.alloc (rJ #[rD rG (N:Nat),rC G l1 c1,rC H l2 c2,rC I l3 c3,rD rG (s:Nat),rC J l4 c4,rC L l5 c5,rC b1 S e1,rC P T e2,rC Q U e3] 52)).alloc (rJ #[rD rG 0,rC rI 0 0,rC rI 0 0,rC rI 0 0,rD rG 0,rC rI 0 0,rC rI 0 0,rC rI 0 0,rC rI 0 0,rC rI 0 0] 52)) w.heap.size 52 #[rD rG (N:Nat),rC G l1 c1,rC H l2 c2,rC I l3 c3,rD rG (s:Nat),rC J l4 c4,rC L l5 c5,rC b1 S e1,rC P T e2,rC Q U e3]:=(Blk.new w _ _).alloc _;rw[hb.cell]
  match j,D with
  |0,D=>exact D
  |1,D=>exact D
  |2,D=>exact D
  |3,D=>exact D
  |4,D=>exact D
  |5,D=>exact D
  |j+6,D=>simp at D)
 have hA:=(Below.refl w.heap.size w).alloc lR (rJ #[rD rG (N:Nat),rC G l1 c1,rC H l2 c2,rC I l3 c3,rD rG (s:Nat),rC J l4 c4,rC L l5 c5,rC b1 S e1,rC P T e2,rC Q U e3] 52);have aH:=Hd (hA.alloc hA.size (rJ #[rD rG 0,rC rI 0 0,rC rI 0 0,rC rI 0 0,rD rG 0,rC rI 0 0,rC rI 0 0,rC rI 0 0,rC rI 0 0,rC rI 0 0] 52));have aG:=Hd (show Blk ((w.alloc (rJ #[rD rG (N:Nat),rC G l1 c1,rC H l2 c2,rC I l3 c3,rD rG (s:Nat),rC J l4 c4,rC L l5 c5,rC b1 S e1,rC P T e2,rC Q U e3] 52)).alloc (rJ #[rD rG 0,rC rI 0 0,rC rI 0 0,rC rI 0 0,rD rG 0,rC rI 0 0,rC rI 0 0,rC rI 0 0,rC rI 0 0,rC rI 0 0] 52)) w.heap.size 52 #[rD rG (N:Nat),rC G l1 c1,rC H l2 c2,rC I l3 c3,rD rG (s:Nat),rC J l4 c4,rC L l5 c5,rC b1 S e1,rC P T e2,rC Q U e3]from(Blk.new w _ _).alloc _);have aL:=Hd (show Blk ((w.alloc (rJ #[rD rG (N:Nat),rC G l1 c1,rC H l2 c2,rC I l3 c3,rD rG (s:Nat),rC J l4 c4,rC L l5 c5,rC b1 S e1,rC P T e2,rC Q U e3] 52)).alloc (rJ #[rD rG 0,rC rI 0 0,rC rI 0 0,rC rI 0 0,rD rG 0,rC rI 0 0,rC rI 0 0,rC rI 0 0,rC rI 0 0,rC rI 0 0] 52)) (w.heap.size+1) 52 #[rD rG 0,rC rI 0 0,rC rI 0 0,rC rI 0 0,rD rG 0,rC rI 0 0,rC rI 0 0,rC rI 0 0,rC rI 0 0,rC rI 0 0] by have h1:=Blk.new (w.alloc (rJ #[rD rG (N:Nat),rC G l1 c1,rC H l2 c2,rC I l3 c3,rD rG (s:Nat),rC J l4 c4,rC L l5 c5,rC b1 S e1,rC P T e2,rC Q U e3] 52)) 52 #[rD rG 0,rC rI 0 0,rC rI 0 0,rC rI 0 0,rD rG 0,rC rI 0 0,rC rI 0 0,rC rI 0 0,rC rI 0 0,rC rI 0 0];simpa using h1);clear hA;go_in;go_wp2_with (refine wpList_load_mid rfl 44 (.tmp 3) rfl w.heap.size 1 rfl [rC G l1 c1,rC H l2 c2,rC I l3 c3,rD rG (s:Nat),rC J l4 c4,rC L l5 c5] _ L0.out underlying44 rfl (by kernel_rfl) ?_);refine(a6.out _ aH.out).mono ?_;rintro e w1 ⟨c',rfl,bM,aC⟩;obtain⟨x0,x1,x2,x3,x4,rfl,o0,o1,o2,o3,o4⟩:=bM;rw[<-HS.out];have g:w.heap.size<((w.alloc (rJ #[rD rG (N:Nat),rC G l1 c1,rC H l2 c2,rC I l3 c3,rD rG (s:Nat),rC J l4 c4,rC L l5 c5,rC b1 S e1,rC P T e2,rC Q U e3] 52)).alloc (rJ #[rD rG 0,rC rI 0 0,rC rI 0 0,rC rI 0 0,rD rG 0,rC rI 0 0,rC rI 0 0,rC rI 0 0,rC rI 0 0,rC rI 0 0] 52)).heap.size:=aG.out.lt;have o:w.heap.size+1<((w.alloc (rJ #[rD rG (N:Nat),rC G l1 c1,rC H l2 c2,rC I l3 c3,rD rG (s:Nat),rC J l4 c4,rC L l5 c5,rC b1 S e1,rC P T e2,rC Q U e3] 52)).alloc (rJ #[rD rG 0,rC rI 0 0,rC rI 0 0,rC rI 0 0,rD rG 0,rC rI 0 0,rC rI 0 0,rC rI 0 0,rC rI 0 0,rC rI 0 0] 52)).heap.size:=aL.out.lt;have aJ:=Hd (aG.out.below aC g);have bA:=Hd (aL.out.below aC o);have bH:=Hd (aH.out.trans (aC.mono aH.out.size));have HQ:=Hd (And.intro o0 (And.intro o1 (And.intro o2 (And.intro o3 o4))));have O:=Hd (show(#[x0,x1,x2,rD rG (s:Nat),x3,x4]:Array Value).all (·.oneCell')=true by
  rw[<-fC];simp only[eM,eN,o0.oneCell,o1.oneCell,o2.oneCell,o3.oneCell,o4.oneCell];rfl)
 obtain⟨Bn,bC⟩:=eX (((w.alloc (rJ #[rD rG (N:Nat),rC G l1 c1,rC H l2 c2,rC I l3 c3,rD rG (s:Nat),rC J l4 c4,rC L l5 c5,rC b1 S e1,rC P T e2,rC Q U e3] 52)).alloc (rJ #[rD rG 0,rC rI 0 0,rC rI 0 0,rC rI 0 0,rD rG 0,rC rI 0 0,rC rI 0 0,rC rI 0 0,rC rI 0 0,rC rI 0 0] 52)).heap.size);rw[<-bC]at HQ g o;have bQ:Bn<=w1.heap.size:=(by have:=aC.size;omega);clear aC o0 o1 o2 o3 o4 bC aG aL L0;go_wp2_with (refine wpList_store_mid rfl 44 (.tmp 6) (.tmp 5) rfl w.heap.size 1 #[x0,x1,x2,rD rG (s:Nat),x3,x4] rfl rfl (aJ.out.there 1 6 (by simp)) (by kernel_rfl) O.out ?_);dsimp only[Act.put];obtain⟨wr,aE⟩:=eX (w1.setCells w.heap.size 1 [x0,x1,x2,rD rG (s:Nat),x3,x4]);have r:OnlyG w.heap.size w1 wr:=(by rw[aE];exact Fp _ _ _ _);have F:=Hd (show Blk wr w.heap.size 52 #[rD rG (N:Nat),x0,x1,x2,rD rG (s:Nat),x3,x4,rC b1 S e1,rC P T e2,rC Q U e3] by
  rw[aE];exact(((((aJ.out.set 1 x0).set 2 x1).set 3 x2).set 4 (rD rG (s:Nat))).set 5 x3).set 6 x4)
 have aK:=Hd (bA.out.only2 r (by omega));have A:=Hd (bH.out.trans (r.1.mono lR));have Z:=Hd (And.intro (HQ.out.1.onlyG r g) (And.intro (HQ.out.2.1.onlyG r g) (And.intro (HQ.out.2.2.1.onlyG r g) (And.intro (HQ.out.2.2.2.1.onlyG r g) (HQ.out.2.2.2.2.onlyG r g)))));have b:w.heap.size<wr.heap.size:=F.out.lt;have bN:w.heap.size+1<wr.heap.size:=aK.out.lt;have aB:Bn<=wr.heap.size:=(by have:=r.2.1;omega);have k7:wr.cell? ⟨w.heap.size,7,rI⟩=some (rC b1 S e1):=F.out.cell 7;have k8:wr.cell? ⟨w.heap.size,8,rI⟩=some (rC P T e2):=F.out.cell 8;have k9:wr.cell? ⟨w.heap.size,9,rI⟩=some (rC Q U e3):=F.out.cell 9;have aY:=Hd (fun(W:World) (E:Below wr.heap.size wr W)=>a7.out W (A.out.trans (E.mono A.out.size)));have aZ:=Hd (fun(W:World) (E:Below wr.heap.size wr W)=>a8.out W (A.out.trans (E.mono A.out.size)));have a0:=Hd (fun(W:World) (E:Below wr.heap.size wr W)=>a9.out W (A.out.trans (E.mono A.out.size)));rw[<-aE];clear aE aJ bA HQ O r a6 a7 a8 a9;refine Bd [eF (rE (some ⟨w.heap.size,7,rI⟩)),eF (rE (some ⟨w.heap.size,7,rI⟩)),eF (rC b1 S e1),fun v w'=>Own w' wr.heap.size 5 v (bvs d.par.box),eF (rE (some ⟨w.heap.size,7,rI⟩)),eF (rE (some ⟨w.heap.size,8,rI⟩)),eF (rC P T e2),fun v w'=>Own w' wr.heap.size 5 v (bvs d.par.hash),eF (rE (some ⟨w.heap.size,7,rI⟩)),eF (rE (some ⟨w.heap.size,9,rI⟩)),eF (rC Q U e3),fun v w'=>Own w' wr.heap.size 3 v (ivs .i64 d.par.late),fun v w'=>∃u0 u1 u2,v=.agg #[u0,u1,u2]/\Own w' wr.heap.size 5 u0 (bvs d.par.box)/\Own w' wr.heap.size 5 u1 (bvs d.par.hash)/\Own w' wr.heap.size 3 u2 (ivs .i64 d.par.late),eF (rE (some ⟨w.heap.size,7,rI⟩)),fun v w'=>∃u0 u1 u2,Blk w' w.heap.size 52 #[rD rG (N:Nat),x0,x1,x2,rD rG (s:Nat),x3,x4,u0,u1,u2]/\Own w' wr.heap.size 5 u0 (bvs d.par.box)/\Own w' wr.heap.size 5 u1 (bvs d.par.hash)/\Own w' wr.heap.size 3 u2 (ivs .i64 d.par.late)]
  (eK 15 true) (fun X=>OnlyG w.heap.size wr X) (fun X Y=>OnlyG w.heap.size X Y) (some 14) (by kernel_rfl) ?_ ((OnlyG.of_below bR (eW b)).drewN 1) (fun X Y hx h=>OnlyG.of_below h (eT (eW b) hx.2.1)) (fun X Y hx z=>hx.trans z) (by kernel_rfl) (by kernel_rfl) ?_ ?_
 ·exact kE (kE (kE (Cw (fun v x y h hi z=>Own.onlyG h z b) (kE (kE (kE (Cw (fun v x y h hi z=>Own.onlyG h z b) (kE (kE (kE (Cw (fun v x y h hi z=>Own.onlyG h z b) (Cw (fun v x y h hi z=>let⟨u0,u1,u2,e,k0,k1,k2⟩:=h;⟨u0,u1,u2,e,Own.onlyG k0 z b,Own.onlyG k1 z b,Own.onlyG k2 z b⟩) (kE (Cp (fun v x y h hi z=>let⟨u0,u1,u2,e,k0,k1,k2⟩:=h;⟨u0,u1,u2,e.below z e.lt,k0.below z lR,k1.below z lR,k2.below z lR⟩) (Ag)))))))))))))))
 ·refine gPw (by kernel_rfl) ?_ rfl (gPw (by kernel_rfl) ?_ rfl (gPw (by kernel_rfl) ?_ rfl (gOw (by kernel_rfl) ?_ (gPw (by kernel_rfl) ?_ rfl (gPw (by kernel_rfl) ?_ rfl (gPw (by kernel_rfl) ?_ rfl (gOw (by kernel_rfl) ?_ (gPw (by kernel_rfl) ?_ rfl (gPw (by kernel_rfl) ?_ rfl (gPw (by kernel_rfl) ?_ rfl (gOw (by kernel_rfl) ?_ (gOw (by kernel_rfl) ?_ (gPw (by kernel_rfl) ?_ rfl (gOw (by kernel_rfl) ?_ .nil))))))))))))));all_goals
   intro a wx bD n ho hf;have bD:OnlyG w.heap.size wr wx:=bD;refine⟨rfl,?_⟩;intro K hK;try have bV:a.tmps[1]?.getD undef=rE (some ⟨w.heap.size,0,rI⟩):=ho 1 (by kernel_rfl)
   try have bE:=eqn hf.1
   try have bS:=(n.cell (p:=⟨w.heap.size,7,rI⟩) b).trans k7
   try have bT:=(n.cell (p:=⟨w.heap.size,8,rI⟩) b).trans k8
   try have bU:=(n.cell (p:=⟨w.heap.size,9,rI⟩) b).trans k9
   try(refine Hd ?_;go_simp;exact hK _ rfl)
  ·go_simp;refine(aY.out wx n).mono ?_;rintro e w2 ⟨v9,rfl,C,aD⟩;exact hK _ _ (C.mono n.size) (Ai rfl aD)
  ·go_simp;refine(aZ.out wx n).mono ?_;rintro e w2 ⟨v9,rfl,C,aD⟩;exact hK _ _ (C.mono n.size) (Ai rfl aD)
  ·go_simp;refine(a0.out wx n).mono ?_;rintro e w2 ⟨v9,rfl,C,aD⟩;exact hK _ _ (C.mono n.size) (Ai rfl aD)
  ·have o0:Own wx wr.heap.size 5 (a.tmps[10]?.getD undef) (bvs d.par.box):=hf.1;obtain⟨v0,aV⟩:=eX (a.tmps[10]?.getD undef);rw[<-aV]at o0;have e0:=aV.symm;clear aV;have o1:Own wx wr.heap.size 5 (a.tmps[14]?.getD undef) (bvs d.par.hash):=hf.2.1;obtain⟨v1,M⟩:=eX (a.tmps[14]?.getD undef);rw[<-M]at o1;have e1:=M.symm;clear M;have o2:Own wx wr.heap.size 3 (a.tmps[18]?.getD undef) (ivs .i64 d.par.late):=hf.2.2.1;obtain⟨v2,aW⟩:=eX (a.tmps[18]?.getD undef);rw[<-aW]at o2;have e2:=aW.symm;clear aW;obtain⟨p1,p2,p3,rfl⟩:=Df o0;obtain⟨p4,p5,p6,rfl⟩:=Df o1;obtain⟨p7,p8,p9,rfl⟩:=Df o2;go_simp;exact hK _ _ ⟨_,_,_,rfl,o0,o1,o2⟩ (Ai rfl bR)
  ·have o1:∃u0 u1 u2,(a.tmps[19]?.getD undef)=.agg #[u0,u1,u2]/\Own wx wr.heap.size 5 u0 (bvs d.par.box)/\Own wx wr.heap.size 5 u1 (bvs d.par.hash)/\Own wx wr.heap.size 3 u2 (ivs .i64 d.par.late):=hf.2.1;obtain⟨v1,M⟩:=eX (a.tmps[19]?.getD undef);rw[<-M]at o1;have e1:=M.symm;clear M;obtain⟨u0,u1,u2,D,k0,k1,k2⟩:=o1;have q:=F.out.below n F.out.lt;refine wp_store_mid 50 (.tmp 20) (.tmp 19) rfl w.heap.size 7 #[u0,u1,u2] (evs bE) (evs (e1.trans D)) (q.there 7 3 (by simp)) (by kernel_rfl) (by rw[<-fC];simp only[eM,eN,k0.oneCell,k1.oneCell,k2.oneCell];rfl) ?_;have k:∀ {e v xs},Own wx wr.heap.size e v xs->e≠52->∀(j:Nat) (u:Value) (W:World),Own W wr.heap.size e v xs->Own (W.setCell ⟨w.heap.size,j,rI⟩ u) wr.heap.size e v xs:=fun _ _ j u W h2=>h2.setLow (p:=⟨w.heap.size,j,rI⟩) b u;exact hK undef _ ⟨u0,u1,u2,((q.set 7 u0).set 8 u1).set 9 u2,k k0 (by decide) _ _ _ (k k0 (by decide) _ _ _ (k k0 (by decide) _ _ _ k0)),k k1 (by decide) _ _ _ (k k1 (by decide) _ _ _ (k k1 (by decide) _ _ _ k1)),k k2 (by decide) _ _ _ (k k2 (by decide) _ _ _ (k k2 (by decide) _ _ _ k2))⟩ (Bu rfl (((OnlyG.setCell 7 u0).trans (OnlyG.setCell 8 u1)).trans (OnlyG.setCell 9 u2)))
 ·rintro f w9 m aF;have m:OnlyG w.heap.size wr w9:=m;have bL:∃u0 u1 u2,Blk w9 w.heap.size 52 #[rD rG (N:Nat),x0,x1,x2,rD rG (s:Nat),x3,x4,u0,u1,u2]/\Own w9 wr.heap.size 5 u0 (bvs d.par.box)/\Own w9 wr.heap.size 5 u1 (bvs d.par.hash)/\Own w9 wr.heap.size 3 u2 (ivs .i64 d.par.late):=aF.2.2.2.2.2.2.2.2.2.2.2.2.2.2.1;clear aF;simp only[Ao,Av,Ej,dG,dH,dJ,dK,Nat.reduceBEq,Nat.reduceAdd,Bool.or_false,Bool.or_true,cond_true,cond_false];obtain⟨u0,u1,u2,q,k0,k1,k2⟩:=bL;have bB:=Hd (aK.out.only2 m (by omega));have l:=Hd (And.intro (Z.out.1.onlyG m g) (And.intro (Z.out.2.1.onlyG m g) (And.intro (Z.out.2.2.1.onlyG m g) (And.intro (Z.out.2.2.2.1.onlyG m g) (Z.out.2.2.2.2.onlyG m g)))));have bG:=Hd (A.out.trans (m.1.mono lR));have V:=Hd (And.intro (k0.mono aB) (And.intro (k1.mono aB) (k2.mono aB)));obtain⟨XS,aA⟩:=eX ((#[rD rG (N:Nat),x0,x1,x2,rD rG (s:Nat),x3,x4,u0,u1,u2]:Array Value));have O:=Hd (show XS.toList.all (·.oneCell')=true by
   rw[aA];simp only[eM,eN,l.out.1.oneCell,l.out.2.1.oneCell,l.out.2.2.1.oneCell,l.out.2.2.2.1.oneCell,l.out.2.2.2.2.oneCell,V.out.1.oneCell,V.out.2.1.oneCell,V.out.2.2.oneCell];rfl)
  rw[<-aA]at q;have aX:=Hd q;have aI:=Hd (show(prog.info? 52).map (·.size)=some XS.size by rw[aA];exact Bc);have bK:=Hd (show(#[rD rG 0,rC rI 0 0,rC rI 0 0,rC rI 0 0,rD rG 0,rC rI 0 0,rC rI 0 0,rC rI 0 0,rC rI 0 0,rC rI 0 0]:Array Value).size=XS.size by rw[aA];rfl);have bJ:=Hd aA;have bW:w.heap.size+1<w9.heap.size:=bB.out.lt;clear aA q k0 k1 k2 m k7 k8 k9 aY aZ a0 aK Z A F b bN;go_wp2_with (first|(refine wpList_load_row rfl 52 (.tmp 1) rfl w.heap.size rfl 52 XS (0,0) _ aX.out underlying52 rfl aI.out ?_)|(refine Aa rfl 52 (.tmp 2) (.tmp 21) rfl (w.heap.size+1) XS rfl rfl 52 #[rD rG 0,rC rI 0 0,rC rI 0 0,rC rI 0 0,rD rG 0,rC rI 0 0,rC rI 0 0,rC rI 0 0,rC rI 0 0,rC rI 0 0] bB.out aI.out bK.out O.out ?_));intro w3 m0 mb mo bP;have M0:=Hd m0;have bF:=Hd (bG.out.trans ((mb (w.heap.size+1) lR).mono (by omega)));have t:OnlyG (w.heap.size+1) w9 w3:=⟨mb (w.heap.size+1) lR,by omega,fun i _ k=>mo i k⟩;have B:w.heap.size<=Bn:=(by omega);have HF:=Hd (And.intro ((l.out.1.onlyG t o).mono B) (And.intro ((l.out.2.1.onlyG t o).mono B) (And.intro ((l.out.2.2.1.onlyG t o).mono B) (And.intro ((l.out.2.2.2.1.onlyG t o).mono B) ((l.out.2.2.2.2.onlyG t o).mono B)))));have HG:=Hd (And.intro ((V.out.1.onlyG t o).mono B) (And.intro ((V.out.2.1.onlyG t o).mono B) ((V.out.2.2.onlyG t o).mono B)));clear m0 mb mo bP t;go_wp2_with fail;refine bodyPost_ret (v:=.agg XS) (Hi rfl _ _ (w.heap.size+1) 52 XS _ rfl M0.out underlying52 rfl aI.out) rfl ⟨XS,rfl,⟨x0,x1,x2,x3,x4,u0,u1,u2,by rw[bJ.out,bI.out,HS.out],HF.out.1,HF.out.2.1,HF.out.2.2.1,HF.out.2.2.2.1,HF.out.2.2.2.2,HG.out.1,HG.out.2.1,HG.out.2.2⟩,bF.out⟩
section
section
variable {P:Program} {w:World}
end
theorem Own.grown {w w':World} {B:Nat} {e:TypeId} {v:Value} {xs:List Value} {row:Option Nat}(h:Own w B e v xs)(i:w.grownBy w' row)(c:∀g,v.ownBlock=some g->row≠some g):Own w' B e v xs:=by
 obtain⟨h1,h2|⟨g,d,a,rfl,f,b,rest⟩⟩:=h
 ·exact⟨h1,.inl h2⟩
 ·refine⟨h1,.inr ⟨g,d,a,rfl,f,?_,rest⟩⟩;have j:g<w.heap.size:=by
   rcases aB g w.heap.size with h|h
   ·exact h
   ·rw[aE h]at b;cases b
  rw[i.block g j (fun e=>c g (by simp[Value.ownBlock]) e.symm)];exact b
def Ha (u v:Value):Prop:=∀g,u.ownBlock=some g->v.ownBlock≠some g
theorem Own.blockLt {w:World} {B:Nat} {e:TypeId} {v:Value} {xs:List Value}(h:Own w B e v xs) {g:Nat}(a:v.ownBlock=some g):g<w.heap.size/\B<=g:=by
 rcases h.2 with⟨rfl,_⟩|⟨d,i,c,rfl,f,b,_⟩
 ·simp[Value.ownBlock]at a
 ·simp[Value.ownBlock]at a;subst a;refine⟨?_,f⟩;rcases aB d w.heap.size with h|h
  ·exact h
  ·rw[aE h]at b;cases b
end
end Go.Proofs.YtfofaiommeckbaaGreat
namespace Go.Proofs.YtfofaiommeckbaaGreat
open Go.RowKit
section
section
variable {P:Program} {l:List Oper} {Q:Exit->Act->World->Prop} {sat:List Fg} {tl:List Bool} {q:Nat} {a0:Act} {W:World} {i:Nat} {o:Oper}
abbrev Zlz (P:Program)(l:List Oper)(Q:Exit->Act->World->Prop)(sat:List Fg)(tl:List Bool)(q:Nat)(a0:Act)(W:World)(i:Nat)(o:Oper):Prop:=Zcb P l Q sat (fun x=>Below W.heap.size W x) (fun x y=>Below x.heap.size x y) none q tl a0 W i o
abbrev OwedAll6 (P:Program)(l:List Oper)(Q:Exit->Act->World->Prop)(sat:List Fg)(tl:List Bool)(q:Nat)(a0:Act)(W:World)(i:Nat)(os:List Oper):Prop:=OwedAll8 P l Q sat (fun x=>Below W.heap.size W x) (fun x y=>Below x.heap.size x y) none q tl a0 W i os
theorem OwedAll6.nil:OwedAll6 P l Q sat tl q a0 W i []:=trivial
theorem OwedAll6.cons {os:List Oper}(h:Zlz P l Q sat tl q a0 W i o)(t:OwedAll6 P l Q sat tl q a0 W (i+1) os):OwedAll6 P l Q sat tl q a0 W i (o::os):=⟨h,t⟩
theorem Ja {u:Nat} {a:Act} {w:World} (b:List Fg) (c n:List Bool) (q:Nat) (s:P.follows .mixedOrders=true) (hk:Zae b) (p:Jt l a.tmps.size=true) (r:En l=true) (g:Zaj l c n q=true)
  (e:OwedAll6 P l Q b n q a w 0 l)
  (d:∀(f:Nat->Value) (w':World),Eb b c f w' 0 l->Q .normal (Ao l a f) w'):
  (Code.region u l.toArray true).wp P Q a w:=
 Ju b c _ _ none q n s (fun j _ _=>⟨fun v x y _ m _ k=>hk j v x y m k,fun v x y t=>by cases t⟩) (fun i j _ _ v x y m o=>hk j v x y m o) ⟨rfl,rfl,rfl,lR,fun _ _=>rfl⟩ (fun _ _ _ h=>h) (fun _ _ hx k=>hx.trans (k.mono hx.size)) p r g e d
theorem Rs (h:∀(a:Act) (w:World),(tl.getD i false=false->Below W.heap.size W w)->(∀s,Dp l i s=true->a.tmps[s]?.getD undef=a0.tmps[s]?.getD undef)->Ib sat l a w o.after.toList->
      Region.wanted o (yielded l.toArray a.tmps)=true/\∀K:Act->World->Prop,(∀v w',(sat.getD i (fun _ _=>True)) (Da o a v) w'->(i≠q->Below w.heap.size w w')->K (a.put o.dst v) w')->Oper.wp P o a w K Q):Zlz P l Q sat tl q a0 W i o:=by
 intro a w c e d K g;rw[iP (h a w (fun ht=>(c ht).1) e d).1];refine(h a w (fun ht=>(c ht).1) e d).2 K fun v w' j f=>g v w' j fun b=> ?_;cases htl:tl.getD i false with
 |true=>exact f b
 |false=>exact Ai (i:=i) (q:=none) rfl (f b)
end
end
section
section
variable {P:Program} {l:List Oper} {Q:Exit->Act->World->Prop} {sat:List Fg} {tl:List Bool} {q:Nat} {a0:Act} {W:World} {i:Nat} {o:Oper} {os:List Oper}
theorem kT {x:Value}(t:Zae sat):Zae (eF x::sat):=Dv (fun _ _ _ h _=>h) t
theorem gU (b:tl.getD i false=false) (h:∀(a:Act) (w:World),Below W.heap.size W w->(∀s,Dp l i s=true->a.tmps[s]?.getD undef=a0.tmps[s]?.getD undef)->Ib sat l a w o.after.toList->
      Region.wanted o (yielded l.toArray a.tmps)=true/\∀K:Act->World->Prop,(∀v w',(sat.getD i (fun _ _=>True)) (Da o a v) w'->(i≠q->Below w.heap.size w w')->K (a.put o.dst v) w')->Oper.wp P o a w K Q)
  (t:OwedAll6 P l Q sat tl q a0 W (i+1) os):OwedAll6 P l Q sat tl q a0 W i (o::os):=.cons (Rs fun a w h1 h2 h3=>h a w (h1 b) h2 h3) t
theorem gT (b:tl.getD i false=false) (h:∀(a:Act) (w:World),Below W.heap.size W w->(∀s,Dp l i s=true->a.tmps[s]?.getD undef=a0.tmps[s]?.getD undef)->Ib sat l a w o.after.toList->
      Region.wanted o (yielded l.toArray a.tmps)=true/\∀K:Act->World->Prop,(∀v,(sat.getD i (fun _ _=>True)) (Da o a v) w->K (a.put o.dst v) w)->Hid (Oper.wp P o a w K Q))
  (t:OwedAll6 P l Q sat tl q a0 W (i+1) os):OwedAll6 P l Q sat tl q a0 W i (o::os):=
 gU b (fun a w h1 h2 h3=>⟨(h a w h1 h2 h3).1,fun K c=>((h a w h1 h2 h3).2 K fun v d=>c v w d fun _=>bR).out⟩) t
end
end
