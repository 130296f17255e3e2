/- Walk: node.Take on any bytes. -/
import Derived.Test.YtfofaiommeckbaaGreatZSliceSoundB
import Derived.Test.YtfofaiommeckbaaGreatZSliceSound41
import Derived.Test.YtfofaiommeckbaaGreatZSliceSound40
open Nat renaming le_trans → bO, le_of_lt → eA, le_succ → fZ
open List renaming all_cons → dV, all_nil → dW, drop_length → hQ
set_option linter.unusedVariables false
set_option maxRecDepth 100000
set_option maxHeartbeats 40000000
namespace Go.Proofs.YtfofaiommeckbaaGreat
open Go.RowKit WireM
theorem NodeO.none (w:World)(B:Nat):NodeO w B An #[.int .u8 0,.slice none 0 0,.slice none 0 0,.slice none 0 0,.int .u8 0,.slice none 0 0,.slice none 0 0,.slice none 0 0,.slice none 0 0,.slice none 0 0]:=⟨_,_,_,_,_,_,_,_,rfl,Own.nil _ _ _,Own.nil _ _ _,Own.nil _ _ _,Own.nil _ _ _,Own.nil _ _ _,Own.nil _ _ _,Own.nil _ _ _,Own.nil _ _ _⟩
def Zk3 (B:Nat)(w:World)(r:Nat×NodeD×List Nat×Nat)(e:Ending)(w':World):Prop:=
 ∃c,e=.returned (.tuple #[.agg c,.int .u8 (r.1:Nat)])∧NodeO w' w.heap.size r.2.1 c∧RS w' B r.2.2.1 r.2.2.2∧Only B w w'
theorem Wy (L0 L1:List Nat) (A k B:Nat) (rl:Nat×LeafD×List Nat×Nat) (Y:Nat×ParD×List Nat×Nat) (r:Nat×NodeD×List Nat×Nat) (w:World) (h:RS w B L0 0)
  (C1:∀W,RS W B L0 0→Calls Tryz.prog 154 #[.pointer (some ⟨B,0,none⟩),.int .i64 1] W fun e W'=>e=.returned (.int .u64 (k:Nat))∧RS W' B L1 A∧Only B W W')
  (hk:k<256)
  (CL:A=0→∀W,RS W B L1 A→Calls Tryz.prog 218 #[.pointer (some ⟨B,0,none⟩)] W (Zig B W rl))
  (CP:A=0→∀W,RS W B L1 A→Calls Tryz.prog 219 #[.pointer (some ⟨B,0,none⟩)] W (Zik B W Y))
  (X1:A≠0→r=(A,An,L1,A)) (X0:A=0→k=0→r=(0,An,L1,A))
  (XL:A=0→k=1→r=if rl.1=0 then(0,⟨1,rl.2.1,noParD⟩,rl.2.2.1,rl.2.2.2)else(rl.1,An,rl.2.2.1,rl.2.2.2))
  (XP:A=0→k=2→r=if Y.1=0 then(0,⟨2,noLeafD,Y.2.1⟩,Y.2.2.1,Y.2.2.2)else(Y.1,An,Y.2.2.1,Y.2.2.2))
  (XX:A=0→k≠0→k≠1→k≠2→r=(3,An,L1,A)):
  Calls Tryz.prog 179 #[.pointer (some ⟨B,0,none⟩)] w (Zk3 B w r):=by
 obtain⟨rc,⟨bx,sn,aX,s,aW,a1⟩,rL,re⟩:=rl;obtain⟨pc,⟨aY,aV,aZ⟩,pL,pe⟩:=Y;simp only at XL XP;have hB:=h.lt;obtain⟨g,hg⟩:=eX w.heap.size;have K:=Hd hg;have H:=Hd (show B<g by omega);obtain⟨w0,J⟩:=eX (w.alloc (.cells #[.int .u8 0,.slice none 0 0,.slice none 0 0,.slice none 0 0,.int .u8 0,.slice none 0 0,.slice none 0 0,.slice none 0 0,.slice none 0 0,.slice none 0 0] 52));have aR:=Hd J;have aP:=Hd (show g+1≤w0.heap.size by rw[J,hg];simp);have G0:=Hd (show Blk w0 g 52 #[.int .u8 0,.slice none 0 0,.slice none 0 0,.slice none 0 0,.int .u8 0,.slice none 0 0,.slice none 0 0,.slice none 0 0,.slice none 0 0,.slice none 0 0] by rw[J,hg];exact Blk.new _ _ _);have O0:=Hd (show Only B w w0 by rw[J];exact(Only.refl _ _).alloc _);have R0:=Hd (show RS w0 B L0 0 by rw[J];exact h.low ((Below.refl w.heap.size w).alloc lR (.cells #[.int .u8 0,.slice none 0 0,.slice none 0 0,.slice none 0 0,.int .u8 0,.slice none 0 0,.slice none 0 0,.slice none 0 0,.slice none 0 0,.slice none 0 0] 52)) hB);have aL:=Hd C1;have aJ:=Hd CL;have aT:=Hd CP;have aK:=Hd X1;have aU:=Hd X0;have aO:=Hd XL;have aN:=Hd XP;have aG:=Hd XX;have aH:=Hd fun(L:List Nat) (er:Nat) W=>Hb B L er W;obtain⟨S,hS⟩:=eX (Zk3 B w r);rw[←hS];have HS:=Hd (show∀(e:Ending) (w':World) {c:Array Value} {k:Nat} {d:NodeD} {R:List Nat} {re:Nat},e=.returned (.tuple #[.agg c,.int .u8 (k:Nat)])→r=(k,d,R,re)→NodeO w' w.heap.size d c→RS w' B R re→Only B w w'→S e w' from by
  rintro e w' c k d R re rfl rfl h1 h2 h3;rw[hS];exact⟨c,rfl,h1,h2,h3⟩)
 clear h hB hg J C1 CL CP X1 X0 XL XP XX hS;go_enter Tryz.func179,Tryz.ntmps179;go_wp2_with fail;rw[←aR.out,←K.out];refine(aL.out w0 R0.out).mono ?_;rintro e w1 ⟨rfl,F,l⟩;have aF:=Hd (bO aP.out l.size);have G1:=Hd (G0.out.only l (by have:=H.out;omega));have O1:=Hd (O0.out.trans l);have R1:=Hd F;clear F l;obtain⟨q,hq⟩:=eX w1.heap.size;have HQ:=Hd hq;have o:=Hd (show g+1≤q by rw[hq];exact aF.out);have aQ:IntKind.u8.wrap (k:Int)=(k:Int):=(by rw[IntKind.wrap_u8];omega);clear hq hk;go_wp2_with (refine Aa rfl 52 (.tmp 4) (.tmp 9) rfl w1.heap.size #[.int .u8 k,.slice none 0 0,.slice none 0 0,.slice none 0 0,.int .u8 0,.slice none 0 0,.slice none 0 0,.slice none 0 0,.slice none 0 0,.slice none 0 0] rfl rfl 52 #[.int .u8 0,.slice none 0 0,.slice none 0 0,.slice none 0 0,.int .u8 0,.slice none 0 0,.slice none 0 0,.slice none 0 0,.slice none 0 0,.slice none 0 0] (Blk.new _ _ _) (by kernel_rfl) rfl rfl ?_);rintro w2 a j b f;have hb:Below w1.heap.size w1 w2:=(bR.alloc lR _).trans (j _ lR);have a0:=Hd (bO aF.out hb.size);have G2:=Hd (G1.out.below hb G1.out.lt);have O2:=Hd (Py O1.out hb);have R2:=Hd (R1.out.below hb);rw[←HQ.out]at a⊢;have Q2:=Hd a;have D:=Hd (show q<w2.heap.size from a.lt);have y0:=a.cell 0;simp only[List.getElem?_toArray,List.getElem?_cons_zero]at y0;clear a j b f hb aQ;go_wp2_with fail;refine(aH.out _ _ _ R2.out).mono ?_;rintro e w' ⟨rfl,rfl⟩
 by_cases h1:A=0
 ·have aI:((A:Int) !=0)=false:=(by rw[bne_eq_false_iff_eq];omega);have I:=Hd h1;clear h1
  by_cases k0:k=0
  ·have q0:((k:Int)==0)=true:=(by rw[beq_iff_eq];omega);have M:=Hd (aU.out I.out k0);have aM:=Hd k0;clear k0;go_wp2_with (first
    |(refine Au rfl 52 (.tmp 4) rfl q rfl 52 #[.int .u8 k,.slice none 0 0,.slice none 0 0,.slice none 0 0,.int .u8 0,.slice none 0 0,.slice none 0 0,.slice none 0 0,.slice none 0 0,.slice none 0 0] (0,0) _ Q2.out Tryz.underlying52 rfl (by kernel_rfl) ?_)
    |(refine Aa rfl 52 (.tmp 2) (.tmp 20) rfl g #[.int .u8 k,.slice none 0 0,.slice none 0 0,.slice none 0 0,.int .u8 0,.slice none 0 0,.slice none 0 0,.slice none 0 0,.slice none 0 0,.slice none 0 0] rfl rfl 52 #[.int .u8 0,.slice none 0 0,.slice none 0 0,.slice none 0 0,.int .u8 0,.slice none 0 0,.slice none 0 0,.slice none 0 0,.slice none 0 0,.slice none 0 0] G2.out (by kernel_rfl) rfl rfl ?_))
   rintro X a j b f;have y:=Hd a;have z:=Hd (Bk O2.out (j w.heap.size (by rw[K.out];exact lR)));have u:=Hd (R2.out.low (j g lR) H.out);clear a j b f;go_wp2_with fail;refine bodyPost_ret (v:=.tuple #[.agg #[.int .u8 k,.slice none 0 0,.slice none 0 0,.slice none 0 0,.int .u8 0,.slice none 0 0,.slice none 0 0,.slice none 0 0,.slice none 0 0,.slice none 0 0],.int .u8 0]) (Ad Tryz.results179 _ _ g _ _ _ rfl y.out Tryz.underlying52 rfl (by kernel_rfl)) rfl ?_;refine HS.out _ _ rfl M.out ?_ u.out z.out;rw[aM.out];exact NodeO.none _ _
  ·have q0:((k:Int)==0)=false:=by rw[beq_eq_false_iff_ne];omega
   by_cases k1:k=1
   ·have q1:((k:Int)==1)=true:=(by rw[beq_iff_eq];omega);have M:=Hd (aO.out I.out k1);have aB:=Hd k1;have HC:=Hd (aJ.out I.out);clear k0 k1;go_wp2_with fail;refine(HC.out w2 R2.out).mono ?_;rintro e w6 ⟨c,rfl,hl,F,l⟩;obtain⟨x0,x1,x2,x3,x4,rfl,U,Z,V,o3,o4⟩:=hl;have m:=Hd (Q2.out.only l (by have:=H.out;have:=o.out;omega));have G6:=Hd (G2.out.only l (by have:=H.out;omega));have O6:=Hd (O2.out.trans l);have R6:=Hd F;have E:=Hd (show(#[x0,x1,x2,.int .u8 s,x3,x4]:Array Value).all (·.oneCell')=true by
     rw[←Array.all_toList];simp only[dV,dW,U.oneCell,Z.oneCell,V.oneCell,o3.oneCell,o4.oneCell];rfl)
    have O:=Hd (show(#[.int .u8 k,x0,x1,x2,.int .u8 s,x3,x4,.slice none 0 0,.slice none 0 0,.slice none 0 0]:Array Value).toList.all (·.oneCell')=true by
     simp only[dV,dW,U.oneCell,Z.oneCell,V.oneCell,o3.oneCell,o4.oneCell];rfl)
    have Q:=Hd (U.mono (B':=g+1) (by have:=D.out;have:=o.out;omega));have T:=Hd (Z.mono (B':=g+1) (by have:=D.out;have:=o.out;omega));have N:=Hd (V.mono (B':=g+1) (by have:=D.out;have:=o.out;omega));have I3:=Hd (o3.mono (B':=g+1) (by have:=D.out;have:=o.out;omega));have I4:=Hd (o4.mono (B':=g+1) (by have:=D.out;have:=o.out;omega));clear l F U Z V o3 o4;obtain⟨wr,x⟩:=eX (w6.setCells q 1 [x0,x1,x2,.int .u8 s,x3,x4]);have P:=Hd x;have n:Only q w6 wr:=(by rw[x];exact Ho _ _);have PF:=Hd (show Blk wr q 52 #[.int .u8 k,x0,x1,x2,.int .u8 s,x3,x4,.slice none 0 0,.slice none 0 0,.slice none 0 0] by
     rw[x];exact((((((m.out.set 1 x0).set 2 x1).set 3 x2).set 4 (.int .u8 s)).set 5 x3).set 6 x4))
    have GF:=Hd (G6.out.only n (by have:=o.out;omega));have RF:=Hd (R6.out.only n (by have:=H.out;have:=o.out;omega) (eA m.out.lt));have OF:=Hd (O6.out.then (n.below (C:=w.heap.size) (by have:=o.out;have:=K.out;omega) O6.out.size));replace Q:=Hd (Q.out.other m.out (by decide) (fun i t p=>n.block i t (fun e=>p (by simpa using e))));replace T:=Hd (T.out.other m.out (by decide) (fun i t p=>n.block i t (fun e=>p (by simpa using e))));replace N:=Hd (N.out.other m.out (by decide) (fun i t p=>n.block i t (fun e=>p (by simpa using e))));replace I3:=Hd (I3.out.other m.out (by decide) (fun i t p=>n.block i t (fun e=>p (by simpa using e))));replace I4:=Hd (I4.out.other m.out (by decide) (fun i t p=>n.block i t (fun e=>p (by simpa using e))));clear n x
    by_cases hr1:rc=0
    ·have aA:((rc:Int) !=0)=false:=(by rw[bne_eq_false_iff_eq];omega);have G:=Hd (show r=(0,_,rL,re) by have:=M.out;rw[if_pos hr1]at this;exact this);clear hr1;go_wp2_with (first
      |(refine wpList_store_mid rfl 44 (.tmp 28) (.tmp 26) rfl q 1 #[x0,x1,x2,.int .u8 s,x3,x4] rfl rfl (m.out.there 1 6 (by simp)) (by kernel_rfl) E.out ?_;rw[←P.out])
      |(refine Au rfl 52 (.tmp 4) rfl q rfl 52 #[.int .u8 k,x0,x1,x2,.int .u8 s,x3,x4,.slice none 0 0,.slice none 0 0,.slice none 0 0] (0,0) _ PF.out Tryz.underlying52 rfl (by kernel_rfl) ?_)
      |(refine Aa rfl 52 (.tmp 2) (.tmp 41) rfl g #[.int .u8 k,x0,x1,x2,.int .u8 s,x3,x4,.slice none 0 0,.slice none 0 0,.slice none 0 0] rfl rfl 52 #[.int .u8 0,.slice none 0 0,.slice none 0 0,.slice none 0 0,.int .u8 0,.slice none 0 0,.slice none 0 0,.slice none 0 0,.slice none 0 0,.slice none 0 0] GF.out (by kernel_rfl) rfl O.out ?_))
     rintro aS a j b f;have aE:=Hd a;have aD:=Hd (RF.out.low (j g lR) H.out);have aC:=Hd (Bk OF.out (j w.heap.size (by rw[K.out];exact lR)));replace Q:=Hd ((Q.out.other GF.out (by decide) (fun i _ t=>b i t)).mono (B':=g) (fZ _));replace T:=Hd ((T.out.other GF.out (by decide) (fun i _ t=>b i t)).mono (B':=g) (fZ _));replace N:=Hd ((N.out.other GF.out (by decide) (fun i _ t=>b i t)).mono (B':=g) (fZ _));replace I3:=Hd ((I3.out.other GF.out (by decide) (fun i _ t=>b i t)).mono (B':=g) (fZ _));replace I4:=Hd ((I4.out.other GF.out (by decide) (fun i _ t=>b i t)).mono (B':=g) (fZ _));clear a j b f;go_wp2_with fail;refine bodyPost_ret (v:=.tuple #[.agg #[.int .u8 k,x0,x1,x2,.int .u8 s,x3,x4,.slice none 0 0,.slice none 0 0,.slice none 0 0],.int .u8 0]) (Ad Tryz.results179 _ _ g _ _ _ rfl aE.out Tryz.underlying52 rfl (by kernel_rfl)) rfl ?_;refine HS.out _ _ rfl G.out ?_ aD.out aC.out;rw[←K.out];exact⟨_,_,_,_,_,_,_,_,by rw[aB.out],Q.out,T.out,N.out,I3.out,I4.out,Own.nil _ _ _,Own.nil _ _ _,Own.nil _ _ _⟩
    ·have aA:((rc:Int) !=0)=true:=(by rw[bne_iff_ne];omega);have G:=Hd (show r=(rc,An,rL,re) by have:=M.out;rw[if_neg hr1]at this;exact this);clear hr1;go_wp2_with (first|(refine wpList_store_mid rfl 44 (.tmp 28) (.tmp 26) rfl q 1 #[x0,x1,x2,.int .u8 s,x3,x4] rfl rfl (m.out.there 1 6 (by simp)) (by kernel_rfl) E.out ?_;rw[←P.out])|(refine Aa rfl 52 (.tmp 2) (.tmp 39) rfl g #[.int .u8 0,.slice none 0 0,.slice none 0 0,.slice none 0 0,.int .u8 0,.slice none 0 0,.slice none 0 0,.slice none 0 0,.slice none 0 0,.slice none 0 0] rfl rfl 52 #[.int .u8 0,.slice none 0 0,.slice none 0 0,.slice none 0 0,.int .u8 0,.slice none 0 0,.slice none 0 0,.slice none 0 0,.slice none 0 0,.slice none 0 0] GF.out (by kernel_rfl) rfl rfl ?_));rintro X a j b f;have y:=Hd a;have z:=Hd (Bk OF.out (j w.heap.size (by rw[K.out];exact lR)));have u:=Hd (RF.out.low (j g lR) H.out);clear a j b f;go_wp2_with fail;refine bodyPost_ret (v:=.tuple #[.agg #[.int .u8 0,.slice none 0 0,.slice none 0 0,.slice none 0 0,.int .u8 0,.slice none 0 0,.slice none 0 0,.slice none 0 0,.slice none 0 0,.slice none 0 0],.int .u8 (rc:Nat)]) (Ad Tryz.results179 _ _ g _ _ _ rfl y.out Tryz.underlying52 rfl (by kernel_rfl)) rfl ?_;exact HS.out _ _ rfl G.out (NodeO.none _ _) u.out z.out
   ·have q1:((k:Int)==1)=false:=by rw[beq_eq_false_iff_ne];omega
    by_cases k2:k=2
    ·have q2:((k:Int)==2)=true:=(by rw[beq_iff_eq];omega);have M:=Hd (aN.out I.out k2);have aB:=Hd k2;have HC:=Hd (aT.out I.out);clear k0 k1 k2;go_wp2_with fail;refine(HC.out w2 R2.out).mono ?_;rintro e w6 ⟨c,rfl,hl,F,l⟩;obtain⟨x0,x1,x2,rfl,U,Z,V⟩:=hl;have m:=Hd (Q2.out.only l (by have:=H.out;have:=o.out;omega));have G6:=Hd (G2.out.only l (by have:=H.out;omega));have O6:=Hd (O2.out.trans l);have R6:=Hd F;have E:=Hd (show(#[x0,x1,x2]:Array Value).all (·.oneCell')=true by
      rw[←Array.all_toList];simp only[dV,dW,U.oneCell,Z.oneCell,V.oneCell];rfl)
     have O:=Hd (show(#[.int .u8 k,.slice none 0 0,.slice none 0 0,.slice none 0 0,.int .u8 0,.slice none 0 0,.slice none 0 0,x0,x1,x2]:Array Value).toList.all (·.oneCell')=true by
      simp only[dV,dW,U.oneCell,Z.oneCell,V.oneCell];rfl)
     have Q:=Hd (U.mono (B':=g+1) (by have:=D.out;have:=o.out;omega));have T:=Hd (Z.mono (B':=g+1) (by have:=D.out;have:=o.out;omega));have N:=Hd (V.mono (B':=g+1) (by have:=D.out;have:=o.out;omega));clear l F U Z V;obtain⟨wr,x⟩:=eX (w6.setCells q 7 [x0,x1,x2]);have P:=Hd x;have n:Only q w6 wr:=(by rw[x];exact Ho _ _);have PF:=Hd (show Blk wr q 52 #[.int .u8 k,.slice none 0 0,.slice none 0 0,.slice none 0 0,.int .u8 0,.slice none 0 0,.slice none 0 0,x0,x1,x2] by
      rw[x];exact(((m.out.set 7 x0).set 8 x1).set 9 x2))
     have GF:=Hd (G6.out.only n (by have:=o.out;omega));have RF:=Hd (R6.out.only n (by have:=H.out;have:=o.out;omega) (eA m.out.lt));have OF:=Hd (O6.out.then (n.below (C:=w.heap.size) (by have:=o.out;have:=K.out;omega) O6.out.size));replace Q:=Hd (Q.out.other m.out (by decide) (fun i t p=>n.block i t (fun e=>p (by simpa using e))));replace T:=Hd (T.out.other m.out (by decide) (fun i t p=>n.block i t (fun e=>p (by simpa using e))));replace N:=Hd (N.out.other m.out (by decide) (fun i t p=>n.block i t (fun e=>p (by simpa using e))));clear n x
     by_cases hr1:pc=0
     ·have aA:((pc:Int) !=0)=false:=(by rw[bne_eq_false_iff_eq];omega);have G:=Hd (show r=(0,_,pL,pe) by have:=M.out;rw[if_pos hr1]at this;exact this);clear hr1;go_wp2_with (first
       |(refine wpList_store_mid rfl 50 (.tmp 36) (.tmp 34) rfl q 7 #[x0,x1,x2] rfl rfl (m.out.there 7 3 (by simp)) (by kernel_rfl) E.out ?_;rw[←P.out])
       |(refine Au rfl 52 (.tmp 4) rfl q rfl 52 #[.int .u8 k,.slice none 0 0,.slice none 0 0,.slice none 0 0,.int .u8 0,.slice none 0 0,.slice none 0 0,x0,x1,x2] (0,0) _ PF.out Tryz.underlying52 rfl (by kernel_rfl) ?_)
       |(refine Aa rfl 52 (.tmp 2) (.tmp 41) rfl g #[.int .u8 k,.slice none 0 0,.slice none 0 0,.slice none 0 0,.int .u8 0,.slice none 0 0,.slice none 0 0,x0,x1,x2] rfl rfl 52 #[.int .u8 0,.slice none 0 0,.slice none 0 0,.slice none 0 0,.int .u8 0,.slice none 0 0,.slice none 0 0,.slice none 0 0,.slice none 0 0,.slice none 0 0] GF.out (by kernel_rfl) rfl O.out ?_))
      rintro aS a j b f;have aE:=Hd a;have aD:=Hd (RF.out.low (j g lR) H.out);have aC:=Hd (Bk OF.out (j w.heap.size (by rw[K.out];exact lR)));replace Q:=Hd ((Q.out.other GF.out (by decide) (fun i _ t=>b i t)).mono (B':=g) (fZ _));replace T:=Hd ((T.out.other GF.out (by decide) (fun i _ t=>b i t)).mono (B':=g) (fZ _));replace N:=Hd ((N.out.other GF.out (by decide) (fun i _ t=>b i t)).mono (B':=g) (fZ _));clear a j b f;go_wp2_with fail;refine bodyPost_ret (v:=.tuple #[.agg #[.int .u8 k,.slice none 0 0,.slice none 0 0,.slice none 0 0,.int .u8 0,.slice none 0 0,.slice none 0 0,x0,x1,x2],.int .u8 0]) (Ad Tryz.results179 _ _ g _ _ _ rfl aE.out Tryz.underlying52 rfl (by kernel_rfl)) rfl ?_;refine HS.out _ _ rfl G.out ?_ aD.out aC.out;rw[←K.out];exact⟨_,_,_,_,_,_,_,_,by rw[aB.out];rfl,Own.nil _ _ _,Own.nil _ _ _,Own.nil _ _ _,Own.nil _ _ _,Own.nil _ _ _,Q.out,T.out,N.out⟩
     ·have aA:((pc:Int) !=0)=true:=(by rw[bne_iff_ne];omega);have G:=Hd (show r=(pc,An,pL,pe) by have:=M.out;rw[if_neg hr1]at this;exact this);clear hr1;go_wp2_with (first|(refine wpList_store_mid rfl 50 (.tmp 36) (.tmp 34) rfl q 7 #[x0,x1,x2] rfl rfl (m.out.there 7 3 (by simp)) (by kernel_rfl) E.out ?_;rw[←P.out])|(refine Aa rfl 52 (.tmp 2) (.tmp 39) rfl g #[.int .u8 0,.slice none 0 0,.slice none 0 0,.slice none 0 0,.int .u8 0,.slice none 0 0,.slice none 0 0,.slice none 0 0,.slice none 0 0,.slice none 0 0] rfl rfl 52 #[.int .u8 0,.slice none 0 0,.slice none 0 0,.slice none 0 0,.int .u8 0,.slice none 0 0,.slice none 0 0,.slice none 0 0,.slice none 0 0,.slice none 0 0] GF.out (by kernel_rfl) rfl rfl ?_));rintro X a j b f;have y:=Hd a;have z:=Hd (Bk OF.out (j w.heap.size (by rw[K.out];exact lR)));have u:=Hd (RF.out.low (j g lR) H.out);clear a j b f;go_wp2_with fail;refine bodyPost_ret (v:=.tuple #[.agg #[.int .u8 0,.slice none 0 0,.slice none 0 0,.slice none 0 0,.int .u8 0,.slice none 0 0,.slice none 0 0,.slice none 0 0,.slice none 0 0,.slice none 0 0],.int .u8 (pc:Nat)]) (Ad Tryz.results179 _ _ g _ _ _ rfl y.out Tryz.underlying52 rfl (by kernel_rfl)) rfl ?_;exact HS.out _ _ rfl G.out (NodeO.none _ _) u.out z.out
    ·have q2:((k:Int)==2)=false:=(by rw[beq_eq_false_iff_ne];omega);have M:=Hd (aG.out I.out k0 k1 k2);clear k0 k1 k2;go_wp2_with (refine Aa rfl 52 (.tmp 2) (.tmp 39) rfl g #[.int .u8 0,.slice none 0 0,.slice none 0 0,.slice none 0 0,.int .u8 0,.slice none 0 0,.slice none 0 0,.slice none 0 0,.slice none 0 0,.slice none 0 0] rfl rfl 52 #[.int .u8 0,.slice none 0 0,.slice none 0 0,.slice none 0 0,.int .u8 0,.slice none 0 0,.slice none 0 0,.slice none 0 0,.slice none 0 0,.slice none 0 0] G2.out (by kernel_rfl) rfl rfl ?_);rintro X a j b f;have y:=Hd a;have z:=Hd (Bk O2.out (j w.heap.size (by rw[K.out];exact lR)));have u:=Hd (R2.out.low (j g lR) H.out);clear a j b f;go_wp2_with fail;refine bodyPost_ret (v:=.tuple #[.agg #[.int .u8 0,.slice none 0 0,.slice none 0 0,.slice none 0 0,.int .u8 0,.slice none 0 0,.slice none 0 0,.slice none 0 0,.slice none 0 0,.slice none 0 0],.int .u8 3]) (Ad Tryz.results179 _ _ g _ _ _ rfl y.out Tryz.underlying52 rfl (by kernel_rfl)) rfl ?_;exact HS.out _ _ rfl M.out (NodeO.none _ _) u.out z.out
 ·have aI:((A:Int) !=0)=true:=(by rw[bne_iff_ne];omega);have M:=Hd (aK.out h1);clear h1;go_wp2_with (refine Aa rfl 52 (.tmp 2) (.tmp 14) rfl g #[.int .u8 0,.slice none 0 0,.slice none 0 0,.slice none 0 0,.int .u8 0,.slice none 0 0,.slice none 0 0,.slice none 0 0,.slice none 0 0,.slice none 0 0] rfl rfl 52 #[.int .u8 0,.slice none 0 0,.slice none 0 0,.slice none 0 0,.int .u8 0,.slice none 0 0,.slice none 0 0,.slice none 0 0,.slice none 0 0,.slice none 0 0] G2.out (by kernel_rfl) rfl rfl ?_);rintro X a j b f;have y:=Hd a;have z:=Hd (Bk O2.out (j w.heap.size (by rw[K.out];exact lR)));have u:=Hd (R2.out.low (j g lR) H.out);clear a j b f;go_wp2_with fail;refine bodyPost_ret (v:=.tuple #[.agg #[.int .u8 0,.slice none 0 0,.slice none 0 0,.slice none 0 0,.int .u8 0,.slice none 0 0,.slice none 0 0,.slice none 0 0,.slice none 0 0,.slice none 0 0],.int .u8 (A:Nat)]) (Ad Tryz.results179 _ _ g _ _ _ rfl y.out Tryz.underlying52 rfl (by kernel_rfl)) rfl ?_;exact HS.out _ _ rfl M.out (NodeO.none _ _) u.out z.out
theorem Zbr (B:Nat)(L:List Nat)(w:World)(h:RS w B L 0)(k:L.length<1000000000)(b:∀n∈L,n<256):
  Calls Tryz.prog 179 #[.pointer (some ⟨B,0,none⟩)] w (Zk3 B w (Bj L 0)):=by
 have g:=Fh L 0 1;have f:=fun W a=>Ni B L 0 1 W a b;have hk:=Zez L 0 b;unfold Bj;simp only;generalize Fe L 0 1=r1 at g f hk⊢;obtain⟨j,c,-⟩:=g;refine Wy L r1.2.1 r1.2.2 (Ds r1.1) B (Cw r1.2.1 0) (Fp r1.2.1 0) _ w h f hk (fun e W a=> ?_) (fun e W a=> ?_) (fun e=> ?_) (fun e e2=> ?_) (fun e e2=> ?_) (fun e e2=> ?_) (fun e e2 e3 i=> ?_)
 ·rw[e]at a;exact Zbp B _ W a (by have:=c.1;omega) fun n d=>b n (c.2 n d)
 ·rw[e]at a;exact Ze3 B _ W a (by have:=c.1;omega) fun n d=>b n (c.2 n d)
 ·rw[if_pos e]
 ·rw[if_neg (by omega),if_pos e2]
 ·rw[if_neg (by omega),if_neg (by omega),if_pos e2,e]
 ·rw[if_neg (by omega),if_neg (by omega),if_neg (by omega),if_pos e2,e]
 ·rw[if_neg (by omega),if_neg e2,if_neg e3,if_neg i]
open WalkM
def Suf (R M:List Nat):Prop:=∃n,R=M.drop n
theorem Suf.refl (M:List Nat):Suf M M:=⟨0,rfl⟩
theorem Suf.trans {A B C:List Nat}(h:Suf A B)(k:Suf B C):Suf A C:=by
 obtain⟨n,rfl⟩:=h;obtain⟨m,rfl⟩:=k;exact⟨m+n,by rw[List.drop_drop]⟩
theorem Suf.drop (M:List Nat)(n:Nat):Suf (M.drop n) M:=⟨n,rfl⟩
theorem Suf.nil (M:List Nat):Suf [] M:=⟨M.length,by rw[hQ]⟩
theorem Suf.cons (b:Nat)(M:List Nat):Suf M (b::M):=⟨1,rfl⟩
theorem Suf.at {R M:List Nat}(h:Suf R M):R.length≤M.length∧M.drop (M.length-R.length)=R:=by
 obtain⟨n,rfl⟩:=h;rw[List.length_drop];refine⟨by omega,?_⟩
 by_cases c:n≤M.length
 ·rw[show M.length-(M.length-n)=n by omega]
 ·rw[show M.length-(M.length-n)=M.length by omega,hQ,List.drop_of_length_le (by omega)]
theorem Zt (L:List Nat)(er:Nat)(n:Int):Suf (Cm L er n).2.1 L:=by
 unfold Cm
 split
 ·exact Suf.refl _
 ·split
  ·exact Suf.refl _
  ·split
   ·exact Suf.refl _
   ·exact Suf.drop _ _
theorem Zk4 (L:List Nat)(er:Nat)(n:Int):Suf (Fe L er n).2.1 L:=Zt _ _ _
theorem Zbs (L:List Nat)(er:Nat):Suf (Br L er).2.1 L:=by
 unfold Br
 split
 ·exact Suf.refl _
 ·split
  ·exact Suf.refl _
  ·rename_i b M
   have hs:Suf M (b::M):=Suf.cons b M;unfold Of
   split
   ·exact hs
   ·split
    ·exact hs
    ·split<;>exact(Suf.drop _ _).trans hs
theorem Id (L:List Nat)(er:Nat):Suf (By L er).2.1 L:=by
 have h:=Zbs L er;unfold By
 split
 ·rename_i M e hm
  rw[hm]at h;exact h
 ·rename_i n M e hm
  rw[hm]at h;exact(Zt M e (n:Int)).trans h
theorem Ze4 (L:List Nat):Suf (Cw L 0).2.2.1 L:=by
 unfold Cw;simp only;have b:=Id L 0;generalize By L 0=r1 at b⊢;have e:=(Id r1.2.1 r1.2.2).trans b;generalize By r1.2.1 r1.2.2=r2 at e⊢;have f:=(Id r2.2.1 r2.2.2).trans e;generalize By r2.2.1 r2.2.2=r3 at f⊢;have a:=(Zk4 r3.2.1 r3.2.2 1).trans f;generalize Fe r3.2.1 r3.2.2 1=r4 at a⊢;have d:Suf (if Ds r4.1=3 then By r4.2.1 r4.2.2 else([],r4.2)).2.1 L:=by
  split
  ·exact(Id _ _).trans a
  ·exact a
 generalize(if Ds r4.1=3 then By r4.2.1 r4.2.2 else([],r4.2))=r5 at d⊢;have c:=(Id r5.2.1 r5.2.2).trans d
 split
 ·exact a
 ·split
  ·exact a
  ·split
   ·exact c
   ·split<;>exact c
theorem Zil (L:List Nat):Suf (Fp L 0).2.2.1 L:=by
 unfold Fp;simp only;have c:=Id L 0;generalize By L 0=r1 at c⊢;have b:=(Id r1.2.1 r1.2.2).trans c;generalize By r1.2.1 r1.2.2=r2 at b⊢;have a:=(Id r2.2.1 r2.2.2).trans b;generalize By r2.2.1 r2.2.2=r3 at a⊢
 split
 ·exact a
 ·split<;>exact a
theorem Ze5 (L:List Nat):Suf (Bj L 0).2.2.1 L:=by
 cases L with
 |nil=>unfold Bj;rw[show Fe [] 0 1=([],[],4)from Fz []];exact Suf.refl _
 |cons k M=>
  have a:=Suf.cons k M;unfold Bj;rw[show Fe (k::M) 0 1=([k],M,0)from Fz (k::M)];simp only;rw[if_neg (by decide)];have b:=(Ze4 M).trans a;have c:=(Zil M).trans a
  split
  ·exact a
  ·split
   ·split<;>exact b
   ·split
    ·split<;>exact c
    ·exact a
theorem Ze6 {x:Nat} {L:List Nat} {K:NodeD→List Nat→RdR}(c:∀d R,Suf R L→Suf (K d R).rest L):Suf (Nx x L K).rest L:=by
 unfold Nx;cases L with
 |nil=>exact Suf.refl _
 |cons b M=>
  have a:=Suf.cons b M;simp only
  split
  ·exact Suf.nil _
  ·split
   ·split
    ·exact Suf.nil _
    ·exact(Suf.drop M 32).trans a
   ·unfold Kk
    split
    ·exact Suf.nil _
    ·split
     ·exact Suf.nil _
     ·exact c _ _ ((Ze5 M).trans a)
theorem Zl7:∀k x (L:List Nat),Suf (rdP k x L).rest L:=by
 intro k
 induction k with
 |zero=>intro x L;unfold rdP;exact Ze6 fun d R h=>h
 |succ k ih=>
  intro x L;unfold rdP;refine Ze6 fun d R h=> ?_;unfold Um
  split
  ·exact Suf.nil _
  ·split
   ·exact Suf.nil _
   ·exact(ih _ _).trans ((ih _ _).trans h)
end Go.Proofs.YtfofaiommeckbaaGreat
