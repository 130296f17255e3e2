import Derived.OrdersIn
import Derived.RangeFuncCalls
import Derived.Test.YtfofaiommeckbaaGreatZSliceProves16
import Derived.Test.YtfofaiommeckbaaGreatZSliceProves15
open Go.Value renaming slice → q9, int → rA, pointer → rB
open Go.IntKind renaming u8 → rD
open Option renaming none → rF
open Go.Proofs.Tryz
open List renaming getD_eq_getElem?_getD → aH, getElem?_eq_getElem → aI, length_set → dP, filterMap_cons → cX, filterMap_nil → cY, contains_cons → cZ, contains_nil → dA, all_cons → dQ, all_nil → dR
open Nat renaming le_trans → bM, lt_of_lt_of_le → dS, testBit_xor → bG, testBit_two_pow_sub_one → dU, testBit_lt_two_pow → dV, pow_le_pow_right → aY, le_of_lt → dW, lt_or_ge → aB, zero_add → cW, add_mod → dX
open Array renaming all_toList → dY, getElem?_eq_none → aD
open Int renaming natCast_emod → dZ, natCast_add → dO
set_option linter.unusedVariables false
set_option maxRecDepth 100000
set_option maxHeartbeats 40000000
namespace Go.Proofs.YtfofaiommeckbaaGreat
open Go.RowKit
open ShaM
theorem Kr {A B:List Nat}(hl:A.length=B.length)(h:∀j,j<A.length→A.getD j 0=B.getD j 0):A=B:=by
 apply List.ext_getElem hl;intro i h1 h2;have:=h i h1;simpa [aH,aI h1,aI h2]using this
theorem Fp {P:Program} {f:FuncId} {args:Array Value} {w:World} {a n:Nat} {v:Value}
  (h:Calls P f args (w.drewN (a+n)) fun e w'=>e=.returned v∧w'=w.drewN (a+n)):Calls P f args (w.drewN (a+n)) fun e w''=>e=.returned v∧∃m,w''=w.drewN (a+m):=
 h.mono fun _ _ ⟨he,hm⟩=>⟨he,n,hm⟩
def OnlyG (g:Nat)(w w':World):Prop:=Below g w w'∧w.heap.size≤w'.heap.size∧∀i,i<w.heap.size→i≠g→w'.heap[i]? =w.heap[i]?
theorem OnlyG.of_below {g:Nat} {w w':World}(h:Below w.heap.size w w')(hg:g≤w.heap.size):OnlyG g w w':=⟨h.mono hg,h.size,fun i hi _=>h.block i hi⟩
theorem OnlyG.trans {g:Nat} {a b c:World}(h:OnlyG g a b)(k:OnlyG g b c):OnlyG g a c:=⟨h.1.trans k.1,bM h.2.1 k.2.1,fun i hi hne=>(k.2.2 i (dS hi h.2.1) hne).trans (h.2.2 i hi hne)⟩
theorem OnlyG.setCell {g:Nat} {w:World}(i:Nat)(u:Value):OnlyG g w (w.setCell ⟨g,i,rF⟩ u):=⟨bR.setCell (p:=⟨g,i,rF⟩) lR u,by simp,fun k hk hne=>Below.heap_setCell w ⟨g,i,rF⟩ u k (fun e=>hne e)⟩
theorem Blk.only2 {w w':World} {g b:Nat} {t:TypeId} {cs:Array Value}(h:Blk w b t cs)(ho:OnlyG g w w')(hne:b≠g):Blk w' b t cs:=(ho.2.2 b h.lt hne).trans h
theorem OnlyG.setRow {w:World}(g:Nat)(cs:Array Value):OnlyG g w (w.setRow g cs):=⟨⟨rfl,rfl,rfl,by simp,fun i hi=>setRow_other w g i cs (by omega)⟩,by simp,fun i _ hne=>setRow_other w g i cs hne⟩
theorem OnlyG.drewN {g:Nat} {a b:World}(h:OnlyG g a b)(n:Nat):OnlyG g a (b.drewN n):=⟨Ab h.1 n,h.2.1,h.2.2⟩
theorem evs {a:Act} {s:Nat} {v:Value}(h:a.tmps[s]?.getD undef=v):a.eval (.tmp s)=v:=by
 first
 |exact h
 |simpa [Act.eval,Array.getD_eq_getD_getElem?]using h
theorem Wv {P:Program} {w:World} {o:Oper} {a:Act} {K:Act→World→Prop} {Q:Exit→Act→World→Prop} (d s:Operand) (r u:TypeId)
  (z:o.op=.call {callee:=.builtin .copy,args:=#[d,s],argTypes:=#[r,u]}) (e:TypeId) (g n b i:Nat) (q:Addr) (c k:Nat) (f:Array Value) (t:TypeId) (cs:List Value)
  (x:a.eval d=q9 (some ⟨g,n,rF⟩) b i) (y:a.eval s=.slice (some q) c k) (A:P.underlying r=some (.slice e)) (p:(P.info? e).map (·.size)=some 1)
  (C:w.heap[g]? =some (.cells f t (0,0))) (D:cs.length=Nat.min c b) (m:∀j v,cs[j]? =some v→w.cell? (q.add j)=some v) (l:n+cs.length≤f.size) (h1:∀v∈cs,v.oneCell'=true)
  (h:K (a.put o.dst (goInt cs.length)) (w.setRow g (f.toList.take n++cs++f.toList.drop (n+cs.length)).toArray)):o.wp P a w K Q:=by
 have B:=run_copy_row (P:=P) w r u o.type e g n b i q c k f t cs A p C D m l h1;unfold Oper.wp execOp;simp only[z,resolve,invoke,builtin,Sem.run_bind,Sem.run_pure,Result.andThen_ok,List.map_toArray,List.map_cons,List.map_nil,x,y,B];exact h
theorem Znf (x:Nat)(hx:x<4294967296):bits .xor .u32 IntKind.u32.max (x:Int)=((4294967295-x:Nat):Int):=by
 have e:IntKind.u32.max=((4294967295:Nat):Int):=rfl;have h:4294967295^^^x=4294967295-x:=by
  apply Nat.eq_of_testBit_eq;intro i
  by_cases hi:i<32
  ·rw[not_bit hx hi,bG,show(4294967295:Nat)=2^32-1 from rfl,dU,decide_eq_true hi,Bool.true_xor]
  ·have h1:(4294967295-x).testBit i=false:=dV (dS (show 4294967295-x<2^32 by omega) (aY (by omega) (by omega)));have h2:x.testBit i=false:=dV (dS (show x<2^32 by omega) (aY (by omega) (by omega)));rw[h1,bG,h2,show(4294967295:Nat)=2^32-1 from rfl,dU,decide_eq_false hi];rfl
 rw[e,Mq _ _ (by omega) hx,h]
theorem OnlyG.far {g p:Nat} {w a b:World}(h:OnlyG g w a)(k:OnlyG p a b)(hp:w.heap.size≤p)(hg:g≤p):OnlyG g w b:=⟨h.1.trans (k.1.mono hg),bM h.2.1 k.2.1,fun i hi hne=>(k.2.2 i (dS hi h.2.1) (by omega)).trans (h.2.2 i hi hne)⟩
def Uf (S X:List Nat)(i:Nat):List Nat:=(List.range 8).map fun j=>if j<i then(S.getD j 0+X.getD j 0)%4294967296 else S.getD j 0
theorem Ge (S X:List Nat)(i:Nat):(Uf S X i).length=8:=by simp[Uf]
theorem Ks (S X:List Nat)(i:Nat) {j:Nat}(h:j<8):(Uf S X i).getD j 0=if j<i then(S.getD j 0+X.getD j 0)%4294967296 else S.getD j 0:=by simp[Uf,aH,h]
theorem Ug {S:List Nat}(X:List Nat)(hl:S.length=8):Uf S X 0=S:=by
 refine Kr (by rw[Ge,hl]) fun j hj=> ?_;rw[Ge]at hj;rw[Ks _ _ _ hj,if_neg (by omega)]
theorem Uh (S X:List Nat) {i:Nat}(h:i<8):(Uf S X i).set i ((S.getD i 0+X.getD i 0)%4294967296)=Uf S X (i+1):=by
 refine Kr (by rw[dP,Ge,Ge]) fun j a=> ?_;rw[dP,Ge]at a;rw[Ks _ _ _ a,aH,List.getElem?_set]
 by_cases e:i=j
 ·subst e;rw[if_pos rfl,if_pos (by rw[Ge];exact a),if_pos (by omega)];rfl
 ·rw[if_neg e,←aH,Ks _ _ _ a]
  by_cases h1:j<i
  ·rw[if_pos h1,if_pos (by omega)]
  ·rw[if_neg h1,if_neg (by omega)]
theorem Ze (S B:List Nat):Uf S (rndsN (wL B 64) S 64) 8=stepN S B:=by
 unfold Uf stepN;refine List.map_congr_left fun j hj=> ?_;rw[if_pos (List.mem_range.1 hj)]
theorem Zhy (g:Nat)(v:Value)(S B:List Nat)(w:World)(hg:Blk w g 244 (Hz S))(hS:∀x∈S,x<4294967296)(hl:S.length=8)(h:Rd w v (bvs B))(hB:∀x∈B,x<256)(bO:B.length=64):
  Calls prog 233 #[rB (some ⟨g,0,rF⟩),v] w fun e w'=>e=.returned (.tuple #[])∧Blk w' g 244 (Hz (stepN S B))∧OnlyG g w w':=by
 have hz:∀w,(zeroValue 272).run prog w=.ok (.agg Z64) w:=fun _=>(by kernel_rfl);have cU:∀w,(zeroValue 244).run prog w=.ok (.agg Z8a) w:=fun _=>(by kernel_rfl);have WD:=Zds v B w h hB bO;have CN:=fun(W:World)=>Zbk W;have R:=wL_lt hB 64;have T:=wL_len B 64;obtain⟨W,hW⟩:=eX (wL B 64);rw[←hW]at WD R T;obtain⟨WA,J⟩:=eX (Hz W);obtain⟨SA,L⟩:=eX (Hz S);obtain⟨KA,I⟩:=eX KLa;rw[←J]at WD;rw[←L]at hg;simp only[←I]at CN;have IW:=Hd (show(prog.info? 272).map (·.size)=some WA.size by rw[J];exact Zd W T);have IK:=Hd (show(prog.info? 272).map (·.size)=some KA.size by rw[I,KLa];exact Zd KL rfl);have IS:=Hd (show(prog.info? 244).map (·.size)=some SA.size by rw[L];exact Zhx S hl);have ZW:=Hd (show Z64.size=WA.size by rw[J];unfold Z64;rw[Bq,Bq,T];rfl);have ZK:=Hd (show Z64.size=KA.size by rw[I];unfold Z64 KLa;rw[Bq,Bq];rfl);have ZS:=Hd (show Z8a.size=SA.size by rw[L];unfold Z8a;rw[Bq,Bq,hl];rfl);have OW:=Hd (show WA.toList.all (·.oneCell')=true by rw[J,dY];exact Gd W);have OK:=Hd (show KA.toList.all (·.oneCell')=true by rw[I,dY];exact Gd KL);have OS:=Hd (show SA.toList.all (·.oneCell')=true by rw[L,dY];exact Gd S);have bN:=Hd WD;have a9:=Hd CN;have HG:=Hd hg;have EW:=Hd hW;have bP:=Hd J;have aS:=Hd L;have bT:=Hd I;have aR:=Hd hS;have aU:=Hd hl;have bF:=Hd R;have bQ:=Hd T;have hv:∃a b c,v=.slice a b c:=(by obtain⟨a,c,e,_⟩:=h;exact⟨a,_,c,e⟩);obtain⟨a1,a2,a3,rfl⟩:=hv;clear WD CN R T hW J L I h hB bO hg hS hl;go_enter func233,ntmps233;go_wp2_with fail;refine(bN.out).mono ?_;rintro e w1 ⟨rfl,aQ⟩;go_wp2_with fail;refine(a9.out w1).mono ?_;rintro e m ⟨rfl,bL⟩;have a0:=Hd (aQ.trans (bL.mono aQ.size));clear aQ bL;have bS:g<w.heap.size:=HG.out.lt;have aX:w.heap.size≤m.heap.size:=a0.out.size;have K0:=Hd (show Blk ((m.alloc (.cells Z64 272)).alloc (.cells Z64 272)) m.heap.size 272 Z64 from(Blk.new m _ _).alloc _);have K1:=Hd (show Blk ((m.alloc (.cells Z64 272)).alloc (.cells Z64 272)) (m.heap.size+1) 272 Z64 by have:=Blk.new (m.alloc (.cells Z64 272)) 272 Z64;simpa using this);have KB:=Hd (show Below w.heap.size w ((m.alloc (.cells Z64 272)).alloc (.cells Z64 272))from(a0.out.alloc aX _).alloc (by simp;omega) _);go_wp2_with (refine Aa rfl 272 (.tmp 4) (.tmp 14) rfl m.heap.size WA rfl rfl 272 Z64 K0.out IW.out ZW.out OW.out ?_);intro w3 m0 mb mo Y;have J0:=Hd m0;have J1:=Hd ((mo (m.heap.size+1) (by omega)).trans K1.out:Blk w3 (m.heap.size+1) 272 Z64);have JB:=Hd (KB.out.trans ((mb m.heap.size lR).mono aX));have cG:w3.heap.size=m.heap.size+2:=(by omega);clear m0 mb mo Y K0 K1 KB;go_wp2_with (refine Aa rfl 272 (.tmp 5) (.tmp 15) rfl (m.heap.size+1) KA rfl rfl 272 Z64 J1.out IK.out ZK.out OK.out ?_);intro w4 m0 mb mo Y;have L1:=Hd m0;have L0:=Hd ((mo m.heap.size (by omega)).trans J0.out:Blk w4 m.heap.size 272 WA);have LB:=Hd (JB.out.trans ((mb (m.heap.size+1) lR).mono (by omega)));have bE:w4.heap.size=m.heap.size+2:=(by omega);have LG:=Hd (HG.out.below LB.out bS);obtain⟨p0,aH⟩:=eX m.heap.size;obtain⟨p1,aC⟩:=eX (m.heap.size+1);obtain⟨d,a5⟩:=eX (m.heap.size+2);rw[←aH]at L0;rw[←aC]at L1;have N2:=Hd (show Blk (w4.alloc (.cells Z8a 244)) d 244 Z8a by rw[a5,←bE];exact Blk.new w4 _ _);have NB:=Hd (LB.out.alloc (by omega) (.cells Z8a 244));have q0:p0<d:=(by omega);have q1:p1<d:=(by omega);have q2:g<p0:=(by omega);have q3:p0≠p1:=(by omega);have Q:=Hd (show w.heap.size≤d by omega);have cI:=Hd aH;have cE:=Hd aC;have H:=Hd a5;rw[←aC,←aH];clear m0 mb mo Y J0 J1 JB cG aX;clear aH aC;go_wp2_with (first|(refine wpList_load_row rfl 244 (.tmp 17) rfl g rfl 244 SA (0,0) _ LG.out underlying244 rfl IS.out ?_)|(refine Aa rfl 244 (.tmp 6) (.tmp 18) rfl (m.heap.size+2) SA rfl rfl 244 Z8a (by rw[←H.out];exact N2.out) IS.out ZS.out OS.out ?_));intro w5 m0 mb mo Y;rw[←H.out]at m0 mb mo;rw[←H.out];have M2:=Hd (show Blk w5 d 244 (Hz (rndsN W S 0)) by rw[rndsN,←aS.out];exact m0);have MB:=mb d lR;have c3:d<w5.heap.size:=m0.lt;have aM:=((show Blk w4 p0 272 WA from L0.out).alloc (.cells Z8a 244)).below MB q0;have aT:=((show Blk w4 p1 272 KA from L1.out).alloc (.cells Z8a 244)).below MB q1;have a4:=((show Blk w4 g 244 SA from LG.out).alloc (.cells Z8a 244)).below MB (by omega);rw[bP.out]at aM;rw[bT.out,KLa]at aT;rw[aS.out]at a4;have M0:=Hd aM;have M1:=Hd aT;have MG:=Hd a4;have bJ:=Hd (NB.out.trans (MB.mono Q.out));clear m0 mb mo Y MB aM aT a4 L0 L1 LG N2 NB LB;have q4:p0≠d:=(by omega);have q5:p1≠d:=(by omega);have q6:g≠d:=(by omega);clear bE a5 cI cE H a0 bN a9 HG IW IK IS ZW ZK ZS OW OK OS;go_wp2_with fail
 go_loopg [19] 64 (fun q iv wr=>∃t:Nat,t+q=64∧iv=rA .i64 (t:Nat)∧Blk wr d 244 (Hz (rndsN W S t))∧OnlyG d w5 wr)
 case atStart=>exact⟨0,rfl,rfl,M2.out,OnlyG.of_below bR (by omega)⟩
 case round=>
  obtain⟨t,ht,rfl,M,A⟩:=hrel;have HT:=Hd ht;have bK:=Hd M;have HO:=Hd A;obtain⟨V,hV⟩:=eX (rndsN W S t);have G:=rndsN_ok (W:=W) aU.out aR.out t;rw[←hV]at G M;have HV:=Hd hV
  by_cases hlt:t<64
  ·have a8:decide ((t:Int)<64)=true:=(by rw[decide_eq_true_iff];omega);have XC:=fun(i:Nat) (hi:i<8)=>(show wr.cell? ⟨d,i,rF⟩=some (.int .u32 ((V.getD i 0:Nat):Int)) by rw[M.cell i,Fa (by rw[G.1];exact hi)]);have XL:=fun(i:Nat)=>getD_lt32 G.2 i;have ck:=(show wr.cell? ⟨p1,t,rF⟩=some (.int .u32 ((KL.getD t 0:Nat):Int)) by rw[(M1.out.only2 A q5).cell t,Fa (by rw[KL_len];exact hlt)]);have cw:=(show wr.cell? ⟨p0,t,rF⟩=some (.int .u32 ((W.getD t 0:Nat):Int)) by rw[(M0.out.only2 A q4).cell t,Fa (by rw[bQ.out];exact hlt)]);have bY:=getD_lt32 KL_lt t;have R:=getD_lt32 bF.out t;have x0:=XC 0 (by omega);have x1:=XC 1 (by omega);have x2:=XC 2 (by omega);have x3:=XC 3 (by omega);have x4:=XC 4 (by omega);have x5:=XC 5 (by omega);have x6:=XC 6 (by omega);have x7:=XC 7 (by omega);have C:=XL 0;have b1:=XL 1;have b2:=XL 2;have b3:=XL 3;have N:=XL 4;have b5:=XL 5;have b6:=XL 6;have b7:=XL 7;obtain⟨k,e0⟩:=eX (V.getD 0 0);obtain⟨u,e1⟩:=eX (V.getD 1 0);obtain⟨s,e2⟩:=eX (V.getD 2 0);obtain⟨F,e3⟩:=eX (V.getD 3 0);obtain⟨l,e4⟩:=eX (V.getD 4 0);obtain⟨D,e5⟩:=eX (V.getD 5 0);obtain⟨E,e6⟩:=eX (V.getD 6 0);obtain⟨v7,e7⟩:=eX (V.getD 7 0);obtain⟨kk,aP⟩:=eX (KL.getD t 0);obtain⟨ww,a6⟩:=eX (W.getD t 0);rw[←e0]at x0 C;rw[←e1]at x1 b1;rw[←e2]at x2 b2;rw[←e3]at x3 b3;rw[←e4]at x4 N;rw[←e5]at x5 b5;rw[←e6]at x6 b6;rw[←e7]at x7 b7;rw[←aP]at ck bY;rw[←a6]at cw R;have a7:=Hd (show V=[k,u,s,F,l,D,E,v7]from by
    refine Kr (by rw[G.1];rfl) fun j hj=> ?_;rw[G.1]at hj;rcases(show j=0∨j=1∨j=2∨j=3∨j=4∨j=5∨j=6∨j=7 by omega)with rfl|rfl|rfl|rfl|rfl|rfl|rfl|rfl
    ·exact e0.symm
    ·exact e1.symm
    ·exact e2.symm
    ·exact e3.symm
    ·exact e4.symm
    ·exact e5.symm
    ·exact e6.symm
    ·exact e7.symm)
   have cR:=Hd aP;have cN:=Hd a6;clear e0 e1 e2 e3 e4 e5 e6 e7 aP a6 XC XL G hV M A ht;obtain⟨r1,aF⟩:=eX (rot l 6);obtain⟨r2,aA⟩:=eX (rot l 11);obtain⟨r3,aE⟩:=eX (rot l 25);obtain⟨r4,aD⟩:=eX (rot k 2);obtain⟨r5,aG⟩:=eX (rot k 13);obtain⟨r6,aJ⟩:=eX (rot k 22);have SF:=fun(x n r:Nat) (z:Int) (hz:z=(n:Int)) (hx:x<4294967296) (h1:1≤n) (h2:n≤31) (hr:r=rot x n) (W':World)=>(show Calls prog 273 #[.int .u32 (x:Nat),rA .i64 z] W' fun e w'=>e=.returned (.int .u32 (r:Nat))∧w'=W' by rw[hz,hr];exact Gp x n hx h1 h2 W');have R1:=Hd (SF l 6 r1 6 rfl N (by omega) (by omega) aF);have R2:=Hd (SF l 11 r2 11 rfl N (by omega) (by omega) aA);have R3:=Hd (SF l 25 r3 25 rfl N (by omega) (by omega) aE);have R4:=Hd (SF k 2 r4 2 rfl C (by omega) (by omega) aD);have R5:=Hd (SF k 13 r5 13 rfl C (by omega) (by omega) aG);have R6:=Hd (SF k 22 r6 22 rfl C (by omega) (by omega) aJ);have d1:r1<4294967296:=(by rw[aF];exact rot_lt N (by omega));have d2:r2<4294967296:=(by rw[aA];exact rot_lt N (by omega));have d3:r3<4294967296:=(by rw[aE];exact rot_lt N (by omega));have d4:r4<4294967296:=(by rw[aD];exact rot_lt C (by omega));have d5:r5<4294967296:=(by rw[aG];exact rot_lt C (by omega));have d6:r6<4294967296:=(by rw[aJ];exact rot_lt C (by omega));have X1:=Mq r1 r2 d1 d2;have X2:=Mq (r1^^^r2) r3 (xor_lt32 d1 d2) d3;have X3:=Mq r4 r5 d4 d5;have X4:=Mq (r4^^^r5) r6 (xor_lt32 d4 d5) d6;obtain⟨z1,aY⟩:=eX (r1^^^r2);obtain⟨z3,aN⟩:=eX (r4^^^r5);rw[←aY]at X1 X2;rw[←aN]at X3 X4;have cT:=Hd (show z1^^^r3=S1N l by rw[aY,aF,aA,aE];rfl);have cD:=Hd (show z3^^^r6=S0N k by rw[aN,aD,aG,aJ];rfl);rw[cT.out]at X2;rw[cD.out]at X4;have A1:=Zc4 l D N b5;have A2:=Zc4 (4294967295-l) E (by omega) b6;have A3:=Mq (l&&&D) ((4294967295-l)&&&E) (and_lt32 N) (and_lt32 (by omega));have A4:=Zc4 k u C b1;have A5:=Zc4 k s C b2;have A6:=Zc4 u s b1 b2;have A7:=Mq (k&&&u) (k&&&s) (and_lt32 C) (and_lt32 C);have A8:=Mq ((k&&&u)^^^(k&&&s)) (u&&&s) (xor_lt32 (and_lt32 C) (and_lt32 C)) (and_lt32 b1);have cA:=Hd (show(l&&&D)^^^((4294967295-l)&&&E)=chN l D E from rfl);have bZ:=Hd (show((k&&&u)^^^(k&&&s))^^^(u&&&s)=majN k u s from rfl);rw[cA.out]at A3;rw[bZ.out]at A8;have cO:=chN_lt (f:=D) (g:=E) N;have cP:=majN_lt (c:=s) C b1;have cK:=S1N_lt N;have cM:=S0N_lt C;obtain⟨n4,aW⟩:=eX (4294967295-l);obtain⟨y1,bG⟩:=eX (l&&&D);obtain⟨y3,bD⟩:=eX (k&&&u);obtain⟨y4,bX⟩:=eX (k&&&s);obtain⟨y5,bA⟩:=eX (u&&&s);rw[←aW]at A2 A3;obtain⟨y2,bH⟩:=eX (n4&&&E);rw[←bH]at A2 A3;rw[←bG]at A1 A3;rw[←bD]at A4 A7 A8;rw[←bX]at A5 A7 A8;rw[←bA]at A6 A8;obtain⟨y6,bW⟩:=eX (y3^^^y4);rw[←bW]at A7 A8;obtain⟨ch,Z⟩:=eX (chN l D E);obtain⟨ma,O⟩:=eX (majN k u s);obtain⟨sg,P⟩:=eX (S1N l);obtain⟨s0,U⟩:=eX (S0N k);rw[←Z]at A3 cO;rw[←O]at A8 cP;rw[←P]at X2 cK;rw[←U]at X4 cM;have cB:=Hd Z;have cL:=Hd O;have cS:=Hd P;have b9:=Hd U;have A0:=Znf l N;rw[←aW]at A0;clear aF aA aE aD aG aJ aY aN aW bG bH bD bX bA bW Z O P U SF;go_wp2_with fail
   go_quiet (fail)
   go_wp2_with fail
   go_quiet ((go_at_call 273;first|with_reducible exact Fp (R1.out _)|with_reducible exact Fp (R2.out _)|with_reducible exact Fp (R3.out _)))
   go_wp2_with fail
   go_quiet ((go_at_call 273;first|with_reducible exact Fp (R4.out _)|with_reducible exact Fp (R5.out _)|with_reducible exact Fp (R6.out _)))
   go_wp2_with fail
   rename_i m1 m2 KX KH
   obtain⟨w8,aI⟩:=eX ((wr.drewN (m1+m2)).drewN nq);rw[←aI];have K8:=Hd (show Blk w8 d 244 (Hz [k,u,s,F,l,D,E,v7]) by
    rw[aI,←a7.out,HV.out];exact(bK.out.drewN _).drewN _)
   have O8:=Hd (show OnlyG d w5 w8 by rw[aI];exact(HO.out.drewN _).drewN _);clear aI x0 x1 x2 x3 x4 x5 x6 x7 ck cw;obtain⟨t1,aO⟩:∃n:Nat,n=(v7+sg+ch+kk+ww)%4294967296:=⟨_,rfl⟩;obtain⟨t2,aZ⟩:∃n:Nat,n=(s0+ma)%4294967296:=⟨_,rfl⟩;have E1:((v7:Int)+(sg:Int)+(ch:Int)+(kk:Int)+(ww:Int))%4294967296=(t1:Int):=(by rw[aO,dZ,dO,dO,dO,dO];rfl);have E2:((s0:Int)+(ma:Int))%4294967296=(t2:Int):=(by rw[aZ,dZ,dO];rfl);have bV:=Hd aO;have bB:=Hd aZ;rw[E1,E2];clear aO aZ E1 E2;refine Au [fun v _=>v=q9 (some ⟨d,1,rF⟩) 7 7,fun v _=>v=q9 (some ⟨d,0,rF⟩) 7 8,fun _ w'=>Blk w' d 244 (Hz [k,k,u,s,F,l,D,E])∧OnlyG d w5 w']
    [false,false,true] (fun x=>Below w8.heap.size w8 x) (fun x y=>Below x.heap.size x y) none 2 (by kernel_rfl) ?_ (⟨rfl,rfl,rfl,lR,fun _ _=>rfl⟩) (fun x y _ h=>h) (fun x y hx hs=>hx.trans (hs.mono hx.size)) (by kernel_rfl) (by kernel_rfl) (by kernel_rfl) ?_ ?_
   ·exact Ai (fun _ _ _ h _ _=>h) (Ai (fun _ _ _ h _ _=>h) (Ai (fun _ _ _ _ _ _=>trivial) Ah))
   ·refine .cons (Mz ?_) (.cons (Mz ?_) (.cons (Mz ?_) (.nil)))
    ·intro a wx o hq A hf;have o:Below w8.heap.size w8 wx:=o;clear hq;refine⟨rfl,?_⟩;intro K hK;have e0:a.tmps[6]?.getD undef=rB (some ⟨d,0,rF⟩):=A 6 (by kernel_rfl);go_simp;exact hK _ _ rfl (fun _=>Af rfl bR)
    ·intro a wx o hq A hf;have o:Below w8.heap.size w8 wx:=o;clear hq;refine⟨rfl,?_⟩;intro K hK;have e0:a.tmps[6]?.getD undef=rB (some ⟨d,0,rF⟩):=A 6 (by kernel_rfl);go_simp;exact hK _ _ rfl (fun _=>Af rfl bR)
    ·intro a wx o hq A hf;have o:Below w8.heap.size w8 wx:=o;clear hq;refine⟨rfl,?_⟩;intro K hK;have e0:a.tmps[80]?.getD undef=q9 (some ⟨d,1,rF⟩) 7 7:=hf.1;have e1:a.tmps[81]?.getD undef=q9 (some ⟨d,0,rF⟩) 7 8:=hf.2.1;have aV:Blk wx d 244 (Hz [k,u,s,F,l,D,E,v7]):=K8.out.below o K8.out.lt;have cH:OnlyG d w5 wx:=O8.out.trans (OnlyG.of_below o (dW K8.out.lt));refine Wv (.tmp 80) (.tmp 81) 276 276 rfl 231 d 1 7 7 ⟨d,0,rF⟩ 7 8 _ 244 (Zg0 [k,u,s,F,l,D,E]) (evs e0) (evs e1) underlying276 (by kernel_rfl) aV rfl ?_ (by rw[Zhw,Bq];exact Nat.le_refl 8) ?_ ?_
     ·intro j v hv;have hj:j<7:=by
       rcases aB j 7 with h|h
       ·exact h
       ·rw[List.getElem?_eq_none (by simp[Zg0];omega)]at hv;cases hv
      rw[Addr.add_lit,cW,aV.cell j,←hv];rcases(show j=0∨j=1∨j=2∨j=3∨j=4∨j=5∨j=6 by omega)with rfl|rfl|rfl|rfl|rfl|rfl|rfl<;>rfl
     ·intro v hv;simp only[Zg0,List.mem_map]at hv;obtain⟨n,_,rfl⟩:=hv
      rfl
     ·exact hK _ _ ⟨setRow_heap wx d _ _ _ _ aV,cH.trans (OnlyG.setRow d _)⟩ (fun cJ=>absurd rfl cJ)
   ·rintro f w9 aK;have S9:Blk w9 d 244 (Hz [k,k,u,s,F,l,D,E])∧OnlyG d w5 w9:=aK.2.2.1;clear aK;simp only[Am,Az,Ex,cX,cY,cZ,dA,Nat.reduceBEq,Nat.reduceAdd,Bool.or_false,Bool.or_true,cond_true,cond_false];have bC:=Hd S9;have cV:w9.cell? ⟨d,4,rF⟩=some (.int .u32 (F:Nat)):=S9.1.cell 4;have c0:w9.cell? ⟨d,0,rF⟩=some (.int .u32 (k:Nat)):=S9.1.cell 0;have f4:=S9.1.frozen 4;have f0:=S9.1.frozen 0;clear S9;go_wp2_with fail;go_roundg (gk-1);case measure=>have:=HT.out;omega
    case rel=>
     refine⟨t+1,by have:=HT.out;omega,by go_num,?_,(bC.out.2.trans (OnlyG.setCell 4 _)).trans (OnlyG.setCell 0 _)⟩;have c1:((F:Int)+(t1:Int))%4294967296=(((F+t1)%4294967296:Nat):Int):=(by rw[dZ,dO];rfl);have c2:((t1:Int)+(t2:Int))%4294967296=(((t1+t2)%4294967296:Nat):Int):=(by rw[dZ,dO];rfl);have hb:=(bC.out.1.set 4 (.int .u32 (((F+t1)%4294967296:Nat):Int))).set 0 (.int .u32 (((t1+t2)%4294967296:Nat):Int));rw[Kq,Kq]at hb;have hr:rndsN W S (t+1)=([k,k,u,s,F,l,D,E].set 4 ((F+t1)%4294967296)).set 0 ((t1+t2)%4294967296):=by
      rw[rndsN,←HV.out,a7.out,←cR.out,←cN.out,bV.out,bB.out,cB.out,cL.out,cS.out,b9.out];show [_,_,_,_,_,_,_,_]=[_,_,_,_,_,_,_,_]
      congr 1
      ·show(_+_)%_=_;exact dX _ _ _
      ·congr 1;congr 1;congr 1
       congr 1
       show(F+_)%_=_;rw[dX,dX F (_%4294967296),Nat.mod_mod]
       rfl
     rw[hr];first
     |exact hb
     |(rw[c1,c2];exact hb)
  ·obtain rfl:t=64:=(by omega);have hX:=rndsN_ok (W:=W) aU.out aR.out 64;have aL:=Hd (show Uf S (rndsN W S 64) 8=stepN S B by rw[EW.out];exact Ze S B);obtain⟨X,bM⟩:=eX (rndsN W S 64);rw[hV]at M;rw[←bM]at hX M aL;have bI:=Hd hX;have H:=Hd M;have bU:=Hd (show Blk wr g 244 (Hz (Uf S X 0)) by rw[Ug X aU.out];exact MG.out.only2 A q6);have b8:=Hd (OnlyG.far (OnlyG.of_below bJ.out (dW bS)) A Q.out (by omega));clear ht M A hX bM bK hlt HV hV HO HT M0 M1 M2 MG bJ bF bQ EW bP aS bT;go_wp2_with fail;obtain⟨g1,rfl⟩:=eX gk;obtain⟨w6,rfl⟩:=eX wr
   go_loopg [93] 8 (fun q iv wr=>∃i:Nat,i+q=8∧iv=rA .i64 (i:Nat)∧Blk wr d 244 (Hz X)∧Blk wr g 244 (Hz (Uf S X i))∧OnlyG g w6 wr)
   case atStart=>exact⟨0,rfl,rfl,H.out,bU.out,OnlyG.of_below bR (dW bU.out.lt)⟩
   case round=>
    obtain⟨i,hi,rfl,M,kg,A⟩:=hrel;have HI:=Hd hi;have J2:=Hd M;have JG:=Hd kg;have HO:=Hd A
    by_cases hlt:i<8
    ·have a8:decide ((i:Int)<8)=true:=(by rw[decide_eq_true_iff];omega);have x1:wr.cell? ⟨d,i,rF⟩=some (.int .u32 ((X.getD i 0:Nat):Int)):=(by rw[M.cell i,Fa (by rw[bI.out.1];exact hlt)]);have x2:wr.cell? ⟨g,i,rF⟩=some (.int .u32 ((S.getD i 0:Nat):Int)):=(by rw[kg.cell i,Fa (by rw[Ge];exact hlt),Ks _ _ _ hlt,if_neg (by omega)]);have f1:=kg.frozen i;have b1:=getD_lt32 bI.out.2 i;have b2:=getD_lt32 aR.out i;obtain⟨a,ha⟩:=eX (X.getD i 0);obtain⟨b,hb⟩:=eX (S.getD i 0);rw[←ha]at x1 b1;rw[←hb]at x2 b2;have cF:=Hd (Uh S X hlt);have HA:=Hd ha;have cC:=Hd hb;clear ha hb hi M kg A;go_wp2_with fail
     go_region
     go_wp2_with fail;go_roundg (gk-1);case measure=>have:=HI.out;omega
     case rel=>
      refine⟨i+1,by have:=HI.out;omega,by go_num,?_,?_,?_⟩
      ·exact(J2.out.far (p:=⟨g,i,rF⟩) (fun e=>q6 e.symm) _).drewN 1
      ·have c1:((b:Int)+(a:Int))%4294967296=(((S.getD i 0+X.getD i 0)%4294967296:Nat):Int):=(by rw[←HA.out,←cC.out,dZ,dO];rfl);rw[c1,←cF.out,←Kq];exact(JG.out.set i _).drewN 1
      ·exact(HO.out.trans (OnlyG.setCell i _)).drewN 1
    ·obtain rfl:i=8:=(by omega);rw[aL.out]at kg;have cQ:=Hd kg;clear hi M kg A;go_wp2_with fail
     go_end0
     exact⟨rfl,cQ.out,b8.out.trans HO.out⟩
end Go.Proofs.YtfofaiommeckbaaGreat
namespace Go.Proofs.YtfofaiommeckbaaGreat
open Go.RowKit WireM
theorem Own.onlyG {w w':World} {B g:Nat} {e:TypeId} {v:Value} {xs:List Value}(h:Own w B e v xs)(i:OnlyG g w w')(l:g<B):Own w' B e v xs:=by
 obtain⟨h1,h2|⟨a,d,c,f,k,b,rest⟩⟩:=h
 ·exact⟨h1,.inl h2⟩
 ·refine⟨h1,.inr ⟨a,d,c,f,k,?_,rest⟩⟩;have j:a<w.heap.size:=by
   rcases aB a w.heap.size with h|h
   ·exact h
   ·rw[aD h]at b;cases b
  rw[i.2.2 a j (by omega)];exact b
theorem Gi (g:Nat):∀(vs:List Value) (o:Nat) (w:World),OnlyG g w (w.setCells g o vs)
 |[],o,w=>⟨bR,lR,fun _ _ _=>rfl⟩
 |v::vs,o,w=>by
  rw[World.setCells];exact(OnlyG.setCell o v).trans (Gi g vs (o+1) _)
theorem Own.setLow {w:World} {B:Nat} {e:TypeId} {v:Value} {xs:List Value}(h:Own w B e v xs) {p:Addr}(hp:p.block<B)(u:Value):Own (w.setCell p u) B e v xs:=by
 refine h.setOther (fun hv=> ?_) u;rcases h.2 with⟨rfl,_⟩|⟨g,cp,cur,rfl,hg,_⟩
 ·simp[Value.ownBlock]at hv
 ·simp[Value.ownBlock]at hv;omega
theorem Blk.there {w:World} {g:Nat} {t:TypeId} {cs:Array Value}(h:Blk w g t cs)(o n:Nat)(hn:o+n≤cs.size):w.there g o n:=by
 intro j hj;refine⟨?_,h.frozen _⟩;rw[h.cell,Array.getElem?_eq_getElem (by omega)]
 rfl
def NodeO (w:World)(B:Nat)(d:NodeD)(c:Array Value):Prop:=
 ∃x0 x1 x2 x3 x4 u0 u1 u2,c=#[rA rD (d.kind:Nat),x0,x1,x2,rA rD (d.leaf.source:Nat),x3,x4,u0,u1,u2]∧
  Own w B 5 x0 (bvs d.leaf.box)∧Own w B 5 x1 (bvs d.leaf.sign)∧Own w B 5 x2 (bvs d.leaf.ident)∧Own w B 5 x3 (bvs d.leaf.par)∧Own w B 5 x4 (bvs d.leaf.sig)∧
  Own w B 5 u0 (bvs d.par.box)∧Own w B 5 u1 (bvs d.par.hash)∧Own w B 3 u2 (ivs .i64 d.par.late)
theorem NodeO.below {w w':World} {B B':Nat} {d:NodeD} {c:Array Value}(h:NodeO w B d c)(b:Below B' w w')(a:w.heap.size≤B'):NodeO w' B d c:=by
 obtain⟨x0,x1,x2,x3,x4,u0,u1,u2,rfl,h0,h1,h2,h3,g,f,e,i⟩:=h;exact⟨x0,x1,x2,x3,x4,u0,u1,u2,rfl,h0.below b a,h1.below b a,h2.below b a,h3.below b a,g.below b a,f.below b a,e.below b a,i.below b a⟩
theorem NodeO.mono {w:World} {B B':Nat} {d:NodeD} {c:Array Value}(h:NodeO w B d c)(hB:B'≤B):NodeO w B' d c:=by
 obtain⟨x0,x1,x2,x3,x4,u0,u1,u2,rfl,h0,h1,h2,h3,h4,h5,h6,h7⟩:=h;exact⟨x0,x1,x2,x3,x4,u0,u1,u2,rfl,h0.mono hB,h1.mono hB,h2.mono hB,h3.mono hB,h4.mono hB,h5.mono hB,h6.mono hB,h7.mono hB⟩
theorem NodeO.c {w:World} {B:Nat} {d:NodeD} {c:Array Value}(h:NodeO w B d c):NodeC w d c:=by
 obtain⟨x0,x1,x2,x3,x4,u0,u1,u2,rfl,h0,h1,h2,h3,i,f,b,j⟩:=h;have g:∀ {v:Value} {e:TypeId} {xs:List Value},Own w B e v xs→∃a c,v=.slice a xs.length c:=fun h=>(by obtain⟨a,c,e,_⟩:=h.rd;exact⟨a,c,e⟩);obtain⟨m,o,rfl⟩:=g h0;obtain⟨s,c1,rfl⟩:=g h1;obtain⟨l,c2,rfl⟩:=g h2;obtain⟨p,c3,rfl⟩:=g h3;obtain⟨q,c4,rfl⟩:=g i;obtain⟨x,c5,rfl⟩:=g f;obtain⟨n,r,rfl⟩:=g b;obtain⟨t,k,rfl⟩:=g j;have u:(ivs .i64 d.par.late).length=d.par.late.length:=Ga _ _;simp only[bvs_len,u]at h0 h1 h2 h3 i f b j⊢;exact⟨m,o,s,c1,l,c2,p,c3,q,c4,x,c5,n,r,t,k,rfl,h0.rd,h1.rd,h2.rd,h3.rd,i.rd,f.rd,b.rd,j.rd⟩
theorem If (d:NodeD)(c:Array Value)(w:World)(h:NodeC w d c)(r:Cd d=true):
  Calls prog 73 #[.agg c] w fun e w'=>∃c',e=.returned (.agg c')∧NodeO w' w.heap.size d c'∧Below w.heap.size w w':=by
 have bS:=of_decide_eq_true r;obtain⟨L,c1,F,c2,G,c3,J,c4,M,c5,U,e1,P,e2,V,e3,rfl,h1,h2,h3,h4,h5,h6,h7,h8⟩:=h;have CL:=fun(W:World) (E:Below w.heap.size w W)=>Ud d.leaf #[.slice L d.leaf.box.length c1,.slice F d.leaf.sign.length c2,.slice G d.leaf.ident.length c3,rA rD (d.leaf.source:Nat),.slice J d.leaf.par.length c4,.slice M d.leaf.sig.length c5] W ⟨L,c1,F,c2,G,c3,J,c4,M,c5,rfl,h1.below E lR,h2.below E lR,h3.below E lR,h4.below E lR,h5.below E lR⟩ (by omega);have C1:=fun(W:World) (E:Below w.heap.size w W)=>Cu _ d.par.box W (h6.below E lR) (by omega);have C2:=fun(W:World) (E:Below w.heap.size w W)=>Cu _ d.par.hash W (h7.below E lR) (by omega);have C3:=fun(W:World) (E:Below w.heap.size w W)=>Zbj _ d.par.late W (h8.below E lR) (by omega);obtain⟨I,aP⟩:=eX d.kind;obtain⟨Z,aR⟩:=eX d.leaf.box.length;obtain⟨l2,aL⟩:=eX d.leaf.sign.length;obtain⟨l3,aU⟩:=eX d.leaf.ident.length;obtain⟨l4,aY⟩:=eX d.leaf.par.length;obtain⟨l5,aN⟩:=eX d.leaf.sig.length;obtain⟨S,aS⟩:=eX d.par.box.length;obtain⟨O,aX⟩:=eX d.par.hash.length;obtain⟨Q,aK⟩:=eX d.par.late.length;obtain⟨s,R⟩:=eX d.leaf.source;rw[←aR,←aL,←aU,←aY,←aN,←R]at CL;rw[←aS]at C1;rw[←aX]at C2;rw[←aK]at C3;rw[←aP,←aR,←aL,←aU,←aY,←aN,←aS,←aX,←aK,←R];have a6:=Hd CL;have bA:=Hd C1;have a8:=Hd C2;have bC:=Hd C3;have bJ:=Hd aP;have HS:=Hd R;clear CL C1 C2 C3 bS r h1 h2 h3 h4 h5 h6 h7 h8 aR aL aU aY aN aS aX aK aP R;have L0:=Hd (show((w.alloc (.cells #[rA rD (I:Nat),q9 L Z c1,q9 F l2 c2,q9 G l3 c3,rA rD (s:Nat),q9 J l4 c4,q9 M l5 c5,q9 U S e1,q9 P O e2,q9 V Q e3] 52)).alloc (.cells #[rA rD 0,q9 rF 0 0,q9 rF 0 0,q9 rF 0 0,rA rD 0,q9 rF 0 0,q9 rF 0 0,q9 rF 0 0,q9 rF 0 0,q9 rF 0 0] 52)).rangeAt w.heap.size 1 [q9 L Z c1,q9 F l2 c2,q9 G l3 c3,rA rD (s:Nat),q9 J l4 c4,q9 M l5 c5]from by
  intro j u D;have hb:Blk ((w.alloc (.cells #[rA rD (I:Nat),q9 L Z c1,q9 F l2 c2,q9 G l3 c3,rA rD (s:Nat),q9 J l4 c4,q9 M l5 c5,q9 U S e1,q9 P O e2,q9 V Q e3] 52)).alloc (.cells #[rA rD 0,q9 rF 0 0,q9 rF 0 0,q9 rF 0 0,rA rD 0,q9 rF 0 0,q9 rF 0 0,q9 rF 0 0,q9 rF 0 0,q9 rF 0 0] 52)) w.heap.size 52 #[rA rD (I:Nat),q9 L Z c1,q9 F l2 c2,q9 G l3 c3,rA rD (s:Nat),q9 J l4 c4,q9 M l5 c5,q9 U S e1,q9 P O e2,q9 V Q e3]:=(Blk.new w _ _).alloc _;rw[hb.cell]
  match j,D with
  |0,D=>exact D
  |1,D=>exact D
  |2,D=>exact D
  |3,D=>exact D
  |4,D=>exact D
  |5,D=>exact D
  |j+6,D=>simp at D)
 have hA:=(Below.refl w.heap.size w).alloc lR (.cells #[rA rD (I:Nat),q9 L Z c1,q9 F l2 c2,q9 G l3 c3,rA rD (s:Nat),q9 J l4 c4,q9 M l5 c5,q9 U S e1,q9 P O e2,q9 V Q e3] 52);have aJ:=Hd (hA.alloc hA.size (.cells #[rA rD 0,q9 rF 0 0,q9 rF 0 0,q9 rF 0 0,rA rD 0,q9 rF 0 0,q9 rF 0 0,q9 rF 0 0,q9 rF 0 0,q9 rF 0 0] 52));have aT:=Hd (show Blk ((w.alloc (.cells #[rA rD (I:Nat),q9 L Z c1,q9 F l2 c2,q9 G l3 c3,rA rD (s:Nat),q9 J l4 c4,q9 M l5 c5,q9 U S e1,q9 P O e2,q9 V Q e3] 52)).alloc (.cells #[rA rD 0,q9 rF 0 0,q9 rF 0 0,q9 rF 0 0,rA rD 0,q9 rF 0 0,q9 rF 0 0,q9 rF 0 0,q9 rF 0 0,q9 rF 0 0] 52)) w.heap.size 52 #[rA rD (I:Nat),q9 L Z c1,q9 F l2 c2,q9 G l3 c3,rA rD (s:Nat),q9 J l4 c4,q9 M l5 c5,q9 U S e1,q9 P O e2,q9 V Q e3]from(Blk.new w _ _).alloc _);have aO:=Hd (show Blk ((w.alloc (.cells #[rA rD (I:Nat),q9 L Z c1,q9 F l2 c2,q9 G l3 c3,rA rD (s:Nat),q9 J l4 c4,q9 M l5 c5,q9 U S e1,q9 P O e2,q9 V Q e3] 52)).alloc (.cells #[rA rD 0,q9 rF 0 0,q9 rF 0 0,q9 rF 0 0,rA rD 0,q9 rF 0 0,q9 rF 0 0,q9 rF 0 0,q9 rF 0 0,q9 rF 0 0] 52)) (w.heap.size+1) 52 #[rA rD 0,q9 rF 0 0,q9 rF 0 0,q9 rF 0 0,rA rD 0,q9 rF 0 0,q9 rF 0 0,q9 rF 0 0,q9 rF 0 0,q9 rF 0 0] by have h1:=Blk.new (w.alloc (.cells #[rA rD (I:Nat),q9 L Z c1,q9 F l2 c2,q9 G l3 c3,rA rD (s:Nat),q9 J l4 c4,q9 M l5 c5,q9 U S e1,q9 P O e2,q9 V Q e3] 52)) 52 #[rA rD 0,q9 rF 0 0,q9 rF 0 0,q9 rF 0 0,rA rD 0,q9 rF 0 0,q9 rF 0 0,q9 rF 0 0,q9 rF 0 0,q9 rF 0 0];simpa using h1);clear hA;go_enter func73,ntmps73;go_wp2_with (refine wpList_load_mid rfl 44 (.tmp 3) rfl w.heap.size 1 rfl [q9 L Z c1,q9 F l2 c2,q9 G l3 c3,rA rD (s:Nat),q9 J l4 c4,q9 M l5 c5] _ L0.out underlying44 rfl (by kernel_rfl) ?_);refine(a6.out _ aJ.out).mono ?_;rintro e w1 ⟨c',rfl,bQ,aD⟩;obtain⟨x0,x1,x2,x3,x4,rfl,o0,o1,o2,o3,o4⟩:=bQ;rw[←HS.out];have g:w.heap.size<((w.alloc (.cells #[rA rD (I:Nat),q9 L Z c1,q9 F l2 c2,q9 G l3 c3,rA rD (s:Nat),q9 J l4 c4,q9 M l5 c5,q9 U S e1,q9 P O e2,q9 V Q e3] 52)).alloc (.cells #[rA rD 0,q9 rF 0 0,q9 rF 0 0,q9 rF 0 0,rA rD 0,q9 rF 0 0,q9 rF 0 0,q9 rF 0 0,q9 rF 0 0,q9 rF 0 0] 52)).heap.size:=aT.out.lt;have n:w.heap.size+1<((w.alloc (.cells #[rA rD (I:Nat),q9 L Z c1,q9 F l2 c2,q9 G l3 c3,rA rD (s:Nat),q9 J l4 c4,q9 M l5 c5,q9 U S e1,q9 P O e2,q9 V Q e3] 52)).alloc (.cells #[rA rD 0,q9 rF 0 0,q9 rF 0 0,q9 rF 0 0,rA rD 0,q9 rF 0 0,q9 rF 0 0,q9 rF 0 0,q9 rF 0 0,q9 rF 0 0] 52)).heap.size:=aO.out.lt;have aW:=Hd (aT.out.below aD g);have bF:=Hd (aO.out.below aD n);have bP:=Hd (aJ.out.trans (aD.mono aJ.out.size));have HQ:=Hd (And.intro o0 (And.intro o1 (And.intro o2 (And.intro o3 o4))));have T:=Hd (show(#[x0,x1,x2,rA rD (s:Nat),x3,x4]:Array Value).all (·.oneCell')=true by
  rw[←dY];simp only[dQ,dR,o0.oneCell,o1.oneCell,o2.oneCell,o3.oneCell,o4.oneCell];rfl)
 obtain⟨Bn,a9⟩:=eX (((w.alloc (.cells #[rA rD (I:Nat),q9 L Z c1,q9 F l2 c2,q9 G l3 c3,rA rD (s:Nat),q9 J l4 c4,q9 M l5 c5,q9 U S e1,q9 P O e2,q9 V Q e3] 52)).alloc (.cells #[rA rD 0,q9 rF 0 0,q9 rF 0 0,q9 rF 0 0,rA rD 0,q9 rF 0 0,q9 rF 0 0,q9 rF 0 0,q9 rF 0 0,q9 rF 0 0] 52)).heap.size);rw[←a9]at HQ g n;have bU:Bn≤w1.heap.size:=(by have:=aD.size;omega);clear aD o0 o1 o2 o3 o4 a9 aT aO L0;go_wp2_with (refine wpList_store_mid rfl 44 (.tmp 6) (.tmp 5) rfl w.heap.size 1 #[x0,x1,x2,rA rD (s:Nat),x3,x4] rfl rfl (aW.out.there 1 6 (by simp)) (by kernel_rfl) T.out ?_);dsimp only[Act.put];obtain⟨wr,aG⟩:=eX (w1.setCells w.heap.size 1 [x0,x1,x2,rA rD (s:Nat),x3,x4]);have t:OnlyG w.heap.size w1 wr:=(by rw[aG];exact Gi _ _ _ _);have H:=Hd (show Blk wr w.heap.size 52 #[rA rD (I:Nat),x0,x1,x2,rA rD (s:Nat),x3,x4,q9 U S e1,q9 P O e2,q9 V Q e3] by
  rw[aG];exact(((((aW.out.set 1 x0).set 2 x1).set 3 x2).set 4 (rA rD (s:Nat))).set 5 x3).set 6 x4)
 have aQ:=Hd (bF.out.only2 t (by omega));have B:=Hd (bP.out.trans (t.1.mono lR));have aC:=Hd (And.intro (HQ.out.1.onlyG t g) (And.intro (HQ.out.2.1.onlyG t g) (And.intro (HQ.out.2.2.1.onlyG t g) (And.intro (HQ.out.2.2.2.1.onlyG t g) (HQ.out.2.2.2.2.onlyG t g)))));have b:w.heap.size<wr.heap.size:=H.out.lt;have bT:w.heap.size+1<wr.heap.size:=aQ.out.lt;have aE:Bn≤wr.heap.size:=(by have:=t.2.1;omega);have k7:wr.cell? ⟨w.heap.size,7,rF⟩=some (q9 U S e1):=H.out.cell 7;have k8:wr.cell? ⟨w.heap.size,8,rF⟩=some (q9 P O e2):=H.out.cell 8;have k9:wr.cell? ⟨w.heap.size,9,rF⟩=some (q9 V Q e3):=H.out.cell 9;have a0:=Hd (fun(W:World) (E:Below wr.heap.size wr W)=>bA.out W (B.out.trans (E.mono B.out.size)));have bE:=Hd (fun(W:World) (E:Below wr.heap.size wr W)=>a8.out W (B.out.trans (E.mono B.out.size)));have bB:=Hd (fun(W:World) (E:Below wr.heap.size wr W)=>bC.out W (B.out.trans (E.mono B.out.size)));rw[←aG];clear aG aW bF HQ T t a6 bA a8 bC;refine Bt [eF (rB (some ⟨w.heap.size,7,rF⟩)),eF (rB (some ⟨w.heap.size,7,rF⟩)),eF (q9 U S e1),fun v w'=>Own w' wr.heap.size 5 v (bvs d.par.box),eF (rB (some ⟨w.heap.size,7,rF⟩)),eF (rB (some ⟨w.heap.size,8,rF⟩)),eF (q9 P O e2),fun v w'=>Own w' wr.heap.size 5 v (bvs d.par.hash),eF (rB (some ⟨w.heap.size,7,rF⟩)),eF (rB (some ⟨w.heap.size,9,rF⟩)),eF (q9 V Q e3),fun v w'=>Own w' wr.heap.size 3 v (ivs .i64 d.par.late),fun v w'=>∃u0 u1 u2,v=.agg #[u0,u1,u2]∧Own w' wr.heap.size 5 u0 (bvs d.par.box)∧Own w' wr.heap.size 5 u1 (bvs d.par.hash)∧Own w' wr.heap.size 3 u2 (ivs .i64 d.par.late),eF (rB (some ⟨w.heap.size,7,rF⟩)),fun v w'=>∃u0 u1 u2,Blk w' w.heap.size 52 #[rA rD (I:Nat),x0,x1,x2,rA rD (s:Nat),x3,x4,u0,u1,u2]∧Own w' wr.heap.size 5 u0 (bvs d.par.box)∧Own w' wr.heap.size 5 u1 (bvs d.par.hash)∧Own w' wr.heap.size 3 u2 (ivs .i64 d.par.late)]
  (List.replicate 15 true) (fun X=>OnlyG w.heap.size wr X) (fun X Y=>OnlyG w.heap.size X Y) (some 14) (by kernel_rfl) ?_ ((OnlyG.of_below bR (dW b)).drewN 1) (fun X Y hx h=>OnlyG.of_below h (bM (dW b) hx.2.1)) (fun X Y hx r=>hx.trans r) (by kernel_rfl) (by kernel_rfl) ?_ ?_
 ·exact kE (kE (kE (Cm (fun v x y h hi r=>Own.onlyG h r b) (kE (kE (kE (Cm (fun v x y h hi r=>Own.onlyG h r b) (kE (kE (kE (Cm (fun v x y h hi r=>Own.onlyG h r b) (Cm (fun v x y h hi r=>let⟨u0,u1,u2,e,k0,k1,k2⟩:=h;⟨u0,u1,u2,e,Own.onlyG k0 r b,Own.onlyG k1 r b,Own.onlyG k2 r b⟩) (kE (Cl (fun v x y h hi r=>let⟨u0,u1,u2,e,k0,k1,k2⟩:=h;⟨u0,u1,u2,e.below r e.lt,k0.below r lR,k1.below r lR,k2.below r lR⟩) (Ah)))))))))))))))
 ·refine gPw (by kernel_rfl) ?_ rfl (gPw (by kernel_rfl) ?_ rfl (gPw (by kernel_rfl) ?_ rfl (gOw (by kernel_rfl) ?_ (gPw (by kernel_rfl) ?_ rfl (gPw (by kernel_rfl) ?_ rfl (gPw (by kernel_rfl) ?_ rfl (gOw (by kernel_rfl) ?_ (gPw (by kernel_rfl) ?_ rfl (gPw (by kernel_rfl) ?_ rfl (gPw (by kernel_rfl) ?_ rfl (gOw (by kernel_rfl) ?_ (gOw (by kernel_rfl) ?_ (gPw (by kernel_rfl) ?_ rfl (gOw (by kernel_rfl) ?_ .nil))))))))))))));all_goals
   intro a wx bD l ho hf;have bD:OnlyG w.heap.size wr wx:=bD;refine⟨rfl,?_⟩;intro K hK;try have bX:a.tmps[1]?.getD undef=rB (some ⟨w.heap.size,0,rF⟩):=ho 1 (by kernel_rfl)
   try have bO:=eqn hf.1
   try have bY:=(l.cell (p:=⟨w.heap.size,7,rF⟩) b).trans k7
   try have bV:=(l.cell (p:=⟨w.heap.size,8,rF⟩) b).trans k8
   try have bZ:=(l.cell (p:=⟨w.heap.size,9,rF⟩) b).trans k9
   try(refine Hd ?_;go_simp;exact hK _ rfl)
  ·go_simp;refine(a0.out wx l).mono ?_;rintro e w2 ⟨v9,rfl,A,aF⟩;exact hK _ _ (A.mono l.size) (Af rfl aF)
  ·go_simp;refine(bE.out wx l).mono ?_;rintro e w2 ⟨v9,rfl,A,aF⟩;exact hK _ _ (A.mono l.size) (Af rfl aF)
  ·go_simp;refine(bB.out wx l).mono ?_;rintro e w2 ⟨v9,rfl,A,aF⟩;exact hK _ _ (A.mono l.size) (Af rfl aF)
  ·have o0:Own wx wr.heap.size 5 (a.tmps[10]?.getD undef) (bvs d.par.box):=hf.1;obtain⟨v0,aM⟩:=eX (a.tmps[10]?.getD undef);rw[←aM]at o0;have e0:=aM.symm;clear aM;have o1:Own wx wr.heap.size 5 (a.tmps[14]?.getD undef) (bvs d.par.hash):=hf.2.1;obtain⟨v1,N⟩:=eX (a.tmps[14]?.getD undef);rw[←N]at o1;have e1:=N.symm;clear N;have o2:Own wx wr.heap.size 3 (a.tmps[18]?.getD undef) (ivs .i64 d.par.late):=hf.2.2.1;obtain⟨v2,aI⟩:=eX (a.tmps[18]?.getD undef);rw[←aI]at o2;have e2:=aI.symm;clear aI;obtain⟨p1,p2,p3,rfl⟩:=Co o0;obtain⟨p4,p5,p6,rfl⟩:=Co o1;obtain⟨p7,p8,p9,rfl⟩:=Co o2;go_simp;exact hK _ _ ⟨_,_,_,rfl,o0,o1,o2⟩ (Af rfl bR)
  ·have o1:∃u0 u1 u2,(a.tmps[19]?.getD undef)=.agg #[u0,u1,u2]∧Own wx wr.heap.size 5 u0 (bvs d.par.box)∧Own wx wr.heap.size 5 u1 (bvs d.par.hash)∧Own wx wr.heap.size 3 u2 (ivs .i64 d.par.late):=hf.2.1;obtain⟨v1,N⟩:=eX (a.tmps[19]?.getD undef);rw[←N]at o1;have e1:=N.symm;clear N;obtain⟨u0,u1,u2,D,k0,k1,k2⟩:=o1;have q:=H.out.below l H.out.lt;refine wp_store_mid 50 (.tmp 20) (.tmp 19) rfl w.heap.size 7 #[u0,u1,u2] (evs bO) (evs (e1.trans D)) (q.there 7 3 (by simp)) (by kernel_rfl) (by rw[←dY];simp only[dQ,dR,k0.oneCell,k1.oneCell,k2.oneCell];rfl) ?_;have k:∀ {e v xs},Own wx wr.heap.size e v xs→e≠52→∀(j:Nat) (u:Value) (W:World),Own W wr.heap.size e v xs→Own (W.setCell ⟨w.heap.size,j,rF⟩ u) wr.heap.size e v xs:=fun _ _ j u W h2=>h2.setLow (p:=⟨w.heap.size,j,rF⟩) b u;exact hK undef _ ⟨u0,u1,u2,((q.set 7 u0).set 8 u1).set 9 u2,k k0 (by decide) _ _ _ (k k0 (by decide) _ _ _ (k k0 (by decide) _ _ _ k0)),k k1 (by decide) _ _ _ (k k1 (by decide) _ _ _ (k k1 (by decide) _ _ _ k1)),k k2 (by decide) _ _ _ (k k2 (by decide) _ _ _ (k k2 (by decide) _ _ _ k2))⟩ (Bv rfl (((OnlyG.setCell 7 u0).trans (OnlyG.setCell 8 u1)).trans (OnlyG.setCell 9 u2)))
 ·rintro f w9 o aH;have o:OnlyG w.heap.size wr w9:=o;have bH:∃u0 u1 u2,Blk w9 w.heap.size 52 #[rA rD (I:Nat),x0,x1,x2,rA rD (s:Nat),x3,x4,u0,u1,u2]∧Own w9 wr.heap.size 5 u0 (bvs d.par.box)∧Own w9 wr.heap.size 5 u1 (bvs d.par.hash)∧Own w9 wr.heap.size 3 u2 (ivs .i64 d.par.late):=aH.2.2.2.2.2.2.2.2.2.2.2.2.2.2.1;clear aH;simp only[Am,Az,Ex,cX,cY,cZ,dA,Nat.reduceBEq,Nat.reduceAdd,Bool.or_false,Bool.or_true,cond_true,cond_false];obtain⟨u0,u1,u2,q,k0,k1,k2⟩:=bH;have aZ:=Hd (aQ.out.only2 o (by omega));have m:=Hd (And.intro (aC.out.1.onlyG o g) (And.intro (aC.out.2.1.onlyG o g) (And.intro (aC.out.2.2.1.onlyG o g) (And.intro (aC.out.2.2.2.1.onlyG o g) (aC.out.2.2.2.2.onlyG o g)))));have bI:=Hd (B.out.trans (o.1.mono lR));have aB:=Hd (And.intro (k0.mono aE) (And.intro (k1.mono aE) (k2.mono aE)));obtain⟨XS,aA⟩:=eX ((#[rA rD (I:Nat),x0,x1,x2,rA rD (s:Nat),x3,x4,u0,u1,u2]:Array Value));have T:=Hd (show XS.toList.all (·.oneCell')=true by
   rw[aA];simp only[dQ,dR,m.out.1.oneCell,m.out.2.1.oneCell,m.out.2.2.1.oneCell,m.out.2.2.2.1.oneCell,m.out.2.2.2.2.oneCell,aB.out.1.oneCell,aB.out.2.1.oneCell,aB.out.2.2.oneCell];rfl)
  rw[←aA]at q;have a7:=Hd q;have aV:=Hd (show(prog.info? 52).map (·.size)=some XS.size by rw[aA];exact Ak);have bL:=Hd (show(#[rA rD 0,q9 rF 0 0,q9 rF 0 0,q9 rF 0 0,rA rD 0,q9 rF 0 0,q9 rF 0 0,q9 rF 0 0,q9 rF 0 0,q9 rF 0 0]:Array Value).size=XS.size by rw[aA];rfl);have bG:=Hd aA;have bW:w.heap.size+1<w9.heap.size:=aZ.out.lt;clear aA q k0 k1 k2 o k7 k8 k9 a0 bE bB aQ aC B H b bT;go_wp2_with (first|(refine wpList_load_row rfl 52 (.tmp 1) rfl w.heap.size rfl 52 XS (0,0) _ a7.out underlying52 rfl aV.out ?_)|(refine Aa rfl 52 (.tmp 2) (.tmp 21) rfl (w.heap.size+1) XS rfl rfl 52 #[rA rD 0,q9 rF 0 0,q9 rF 0 0,q9 rF 0 0,rA rD 0,q9 rF 0 0,q9 rF 0 0,q9 rF 0 0,q9 rF 0 0,q9 rF 0 0] aZ.out aV.out bL.out T.out ?_));intro w3 m0 mb mo bK;have M0:=Hd m0;have bN:=Hd (bI.out.trans ((mb (w.heap.size+1) lR).mono (by omega)));have z:OnlyG (w.heap.size+1) w9 w3:=⟨mb (w.heap.size+1) lR,by omega,fun i _ k=>mo i k⟩;have C:w.heap.size≤Bn:=(by omega);have HF:=Hd (And.intro ((m.out.1.onlyG z n).mono C) (And.intro ((m.out.2.1.onlyG z n).mono C) (And.intro ((m.out.2.2.1.onlyG z n).mono C) (And.intro ((m.out.2.2.2.1.onlyG z n).mono C) ((m.out.2.2.2.2.onlyG z n).mono C)))));have HG:=Hd (And.intro ((aB.out.1.onlyG z n).mono C) (And.intro ((aB.out.2.1.onlyG z n).mono C) ((aB.out.2.2.onlyG z n).mono C)));clear m0 mb mo bK z;go_wp2_with fail;refine bodyPost_ret (v:=.agg XS) (Fz rfl _ _ (w.heap.size+1) 52 XS _ rfl M0.out underlying52 rfl aV.out) rfl ⟨XS,rfl,⟨x0,x1,x2,x3,x4,u0,u1,u2,by rw[bG.out,bJ.out,HS.out],HF.out.1,HF.out.2.1,HF.out.2.2.1,HF.out.2.2.2.1,HF.out.2.2.2.2,HG.out.1,HG.out.2.1,HG.out.2.2⟩,bN.out⟩
section
section
variable {P:Program} {w:World}
theorem Ui {ops:Array Oper} {rest:List Oper} {o:Oper} {a:Act} {Q:Exit→Act→World→Prop} (l:o.guard=none) (s x:Operand) (t:TypeId)
  (C:o.op=.call {callee:=.builtin .append,args:=#[s,x],argTypes:=#[t,t]})
  (B:Nat) (e:TypeId) (z:Value) (k b:Nat) (F:ElemK P t e z k b)
  (v:Value) (n:Nat) (xs:List Value) (r:a.eval s=v) (c:OwnK w B e k v n xs)
  (N:Nat) (d:List Value) (hx:a.eval x=q9 (some ⟨N,0,rF⟩) 1 1) (D:d.length=k) (E:∀(j:Nat) u,d[j]? =some u→w.cell? ⟨N,j,rF⟩=some u) (h1:∀u∈d,u.oneCell'=true)
  (G:n<137438953472) (p:B≤w.heap.size)
  (h:∀f w',OwnK w' B e k f (n+1) (xs++d)→w.grownBy w' v.ownBlock→Below B w w'→wpList P ops Q rest (a.put o.dst f) w'):wpList P ops Q (o::rest) a w:=by
 obtain⟨i,A,y,g,m⟩:=Jt F.inf;have low:=F.low;refine wpList_append_own w l s x t C B e i z k b F.ty A y g m F.one F.pos v n xs r c ⟨N,0,rF⟩ 1 1 d hx (by rw[D,Nat.one_mul]) (fun j u q=>by rw[Addr.add_lit,cW];exact E j u q) h1 ?_ ?_ p ?_
 ·unfold maxLen;omega
 ·have:(n+1)*b≤(n+1)*512:=Nat.mul_le_mul_left _ low;omega
 ·intro f w' h2 h3 _;refine h f w' h2 h3 ?_;refine(Below.refl B w).grown h3 p ?_;intro k hk;exact(World.ownsRow.lt c k hk).1
end
theorem Own.grown {w w':World} {B:Nat} {e:TypeId} {v:Value} {xs:List Value} {row:Option Nat}(h:Own w B e v xs)(i:w.grownBy w' row)(b:∀g,v.ownBlock=some g→row≠some g):Own w' B e v xs:=by
 obtain⟨h1,h2|⟨g,d,c,rfl,j,a,rest⟩⟩:=h
 ·exact⟨h1,.inl h2⟩
 ·refine⟨h1,.inr ⟨g,d,c,rfl,j,?_,rest⟩⟩;have f:g<w.heap.size:=by
   rcases aB g w.heap.size with h|h
   ·exact h
   ·rw[aD h]at a;cases a
  rw[i.block g f (fun e=>b g (by simp[Value.ownBlock]) e.symm)];exact a
def Hw (u v:Value):Prop:=∀g,u.ownBlock=some g→v.ownBlock≠some g
theorem Own.blockLt {w:World} {B:Nat} {e:TypeId} {v:Value} {xs:List Value}(h:Own w B e v xs) {g:Nat}(a:v.ownBlock=some g):g<w.heap.size∧B≤g:=by
 rcases h.2 with⟨rfl,_⟩|⟨f,i,d,rfl,c,b,_⟩
 ·simp[Value.ownBlock]at a
 ·simp[Value.ownBlock]at a;subst a;refine⟨?_,c⟩;rcases aB f w.heap.size with h|h
  ·exact h
  ·rw[aD h]at b;cases b
end
end Go.Proofs.YtfofaiommeckbaaGreat
namespace Go.Proofs.YtfofaiommeckbaaGreat
open Go.RowKit
section
section
variable {P:Program} {l:List Oper} {Q:Exit→Act→World→Prop} {sat:List Fw} {tl:List Bool} {q:Nat} {a0:Act} {W:World} {i:Nat} {o:Oper}
abbrev Zml (P:Program)(l:List Oper)(Q:Exit→Act→World→Prop)(sat:List Fw)(tl:List Bool)(q:Nat)(a0:Act)(W:World)(i:Nat)(o:Oper):Prop:=Wm P l Q sat (fun x=>Below W.heap.size W x) (fun x y=>Below x.heap.size x y) none q tl a0 W i o
abbrev OwedAll6 (P:Program)(l:List Oper)(Q:Exit→Act→World→Prop)(sat:List Fw)(tl:List Bool)(q:Nat)(a0:Act)(W:World)(i:Nat)(os:List Oper):Prop:=OwedAll8 P l Q sat (fun x=>Below W.heap.size W x) (fun x y=>Below x.heap.size x y) none q tl a0 W i os
theorem OwedAll6.nil:OwedAll6 P l Q sat tl q a0 W i []:=trivial
theorem OwedAll6.cons {os:List Oper}(h:Zml P l Q sat tl q a0 W i o)(t:OwedAll6 P l Q sat tl q a0 W (i+1) os):OwedAll6 P l Q sat tl q a0 W i (o::os):=⟨h,t⟩
theorem Jq {s:Nat} {a:Act} {w:World} (b:List Fw) (c k:List Bool) (q:Nat) (p:P.follows .mixedOrders=true) (hk:Za8 b) (o:Jm l a.tmps.size=true) (r:En l=true) (n:Wk l c k q=true)
  (d:OwedAll6 P l Q b k q a w 0 l)
  (e:∀(f:Nat→Value) (w':World),Du b c f w' 0 l→Q .normal (Am l a f) w'):
  (Code.region s l.toArray true).wp P Q a w:=
 Hl b c _ _ none q k p (fun j _ _=>⟨fun v x y _ m _ g=>hk j v x y m g,fun v x y t=>by cases t⟩) (fun i j _ _ v x y m u=>hk j v x y m u) ⟨rfl,rfl,rfl,lR,fun _ _=>rfl⟩ (fun _ _ _ h=>h) (fun _ _ hx g=>hx.trans (g.mono hx.size)) o r n d e
theorem Ry (h:∀(a:Act) (w:World),(tl.getD i false=false→Below W.heap.size W w)→(∀s,Cy l i s=true→a.tmps[s]?.getD undef=a0.tmps[s]?.getD undef)→Gb sat l a w o.after.toList→
      Region.wanted o (yielded l.toArray a.tmps)=true∧∀K:Act→World→Prop,(∀v w',(sat.getD i (fun _ _=>True)) (Cj o a v) w'→(i≠q→Below w.heap.size w w')→K (a.put o.dst v) w')→Oper.wp P o a w K Q):Zml P l Q sat tl q a0 W i o:=by
 intro a w e c f K g;rw[if_pos (h a w (fun ht=>(e ht).1) c f).1];refine(h a w (fun ht=>(e ht).1) c f).2 K fun v w' j d=>g v w' j fun b=> ?_;cases htl:tl.getD i false with
 |true=>exact d b
 |false=>exact Af (i:=i) (q:=none) rfl (d b)
end
end
section
section
variable {P:Program} {l:List Oper} {Q:Exit→Act→World→Prop} {sat:List Fw} {tl:List Bool} {q:Nat} {a0:Act} {W:World} {i:Nat} {o:Oper} {os:List Oper}
theorem kT {x:Value}(t:Za8 sat):Za8 (eF x::sat):=Ef (fun _ _ _ h _=>h) t
theorem gU (b:tl.getD i false=false) (h:∀(a:Act) (w:World),Below W.heap.size W w→(∀s,Cy l i s=true→a.tmps[s]?.getD undef=a0.tmps[s]?.getD undef)→Gb sat l a w o.after.toList→
      Region.wanted o (yielded l.toArray a.tmps)=true∧∀K:Act→World→Prop,(∀v w',(sat.getD i (fun _ _=>True)) (Cj o a v) w'→(i≠q→Below w.heap.size w w')→K (a.put o.dst v) w')→Oper.wp P o a w K Q)
  (t:OwedAll6 P l Q sat tl q a0 W (i+1) os):OwedAll6 P l Q sat tl q a0 W i (o::os):=.cons (Ry fun a w h1 h2 h3=>h a w (h1 b) h2 h3) t
theorem gT (b:tl.getD i false=false) (h:∀(a:Act) (w:World),Below W.heap.size W w→(∀s,Cy l i s=true→a.tmps[s]?.getD undef=a0.tmps[s]?.getD undef)→Gb sat l a w o.after.toList→
      Region.wanted o (yielded l.toArray a.tmps)=true∧∀K:Act→World→Prop,(∀v,(sat.getD i (fun _ _=>True)) (Cj o a v) w→K (a.put o.dst v) w)→Hid (Oper.wp P o a w K Q))
  (t:OwedAll6 P l Q sat tl q a0 W (i+1) os):OwedAll6 P l Q sat tl q a0 W i (o::os):=
 gU b (fun a w h1 h2 h3=>⟨(h a w h1 h2 h3).1,fun K c=>((h a w h1 h2 h3).2 K fun v d=>c v w d fun _=>bR).out⟩) t
end
end
end Go.Proofs.YtfofaiommeckbaaGreat
