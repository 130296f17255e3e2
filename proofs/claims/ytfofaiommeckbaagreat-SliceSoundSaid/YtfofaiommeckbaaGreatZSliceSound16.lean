/- As OnceSt; the memory that is written begins at a block B, old or new; inside a round of a range over a function, too. -/
import Derived.Test.YtfofaiommeckbaaGreatZSliceSoundB
import Derived.OrdersIn
import Derived.RangeFuncCalls
import Derived.Test.YtfofaiommeckbaaGreatZSliceSound15
import Derived.Test.YtfofaiommeckbaaGreatZSliceSound14
open List renaming getD_eq_getElem?_getD → aJ, getElem?_eq_getElem → aK, length_set → dU, filterMap_cons → cZ, filterMap_nil → dA, contains_cons → dB, contains_nil → dC, all_cons → dV, all_nil → dW
open Nat renaming le_trans → bO, lt_of_lt_of_le → dX, testBit_xor → bI, testBit_two_pow_sub_one → dY, testBit_lt_two_pow → dZ, pow_le_pow_right → bA, le_of_lt → eA, lt_or_ge → aB, add_mod → eB
open Array renaming all_toList → eC, getElem?_eq_none → aD
open Int renaming natCast_emod → eD, natCast_add → dS
set_option linter.unusedVariables false
set_option maxRecDepth 100000
set_option maxHeartbeats 40000000
namespace Go.Proofs.YtfofaiommeckbaaGreat
open Go.RowKit
open ShaM
theorem Jw {A B:List Nat}(hl:A.length=B.length)(h:∀j,j<A.length→A.getD j 0=B.getD j 0):A=B:=by
 apply List.ext_getElem hl;intro i h1 h2;have:=h i h1;simpa [aJ,aK h1,aK h2]using this
theorem Fl {P:Program} {f:FuncId} {args:Array Value} {w:World} {a n:Nat} {v:Value}
  (h:Calls P f args (w.drewN (a+n)) fun e w'=>e=.returned v∧w'=w.drewN (a+n)):Calls P f args (w.drewN (a+n)) fun e w''=>e=.returned v∧∃m,w''=w.drewN (a+m):=
 h.mono fun _ _ ⟨he,hm⟩=>⟨he,n,hm⟩
def OnlyG (g:Nat)(w w':World):Prop:=Below g w w'∧w.heap.size≤w'.heap.size∧∀i,i<w.heap.size→i≠g→w'.heap[i]? =w.heap[i]?
theorem OnlyG.of_below {g:Nat} {w w':World}(h:Below w.heap.size w w')(hg:g≤w.heap.size):OnlyG g w w':=⟨h.mono hg,h.size,fun i hi _=>h.block i hi⟩
theorem OnlyG.trans {g:Nat} {a b c:World}(h:OnlyG g a b)(k:OnlyG g b c):OnlyG g a c:=⟨h.1.trans k.1,bO h.2.1 k.2.1,fun i hi hne=>(k.2.2 i (dX hi h.2.1) hne).trans (h.2.2 i hi hne)⟩
theorem OnlyG.setCell {g:Nat} {w:World}(i:Nat)(u:Value):OnlyG g w (w.setCell ⟨g,i,none⟩ u):=⟨bR.setCell (p:=⟨g,i,none⟩) lR u,by simp,fun k hk hne=>Below.heap_setCell w ⟨g,i,none⟩ u k (fun e=>hne e)⟩
theorem Blk.only2 {w w':World} {g b:Nat} {t:TypeId} {cs:Array Value}(h:Blk w b t cs)(ho:OnlyG g w w')(hne:b≠g):Blk w' b t cs:=(ho.2.2 b h.lt hne).trans h
theorem OnlyG.setRow {w:World}(g:Nat)(cs:Array Value):OnlyG g w (w.setRow g cs):=⟨⟨rfl,rfl,rfl,by simp,fun i hi=>setRow_other w g i cs (by omega)⟩,by simp,fun i _ hne=>setRow_other w g i cs hne⟩
theorem OnlyG.drewN {g:Nat} {a b:World}(h:OnlyG g a b)(n:Nat):OnlyG g a (b.drewN n):=⟨Ab h.1 n,h.2.1,h.2.2⟩
theorem evs {a:Act} {s:Nat} {v:Value}(h:a.tmps[s]?.getD undef=v):a.eval (.tmp s)=v:=by
 first
 |exact h
 |simpa [Act.eval,Array.getD_eq_getD_getElem?]using h
theorem Vr {P:Program} {w:World} {o:Oper} {a:Act} {K:Act→World→Prop} {Q:Exit→Act→World→Prop} (d s:Operand) (p sT:TypeId)
  (x:o.op=.call {callee:=.builtin .copy,args:=#[d,s],argTypes:=#[p,sT]}) (c:TypeId) (g l e k:Nat) (q:Addr) (b i:Nat) (f:Array Value) (t:TypeId) (cs:List Value)
  (B:a.eval d=.slice (some ⟨g,l,none⟩) e k) (C:a.eval s=.slice (some q) b i) (A:P.underlying p=some (.slice c)) (r:(P.info? c).map (·.size)=some 1)
  (y:w.heap[g]? =some (.cells f t (0,0))) (z:cs.length=Nat.min b e) (n:∀j v,cs[j]? =some v→w.cell? (q.add j)=some v) (m:l+cs.length≤f.size) (D:∀v∈cs,v.oneCell'=true)
  (h:K (a.put o.dst (goInt cs.length)) (w.setRow g (f.toList.take l++cs++f.toList.drop (l+cs.length)).toArray)):o.wp P a w K Q:=by
 have u:=run_copy_row (P:=P) w p sT o.type c g l e k q b i f t cs A r y z n m D;unfold Oper.wp execOp;simp only[x,resolve,invoke,builtin,Sem.run_bind,Sem.run_pure,Result.andThen_ok,List.map_toArray,List.map_cons,List.map_nil,B,C,u];exact h
theorem Zmu (x:Nat)(hx:x<4294967296):bits .xor .u32 IntKind.u32.max (x:Int)=((4294967295-x:Nat):Int):=by
 have e:IntKind.u32.max=((4294967295:Nat):Int):=rfl;have h:4294967295^^^x=4294967295-x:=by
  apply Nat.eq_of_testBit_eq;intro i
  by_cases hi:i<32
  ·rw[not_bit hx hi,bI,show(4294967295:Nat)=2^32-1 from rfl,dY,decide_eq_true hi,Bool.true_xor]
  ·have a:(4294967295-x).testBit i=false:=dZ (dX (show 4294967295-x<2^32 by omega) (bA (by omega) (by omega)));have h2:x.testBit i=false:=dZ (dX (show x<2^32 by omega) (bA (by omega) (by omega)));rw[a,bI,h2,show(4294967295:Nat)=2^32-1 from rfl,dY,decide_eq_false hi];rfl
 rw[e,Lq _ _ (by omega) hx,h]
theorem OnlyG.far {g p:Nat} {w a b:World}(h:OnlyG g w a)(k:OnlyG p a b)(hp:w.heap.size≤p)(hg:g≤p):OnlyG g w b:=⟨h.1.trans (k.1.mono hg),bO h.2.1 k.2.1,fun i hi hne=>(k.2.2 i (dX hi h.2.1) (by omega)).trans (h.2.2 i hi hne)⟩
def Tc (S X:List Nat)(i:Nat):List Nat:=(List.range 8).map fun j=>if j<i then(S.getD j 0+X.getD j 0)%4294967296 else S.getD j 0
theorem Fu (S X:List Nat)(i:Nat):(Tc S X i).length=8:=by simp[Tc]
theorem Jx (S X:List Nat)(i:Nat) {j:Nat}(h:j<8):(Tc S X i).getD j 0=if j<i then(S.getD j 0+X.getD j 0)%4294967296 else S.getD j 0:=by simp[Tc,aJ,h]
theorem Td {S:List Nat}(X:List Nat)(hl:S.length=8):Tc S X 0=S:=by
 refine Jw (by rw[Fu,hl]) fun j hj=> ?_;rw[Fu]at hj;rw[Jx _ _ _ hj,if_neg (by omega)]
theorem Te (S X:List Nat) {i:Nat}(h:i<8):(Tc S X i).set i ((S.getD i 0+X.getD i 0)%4294967296)=Tc S X (i+1):=by
 refine Jw (by rw[dU,Fu,Fu]) fun j a=> ?_;rw[dU,Fu]at a;rw[Jx _ _ _ a,aJ,List.getElem?_set]
 by_cases e:i=j
 ·subst e;rw[if_pos rfl,if_pos (by rw[Fu];exact a),if_pos (by omega)];rfl
 ·rw[if_neg e,←aJ,Jx _ _ _ a]
  by_cases h1:j<i
  ·rw[if_pos h1,if_pos (by omega)]
  ·rw[if_neg h1,if_neg (by omega)]
theorem Yi (S B:List Nat):Tc S (rndsN (wL B 64) S 64) 8=stepN S B:=by
 unfold Tc stepN;refine List.map_congr_left fun j hj=> ?_;rw[if_pos (List.mem_range.1 hj)]
theorem Zha (g:Nat)(v:Value)(S B:List Nat)(w:World)(hg:Blk w g 244 (Hp S))(hS:∀x∈S,x<4294967296)(hl:S.length=8)(h:Rd w v (bvs B))(hB:∀x∈B,x<256)(a9:B.length=64):
  Calls Tryz.prog 233 #[.pointer (some ⟨g,0,none⟩),v] w fun e w'=>e=.returned (.tuple #[])∧Blk w' g 244 (Hp (stepN S B))∧OnlyG g w w':=by
 have hz:∀w,(zeroValue 272).run Tryz.prog w=.ok (.agg Z64) w:=fun _=>(by kernel_rfl);have cX:∀w,(zeroValue 244).run Tryz.prog w=.ok (.agg Z8a) w:=fun _=>(by kernel_rfl);have WD:=Zc1 v B w h hB a9;have CN:=fun(W:World)=>Zay W;have Z:=wL_lt hB 64;have R:=wL_len B 64;obtain⟨W,hW⟩:=eX (wL B 64);rw[←hW]at WD Z R;obtain⟨WA,J⟩:=eX (Hp W);obtain⟨SA,H⟩:=eX (Hp S);obtain⟨KA,L⟩:=eX KLa;rw[←J]at WD;rw[←H]at hg;simp only[←L]at CN;have IW:=Hd (show(Tryz.prog.info? 272).map (·.size)=some WA.size by rw[J];exact Yh W R);have IK:=Hd (show(Tryz.prog.info? 272).map (·.size)=some KA.size by rw[L,KLa];exact Yh KL rfl);have IS:=Hd (show(Tryz.prog.info? 244).map (·.size)=some SA.size by rw[H];exact Zg9 S hl);have ZW:=Hd (show Z64.size=WA.size by rw[J];unfold Z64;rw[Bi,Bi,R];rfl);have ZK:=Hd (show Z64.size=KA.size by rw[L];unfold Z64 KLa;rw[Bi,Bi];rfl);have ZS:=Hd (show Z8a.size=SA.size by rw[H];unfold Z8a;rw[Bi,Bi,hl];rfl);have OW:=Hd (show WA.toList.all (·.oneCell')=true by rw[J,eC];exact Ft W);have OK:=Hd (show KA.toList.all (·.oneCell')=true by rw[L,eC];exact Ft KL);have OS:=Hd (show SA.toList.all (·.oneCell')=true by rw[H,eC];exact Ft S);have bO:=Hd WD;have bF:=Hd CN;have HG:=Hd hg;have EW:=Hd hW;have bX:=Hd J;have aP:=Hd H;have bE:=Hd L;have a5:=Hd hS;have aS:=Hd hl;have bA:=Hd Z;have a8:=Hd R;have hv:∃a b c,v=.slice a b c:=(by obtain⟨a,c,e,_⟩:=h;exact⟨a,_,c,e⟩);obtain⟨a1,a2,a3,rfl⟩:=hv;clear WD CN Z R hW J H L h hB a9 hg hS hl;go_enter Tryz.func233,Tryz.ntmps233;go_wp2_with fail;refine(bO.out).mono ?_;rintro e w1 ⟨rfl,aX⟩;go_wp2_with fail;refine(bF.out w1).mono ?_;rintro e m ⟨rfl,bL⟩;have a0:=Hd (aX.trans (bL.mono aX.size));clear aX bL;have bQ:g<w.heap.size:=HG.out.lt;have a6:w.heap.size≤m.heap.size:=a0.out.size;have K0:=Hd (show Blk ((m.alloc (.cells Z64 272)).alloc (.cells Z64 272)) m.heap.size 272 Z64 from(Blk.new m _ _).alloc _);have K1:=Hd (show Blk ((m.alloc (.cells Z64 272)).alloc (.cells Z64 272)) (m.heap.size+1) 272 Z64 by have:=Blk.new (m.alloc (.cells Z64 272)) 272 Z64;simpa using this);have KB:=Hd (show Below w.heap.size w ((m.alloc (.cells Z64 272)).alloc (.cells Z64 272))from(a0.out.alloc a6 _).alloc (by simp;omega) _);go_wp2_with (refine Aa rfl 272 (.tmp 4) (.tmp 14) rfl m.heap.size WA rfl rfl 272 Z64 K0.out IW.out ZW.out OW.out ?_);intro w3 m0 mb mo Y;have J0:=Hd m0;have J1:=Hd ((mo (m.heap.size+1) (by omega)).trans K1.out:Blk w3 (m.heap.size+1) 272 Z64);have JB:=Hd (KB.out.trans ((mb m.heap.size lR).mono a6));have cD:w3.heap.size=m.heap.size+2:=(by omega);clear m0 mb mo Y K0 K1 KB;go_wp2_with (refine Aa rfl 272 (.tmp 5) (.tmp 15) rfl (m.heap.size+1) KA rfl rfl 272 Z64 J1.out IK.out ZK.out OK.out ?_);intro w4 m0 mb mo Y;have L1:=Hd m0;have L0:=Hd ((mo m.heap.size (by omega)).trans J0.out:Blk w4 m.heap.size 272 WA);have LB:=Hd (JB.out.trans ((mb (m.heap.size+1) lR).mono (by omega)));have bT:w4.heap.size=m.heap.size+2:=(by omega);have LG:=Hd (HG.out.below LB.out bQ);obtain⟨p0,aD⟩:=eX m.heap.size;obtain⟨p1,aE⟩:=eX (m.heap.size+1);obtain⟨d,aR⟩:=eX (m.heap.size+2);rw[←aD]at L0;rw[←aE]at L1;have N2:=Hd (show Blk (w4.alloc (.cells Z8a 244)) d 244 Z8a by rw[aR,←bT];exact Blk.new w4 _ _);have NB:=Hd (LB.out.alloc (by omega) (.cells Z8a 244));have q0:p0<d:=(by omega);have q1:p1<d:=(by omega);have q2:g<p0:=(by omega);have q3:p0≠p1:=(by omega);have Q:=Hd (show w.heap.size≤d by omega);have cM:=Hd aD;have cH:=Hd aE;have M:=Hd aR;rw[←aE,←aD];clear m0 mb mo Y J0 J1 JB cD a6;clear aD aE;go_wp2_with (first|(refine wpList_load_row rfl 244 (.tmp 17) rfl g rfl 244 SA (0,0) _ LG.out Tryz.underlying244 rfl IS.out ?_)|(refine Aa rfl 244 (.tmp 6) (.tmp 18) rfl (m.heap.size+2) SA rfl rfl 244 Z8a (by rw[←M.out];exact N2.out) IS.out ZS.out OS.out ?_));intro w5 m0 mb mo Y;rw[←M.out]at m0 mb mo;rw[←M.out];have M2:=Hd (show Blk w5 d 244 (Hp (rndsN W S 0)) by rw[rndsN,←aP.out];exact m0);have MB:=mb d lR;have cU:d<w5.heap.size:=m0.lt;have a4:=((show Blk w4 p0 272 WA from L0.out).alloc (.cells Z8a 244)).below MB q0;have aN:=((show Blk w4 p1 272 KA from L1.out).alloc (.cells Z8a 244)).below MB q1;have aW:=((show Blk w4 g 244 SA from LG.out).alloc (.cells Z8a 244)).below MB (by omega);rw[bX.out]at a4;rw[bE.out,KLa]at aN;rw[aP.out]at aW;have M0:=Hd a4;have M1:=Hd aN;have MG:=Hd aW;have bC:=Hd (NB.out.trans (MB.mono Q.out));clear m0 mb mo Y MB a4 aN aW L0 L1 LG N2 NB LB;have q4:p0≠d:=(by omega);have q5:p1≠d:=(by omega);have q6:g≠d:=(by omega);clear bT aR cM cH M a0 bO bF HG IW IK IS ZW ZK ZS OW OK OS;go_wp2_with fail
 go_loopg [19] 64 (fun q iv wr=>∃t:Nat,t+q=64∧iv=.int .i64 (t:Nat)∧Blk wr d 244 (Hp (rndsN W S t))∧OnlyG d w5 wr)
 case atStart=>exact⟨0,rfl,rfl,M2.out,OnlyG.of_below bR (by omega)⟩
 case round=>
  obtain⟨t,ht,rfl,G,A⟩:=hrel;have HT:=Hd ht;have bB:=Hd G;have HO:=Hd A;obtain⟨V,hV⟩:=eX (rndsN W S t);have I:=rndsN_ok (W:=W) aS.out a5.out t;rw[←hV]at I G;have HV:=Hd hV
  by_cases hlt:t<64
  ·have a7:decide ((t:Int)<64)=true:=(by rw[decide_eq_true_iff];omega);have XC:=fun(i:Nat) (hi:i<8)=>(show wr.cell? ⟨d,i,none⟩=some (.int .u32 ((V.getD i 0:Nat):Int)) by rw[G.cell i,Ez (by rw[I.1];exact hi)]);have XL:=fun(i:Nat)=>getD_lt32 I.2 i;have ck:=(show wr.cell? ⟨p1,t,none⟩=some (.int .u32 ((KL.getD t 0:Nat):Int)) by rw[(M1.out.only2 A q5).cell t,Ez (by rw[KL_len];exact hlt)]);have cw:=(show wr.cell? ⟨p0,t,none⟩=some (.int .u32 ((W.getD t 0:Nat):Int)) by rw[(M0.out.only2 A q4).cell t,Ez (by rw[a8.out];exact hlt)]);have cN:=getD_lt32 KL_lt t;have Z:=getD_lt32 bA.out t;have x0:=XC 0 (by omega);have x1:=XC 1 (by omega);have x2:=XC 2 (by omega);have x3:=XC 3 (by omega);have x4:=XC 4 (by omega);have x5:=XC 5 (by omega);have x6:=XC 6 (by omega);have x7:=XC 7 (by omega);have C:=XL 0;have b1:=XL 1;have b2:=XL 2;have b3:=XL 3;have N:=XL 4;have b5:=XL 5;have b6:=XL 6;have b7:=XL 7;obtain⟨k,e0⟩:=eX (V.getD 0 0);obtain⟨u,e1⟩:=eX (V.getD 1 0);obtain⟨s,e2⟩:=eX (V.getD 2 0);obtain⟨D,e3⟩:=eX (V.getD 3 0);obtain⟨l,e4⟩:=eX (V.getD 4 0);obtain⟨F,e5⟩:=eX (V.getD 5 0);obtain⟨E,e6⟩:=eX (V.getD 6 0);obtain⟨v7,e7⟩:=eX (V.getD 7 0);obtain⟨kk,aU⟩:=eX (KL.getD t 0);obtain⟨ww,aQ⟩:=eX (W.getD t 0);rw[←e0]at x0 C;rw[←e1]at x1 b1;rw[←e2]at x2 b2;rw[←e3]at x3 b3;rw[←e4]at x4 N;rw[←e5]at x5 b5;rw[←e6]at x6 b6;rw[←e7]at x7 b7;rw[←aU]at ck cN;rw[←aQ]at cw Z;have bU:=Hd (show V=[k,u,s,D,l,F,E,v7]from by
    refine Jw (by rw[I.1];rfl) fun j hj=> ?_;rw[I.1]at hj;rcases(show j=0∨j=1∨j=2∨j=3∨j=4∨j=5∨j=6∨j=7 by omega)with rfl|rfl|rfl|rfl|rfl|rfl|rfl|rfl
    ·exact e0.symm
    ·exact e1.symm
    ·exact e2.symm
    ·exact e3.symm
    ·exact e4.symm
    ·exact e5.symm
    ·exact e6.symm
    ·exact e7.symm)
   have cB:=Hd aU;have cF:=Hd aQ;clear e0 e1 e2 e3 e4 e5 e6 e7 aU aQ XC XL I hV G A ht;obtain⟨r1,aG⟩:=eX (rot l 6);obtain⟨r2,aJ⟩:=eX (rot l 11);obtain⟨r3,aA⟩:=eX (rot l 25);obtain⟨r4,aF⟩:=eX (rot k 2);obtain⟨r5,aH⟩:=eX (rot k 13);obtain⟨r6,aC⟩:=eX (rot k 22);have SF:=fun(x n r:Nat) (z:Int) (hz:z=(n:Int)) (hx:x<4294967296) (h1:1≤n) (h2:n≤31) (hr:r=rot x n) (W':World)=>(show Calls Tryz.prog 273 #[.int .u32 (x:Nat),.int .i64 z] W' fun e w'=>e=.returned (.int .u32 (r:Nat))∧w'=W' by rw[hz,hr];exact Gj x n hx h1 h2 W');have R1:=Hd (SF l 6 r1 6 rfl N (by omega) (by omega) aG);have R2:=Hd (SF l 11 r2 11 rfl N (by omega) (by omega) aJ);have R3:=Hd (SF l 25 r3 25 rfl N (by omega) (by omega) aA);have R4:=Hd (SF k 2 r4 2 rfl C (by omega) (by omega) aF);have R5:=Hd (SF k 13 r5 13 rfl C (by omega) (by omega) aH);have R6:=Hd (SF k 22 r6 22 rfl C (by omega) (by omega) aC);have d1:r1<4294967296:=(by rw[aG];exact rot_lt N (by omega));have d2:r2<4294967296:=(by rw[aJ];exact rot_lt N (by omega));have d3:r3<4294967296:=(by rw[aA];exact rot_lt N (by omega));have d4:r4<4294967296:=(by rw[aF];exact rot_lt C (by omega));have d5:r5<4294967296:=(by rw[aH];exact rot_lt C (by omega));have d6:r6<4294967296:=(by rw[aC];exact rot_lt C (by omega));have X1:=Lq r1 r2 d1 d2;have X2:=Lq (r1^^^r2) r3 (xor_lt32 d1 d2) d3;have X3:=Lq r4 r5 d4 d5;have X4:=Lq (r4^^^r5) r6 (xor_lt32 d4 d5) d6;obtain⟨z1,aV⟩:=eX (r1^^^r2);obtain⟨z3,aT⟩:=eX (r4^^^r5);rw[←aV]at X1 X2;rw[←aT]at X3 X4;have cQ:=Hd (show z1^^^r3=S1N l by rw[aV,aG,aJ,aA];rfl);have cL:=Hd (show z3^^^r6=S0N k by rw[aT,aF,aH,aC];rfl);rw[cQ.out]at X2;rw[cL.out]at X4;have A1:=Zcg l F N b5;have A2:=Zcg (4294967295-l) E (by omega) b6;have A3:=Lq (l&&&F) ((4294967295-l)&&&E) (and_lt32 N) (and_lt32 (by omega));have A4:=Zcg k u C b1;have A5:=Zcg k s C b2;have A6:=Zcg u s b1 b2;have A7:=Lq (k&&&u) (k&&&s) (and_lt32 C) (and_lt32 C);have A8:=Lq ((k&&&u)^^^(k&&&s)) (u&&&s) (xor_lt32 (and_lt32 C) (and_lt32 C)) (and_lt32 b1);have cI:=Hd (show(l&&&F)^^^((4294967295-l)&&&E)=chN l F E from rfl);have cC:=Hd (show((k&&&u)^^^(k&&&s))^^^(u&&&s)=majN k u s from rfl);rw[cI.out]at A3;rw[cC.out]at A8;have cT:=chN_lt (f:=F) (g:=E) N;have cJ:=majN_lt (c:=s) C b1;have b8:=S1N_lt N;have cR:=S0N_lt C;obtain⟨n4,aM⟩:=eX (4294967295-l);obtain⟨y1,bH⟩:=eX (l&&&F);obtain⟨y3,bG⟩:=eX (k&&&u);obtain⟨y4,bJ⟩:=eX (k&&&s);obtain⟨y5,bI⟩:=eX (u&&&s);rw[←aM]at A2 A3;obtain⟨y2,bS⟩:=eX (n4&&&E);rw[←bS]at A2 A3;rw[←bH]at A1 A3;rw[←bG]at A4 A7 A8;rw[←bJ]at A5 A7 A8;rw[←bI]at A6 A8;obtain⟨y6,bW⟩:=eX (y3^^^y4);rw[←bW]at A7 A8;obtain⟨ch,U⟩:=eX (chN l F E);obtain⟨ma,T⟩:=eX (majN k u s);obtain⟨sg,O⟩:=eX (S1N l);obtain⟨s0,P⟩:=eX (S0N k);rw[←U]at A3 cT;rw[←T]at A8 cJ;rw[←O]at X2 b8;rw[←P]at X4 cR;have cP:=Hd U;have b9:=Hd T;have cA:=Hd O;have cS:=Hd P;have A0:=Zmu l N;rw[←aM]at A0;clear aG aJ aA aF aH aC aV aT aM bH bS bG bJ bI bW U T O P SF;go_wp2_with fail
   go_quiet (fail)
   go_wp2_with fail
   go_quiet ((go_at_call 273;first|with_reducible exact Fl (R1.out _)|with_reducible exact Fl (R2.out _)|with_reducible exact Fl (R3.out _)))
   go_wp2_with fail
   go_quiet ((go_at_call 273;first|with_reducible exact Fl (R4.out _)|with_reducible exact Fl (R5.out _)|with_reducible exact Fl (R6.out _)))
   go_wp2_with fail
   rename_i m1 m2 KX KH
   obtain⟨w8,aI⟩:=eX ((wr.drewN (m1+m2)).drewN nq);rw[←aI];have K8:=Hd (show Blk w8 d 244 (Hp [k,u,s,D,l,F,E,v7]) by
    rw[aI,←bU.out,HV.out];exact(bB.out.drewN _).drewN _)
   have O8:=Hd (show OnlyG d w5 w8 by rw[aI];exact(HO.out.drewN _).drewN _);clear aI x0 x1 x2 x3 x4 x5 x6 x7 ck cw;obtain⟨t1,aZ⟩:∃n:Nat,n=(v7+sg+ch+kk+ww)%4294967296:=⟨_,rfl⟩;obtain⟨t2,aO⟩:∃n:Nat,n=(s0+ma)%4294967296:=⟨_,rfl⟩;have E1:((v7:Int)+(sg:Int)+(ch:Int)+(kk:Int)+(ww:Int))%4294967296=(t1:Int):=(by rw[aZ,eD,dS,dS,dS,dS];rfl);have E2:((s0:Int)+(ma:Int))%4294967296=(t2:Int):=(by rw[aO,eD,dS];rfl);have bK:=Hd aZ;have bD:=Hd aO;rw[E1,E2];clear aZ aO E1 E2;refine Aw [fun v _=>v=.slice (some ⟨d,1,none⟩) 7 7,fun v _=>v=.slice (some ⟨d,0,none⟩) 7 8,fun _ w'=>Blk w' d 244 (Hp [k,k,u,s,D,l,F,E])∧OnlyG d w5 w']
    [false,false,true] (fun x=>Below w8.heap.size w8 x) (fun x y=>Below x.heap.size x y) none 2 (by kernel_rfl) ?_ (⟨rfl,rfl,rfl,lR,fun _ _=>rfl⟩) (fun x y _ h=>h) (fun x y hx hs=>hx.trans (hs.mono hx.size)) (by kernel_rfl) (by kernel_rfl) (by kernel_rfl) ?_ ?_
   ·exact Ah (fun _ _ _ h _ _=>h) (Ah (fun _ _ _ h _ _=>h) (Ah (fun _ _ _ _ _ _=>trivial) Ae))
   ·refine .cons (Ly ?_) (.cons (Ly ?_) (.cons (Ly ?_) (.nil)))
    ·intro a wx o hq A hf;have o:Below w8.heap.size w8 wx:=o;clear hq;refine⟨rfl,?_⟩;intro K hK;have e0:a.tmps[6]?.getD undef=.pointer (some ⟨d,0,none⟩):=A 6 (by kernel_rfl);go_simp;exact hK _ _ rfl (fun _=>Af rfl bR)
    ·intro a wx o hq A hf;have o:Below w8.heap.size w8 wx:=o;clear hq;refine⟨rfl,?_⟩;intro K hK;have e0:a.tmps[6]?.getD undef=.pointer (some ⟨d,0,none⟩):=A 6 (by kernel_rfl);go_simp;exact hK _ _ rfl (fun _=>Af rfl bR)
    ·intro a wx o hq A hf;have o:Below w8.heap.size w8 wx:=o;clear hq;refine⟨rfl,?_⟩;intro K hK;have e0:a.tmps[80]?.getD undef=.slice (some ⟨d,1,none⟩) 7 7:=hf.1;have e1:a.tmps[81]?.getD undef=.slice (some ⟨d,0,none⟩) 7 8:=hf.2.1;have aY:Blk wx d 244 (Hp [k,u,s,D,l,F,E,v7]):=K8.out.below o K8.out.lt;have cO:OnlyG d w5 wx:=O8.out.trans (OnlyG.of_below o (eA K8.out.lt));refine Vr (.tmp 80) (.tmp 81) 276 276 rfl 231 d 1 7 7 ⟨d,0,none⟩ 7 8 _ 244 (Zga [k,u,s,D,l,F,E]) (evs e0) (evs e1) Tryz.underlying276 (by kernel_rfl) aY rfl ?_ (by rw[Zg8,Bi];exact Nat.le_refl 8) ?_ ?_
     ·intro j v hv;have hj:j<7:=by
       rcases aB j 7 with h|h
       ·exact h
       ·rw[List.getElem?_eq_none (by simp[Zga];omega)]at hv;cases hv
      rw[Addr.add_lit,Nat.zero_add,aY.cell j,←hv];rcases(show j=0∨j=1∨j=2∨j=3∨j=4∨j=5∨j=6 by omega)with rfl|rfl|rfl|rfl|rfl|rfl|rfl<;>rfl
     ·intro v hv;simp only[Zga,List.mem_map]at hv;obtain⟨n,_,rfl⟩:=hv
      rfl
     ·exact hK _ _ ⟨setRow_heap wx d _ _ _ _ aY,cO.trans (OnlyG.setRow d _)⟩ (fun bZ=>absurd rfl bZ)
   ·rintro f w9 aL;have S9:Blk w9 d 244 (Hp [k,k,u,s,D,l,F,E])∧OnlyG d w5 w9:=aL.2.2.1;clear aL;simp only[Aj,Aq,Dr,cZ,dA,dB,dC,Nat.reduceBEq,Nat.reduceAdd,Bool.or_false,Bool.or_true,cond_true,cond_false];have bM:=Hd S9;have cW:w9.cell? ⟨d,4,none⟩=some (.int .u32 (D:Nat)):=S9.1.cell 4;have cV:w9.cell? ⟨d,0,none⟩=some (.int .u32 (k:Nat)):=S9.1.cell 0;have f4:=S9.1.frozen 4;have f0:=S9.1.frozen 0;clear S9;go_wp2_with fail;go_roundg (gk-1);case measure=>have:=HT.out;omega
    case rel=>
     refine⟨t+1,by have:=HT.out;omega,by go_num,?_,(bM.out.2.trans (OnlyG.setCell 4 _)).trans (OnlyG.setCell 0 _)⟩;have c1:((D:Int)+(t1:Int))%4294967296=(((D+t1)%4294967296:Nat):Int):=(by rw[eD,dS];rfl);have c2:((t1:Int)+(t2:Int))%4294967296=(((t1+t2)%4294967296:Nat):Int):=(by rw[eD,dS];rfl);have hb:=(bM.out.1.set 4 (.int .u32 (((D+t1)%4294967296:Nat):Int))).set 0 (.int .u32 (((t1+t2)%4294967296:Nat):Int));rw[Jv,Jv]at hb;have hr:rndsN W S (t+1)=([k,k,u,s,D,l,F,E].set 4 ((D+t1)%4294967296)).set 0 ((t1+t2)%4294967296):=by
      rw[rndsN,←HV.out,bU.out,←cB.out,←cF.out,bK.out,bD.out,cP.out,b9.out,cA.out,cS.out];show [_,_,_,_,_,_,_,_]=[_,_,_,_,_,_,_,_]
      congr 1
      ·show(_+_)%_=_;exact eB _ _ _
      ·congr 1;congr 1;congr 1
       congr 1
       show(D+_)%_=_;rw[eB,eB D (_%4294967296),Nat.mod_mod]
       rfl
     rw[hr];first
     |exact hb
     |(rw[c1,c2];exact hb)
  ·obtain rfl:t=64:=(by omega);have hX:=rndsN_ok (W:=W) aS.out a5.out 64;have aK:=Hd (show Tc S (rndsN W S 64) 8=stepN S B by rw[EW.out];exact Yi S B);obtain⟨X,bV⟩:=eX (rndsN W S 64);rw[hV]at G;rw[←bV]at hX G aK;have bP:=Hd hX;have M:=Hd G;have bN:=Hd (show Blk wr g 244 (Hp (Tc S X 0)) by rw[Td X aS.out];exact MG.out.only2 A q6);have cG:=Hd (OnlyG.far (OnlyG.of_below bC.out (eA bQ)) A Q.out (by omega));clear ht G A hX bV bB hlt HV hV HO HT M0 M1 M2 MG bC bA a8 EW bX aP bE;go_wp2_with fail;obtain⟨g1,rfl⟩:=eX gk;obtain⟨w6,rfl⟩:=eX wr
   go_loopg [93] 8 (fun q iv wr=>∃i:Nat,i+q=8∧iv=.int .i64 (i:Nat)∧Blk wr d 244 (Hp X)∧Blk wr g 244 (Hp (Tc S X i))∧OnlyG g w6 wr)
   case atStart=>exact⟨0,rfl,rfl,M.out,bN.out,OnlyG.of_below bR (eA bN.out.lt)⟩
   case round=>
    obtain⟨i,hi,rfl,G,kg,A⟩:=hrel;have HI:=Hd hi;have J2:=Hd G;have JG:=Hd kg;have HO:=Hd A
    by_cases hlt:i<8
    ·have a7:decide ((i:Int)<8)=true:=(by rw[decide_eq_true_iff];omega);have x1:wr.cell? ⟨d,i,none⟩=some (.int .u32 ((X.getD i 0:Nat):Int)):=(by rw[G.cell i,Ez (by rw[bP.out.1];exact hlt)]);have x2:wr.cell? ⟨g,i,none⟩=some (.int .u32 ((S.getD i 0:Nat):Int)):=(by rw[kg.cell i,Ez (by rw[Fu];exact hlt),Jx _ _ _ hlt,if_neg (by omega)]);have f1:=kg.frozen i;have b1:=getD_lt32 bP.out.2 i;have b2:=getD_lt32 a5.out i;obtain⟨a,ha⟩:=eX (X.getD i 0);obtain⟨b,hb⟩:=eX (S.getD i 0);rw[←ha]at x1 b1;rw[←hb]at x2 b2;have cE:=Hd (Te S X hlt);have HA:=Hd ha;have bY:=Hd hb;clear ha hb hi G kg A;go_wp2_with fail
     go_region
     go_wp2_with fail;go_roundg (gk-1);case measure=>have:=HI.out;omega
     case rel=>
      refine⟨i+1,by have:=HI.out;omega,by go_num,?_,?_,?_⟩
      ·exact(J2.out.far (p:=⟨g,i,none⟩) (fun e=>q6 e.symm) _).drewN 1
      ·have c1:((b:Int)+(a:Int))%4294967296=(((S.getD i 0+X.getD i 0)%4294967296:Nat):Int):=(by rw[←HA.out,←bY.out,eD,dS];rfl);rw[c1,←cE.out,←Jv];exact(JG.out.set i _).drewN 1
      ·exact(HO.out.trans (OnlyG.setCell i _)).drewN 1
    ·obtain rfl:i=8:=(by omega);rw[aK.out]at kg;have cK:=Hd kg;clear hi G kg A;go_wp2_with fail
     go_end0
     exact⟨rfl,cK.out,cG.out.trans HO.out⟩
end Go.Proofs.YtfofaiommeckbaaGreat
namespace Go.Proofs.YtfofaiommeckbaaGreat
open Go.RowKit WireM
theorem Own.onlyG {w w':World} {B g:Nat} {e:TypeId} {v:Value} {xs:List Value}(h:Own w B e v xs)(d:OnlyG g w w')(l:g<B):Own w' B e v xs:=by
 obtain⟨c,h2|⟨a,j,b,i,f,hh,rest⟩⟩:=h
 ·exact⟨c,.inl h2⟩
 ·refine⟨c,.inr ⟨a,j,b,i,f,?_,rest⟩⟩;have k:a<w.heap.size:=by
   rcases aB a w.heap.size with h|h
   ·exact h
   ·rw[aD h]at hh;cases hh
  rw[d.2.2 a k (by omega)];exact hh
theorem Gd (g:Nat):∀(vs:List Value) (o:Nat) (w:World),OnlyG g w (w.setCells g o vs)
 |[],o,w=>⟨bR,lR,fun _ _ _=>rfl⟩
 |v::vs,o,w=>by
  rw[World.setCells];exact(OnlyG.setCell o v).trans (Gd g vs (o+1) _)
theorem Own.setLow {w:World} {B:Nat} {e:TypeId} {v:Value} {xs:List Value}(h:Own w B e v xs) {p:Addr}(hp:p.block<B)(u:Value):Own (w.setCell p u) B e v xs:=by
 refine h.setOther (fun hv=> ?_) u;rcases h.2 with⟨rfl,_⟩|⟨g,cp,cur,rfl,hg,_⟩
 ·simp[Value.ownBlock]at hv
 ·simp[Value.ownBlock]at hv;omega
theorem Blk.there {w:World} {g:Nat} {t:TypeId} {cs:Array Value}(h:Blk w g t cs)(o n:Nat)(hn:o+n≤cs.size):w.there g o n:=by
 intro j hj;refine⟨?_,h.frozen _⟩;rw[h.cell,Array.getElem?_eq_getElem (by omega)]
 rfl
def NodeO (w:World)(B:Nat)(d:NodeD)(c:Array Value):Prop:=
 ∃x0 x1 x2 x3 x4 u0 u1 u2,c=#[.int .u8 (d.kind:Nat),x0,x1,x2,.int .u8 (d.leaf.source:Nat),x3,x4,u0,u1,u2]∧
  Own w B 5 x0 (bvs d.leaf.box)∧Own w B 5 x1 (bvs d.leaf.sign)∧Own w B 5 x2 (bvs d.leaf.ident)∧Own w B 5 x3 (bvs d.leaf.par)∧Own w B 5 x4 (bvs d.leaf.sig)∧
  Own w B 5 u0 (bvs d.par.box)∧Own w B 5 u1 (bvs d.par.hash)∧Own w B 3 u2 (ivs .i64 d.par.late)
theorem NodeO.below {w w':World} {B B':Nat} {d:NodeD} {c:Array Value}(h:NodeO w B d c)(b:Below B' w w')(a:w.heap.size≤B'):NodeO w' B d c:=by
 obtain⟨x0,x1,x2,x3,x4,u0,u1,u2,rfl,f,k,h2,h3,e,g,j,i⟩:=h;exact⟨x0,x1,x2,x3,x4,u0,u1,u2,rfl,f.below b a,k.below b a,h2.below b a,h3.below b a,e.below b a,g.below b a,j.below b a,i.below b a⟩
theorem NodeO.mono {w:World} {B B':Nat} {d:NodeD} {c:Array Value}(h:NodeO w B d c)(hB:B'≤B):NodeO w B' d c:=by
 obtain⟨x0,x1,x2,x3,x4,u0,u1,u2,rfl,h0,h1,h2,h3,h4,h5,h6,h7⟩:=h;exact⟨x0,x1,x2,x3,x4,u0,u1,u2,rfl,h0.mono hB,h1.mono hB,h2.mono hB,h3.mono hB,h4.mono hB,h5.mono hB,h6.mono hB,h7.mono hB⟩
theorem NodeO.c {w:World} {B:Nat} {d:NodeD} {c:Array Value}(h:NodeO w B d c):NodeC w d c:=by
 obtain⟨x0,x1,x2,x3,x4,u0,u1,u2,rfl,f,l,h2,h3,b,i,k,j⟩:=h;have g:∀ {v:Value} {e:TypeId} {xs:List Value},Own w B e v xs→∃a c,v=.slice a xs.length c:=fun h=>(by obtain⟨a,c,e,_⟩:=h.rd;exact⟨a,c,e⟩);obtain⟨r,z,rfl⟩:=g f;obtain⟨o,c1,rfl⟩:=g l;obtain⟨p,c2,rfl⟩:=g h2;obtain⟨y,c3,rfl⟩:=g h3;obtain⟨u,c4,rfl⟩:=g b;obtain⟨q,c5,rfl⟩:=g i;obtain⟨n,x,rfl⟩:=g k;obtain⟨s,m,rfl⟩:=g j;have t:(ivs .i64 d.par.late).length=d.par.late.length:=Ha _ _;simp only[bvs_len,t]at f l h2 h3 b i k j⊢;exact⟨r,z,o,c1,p,c2,y,c3,u,c4,q,c5,n,x,s,m,rfl,f.rd,l.rd,h2.rd,h3.rd,b.rd,i.rd,k.rd,j.rd⟩
theorem Ld (d:NodeD)(c:Array Value)(w:World)(h:NodeC w d c)(t:Bm d=true):
  Calls Tryz.prog 73 #[.agg c] w fun e w'=>∃c',e=.returned (.agg c')∧NodeO w' w.heap.size d c'∧Below w.heap.size w w':=by
 have bK:=of_decide_eq_true t;obtain⟨G,c1,O,c2,L,c3,J,c4,N,c5,V,A,Q,e2,S,e3,rfl,h1,h2,h3,h4,h5,h6,h7,h8⟩:=h;have CL:=fun(W:World) (E:Below w.heap.size w W)=>Ta d.leaf #[.slice G d.leaf.box.length c1,.slice O d.leaf.sign.length c2,.slice L d.leaf.ident.length c3,.int .u8 (d.leaf.source:Nat),.slice J d.leaf.par.length c4,.slice N d.leaf.sig.length c5] W ⟨G,c1,O,c2,L,c3,J,c4,N,c5,rfl,h1.below E lR,h2.below E lR,h3.below E lR,h4.below E lR,h5.below E lR⟩ (by omega);have C1:=fun(W:World) (E:Below w.heap.size w W)=>Cq _ d.par.box W (h6.below E lR) (by omega);have C2:=fun(W:World) (E:Below w.heap.size w W)=>Cq _ d.par.hash W (h7.below E lR) (by omega);have C3:=fun(W:World) (E:Below w.heap.size w W)=>Zax _ d.par.late W (h8.below E lR) (by omega);obtain⟨H,aW⟩:=eX d.kind;obtain⟨l1,aL⟩:=eX d.leaf.box.length;obtain⟨l2,aX⟩:=eX d.leaf.sign.length;obtain⟨l3,aU⟩:=eX d.leaf.ident.length;obtain⟨l4,aK⟩:=eX d.leaf.par.length;obtain⟨l5,aS⟩:=eX d.leaf.sig.length;obtain⟨P,aR⟩:=eX d.par.box.length;obtain⟨T,aO⟩:=eX d.par.hash.length;obtain⟨Z,aV⟩:=eX d.par.late.length;obtain⟨s,U⟩:=eX d.leaf.source;rw[←aL,←aX,←aU,←aK,←aS,←U]at CL;rw[←aR]at C1;rw[←aO]at C2;rw[←aV]at C3;rw[←aW,←aL,←aX,←aU,←aK,←aS,←aR,←aO,←aV,←U];have a7:=Hd CL;have a8:=Hd C1;have a0:=Hd C2;have bD:=Hd C3;have bS:=Hd aW;have HS:=Hd U;clear CL C1 C2 C3 bK t h1 h2 h3 h4 h5 h6 h7 h8 aL aX aU aK aS aR aO aV aW U;have L0:=Hd (show((w.alloc (.cells #[.int .u8 (H:Nat),.slice G l1 c1,.slice O l2 c2,.slice L l3 c3,.int .u8 (s:Nat),.slice J l4 c4,.slice N l5 c5,.slice V P A,.slice Q T e2,.slice S Z e3] 52)).alloc (.cells #[.int .u8 0,.slice none 0 0,.slice none 0 0,.slice none 0 0,.int .u8 0,.slice none 0 0,.slice none 0 0,.slice none 0 0,.slice none 0 0,.slice none 0 0] 52)).rangeAt w.heap.size 1 [.slice G l1 c1,.slice O l2 c2,.slice L l3 c3,.int .u8 (s:Nat),.slice J l4 c4,.slice N l5 c5]from by
  intro j u D;have hb:Blk ((w.alloc (.cells #[.int .u8 (H:Nat),.slice G l1 c1,.slice O l2 c2,.slice L l3 c3,.int .u8 (s:Nat),.slice J l4 c4,.slice N l5 c5,.slice V P A,.slice Q T e2,.slice S Z e3] 52)).alloc (.cells #[.int .u8 0,.slice none 0 0,.slice none 0 0,.slice none 0 0,.int .u8 0,.slice none 0 0,.slice none 0 0,.slice none 0 0,.slice none 0 0,.slice none 0 0] 52)) w.heap.size 52 #[.int .u8 (H:Nat),.slice G l1 c1,.slice O l2 c2,.slice L l3 c3,.int .u8 (s:Nat),.slice J l4 c4,.slice N l5 c5,.slice V P A,.slice Q T e2,.slice S Z e3]:=(Blk.new w _ _).alloc _;rw[hb.cell]
  match j,D with
  |0,D=>exact D
  |1,D=>exact D
  |2,D=>exact D
  |3,D=>exact D
  |4,D=>exact D
  |5,D=>exact D
  |j+6,D=>simp at D)
 have hA:=(Below.refl w.heap.size w).alloc lR (.cells #[.int .u8 (H:Nat),.slice G l1 c1,.slice O l2 c2,.slice L l3 c3,.int .u8 (s:Nat),.slice J l4 c4,.slice N l5 c5,.slice V P A,.slice Q T e2,.slice S Z e3] 52);have aQ:=Hd (hA.alloc hA.size (.cells #[.int .u8 0,.slice none 0 0,.slice none 0 0,.slice none 0 0,.int .u8 0,.slice none 0 0,.slice none 0 0,.slice none 0 0,.slice none 0 0,.slice none 0 0] 52));have aI:=Hd (show Blk ((w.alloc (.cells #[.int .u8 (H:Nat),.slice G l1 c1,.slice O l2 c2,.slice L l3 c3,.int .u8 (s:Nat),.slice J l4 c4,.slice N l5 c5,.slice V P A,.slice Q T e2,.slice S Z e3] 52)).alloc (.cells #[.int .u8 0,.slice none 0 0,.slice none 0 0,.slice none 0 0,.int .u8 0,.slice none 0 0,.slice none 0 0,.slice none 0 0,.slice none 0 0,.slice none 0 0] 52)) w.heap.size 52 #[.int .u8 (H:Nat),.slice G l1 c1,.slice O l2 c2,.slice L l3 c3,.int .u8 (s:Nat),.slice J l4 c4,.slice N l5 c5,.slice V P A,.slice Q T e2,.slice S Z e3]from(Blk.new w _ _).alloc _);have aM:=Hd (show Blk ((w.alloc (.cells #[.int .u8 (H:Nat),.slice G l1 c1,.slice O l2 c2,.slice L l3 c3,.int .u8 (s:Nat),.slice J l4 c4,.slice N l5 c5,.slice V P A,.slice Q T e2,.slice S Z e3] 52)).alloc (.cells #[.int .u8 0,.slice none 0 0,.slice none 0 0,.slice none 0 0,.int .u8 0,.slice none 0 0,.slice none 0 0,.slice none 0 0,.slice none 0 0,.slice none 0 0] 52)) (w.heap.size+1) 52 #[.int .u8 0,.slice none 0 0,.slice none 0 0,.slice none 0 0,.int .u8 0,.slice none 0 0,.slice none 0 0,.slice none 0 0,.slice none 0 0,.slice none 0 0] by have h1:=Blk.new (w.alloc (.cells #[.int .u8 (H:Nat),.slice G l1 c1,.slice O l2 c2,.slice L l3 c3,.int .u8 (s:Nat),.slice J l4 c4,.slice N l5 c5,.slice V P A,.slice Q T e2,.slice S Z e3] 52)) 52 #[.int .u8 0,.slice none 0 0,.slice none 0 0,.slice none 0 0,.int .u8 0,.slice none 0 0,.slice none 0 0,.slice none 0 0,.slice none 0 0,.slice none 0 0];simpa using h1);clear hA;go_enter Tryz.func73,Tryz.ntmps73;go_wp2_with (refine wpList_load_mid rfl 44 (.tmp 3) rfl w.heap.size 1 rfl [.slice G l1 c1,.slice O l2 c2,.slice L l3 c3,.int .u8 (s:Nat),.slice J l4 c4,.slice N l5 c5] _ L0.out Tryz.underlying44 rfl (by kernel_rfl) ?_);refine(a7.out _ aQ.out).mono ?_;rintro e w1 ⟨c',rfl,bN,aF⟩;obtain⟨x0,x1,x2,x3,x4,rfl,o0,o1,o2,o3,o4⟩:=bN;rw[←HS.out];have g:w.heap.size<((w.alloc (.cells #[.int .u8 (H:Nat),.slice G l1 c1,.slice O l2 c2,.slice L l3 c3,.int .u8 (s:Nat),.slice J l4 c4,.slice N l5 c5,.slice V P A,.slice Q T e2,.slice S Z e3] 52)).alloc (.cells #[.int .u8 0,.slice none 0 0,.slice none 0 0,.slice none 0 0,.int .u8 0,.slice none 0 0,.slice none 0 0,.slice none 0 0,.slice none 0 0,.slice none 0 0] 52)).heap.size:=aI.out.lt;have m:w.heap.size+1<((w.alloc (.cells #[.int .u8 (H:Nat),.slice G l1 c1,.slice O l2 c2,.slice L l3 c3,.int .u8 (s:Nat),.slice J l4 c4,.slice N l5 c5,.slice V P A,.slice Q T e2,.slice S Z e3] 52)).alloc (.cells #[.int .u8 0,.slice none 0 0,.slice none 0 0,.slice none 0 0,.int .u8 0,.slice none 0 0,.slice none 0 0,.slice none 0 0,.slice none 0 0,.slice none 0 0] 52)).heap.size:=aM.out.lt;have aN:=Hd (aI.out.below aF g);have bB:=Hd (aM.out.below aF m);have bP:=Hd (aQ.out.trans (aF.mono aQ.out.size));have HQ:=Hd (And.intro o0 (And.intro o1 (And.intro o2 (And.intro o3 o4))));have R:=Hd (show(#[x0,x1,x2,.int .u8 (s:Nat),x3,x4]:Array Value).all (·.oneCell')=true by
  rw[←eC];simp only[dV,dW,o0.oneCell,o1.oneCell,o2.oneCell,o3.oneCell,o4.oneCell];rfl)
 obtain⟨Bn,a6⟩:=eX (((w.alloc (.cells #[.int .u8 (H:Nat),.slice G l1 c1,.slice O l2 c2,.slice L l3 c3,.int .u8 (s:Nat),.slice J l4 c4,.slice N l5 c5,.slice V P A,.slice Q T e2,.slice S Z e3] 52)).alloc (.cells #[.int .u8 0,.slice none 0 0,.slice none 0 0,.slice none 0 0,.int .u8 0,.slice none 0 0,.slice none 0 0,.slice none 0 0,.slice none 0 0,.slice none 0 0] 52)).heap.size);rw[←a6]at HQ g m;have bU:Bn≤w1.heap.size:=(by have:=aF.size;omega);clear aF o0 o1 o2 o3 o4 a6 aI aM L0;go_wp2_with (refine wpList_store_mid rfl 44 (.tmp 6) (.tmp 5) rfl w.heap.size 1 #[x0,x1,x2,.int .u8 (s:Nat),x3,x4] rfl rfl (aN.out.there 1 6 (by simp)) (by kernel_rfl) R.out ?_);dsimp only[Act.put];obtain⟨wr,aG⟩:=eX (w1.setCells w.heap.size 1 [x0,x1,x2,.int .u8 (s:Nat),x3,x4]);have z:OnlyG w.heap.size w1 wr:=(by rw[aG];exact Gd _ _ _ _);have I:=Hd (show Blk wr w.heap.size 52 #[.int .u8 (H:Nat),x0,x1,x2,.int .u8 (s:Nat),x3,x4,.slice V P A,.slice Q T e2,.slice S Z e3] by
  rw[aG];exact(((((aN.out.set 1 x0).set 2 x1).set 3 x2).set 4 (.int .u8 (s:Nat))).set 5 x3).set 6 x4)
 have aT:=Hd (bB.out.only2 z (by omega));have F:=Hd (bP.out.trans (z.1.mono lR));have aB:=Hd (And.intro (HQ.out.1.onlyG z g) (And.intro (HQ.out.2.1.onlyG z g) (And.intro (HQ.out.2.2.1.onlyG z g) (And.intro (HQ.out.2.2.2.1.onlyG z g) (HQ.out.2.2.2.2.onlyG z g)))));have b:w.heap.size<wr.heap.size:=I.out.lt;have bM:w.heap.size+1<wr.heap.size:=aT.out.lt;have aE:Bn≤wr.heap.size:=(by have:=z.2.1;omega);have k7:wr.cell? ⟨w.heap.size,7,none⟩=some (.slice V P A):=I.out.cell 7;have k8:wr.cell? ⟨w.heap.size,8,none⟩=some (.slice Q T e2):=I.out.cell 8;have k9:wr.cell? ⟨w.heap.size,9,none⟩=some (.slice S Z e3):=I.out.cell 9;have a9:=Hd (fun(W:World) (E:Below wr.heap.size wr W)=>a8.out W (F.out.trans (E.mono F.out.size)));have bF:=Hd (fun(W:World) (E:Below wr.heap.size wr W)=>a0.out W (F.out.trans (E.mono F.out.size)));have bC:=Hd (fun(W:World) (E:Below wr.heap.size wr W)=>bD.out W (F.out.trans (E.mono F.out.size)));rw[←aG];clear aG aN bB HQ R z a7 a8 a0 bD;refine Bl [eF (.pointer (some ⟨w.heap.size,7,none⟩)),eF (.pointer (some ⟨w.heap.size,7,none⟩)),eF (.slice V P A),fun v w'=>Own w' wr.heap.size 5 v (bvs d.par.box),eF (.pointer (some ⟨w.heap.size,7,none⟩)),eF (.pointer (some ⟨w.heap.size,8,none⟩)),eF (.slice Q T e2),fun v w'=>Own w' wr.heap.size 5 v (bvs d.par.hash),eF (.pointer (some ⟨w.heap.size,7,none⟩)),eF (.pointer (some ⟨w.heap.size,9,none⟩)),eF (.slice S Z e3),fun v w'=>Own w' wr.heap.size 3 v (ivs .i64 d.par.late),fun v w'=>∃u0 u1 u2,v=.agg #[u0,u1,u2]∧Own w' wr.heap.size 5 u0 (bvs d.par.box)∧Own w' wr.heap.size 5 u1 (bvs d.par.hash)∧Own w' wr.heap.size 3 u2 (ivs .i64 d.par.late),eF (.pointer (some ⟨w.heap.size,7,none⟩)),fun v w'=>∃u0 u1 u2,Blk w' w.heap.size 52 #[.int .u8 (H:Nat),x0,x1,x2,.int .u8 (s:Nat),x3,x4,u0,u1,u2]∧Own w' wr.heap.size 5 u0 (bvs d.par.box)∧Own w' wr.heap.size 5 u1 (bvs d.par.hash)∧Own w' wr.heap.size 3 u2 (ivs .i64 d.par.late)]
  (List.replicate 15 true) (fun X=>OnlyG w.heap.size wr X) (fun X Y=>OnlyG w.heap.size X Y) (some 14) (by kernel_rfl) ?_ ((OnlyG.of_below bR (eA b)).drewN 1) (fun X Y hx h=>OnlyG.of_below h (bO (eA b) hx.2.1)) (fun X Y hx t=>hx.trans t) (by kernel_rfl) (by kernel_rfl) ?_ ?_
 ·exact kE (kE (kE (Da (fun v x y h hi t=>Own.onlyG h t b) (kE (kE (kE (Da (fun v x y h hi t=>Own.onlyG h t b) (kE (kE (kE (Da (fun v x y h hi t=>Own.onlyG h t b) (Da (fun v x y h hi t=>let⟨u0,u1,u2,e,k0,k1,k2⟩:=h;⟨u0,u1,u2,e,Own.onlyG k0 t b,Own.onlyG k1 t b,Own.onlyG k2 t b⟩) (kE (Cv (fun v x y h hi t=>let⟨u0,u1,u2,e,k0,k1,k2⟩:=h;⟨u0,u1,u2,e.below t e.lt,k0.below t lR,k1.below t lR,k2.below t lR⟩) (Ae)))))))))))))))
 ·refine gPw (by kernel_rfl) ?_ rfl (gPw (by kernel_rfl) ?_ rfl (gPw (by kernel_rfl) ?_ rfl (gOw (by kernel_rfl) ?_ (gPw (by kernel_rfl) ?_ rfl (gPw (by kernel_rfl) ?_ rfl (gPw (by kernel_rfl) ?_ rfl (gOw (by kernel_rfl) ?_ (gPw (by kernel_rfl) ?_ rfl (gPw (by kernel_rfl) ?_ rfl (gPw (by kernel_rfl) ?_ rfl (gOw (by kernel_rfl) ?_ (gOw (by kernel_rfl) ?_ (gPw (by kernel_rfl) ?_ rfl (gOw (by kernel_rfl) ?_ .nil))))))))))))));all_goals
   intro a wx bA n ho hf;have bA:OnlyG w.heap.size wr wx:=bA;refine⟨rfl,?_⟩;intro K hK;try have bX:a.tmps[1]?.getD undef=.pointer (some ⟨w.heap.size,0,none⟩):=ho 1 (by kernel_rfl)
   try have bI:=eqn hf.1
   try have bW:=(n.cell (p:=⟨w.heap.size,7,none⟩) b).trans k7
   try have bY:=(n.cell (p:=⟨w.heap.size,8,none⟩) b).trans k8
   try have bV:=(n.cell (p:=⟨w.heap.size,9,none⟩) b).trans k9
   try(refine Hd ?_;go_simp;exact hK _ rfl)
  ·go_simp;refine(a9.out wx n).mono ?_;rintro e w2 ⟨v9,rfl,B,aD⟩;exact hK _ _ (B.mono n.size) (Af rfl aD)
  ·go_simp;refine(bF.out wx n).mono ?_;rintro e w2 ⟨v9,rfl,B,aD⟩;exact hK _ _ (B.mono n.size) (Af rfl aD)
  ·go_simp;refine(bC.out wx n).mono ?_;rintro e w2 ⟨v9,rfl,B,aD⟩;exact hK _ _ (B.mono n.size) (Af rfl aD)
  ·have o0:Own wx wr.heap.size 5 (a.tmps[10]?.getD undef) (bvs d.par.box):=hf.1;obtain⟨v0,aY⟩:=eX (a.tmps[10]?.getD undef);rw[←aY]at o0;have e0:=aY.symm;clear aY;have o1:Own wx wr.heap.size 5 (a.tmps[14]?.getD undef) (bvs d.par.hash):=hf.2.1;obtain⟨v1,M⟩:=eX (a.tmps[14]?.getD undef);rw[←M]at o1;have A:=M.symm;clear M;have o2:Own wx wr.heap.size 3 (a.tmps[18]?.getD undef) (ivs .i64 d.par.late):=hf.2.2.1;obtain⟨v2,aP⟩:=eX (a.tmps[18]?.getD undef);rw[←aP]at o2;have e2:=aP.symm;clear aP;obtain⟨p1,p2,p3,rfl⟩:=Dk o0;obtain⟨p4,p5,p6,rfl⟩:=Dk o1;obtain⟨p7,p8,p9,rfl⟩:=Dk o2;go_simp;exact hK _ _ ⟨_,_,_,rfl,o0,o1,o2⟩ (Af rfl bR)
  ·have o1:∃u0 u1 u2,(a.tmps[19]?.getD undef)=.agg #[u0,u1,u2]∧Own wx wr.heap.size 5 u0 (bvs d.par.box)∧Own wx wr.heap.size 5 u1 (bvs d.par.hash)∧Own wx wr.heap.size 3 u2 (ivs .i64 d.par.late):=hf.2.1;obtain⟨v1,M⟩:=eX (a.tmps[19]?.getD undef);rw[←M]at o1;have A:=M.symm;clear M;obtain⟨u0,u1,u2,D,k0,k1,k2⟩:=o1;have q:=I.out.below n I.out.lt;refine wp_store_mid 50 (.tmp 20) (.tmp 19) rfl w.heap.size 7 #[u0,u1,u2] (evs bI) (evs (A.trans D)) (q.there 7 3 (by simp)) (by kernel_rfl) (by rw[←eC];simp only[dV,dW,k0.oneCell,k1.oneCell,k2.oneCell];rfl) ?_;have k:∀ {e v xs},Own wx wr.heap.size e v xs→e≠52→∀(j:Nat) (u:Value) (W:World),Own W wr.heap.size e v xs→Own (W.setCell ⟨w.heap.size,j,none⟩ u) wr.heap.size e v xs:=fun _ _ j u W h2=>h2.setLow (p:=⟨w.heap.size,j,none⟩) b u;exact hK undef _ ⟨u0,u1,u2,((q.set 7 u0).set 8 u1).set 9 u2,k k0 (by decide) _ _ _ (k k0 (by decide) _ _ _ (k k0 (by decide) _ _ _ k0)),k k1 (by decide) _ _ _ (k k1 (by decide) _ _ _ (k k1 (by decide) _ _ _ k1)),k k2 (by decide) _ _ _ (k k2 (by decide) _ _ _ (k k2 (by decide) _ _ _ k2))⟩ (Ca rfl (((OnlyG.setCell 7 u0).trans (OnlyG.setCell 8 u1)).trans (OnlyG.setCell 9 u2)))
 ·rintro f w9 l aH;have l:OnlyG w.heap.size wr w9:=l;have bL:∃u0 u1 u2,Blk w9 w.heap.size 52 #[.int .u8 (H:Nat),x0,x1,x2,.int .u8 (s:Nat),x3,x4,u0,u1,u2]∧Own w9 wr.heap.size 5 u0 (bvs d.par.box)∧Own w9 wr.heap.size 5 u1 (bvs d.par.hash)∧Own w9 wr.heap.size 3 u2 (ivs .i64 d.par.late):=aH.2.2.2.2.2.2.2.2.2.2.2.2.2.2.1;clear aH;simp only[Aj,Aq,Dr,cZ,dA,dB,dC,Nat.reduceBEq,Nat.reduceAdd,Bool.or_false,Bool.or_true,cond_true,cond_false];obtain⟨u0,u1,u2,q,k0,k1,k2⟩:=bL;have aZ:=Hd (aT.out.only2 l (by omega));have o:=Hd (And.intro (aB.out.1.onlyG l g) (And.intro (aB.out.2.1.onlyG l g) (And.intro (aB.out.2.2.1.onlyG l g) (And.intro (aB.out.2.2.2.1.onlyG l g) (aB.out.2.2.2.2.onlyG l g)))));have bJ:=Hd (F.out.trans (l.1.mono lR));have aA:=Hd (And.intro (k0.mono aE) (And.intro (k1.mono aE) (k2.mono aE)));obtain⟨XS,aC⟩:=eX ((#[.int .u8 (H:Nat),x0,x1,x2,.int .u8 (s:Nat),x3,x4,u0,u1,u2]:Array Value));have R:=Hd (show XS.toList.all (·.oneCell')=true by
   rw[aC];simp only[dV,dW,o.out.1.oneCell,o.out.2.1.oneCell,o.out.2.2.1.oneCell,o.out.2.2.2.1.oneCell,o.out.2.2.2.2.oneCell,aA.out.1.oneCell,aA.out.2.1.oneCell,aA.out.2.2.oneCell];rfl)
  rw[←aC]at q;have bE:=Hd q;have aJ:=Hd (show(Tryz.prog.info? 52).map (·.size)=some XS.size by rw[aC];exact Ak);have bG:=Hd (show(#[.int .u8 0,.slice none 0 0,.slice none 0 0,.slice none 0 0,.int .u8 0,.slice none 0 0,.slice none 0 0,.slice none 0 0,.slice none 0 0,.slice none 0 0]:Array Value).size=XS.size by rw[aC];rfl);have bH:=Hd aC;have bZ:w.heap.size+1<w9.heap.size:=aZ.out.lt;clear aC q k0 k1 k2 l k7 k8 k9 a9 bF bC aT aB F I b bM;go_wp2_with (first|(refine wpList_load_row rfl 52 (.tmp 1) rfl w.heap.size rfl 52 XS (0,0) _ bE.out Tryz.underlying52 rfl aJ.out ?_)|(refine Aa rfl 52 (.tmp 2) (.tmp 21) rfl (w.heap.size+1) XS rfl rfl 52 #[.int .u8 0,.slice none 0 0,.slice none 0 0,.slice none 0 0,.int .u8 0,.slice none 0 0,.slice none 0 0,.slice none 0 0,.slice none 0 0,.slice none 0 0] aZ.out aJ.out bG.out R.out ?_));intro w3 m0 mb mo bQ;have M0:=Hd m0;have bT:=Hd (bJ.out.trans ((mb (w.heap.size+1) lR).mono (by omega)));have r:OnlyG (w.heap.size+1) w9 w3:=⟨mb (w.heap.size+1) lR,by omega,fun i _ k=>mo i k⟩;have C:w.heap.size≤Bn:=(by omega);have HF:=Hd (And.intro ((o.out.1.onlyG r m).mono C) (And.intro ((o.out.2.1.onlyG r m).mono C) (And.intro ((o.out.2.2.1.onlyG r m).mono C) (And.intro ((o.out.2.2.2.1.onlyG r m).mono C) ((o.out.2.2.2.2.onlyG r m).mono C)))));have HG:=Hd (And.intro ((aA.out.1.onlyG r m).mono C) (And.intro ((aA.out.2.1.onlyG r m).mono C) ((aA.out.2.2.onlyG r m).mono C)));clear m0 mb mo bQ r;go_wp2_with fail;refine bodyPost_ret (v:=.agg XS) (Hq rfl _ _ (w.heap.size+1) 52 XS _ rfl M0.out Tryz.underlying52 rfl aJ.out) rfl ⟨XS,rfl,⟨x0,x1,x2,x3,x4,u0,u1,u2,by rw[bH.out,bS.out,HS.out],HF.out.1,HF.out.2.1,HF.out.2.2.1,HF.out.2.2.2.1,HF.out.2.2.2.2,HG.out.1,HG.out.2.1,HG.out.2.2⟩,bT.out⟩
section
section
variable {P:Program} {w:World}
end
theorem Own.grown {w w':World} {B:Nat} {e:TypeId} {v:Value} {xs:List Value} {row:Option Nat}(h:Own w B e v xs)(f:w.grownBy w' row)(a:∀g,v.ownBlock=some g→row≠some g):Own w' B e v xs:=by
 obtain⟨c,h2|⟨g,i,b,rfl,d,hh,rest⟩⟩:=h
 ·exact⟨c,.inl h2⟩
 ·refine⟨c,.inr ⟨g,i,b,rfl,d,?_,rest⟩⟩;have j:g<w.heap.size:=by
   rcases aB g w.heap.size with h|h
   ·exact h
   ·rw[aD h]at hh;cases hh
  rw[f.block g j (fun e=>a g (by simp[Value.ownBlock]) e.symm)];exact hh
def Pc (u v:Value):Prop:=∀g,u.ownBlock=some g→v.ownBlock≠some g
theorem Own.blockLt {w:World} {B:Nat} {e:TypeId} {v:Value} {xs:List Value}(h:Own w B e v xs) {g:Nat}(a:v.ownBlock=some g):g<w.heap.size∧B≤g:=by
 rcases h.2 with⟨rfl,_⟩|⟨b,f,c,rfl,d,hh,_⟩
 ·simp[Value.ownBlock]at a
 ·simp[Value.ownBlock]at a;subst a;refine⟨?_,d⟩;rcases aB b w.heap.size with h|h
  ·exact h
  ·rw[aD h]at hh;cases hh
end
end Go.Proofs.YtfofaiommeckbaaGreat
namespace Go.Proofs.YtfofaiommeckbaaGreat
open Go.RowKit
section
section
variable {P:Program} {l:List Oper} {Q:Exit→Act→World→Prop} {sat:List Fb} {tl:List Bool} {q:Nat} {a0:Act} {W:World} {i:Nat} {o:Oper}
abbrev Zlp (P:Program)(l:List Oper)(Q:Exit→Act→World→Prop)(sat:List Fb)(tl:List Bool)(q:Nat)(a0:Act)(W:World)(i:Nat)(o:Oper):Prop:=Vj P l Q sat (fun x=>Below W.heap.size W x) (fun x y=>Below x.heap.size x y) none q tl a0 W i o
abbrev OwedAll6 (P:Program)(l:List Oper)(Q:Exit→Act→World→Prop)(sat:List Fb)(tl:List Bool)(q:Nat)(a0:Act)(W:World)(i:Nat)(os:List Oper):Prop:=OwedAll8 P l Q sat (fun x=>Below W.heap.size W x) (fun x y=>Below x.heap.size x y) none q tl a0 W i os
theorem OwedAll6.nil:OwedAll6 P l Q sat tl q a0 W i []:=trivial
theorem OwedAll6.cons {os:List Oper}(h:Zlp P l Q sat tl q a0 W i o)(t:OwedAll6 P l Q sat tl q a0 W (i+1) os):OwedAll6 P l Q sat tl q a0 W i (o::os):=⟨h,t⟩
theorem Iy {t:Nat} {a:Act} {w:World} (b:List Fb) (c g:List Bool) (q:Nat) (p:P.follows .mixedOrders=true) (hk:Zam b) (u:Iw l a.tmps.size=true) (r:Ej l=true) (k:Vh l c g q=true)
  (e:OwedAll6 P l Q b g q a w 0 l)
  (d:∀(f:Nat→Value) (w':World),Dt b c f w' 0 l→Q .normal (Aj l a f) w'):
  (Code.region t l.toArray true).wp P Q a w:=
 He b c _ _ none q g p (fun j _ _=>⟨fun v x y _ m _ n=>hk j v x y m n,fun v x y s=>by cases s⟩) (fun i j _ _ v x y m o=>hk j v x y m o) ⟨rfl,rfl,rfl,lR,fun _ _=>rfl⟩ (fun _ _ _ h=>h) (fun _ _ hx n=>hx.trans (n.mono hx.size)) u r k e d
theorem Qw (h:∀(a:Act) (w:World),(tl.getD i false=false→Below W.heap.size W w)→(∀s,Co l i s=true→a.tmps[s]?.getD undef=a0.tmps[s]?.getD undef)→Ew sat l a w o.after.toList→
      Region.wanted o (yielded l.toArray a.tmps)=true∧∀K:Act→World→Prop,(∀v w',(sat.getD i (fun _ _=>True)) (Ce o a v) w'→(i≠q→Below w.heap.size w w')→K (a.put o.dst v) w')→Oper.wp P o a w K Q):Zlp P l Q sat tl q a0 W i o:=by
 intro a w f e d K k;rw[if_pos (h a w (fun c=>(f c).1) e d).1];refine(h a w (fun c=>(f c).1) e d).2 K fun v w' j g=>k v w' j fun b=> ?_;cases htl:tl.getD i false with
 |true=>exact g b
 |false=>exact Af (i:=i) (q:=none) rfl (g b)
end
end
section
section
variable {P:Program} {l:List Oper} {Q:Exit→Act→World→Prop} {sat:List Fb} {tl:List Bool} {q:Nat} {a0:Act} {W:World} {i:Nat} {o:Oper} {os:List Oper}
theorem kT {x:Value}(t:Zam sat):Zam (eF x::sat):=Ee (fun _ _ _ h _=>h) t
theorem gU (b:tl.getD i false=false) (h:∀(a:Act) (w:World),Below W.heap.size W w→(∀s,Co l i s=true→a.tmps[s]?.getD undef=a0.tmps[s]?.getD undef)→Ew sat l a w o.after.toList→
      Region.wanted o (yielded l.toArray a.tmps)=true∧∀K:Act→World→Prop,(∀v w',(sat.getD i (fun _ _=>True)) (Ce o a v) w'→(i≠q→Below w.heap.size w w')→K (a.put o.dst v) w')→Oper.wp P o a w K Q)
  (t:OwedAll6 P l Q sat tl q a0 W (i+1) os):OwedAll6 P l Q sat tl q a0 W i (o::os):=.cons (Qw fun a w c h2 h3=>h a w (c b) h2 h3) t
theorem gT (b:tl.getD i false=false) (h:∀(a:Act) (w:World),Below W.heap.size W w→(∀s,Co l i s=true→a.tmps[s]?.getD undef=a0.tmps[s]?.getD undef)→Ew sat l a w o.after.toList→
      Region.wanted o (yielded l.toArray a.tmps)=true∧∀K:Act→World→Prop,(∀v,(sat.getD i (fun _ _=>True)) (Ce o a v) w→K (a.put o.dst v) w)→Hid (Oper.wp P o a w K Q))
  (t:OwedAll6 P l Q sat tl q a0 W (i+1) os):OwedAll6 P l Q sat tl q a0 W i (o::os):=
 gU b (fun a w c h2 h3=>⟨(h a w c h2 h3).1,fun K e=>((h a w c h2 h3).2 K fun v d=>e v w d fun _=>bR).out⟩) t
end
end
end Go.Proofs.YtfofaiommeckbaaGreat
