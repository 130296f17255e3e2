/- As OnceSt; the memory that is written begins at a block B, old or new; inside a round of a range over a function, too. -/
import Derived.Test.YtfofaiommeckbaaGreatZSliceReadsB
import Derived.OrdersIn
import Derived.RangeFuncCalls
import Derived.Test.YtfofaiommeckbaaGreatZSliceReads18
import Derived.Test.YtfofaiommeckbaaGreatZSliceReads16
open List renaming getD_eq_getElem?_getD → aH, getElem?_eq_getElem → aI, range → aF, length_set → cX, getElem?_set → cY, filterMap_cons → cH, filterMap_nil → cI, contains_cons → cJ, contains_nil → cK, all_cons → cZ, all_nil → dA, replicate → cS, length_append → aG, length_replicate → dB, append_assoc → bN, length_take → dC, take_of_length_le → bJ, range_succ → dD, length_drop → dE, size_toArray → dF
open Nat renaming le_trans → dG, lt_of_lt_of_le → dH, testBit_xor → dI, testBit_two_pow_sub_one → dJ, testBit_lt_two_pow → dK, pow_le_pow_right → aW, le_of_lt → dL, lt_or_ge → aB, add_mod → dM
open Array renaming all_toList → dN, getElem?_eq_none → aD, getElem?_eq_getElem → cA
open Int renaming natCast_emod → dO, natCast_add → cW
set_option linter.unusedVariables false
set_option maxRecDepth 100000
set_option maxHeartbeats 40000000
namespace Go.Proofs.YtfofaiommeckbaaGreat
open Go.RowKit
open ShaM
theorem Lu {A B:List Nat}(hl:A.length=B.length)(h:∀j,j<A.length→A.getD j 0=B.getD j 0):A=B:=by
 apply List.ext_getElem hl;intro i h1 h2;have:=h i h1;simpa [aH,aI h1,aI h2]using this
theorem Ot {P:Program} {f:FuncId} {args:Array Value} {w:World} {a n:Nat} {v:Value}
  (h:Calls P f args (w.drewN (a+n)) fun e w'=>e=.returned v∧w'=w.drewN (a+n)):Calls P f args (w.drewN (a+n)) fun e w''=>e=.returned v∧∃m,w''=w.drewN (a+m):=
 h.mono fun _ _ ⟨he,hm⟩=>⟨he,n,hm⟩
def OnlyG (g:Nat)(w w':World):Prop:=Below g w w'∧w.heap.size≤w'.heap.size∧∀i,i<w.heap.size→i≠g→w'.heap[i]? =w.heap[i]?
theorem OnlyG.of_below {g:Nat} {w w':World}(h:Below w.heap.size w w')(hg:g≤w.heap.size):OnlyG g w w':=⟨h.mono hg,h.size,fun i hi _=>h.block i hi⟩
theorem OnlyG.trans {g:Nat} {a b c:World}(h:OnlyG g a b)(k:OnlyG g b c):OnlyG g a c:=⟨h.1.trans k.1,dG h.2.1 k.2.1,fun i hi hne=>(k.2.2 i (dH hi h.2.1) hne).trans (h.2.2 i hi hne)⟩
theorem OnlyG.setCell {g:Nat} {w:World}(i:Nat)(u:Value):OnlyG g w (w.setCell ⟨g,i,none⟩ u):=⟨bR.setCell (p:=⟨g,i,none⟩) lR u,by simp,fun k hk hne=>Below.heap_setCell w ⟨g,i,none⟩ u k (fun e=>hne e)⟩
theorem Blk.only2 {w w':World} {g b:Nat} {t:TypeId} {cs:Array Value}(h:Blk w b t cs)(ho:OnlyG g w w')(hne:b≠g):Blk w' b t cs:=(ho.2.2 b h.lt hne).trans h
theorem OnlyG.setRow {w:World}(g:Nat)(cs:Array Value):OnlyG g w (w.setRow g cs):=⟨⟨rfl,rfl,rfl,by simp,fun i hi=>setRow_other w g i cs (by omega)⟩,by simp,fun i _ hne=>setRow_other w g i cs hne⟩
theorem OnlyG.drewN {g:Nat} {a b:World}(h:OnlyG g a b)(n:Nat):OnlyG g a (b.drewN n):=⟨Ac h.1 n,h.2.1,h.2.2⟩
theorem evs {a:Act} {s:Nat} {v:Value}(h:a.tmps[s]?.getD undef=v):a.eval (.tmp s)=v:=by
 first
 |exact h
 |simpa [Act.eval,Array.getD_eq_getD_getElem?]using h
theorem Uj {P:Program} {w:World} {o:Oper} {a:Act} {K:Act→World→Prop} {Q:Exit→Act→World→Prop} (d s:Operand) (dT sT:TypeId)
  (ho:o.op=.call {callee:=.builtin .copy,args:=#[d,s],argTypes:=#[dT,sT]}) (elem:TypeId) (g o' dLen dCap:Nat) (ad:Addr) (sLen sCap:Nat) (cur:Array Value) (t:TypeId) (cs:List Value)
  (hd:a.eval d=.slice (some ⟨g,o',none⟩) dLen dCap) (hs:a.eval s=.slice (some ad) sLen sCap) (hu:P.underlying dT=some (.slice elem)) (hsz:(P.info? elem).map (·.size)=some 1)
  (hg:w.heap[g]? =some (.cells cur t (0,0))) (hn:cs.length=Nat.min sLen dLen) (hsrc:∀j v,cs[j]? =some v→w.cell? (ad.add j)=some v) (hfit:o'+cs.length≤cur.size) (h1:∀v∈cs,v.oneCell'=true)
  (h:K (a.put o.dst (goInt cs.length)) (w.setRow g (cur.toList.take o'++cs++cur.toList.drop (o'+cs.length)).toArray)):o.wp P a w K Q:=by
 have hr:=run_copy_row (P:=P) w dT sT o.type elem g o' dLen dCap ad sLen sCap cur t cs hu hsz hg hn hsrc hfit h1;unfold Oper.wp execOp;simp only[ho,resolve,invoke,builtin,Sem.run_bind,Sem.run_pure,Result.andThen_ok,List.map_toArray,List.map_cons,List.map_nil,hd,hs,hr];exact h
theorem Zkt (x:Nat)(hx:x<4294967296):bits .xor .u32 IntKind.u32.max (x:Int)=((4294967295-x:Nat):Int):=by
 have e:IntKind.u32.max=((4294967295:Nat):Int):=rfl;have h:4294967295^^^x=4294967295-x:=by
  apply Nat.eq_of_testBit_eq;intro i
  by_cases hi:i<32
  ·rw[not_bit hx hi,dI,show(4294967295:Nat)=2^32-1 from rfl,dJ,decide_eq_true hi,Bool.true_xor]
  ·have h1:(4294967295-x).testBit i=false:=dK (dH (show 4294967295-x<2^32 by omega) (aW (by omega) (by omega)));have h2:x.testBit i=false:=dK (dH (show x<2^32 by omega) (aW (by omega) (by omega)));rw[h1,dI,h2,show(4294967295:Nat)=2^32-1 from rfl,dJ,decide_eq_false hi];rfl
 rw[e,Li _ _ (by omega) hx,h]
theorem OnlyG.far {g p:Nat} {w a b:World}(h:OnlyG g w a)(k:OnlyG p a b)(hp:w.heap.size≤p)(hg:g≤p):OnlyG g w b:=⟨h.1.trans (k.1.mono hg),dG h.2.1 k.2.1,fun i hi hne=>(k.2.2 i (dH hi h.2.1) (by omega)).trans (h.2.2 i hi hne)⟩
def Zal (S X:List Nat)(i:Nat):List Nat:=(aF 8).map fun j=>if j<i then(S.getD j 0+X.getD j 0)%4294967296 else S.getD j 0
theorem Gi (S X:List Nat)(i:Nat):(Zal S X i).length=8:=by simp[Zal]
theorem Lv (S X:List Nat)(i:Nat) {j:Nat}(h:j<8):(Zal S X i).getD j 0=if j<i then(S.getD j 0+X.getD j 0)%4294967296 else S.getD j 0:=by simp[Zal,aH,h]
theorem Zbi {S:List Nat}(X:List Nat)(hl:S.length=8):Zal S X 0=S:=by
 refine Lu (by rw[Gi,hl]) fun j hj=> ?_;rw[Gi]at hj;rw[Lv _ _ _ hj,if_neg (by omega)]
theorem Zbj (S X:List Nat) {i:Nat}(h:i<8):(Zal S X i).set i ((S.getD i 0+X.getD i 0)%4294967296)=Zal S X (i+1):=by
 refine Lu (by rw[cX,Gi,Gi]) fun j hj=> ?_;rw[cX,Gi]at hj;rw[Lv _ _ _ hj,aH,cY]
 by_cases e:i=j
 ·subst e;rw[if_pos rfl,if_pos (by rw[Gi];exact hj),if_pos (by omega)];rfl
 ·rw[if_neg e,←aH,Lv _ _ _ hj]
  by_cases h1:j<i
  ·rw[if_pos h1,if_pos (by omega)]
  ·rw[if_neg h1,if_neg (by omega)]
theorem Zfb (S B:List Nat):Zal S (rndsN (wL B 64) S 64) 8=stepN S B:=by
 unfold Zal stepN;refine List.map_congr_left fun j hj=> ?_;rw[if_pos (List.mem_range.1 hj)]
theorem Zfc (g:Nat)(v:Value)(S B:List Nat)(w:World)(hg:Blk w g 244 (Gu S))(hS:∀x∈S,x<4294967296)(hl:S.length=8)(h:Rd w v (bvs B))(hB:∀x∈B,x<256)(hlb:B.length=64):
  Calls Tryz.prog 233 #[.pointer (some ⟨g,0,none⟩),v] w fun e w'=>e=.returned (.tuple #[])∧Blk w' g 244 (Gu (stepN S B))∧OnlyG g w w':=by
 have hz:∀w,(zeroValue 272).run Tryz.prog w=.ok (.agg Z64) w:=fun _=>(by kernel_rfl);have hz8:∀w,(zeroValue 244).run Tryz.prog w=.ok (.agg Z8a) w:=fun _=>(by kernel_rfl);have WD:=Zbg v B w h hB hlb;have CN:=fun(W:World)=>Yz W;have hwl:=wL_lt hB 64;have hwn:=wL_len B 64;obtain⟨W,hW⟩:=eX (wL B 64);rw[←hW]at WD hwl hwn;obtain⟨WA,hWA⟩:=eX (Gu W);obtain⟨SA,hSA⟩:=eX (Gu S);obtain⟨KA,hKA⟩:=eX KLa;rw[←hWA]at WD;rw[←hSA]at hg;simp only[←hKA]at CN;have IW:=Hd (show(Tryz.prog.info? 272).map (·.size)=some WA.size by rw[hWA];exact Wt W hwn);have IK:=Hd (show(Tryz.prog.info? 272).map (·.size)=some KA.size by rw[hKA,KLa];exact Wt KL rfl);have IS:=Hd (show(Tryz.prog.info? 244).map (·.size)=some SA.size by rw[hSA];exact Zfa S hl);have ZW:=Hd (show Z64.size=WA.size by rw[hWA];unfold Z64;rw[Bm,Bm,hwn];rfl);have ZK:=Hd (show Z64.size=KA.size by rw[hKA];unfold Z64 KLa;rw[Bm,Bm];rfl);have ZS:=Hd (show Z8a.size=SA.size by rw[hSA];unfold Z8a;rw[Bm,Bm,hl];rfl);have OW:=Hd (show WA.toList.all (·.oneCell')=true by rw[hWA,dN];exact Fe W);have OK:=Hd (show KA.toList.all (·.oneCell')=true by rw[hKA,dN];exact Fe KL);have OS:=Hd (show SA.toList.all (·.oneCell')=true by rw[hSA,dN];exact Fe S);have HWD:=Hd WD;have HCN:=Hd CN;have HG:=Hd hg;have EW:=Hd hW;have EWA:=Hd hWA;have ESA:=Hd hSA;have EKA:=Hd hKA;have HSL:=Hd hS;have HLN:=Hd hl;have HWL:=Hd hwl;have HWN:=Hd hwn;have hv:∃a b c,v=.slice a b c:=(by obtain⟨a,c,e,_⟩:=h;exact⟨a,_,c,e⟩);obtain⟨a1,a2,a3,rfl⟩:=hv;clear WD CN hwl hwn hW hWA hSA hKA h hB hlb hg hS hl;go_enter Tryz.func233,Tryz.ntmps233;go_wp2_with fail;refine(HWD.out).mono ?_;rintro e w1 ⟨rfl,hb1⟩;go_wp2_with fail;refine(HCN.out w1).mono ?_;rintro e w2 ⟨rfl,hb2⟩;have HB2:=Hd (hb1.trans (hb2.mono hb1.size));clear hb1 hb2;have hgl:g<w.heap.size:=HG.out.lt;have hw2:w.heap.size≤w2.heap.size:=HB2.out.size;have K0:=Hd (show Blk ((w2.alloc (.cells Z64 272)).alloc (.cells Z64 272)) w2.heap.size 272 Z64 from(Blk.new w2 _ _).alloc _);have K1:=Hd (show Blk ((w2.alloc (.cells Z64 272)).alloc (.cells Z64 272)) (w2.heap.size+1) 272 Z64 by have:=Blk.new (w2.alloc (.cells Z64 272)) 272 Z64;simpa using this);have KB:=Hd (show Below w.heap.size w ((w2.alloc (.cells Z64 272)).alloc (.cells Z64 272))from(HB2.out.alloc hw2 _).alloc (by simp;omega) _);go_wp2_with (refine Aa rfl 272 (.tmp 4) (.tmp 14) rfl w2.heap.size WA rfl rfl 272 Z64 K0.out IW.out ZW.out OW.out ?_);intro w3 m0 mb mo msz;have J0:=Hd m0;have J1:=Hd ((mo (w2.heap.size+1) (by omega)).trans K1.out:Blk w3 (w2.heap.size+1) 272 Z64);have JB:=Hd (KB.out.trans ((mb w2.heap.size lR).mono hw2));have hs3:w3.heap.size=w2.heap.size+2:=(by omega);clear m0 mb mo msz K0 K1 KB;go_wp2_with (refine Aa rfl 272 (.tmp 5) (.tmp 15) rfl (w2.heap.size+1) KA rfl rfl 272 Z64 J1.out IK.out ZK.out OK.out ?_);intro w4 m0 mb mo msz;have L1:=Hd m0;have L0:=Hd ((mo w2.heap.size (by omega)).trans J0.out:Blk w4 w2.heap.size 272 WA);have LB:=Hd (JB.out.trans ((mb (w2.heap.size+1) lR).mono (by omega)));have hs4:w4.heap.size=w2.heap.size+2:=(by omega);have LG:=Hd (HG.out.below LB.out hgl);obtain⟨p0,hp0⟩:=eX w2.heap.size;obtain⟨p1,hp1⟩:=eX (w2.heap.size+1);obtain⟨p2,hp2⟩:=eX (w2.heap.size+2);rw[←hp0]at L0;rw[←hp1]at L1;have N2:=Hd (show Blk (w4.alloc (.cells Z8a 244)) p2 244 Z8a by rw[hp2,←hs4];exact Blk.new w4 _ _);have NB:=Hd (LB.out.alloc (by omega) (.cells Z8a 244));have q0:p0<p2:=(by omega);have q1:p1<p2:=(by omega);have q2:g<p0:=(by omega);have q3:p0≠p1:=(by omega);have Q:=Hd (show w.heap.size≤p2 by omega);have HP0:=Hd hp0;have HP1:=Hd hp1;have HP2:=Hd hp2;rw[←hp1,←hp0];clear m0 mb mo msz J0 J1 JB hs3 hw2;clear hp0 hp1;go_wp2_with (first|(refine wpList_load_row rfl 244 (.tmp 17) rfl g rfl 244 SA (0,0) _ LG.out Tryz.underlying244 rfl IS.out ?_)|(refine Aa rfl 244 (.tmp 6) (.tmp 18) rfl (w2.heap.size+2) SA rfl rfl 244 Z8a (by rw[←HP2.out];exact N2.out) IS.out ZS.out OS.out ?_));intro w5 m0 mb mo msz;rw[←HP2.out]at m0 mb mo;rw[←HP2.out];have M2:=Hd (show Blk w5 p2 244 (Gu (rndsN W S 0)) by rw[rndsN,←ESA.out];exact m0);have MB:=mb p2 lR;have hs5:p2<w5.heap.size:=m0.lt;have L0':=((show Blk w4 p0 272 WA from L0.out).alloc (.cells Z8a 244)).below MB q0;have L1':=((show Blk w4 p1 272 KA from L1.out).alloc (.cells Z8a 244)).below MB q1;have LG':=((show Blk w4 g 244 SA from LG.out).alloc (.cells Z8a 244)).below MB (by omega);rw[EWA.out]at L0';rw[EKA.out,KLa]at L1';rw[ESA.out]at LG';have M0:=Hd L0';have M1:=Hd L1';have MG:=Hd LG';have MBB:=Hd (NB.out.trans (MB.mono Q.out));clear m0 mb mo msz MB L0' L1' LG' L0 L1 LG N2 NB LB;have q4:p0≠p2:=(by omega);have q5:p1≠p2:=(by omega);have q6:g≠p2:=(by omega);clear hs4 hp2 HP0 HP1 HP2 HB2 HWD HCN HG IW IK IS ZW ZK ZS OW OK OS;go_wp2_with fail
 go_loopg [19] 64 (fun q iv wr=>∃t:Nat,t+q=64∧iv=.int .i64 (t:Nat)∧Blk wr p2 244 (Gu (rndsN W S t))∧OnlyG p2 w5 wr)
 case atStart=>exact⟨0,rfl,rfl,M2.out,OnlyG.of_below bR (by omega)⟩
 case round=>
  obtain⟨t,ht,rfl,k2,ho⟩:=hrel;have HT:=Hd ht;have HK2:=Hd k2;have HO:=Hd ho;obtain⟨V,hV⟩:=eX (rndsN W S t);have hvo:=rndsN_ok (W:=W) HLN.out HSL.out t;rw[←hV]at hvo k2;have HV:=Hd hV
  by_cases hlt:t<64
  ·have hlt':decide ((t:Int)<64)=true:=(by rw[decide_eq_true_iff];omega);have XC:=fun(i:Nat) (hi:i<8)=>(show wr.cell? ⟨p2,i,none⟩=some (.int .u32 ((V.getD i 0:Nat):Int)) by rw[k2.cell i,Ei (by rw[hvo.1];exact hi)]);have XL:=fun(i:Nat)=>getD_lt32 hvo.2 i;have ck:=(show wr.cell? ⟨p1,t,none⟩=some (.int .u32 ((KL.getD t 0:Nat):Int)) by rw[(M1.out.only2 ho q5).cell t,Ei (by rw[KL_len];exact hlt)]);have cw:=(show wr.cell? ⟨p0,t,none⟩=some (.int .u32 ((W.getD t 0:Nat):Int)) by rw[(M0.out.only2 ho q4).cell t,Ei (by rw[HWN.out];exact hlt)]);have hkl:=getD_lt32 KL_lt t;have hwl:=getD_lt32 HWL.out t;have x0:=XC 0 (by omega);have x1:=XC 1 (by omega);have x2:=XC 2 (by omega);have x3:=XC 3 (by omega);have x4:=XC 4 (by omega);have x5:=XC 5 (by omega);have x6:=XC 6 (by omega);have x7:=XC 7 (by omega);have b0:=XL 0;have b1:=XL 1;have b2:=XL 2;have b3:=XL 3;have b4:=XL 4;have b5:=XL 5;have b6:=XL 6;have b7:=XL 7;obtain⟨v0,e0⟩:=eX (V.getD 0 0);obtain⟨v1,e1⟩:=eX (V.getD 1 0);obtain⟨v2,e2⟩:=eX (V.getD 2 0);obtain⟨v3,e3⟩:=eX (V.getD 3 0);obtain⟨v4,e4⟩:=eX (V.getD 4 0);obtain⟨v5,e5⟩:=eX (V.getD 5 0);obtain⟨v6,e6⟩:=eX (V.getD 6 0);obtain⟨v7,e7⟩:=eX (V.getD 7 0);obtain⟨kk,ekk⟩:=eX (KL.getD t 0);obtain⟨ww,eww⟩:=eX (W.getD t 0);rw[←e0]at x0 b0;rw[←e1]at x1 b1;rw[←e2]at x2 b2;rw[←e3]at x3 b3;rw[←e4]at x4 b4;rw[←e5]at x5 b5;rw[←e6]at x6 b6;rw[←e7]at x7 b7;rw[←ekk]at ck hkl;rw[←eww]at cw hwl;have HVL:=Hd (show V=[v0,v1,v2,v3,v4,v5,v6,v7]from by
    refine Lu (by rw[hvo.1];rfl) fun j hj=> ?_;rw[hvo.1]at hj;rcases(show j=0∨j=1∨j=2∨j=3∨j=4∨j=5∨j=6∨j=7 by omega)with rfl|rfl|rfl|rfl|rfl|rfl|rfl|rfl
    ·exact e0.symm
    ·exact e1.symm
    ·exact e2.symm
    ·exact e3.symm
    ·exact e4.symm
    ·exact e5.symm
    ·exact e6.symm
    ·exact e7.symm)
   have HEK:=Hd ekk;have HEW:=Hd eww;clear e0 e1 e2 e3 e4 e5 e6 e7 ekk eww XC XL hvo hV k2 ho ht;obtain⟨r1,hr1⟩:=eX (rot v4 6);obtain⟨r2,hr2⟩:=eX (rot v4 11);obtain⟨r3,hr3⟩:=eX (rot v4 25);obtain⟨r4,hr4⟩:=eX (rot v0 2);obtain⟨r5,hr5⟩:=eX (rot v0 13);obtain⟨r6,hr6⟩:=eX (rot v0 22);have SF:=fun(x n r:Nat) (z:Int) (hz:z=(n:Int)) (hx:x<4294967296) (h1:1≤n) (h2:n≤31) (hr:r=rot x n) (W':World)=>(show Calls Tryz.prog 273 #[.int .u32 (x:Nat),.int .i64 z] W' fun e w'=>e=.returned (.int .u32 (r:Nat))∧w'=W' by rw[hz,hr];exact Fp x n hx h1 h2 W');have R1:=Hd (SF v4 6 r1 6 rfl b4 (by omega) (by omega) hr1);have R2:=Hd (SF v4 11 r2 11 rfl b4 (by omega) (by omega) hr2);have R3:=Hd (SF v4 25 r3 25 rfl b4 (by omega) (by omega) hr3);have R4:=Hd (SF v0 2 r4 2 rfl b0 (by omega) (by omega) hr4);have R5:=Hd (SF v0 13 r5 13 rfl b0 (by omega) (by omega) hr5);have R6:=Hd (SF v0 22 r6 22 rfl b0 (by omega) (by omega) hr6);have d1:r1<4294967296:=(by rw[hr1];exact rot_lt b4 (by omega));have d2:r2<4294967296:=(by rw[hr2];exact rot_lt b4 (by omega));have d3:r3<4294967296:=(by rw[hr3];exact rot_lt b4 (by omega));have d4:r4<4294967296:=(by rw[hr4];exact rot_lt b0 (by omega));have d5:r5<4294967296:=(by rw[hr5];exact rot_lt b0 (by omega));have d6:r6<4294967296:=(by rw[hr6];exact rot_lt b0 (by omega));have X1:=Li r1 r2 d1 d2;have X2:=Li (r1^^^r2) r3 (xor_lt32 d1 d2) d3;have X3:=Li r4 r5 d4 d5;have X4:=Li (r4^^^r5) r6 (xor_lt32 d4 d5) d6;obtain⟨z1,hz1⟩:=eX (r1^^^r2);obtain⟨z3,hz3⟩:=eX (r4^^^r5);rw[←hz1]at X1 X2;rw[←hz3]at X3 X4;have HE1:=Hd (show z1^^^r3=S1N v4 by rw[hz1,hr1,hr2,hr3];rfl);have HE2:=Hd (show z3^^^r6=S0N v0 by rw[hz3,hr4,hr5,hr6];rfl);rw[HE1.out]at X2;rw[HE2.out]at X4;have A1:=Zbe v4 v5 b4 b5;have A2:=Zbe (4294967295-v4) v6 (by omega) b6;have A3:=Li (v4&&&v5) ((4294967295-v4)&&&v6) (and_lt32 b4) (and_lt32 (by omega));have A4:=Zbe v0 v1 b0 b1;have A5:=Zbe v0 v2 b0 b2;have A6:=Zbe v1 v2 b1 b2;have A7:=Li (v0&&&v1) (v0&&&v2) (and_lt32 b0) (and_lt32 b0);have A8:=Li ((v0&&&v1)^^^(v0&&&v2)) (v1&&&v2) (xor_lt32 (and_lt32 b0) (and_lt32 b0)) (and_lt32 b1);have HC1:=Hd (show(v4&&&v5)^^^((4294967295-v4)&&&v6)=chN v4 v5 v6 from rfl);have HC2:=Hd (show((v0&&&v1)^^^(v0&&&v2))^^^(v1&&&v2)=majN v0 v1 v2 from rfl);rw[HC1.out]at A3;rw[HC2.out]at A8;have hch:=chN_lt (f:=v5) (g:=v6) b4;have hma:=majN_lt (c:=v2) b0 b1;have hsg:=S1N_lt b4;have hs0:=S0N_lt b0;obtain⟨n4,hn4⟩:=eX (4294967295-v4);obtain⟨y1,hy1⟩:=eX (v4&&&v5);obtain⟨y3,hy3⟩:=eX (v0&&&v1);obtain⟨y4,hy4⟩:=eX (v0&&&v2);obtain⟨y5,hy5⟩:=eX (v1&&&v2);rw[←hn4]at A2 A3;obtain⟨y2,hy2⟩:=eX (n4&&&v6);rw[←hy2]at A2 A3;rw[←hy1]at A1 A3;rw[←hy3]at A4 A7 A8;rw[←hy4]at A5 A7 A8;rw[←hy5]at A6 A8;obtain⟨y6,hy6⟩:=eX (y3^^^y4);rw[←hy6]at A7 A8;obtain⟨ch,hchE⟩:=eX (chN v4 v5 v6);obtain⟨ma,hmaE⟩:=eX (majN v0 v1 v2);obtain⟨sg,hsgE⟩:=eX (S1N v4);obtain⟨s0,hs0E⟩:=eX (S0N v0);rw[←hchE]at A3 hch;rw[←hmaE]at A8 hma;rw[←hsgE]at X2 hsg;rw[←hs0E]at X4 hs0;have HCH:=Hd hchE;have HMA:=Hd hmaE;have HSG:=Hd hsgE;have HS0:=Hd hs0E;have A0:=Zkt v4 b4;rw[←hn4]at A0;clear hr1 hr2 hr3 hr4 hr5 hr6 hz1 hz3 hn4 hy1 hy2 hy3 hy4 hy5 hy6 hchE hmaE hsgE hs0E SF;go_wp2_with fail
   go_quiet (fail)
   go_wp2_with fail
   go_quiet ((go_at_call 273;first|with_reducible exact Ot (R1.out _)|with_reducible exact Ot (R2.out _)|with_reducible exact Ot (R3.out _)))
   go_wp2_with fail
   go_quiet ((go_at_call 273;first|with_reducible exact Ot (R4.out _)|with_reducible exact Ot (R5.out _)|with_reducible exact Ot (R6.out _)))
   go_wp2_with fail
   rename_i m1 m2 KX KH
   obtain⟨w8,hw8⟩:=eX ((wr.drewN (m1+m2)).drewN nq);rw[←hw8];have K8:=Hd (show Blk w8 p2 244 (Gu [v0,v1,v2,v3,v4,v5,v6,v7]) by
    rw[hw8,←HVL.out,HV.out];exact(HK2.out.drewN _).drewN _)
   have O8:=Hd (show OnlyG p2 w5 w8 by rw[hw8];exact(HO.out.drewN _).drewN _);clear hw8 x0 x1 x2 x3 x4 x5 x6 x7 ck cw;obtain⟨t1,ht1⟩:∃n:Nat,n=(v7+sg+ch+kk+ww)%4294967296:=⟨_,rfl⟩;obtain⟨t2,ht2⟩:∃n:Nat,n=(s0+ma)%4294967296:=⟨_,rfl⟩;have E1:((v7:Int)+(sg:Int)+(ch:Int)+(kk:Int)+(ww:Int))%4294967296=(t1:Int):=(by rw[ht1,dO,cW,cW,cW,cW];rfl);have E2:((s0:Int)+(ma:Int))%4294967296=(t2:Int):=(by rw[ht2,dO,cW];rfl);have HE1':=Hd ht1;have HE2':=Hd ht2;rw[E1,E2];clear ht1 ht2 E1 E2;refine Ay [fun v _=>v=.slice (some ⟨p2,1,none⟩) 7 7,fun v _=>v=.slice (some ⟨p2,0,none⟩) 7 8,fun _ w'=>Blk w' p2 244 (Gu [v0,v0,v1,v2,v3,v4,v5,v6])∧OnlyG p2 w5 w']
    [false,false,true] (fun x=>Below w8.heap.size w8 x) (fun x y=>Below x.heap.size x y) none 2 (by kernel_rfl) ?_ (⟨rfl,rfl,rfl,lR,fun _ _=>rfl⟩) (fun x y _ h=>h) (fun x y hx hs=>hx.trans (hs.mono hx.size)) (by kernel_rfl) (by kernel_rfl) (by kernel_rfl) ?_ ?_
   ·exact Ad (fun _ _ _ h _ _=>h) (Ad (fun _ _ _ h _ _=>h) (Ad (fun _ _ _ _ _ _=>trivial) Aj))
   ·refine .cons (Lq ?_) (.cons (Lq ?_) (.cons (Lq ?_) (.nil)))
    ·intro a wx hbx hq ho hf;have hbx:Below w8.heap.size w8 wx:=hbx;clear hq;refine⟨rfl,?_⟩;intro K hK;have e0:a.tmps[6]?.getD undef=.pointer (some ⟨p2,0,none⟩):=ho 6 (by kernel_rfl);go_simp;exact hK _ _ rfl (fun _=>Ab rfl bR)
    ·intro a wx hbx hq ho hf;have hbx:Below w8.heap.size w8 wx:=hbx;clear hq;refine⟨rfl,?_⟩;intro K hK;have e0:a.tmps[6]?.getD undef=.pointer (some ⟨p2,0,none⟩):=ho 6 (by kernel_rfl);go_simp;exact hK _ _ rfl (fun _=>Ab rfl bR)
    ·intro a wx hbx hq ho hf;have hbx:Below w8.heap.size w8 wx:=hbx;clear hq;refine⟨rfl,?_⟩;intro K hK;have e0:a.tmps[80]?.getD undef=.slice (some ⟨p2,1,none⟩) 7 7:=hf.1;have e1:a.tmps[81]?.getD undef=.slice (some ⟨p2,0,none⟩) 7 8:=hf.2.1;have hB8:Blk wx p2 244 (Gu [v0,v1,v2,v3,v4,v5,v6,v7]):=K8.out.below hbx K8.out.lt;have hO8:OnlyG p2 w5 wx:=O8.out.trans (OnlyG.of_below hbx (dL K8.out.lt));refine Uj (.tmp 80) (.tmp 81) 276 276 rfl 231 p2 1 7 7 ⟨p2,0,none⟩ 7 8 _ 244 (Zek [v0,v1,v2,v3,v4,v5,v6]) (evs e0) (evs e1) Tryz.underlying276 (by kernel_rfl) hB8 rfl ?_ (by rw[Ze9,Bm];exact Nat.le_refl 8) ?_ ?_
     ·intro j v hv;have hj:j<7:=by
       rcases aB j 7 with h|h
       ·exact h
       ·rw[List.getElem?_eq_none (by simp[Zek];omega)]at hv;cases hv
      rw[Addr.add_lit,Nat.zero_add,hB8.cell j,←hv];rcases(show j=0∨j=1∨j=2∨j=3∨j=4∨j=5∨j=6 by omega)with rfl|rfl|rfl|rfl|rfl|rfl|rfl<;>rfl
     ·intro v hv;simp only[Zek,List.mem_map]at hv;obtain⟨n,_,rfl⟩:=hv
      rfl
     ·exact hK _ _ ⟨setRow_heap wx p2 _ _ _ _ hB8,hO8.trans (OnlyG.setRow p2 _)⟩ (fun hne=>absurd rfl hne)
   ·rintro f w9 hfin;have S9:Blk w9 p2 244 (Gu [v0,v0,v1,v2,v3,v4,v5,v6])∧OnlyG p2 w5 w9:=hfin.2.2.1;clear hfin;simp only[Aw,Bl,Ga,cH,cI,cJ,cK,Nat.reduceBEq,Nat.reduceAdd,Bool.or_false,Bool.or_true,cond_true,cond_false];have HS9:=Hd S9;have y4':w9.cell? ⟨p2,4,none⟩=some (.int .u32 (v3:Nat)):=S9.1.cell 4;have y0':w9.cell? ⟨p2,0,none⟩=some (.int .u32 (v0:Nat)):=S9.1.cell 0;have f4:=S9.1.frozen 4;have f0:=S9.1.frozen 0;clear S9;go_wp2_with fail;go_roundg (gk-1);case measure=>have:=HT.out;omega
    case rel=>
     refine⟨t+1,by have:=HT.out;omega,by go_num,?_,(HS9.out.2.trans (OnlyG.setCell 4 _)).trans (OnlyG.setCell 0 _)⟩;have c1:((v3:Int)+(t1:Int))%4294967296=(((v3+t1)%4294967296:Nat):Int):=(by rw[dO,cW];rfl);have c2:((t1:Int)+(t2:Int))%4294967296=(((t1+t2)%4294967296:Nat):Int):=(by rw[dO,cW];rfl);have hb:=(HS9.out.1.set 4 (.int .u32 (((v3+t1)%4294967296:Nat):Int))).set 0 (.int .u32 (((t1+t2)%4294967296:Nat):Int));rw[Jj,Jj]at hb;have hr:rndsN W S (t+1)=([v0,v0,v1,v2,v3,v4,v5,v6].set 4 ((v3+t1)%4294967296)).set 0 ((t1+t2)%4294967296):=by
      rw[rndsN,←HV.out,HVL.out,←HEK.out,←HEW.out,HE1'.out,HE2'.out,HCH.out,HMA.out,HSG.out,HS0.out];show [_,_,_,_,_,_,_,_]=[_,_,_,_,_,_,_,_]
      congr 1
      ·show(_+_)%_=_;exact dM _ _ _
      ·congr 1;congr 1;congr 1
       congr 1
       show(v3+_)%_=_;rw[dM,dM v3 (_%4294967296),Nat.mod_mod]
       rfl
     rw[hr];first
     |exact hb
     |(rw[c1,c2];exact hb)
  ·obtain rfl:t=64:=(by omega);have hX:=rndsN_ok (W:=W) HLN.out HSL.out 64;have HADD:=Hd (show Zal S (rndsN W S 64) 8=stepN S B by rw[EW.out];exact Zfb S B);obtain⟨X,hXE⟩:=eX (rndsN W S 64);rw[hV]at k2;rw[←hXE]at hX k2 HADD;have HXO:=Hd hX;have HP2:=Hd k2;have HGG:=Hd (show Blk wr g 244 (Gu (Zal S X 0)) by rw[Zbi X HLN.out];exact MG.out.only2 ho q6);have HOW:=Hd (OnlyG.far (OnlyG.of_below MBB.out (dL hgl)) ho Q.out (by omega));clear ht k2 ho hX hXE HK2 hlt HV hV HO HT M0 M1 M2 MG MBB HWL HWN EW EWA ESA EKA;go_wp2_with fail;obtain⟨g1,rfl⟩:=eX gk;obtain⟨w6,rfl⟩:=eX wr
   go_loopg [93] 8 (fun q iv wr=>∃i:Nat,i+q=8∧iv=.int .i64 (i:Nat)∧Blk wr p2 244 (Gu X)∧Blk wr g 244 (Gu (Zal S X i))∧OnlyG g w6 wr)
   case atStart=>exact⟨0,rfl,rfl,HP2.out,HGG.out,OnlyG.of_below bR (dL HGG.out.lt)⟩
   case round=>
    obtain⟨i,hi,rfl,k2,kg,ho⟩:=hrel;have HI:=Hd hi;have J2:=Hd k2;have JG:=Hd kg;have HO:=Hd ho
    by_cases hlt:i<8
    ·have hlt':decide ((i:Int)<8)=true:=(by rw[decide_eq_true_iff];omega);have x1:wr.cell? ⟨p2,i,none⟩=some (.int .u32 ((X.getD i 0:Nat):Int)):=(by rw[k2.cell i,Ei (by rw[HXO.out.1];exact hlt)]);have x2:wr.cell? ⟨g,i,none⟩=some (.int .u32 ((S.getD i 0:Nat):Int)):=(by rw[kg.cell i,Ei (by rw[Gi];exact hlt),Lv _ _ _ hlt,if_neg (by omega)]);have f1:=kg.frozen i;have b1:=getD_lt32 HXO.out.2 i;have b2:=getD_lt32 HSL.out i;obtain⟨a,ha⟩:=eX (X.getD i 0);obtain⟨b,hb⟩:=eX (S.getD i 0);rw[←ha]at x1 b1;rw[←hb]at x2 b2;have HST:=Hd (Zbj S X hlt);have HA:=Hd ha;have HB':=Hd hb;clear ha hb hi k2 kg ho;go_wp2_with fail
     go_region
     go_wp2_with fail;go_roundg (gk-1);case measure=>have:=HI.out;omega
     case rel=>
      refine⟨i+1,by have:=HI.out;omega,by go_num,?_,?_,?_⟩
      ·exact(J2.out.far (p:=⟨g,i,none⟩) (fun e=>q6 e.symm) _).drewN 1
      ·have c1:((b:Int)+(a:Int))%4294967296=(((S.getD i 0+X.getD i 0)%4294967296:Nat):Int):=(by rw[←HA.out,←HB'.out,dO,cW];rfl);rw[c1,←HST.out,←Jj];exact(JG.out.set i _).drewN 1
      ·exact(HO.out.trans (OnlyG.setCell i _)).drewN 1
    ·obtain rfl:i=8:=(by omega);rw[HADD.out]at kg;have HKG:=Hd kg;clear hi k2 kg ho;go_wp2_with fail
     go_end0
     exact⟨rfl,HKG.out,HOW.out.trans HO.out⟩
end Go.Proofs.YtfofaiommeckbaaGreat
namespace Go.Proofs.YtfofaiommeckbaaGreat
open Go.RowKit WireM
theorem Own.onlyG {w w':World} {B g:Nat} {e:TypeId} {v:Value} {xs:List Value}(h:Own w B e v xs)(ho:OnlyG g w w')(hg:g<B):Own w' B e v xs:=by
 obtain⟨h1,h2|⟨g',cp,cur,e',hb,hh,rest⟩⟩:=h
 ·exact⟨h1,.inl h2⟩
 ·refine⟨h1,.inr ⟨g',cp,cur,e',hb,?_,rest⟩⟩;have hl:g'<w.heap.size:=by
   rcases aB g' w.heap.size with h|h
   ·exact h
   ·rw[aD h]at hh;cases hh
  rw[ho.2.2 g' hl (by omega)];exact hh
theorem Fh (g:Nat):∀(vs:List Value) (o:Nat) (w:World),OnlyG g w (w.setCells g o vs)
 |[],o,w=>⟨bR,lR,fun _ _ _=>rfl⟩
 |v::vs,o,w=>by
  rw[World.setCells];exact(OnlyG.setCell o v).trans (Fh g vs (o+1) _)
theorem Own.setLow {w:World} {B:Nat} {e:TypeId} {v:Value} {xs:List Value}(h:Own w B e v xs) {p:Addr}(hp:p.block<B)(u:Value):Own (w.setCell p u) B e v xs:=by
 refine h.setOther (fun hv=> ?_) u;rcases h.2 with⟨rfl,_⟩|⟨g,cp,cur,rfl,hg,_⟩
 ·simp[Value.ownBlock]at hv
 ·simp[Value.ownBlock]at hv;omega
theorem Blk.there {w:World} {g:Nat} {t:TypeId} {cs:Array Value}(h:Blk w g t cs)(o n:Nat)(hn:o+n≤cs.size):w.there g o n:=by
 intro j hj;refine⟨?_,h.frozen _⟩;rw[h.cell,cA (by omega)]
 rfl
def NodeO (w:World)(B:Nat)(d:NodeD)(c:Array Value):Prop:=
 ∃x0 x1 x2 x3 x4 u0 u1 u2,c=#[.int .u8 (d.kind:Nat),x0,x1,x2,.int .u8 (d.leaf.source:Nat),x3,x4,u0,u1,u2]∧
  Own w B 5 x0 (bvs d.leaf.box)∧Own w B 5 x1 (bvs d.leaf.sign)∧Own w B 5 x2 (bvs d.leaf.ident)∧Own w B 5 x3 (bvs d.leaf.par)∧Own w B 5 x4 (bvs d.leaf.sig)∧
  Own w B 5 u0 (bvs d.par.box)∧Own w B 5 u1 (bvs d.par.hash)∧Own w B 3 u2 (ivs .i64 d.par.late)
theorem NodeO.below {w w':World} {B B':Nat} {d:NodeD} {c:Array Value}(h:NodeO w B d c)(hb:Below B' w w')(hB:w.heap.size≤B'):NodeO w' B d c:=by
 obtain⟨x0,x1,x2,x3,x4,u0,u1,u2,rfl,h0,h1,h2,h3,h4,h5,h6,h7⟩:=h;exact⟨x0,x1,x2,x3,x4,u0,u1,u2,rfl,h0.below hb hB,h1.below hb hB,h2.below hb hB,h3.below hb hB,h4.below hb hB,h5.below hb hB,h6.below hb hB,h7.below hb hB⟩
theorem NodeO.mono {w:World} {B B':Nat} {d:NodeD} {c:Array Value}(h:NodeO w B d c)(hB:B'≤B):NodeO w B' d c:=by
 obtain⟨x0,x1,x2,x3,x4,u0,u1,u2,rfl,h0,h1,h2,h3,h4,h5,h6,h7⟩:=h;exact⟨x0,x1,x2,x3,x4,u0,u1,u2,rfl,h0.mono hB,h1.mono hB,h2.mono hB,h3.mono hB,h4.mono hB,h5.mono hB,h6.mono hB,h7.mono hB⟩
theorem NodeO.c {w:World} {B:Nat} {d:NodeD} {c:Array Value}(h:NodeO w B d c):NodeC w d c:=by
 obtain⟨x0,x1,x2,x3,x4,u0,u1,u2,rfl,h0,h1,h2,h3,h4,h5,h6,h7⟩:=h;have g:∀ {v:Value} {e:TypeId} {xs:List Value},Own w B e v xs→∃a c,v=.slice a xs.length c:=fun h=>(by obtain⟨a,c,e,_⟩:=h.rd;exact⟨a,c,e⟩);obtain⟨a0,c0,rfl⟩:=g h0;obtain⟨a1,c1,rfl⟩:=g h1;obtain⟨a2,c2,rfl⟩:=g h2;obtain⟨a3,c3,rfl⟩:=g h3;obtain⟨a4,c4,rfl⟩:=g h4;obtain⟨a5,c5,rfl⟩:=g h5;obtain⟨a6,c6,rfl⟩:=g h6;obtain⟨a7,c7,rfl⟩:=g h7;have e7:(ivs .i64 d.par.late).length=d.par.late.length:=Fa _ _;simp only[bvs_len,e7]at h0 h1 h2 h3 h4 h5 h6 h7⊢;exact⟨a0,c0,a1,c1,a2,c2,a3,c3,a4,c4,a5,c5,a6,c6,a7,c7,rfl,h0.rd,h1.rd,h2.rd,h3.rd,h4.rd,h5.rd,h6.rd,h7.rd⟩
theorem Kv (d:NodeD)(c:Array Value)(w:World)(h:NodeC w d c)(hs:Cb d=true):
  Calls Tryz.prog 73 #[.agg c] w fun e w'=>∃c',e=.returned (.agg c')∧NodeO w' w.heap.size d c'∧Below w.heap.size w w':=by
 have hsm:=of_decide_eq_true hs;obtain⟨a1,c1,a2,c2,a3,c3,a4,c4,a5,c5,b1,e1,b2,e2,b3,e3,rfl,h1,h2,h3,h4,h5,h6,h7,h8⟩:=h;have CL:=fun(W:World) (hw:Below w.heap.size w W)=>Sh d.leaf #[.slice a1 d.leaf.box.length c1,.slice a2 d.leaf.sign.length c2,.slice a3 d.leaf.ident.length c3,.int .u8 (d.leaf.source:Nat),.slice a4 d.leaf.par.length c4,.slice a5 d.leaf.sig.length c5] W ⟨a1,c1,a2,c2,a3,c3,a4,c4,a5,c5,rfl,h1.below hw lR,h2.below hw lR,h3.below hw lR,h4.below hw lR,h5.below hw lR⟩ (by omega);have C1:=fun(W:World) (hw:Below w.heap.size w W)=>Cr _ d.par.box W (h6.below hw lR) (by omega);have C2:=fun(W:World) (hw:Below w.heap.size w W)=>Cr _ d.par.hash W (h7.below hw lR) (by omega);have C3:=fun(W:World) (hw:Below w.heap.size w W)=>Yx _ d.par.late W (h8.below hw lR) (by omega);obtain⟨kd,hkd⟩:=eX d.kind;obtain⟨l1,hl1⟩:=eX d.leaf.box.length;obtain⟨l2,hl2⟩:=eX d.leaf.sign.length;obtain⟨l3,hl3⟩:=eX d.leaf.ident.length;obtain⟨l4,hl4⟩:=eX d.leaf.par.length;obtain⟨l5,hl5⟩:=eX d.leaf.sig.length;obtain⟨l6,hl6⟩:=eX d.par.box.length;obtain⟨l7,hl7⟩:=eX d.par.hash.length;obtain⟨l8,hl8⟩:=eX d.par.late.length;obtain⟨s,hsrc⟩:=eX d.leaf.source;rw[←hl1,←hl2,←hl3,←hl4,←hl5,←hsrc]at CL;rw[←hl6]at C1;rw[←hl7]at C2;rw[←hl8]at C3;rw[←hkd,←hl1,←hl2,←hl3,←hl4,←hl5,←hl6,←hl7,←hl8,←hsrc];have HCL:=Hd CL;have HD1:=Hd C1;have HD2:=Hd C2;have HD3:=Hd C3;have HKD:=Hd hkd;have HS:=Hd hsrc;clear CL C1 C2 C3 hsm hs h1 h2 h3 h4 h5 h6 h7 h8 hl1 hl2 hl3 hl4 hl5 hl6 hl7 hl8 hkd hsrc;have L0:=Hd (show((w.alloc (.cells #[.int .u8 (kd:Nat),.slice a1 l1 c1,.slice a2 l2 c2,.slice a3 l3 c3,.int .u8 (s:Nat),.slice a4 l4 c4,.slice a5 l5 c5,.slice b1 l6 e1,.slice b2 l7 e2,.slice b3 l8 e3] 52)).alloc (.cells #[.int .u8 0,.slice none 0 0,.slice none 0 0,.slice none 0 0,.int .u8 0,.slice none 0 0,.slice none 0 0,.slice none 0 0,.slice none 0 0,.slice none 0 0] 52)).rangeAt w.heap.size 1 [.slice a1 l1 c1,.slice a2 l2 c2,.slice a3 l3 c3,.int .u8 (s:Nat),.slice a4 l4 c4,.slice a5 l5 c5]from by
  intro j u hu;have hb:Blk ((w.alloc (.cells #[.int .u8 (kd:Nat),.slice a1 l1 c1,.slice a2 l2 c2,.slice a3 l3 c3,.int .u8 (s:Nat),.slice a4 l4 c4,.slice a5 l5 c5,.slice b1 l6 e1,.slice b2 l7 e2,.slice b3 l8 e3] 52)).alloc (.cells #[.int .u8 0,.slice none 0 0,.slice none 0 0,.slice none 0 0,.int .u8 0,.slice none 0 0,.slice none 0 0,.slice none 0 0,.slice none 0 0,.slice none 0 0] 52)) w.heap.size 52 #[.int .u8 (kd:Nat),.slice a1 l1 c1,.slice a2 l2 c2,.slice a3 l3 c3,.int .u8 (s:Nat),.slice a4 l4 c4,.slice a5 l5 c5,.slice b1 l6 e1,.slice b2 l7 e2,.slice b3 l8 e3]:=(Blk.new w _ _).alloc _;rw[hb.cell]
  match j,hu with
  |0,hu=>exact hu
  |1,hu=>exact hu
  |2,hu=>exact hu
  |3,hu=>exact hu
  |4,hu=>exact hu
  |5,hu=>exact hu
  |j+6,hu=>simp at hu)
 have hA:=(Below.refl w.heap.size w).alloc lR (.cells #[.int .u8 (kd:Nat),.slice a1 l1 c1,.slice a2 l2 c2,.slice a3 l3 c3,.int .u8 (s:Nat),.slice a4 l4 c4,.slice a5 l5 c5,.slice b1 l6 e1,.slice b2 l7 e2,.slice b3 l8 e3] 52);have HBA:=Hd (hA.alloc hA.size (.cells #[.int .u8 0,.slice none 0 0,.slice none 0 0,.slice none 0 0,.int .u8 0,.slice none 0 0,.slice none 0 0,.slice none 0 0,.slice none 0 0,.slice none 0 0] 52));have HB0:=Hd (show Blk ((w.alloc (.cells #[.int .u8 (kd:Nat),.slice a1 l1 c1,.slice a2 l2 c2,.slice a3 l3 c3,.int .u8 (s:Nat),.slice a4 l4 c4,.slice a5 l5 c5,.slice b1 l6 e1,.slice b2 l7 e2,.slice b3 l8 e3] 52)).alloc (.cells #[.int .u8 0,.slice none 0 0,.slice none 0 0,.slice none 0 0,.int .u8 0,.slice none 0 0,.slice none 0 0,.slice none 0 0,.slice none 0 0,.slice none 0 0] 52)) w.heap.size 52 #[.int .u8 (kd:Nat),.slice a1 l1 c1,.slice a2 l2 c2,.slice a3 l3 c3,.int .u8 (s:Nat),.slice a4 l4 c4,.slice a5 l5 c5,.slice b1 l6 e1,.slice b2 l7 e2,.slice b3 l8 e3]from(Blk.new w _ _).alloc _);have HR0:=Hd (show Blk ((w.alloc (.cells #[.int .u8 (kd:Nat),.slice a1 l1 c1,.slice a2 l2 c2,.slice a3 l3 c3,.int .u8 (s:Nat),.slice a4 l4 c4,.slice a5 l5 c5,.slice b1 l6 e1,.slice b2 l7 e2,.slice b3 l8 e3] 52)).alloc (.cells #[.int .u8 0,.slice none 0 0,.slice none 0 0,.slice none 0 0,.int .u8 0,.slice none 0 0,.slice none 0 0,.slice none 0 0,.slice none 0 0,.slice none 0 0] 52)) (w.heap.size+1) 52 #[.int .u8 0,.slice none 0 0,.slice none 0 0,.slice none 0 0,.int .u8 0,.slice none 0 0,.slice none 0 0,.slice none 0 0,.slice none 0 0,.slice none 0 0] by have h1:=Blk.new (w.alloc (.cells #[.int .u8 (kd:Nat),.slice a1 l1 c1,.slice a2 l2 c2,.slice a3 l3 c3,.int .u8 (s:Nat),.slice a4 l4 c4,.slice a5 l5 c5,.slice b1 l6 e1,.slice b2 l7 e2,.slice b3 l8 e3] 52)) 52 #[.int .u8 0,.slice none 0 0,.slice none 0 0,.slice none 0 0,.int .u8 0,.slice none 0 0,.slice none 0 0,.slice none 0 0,.slice none 0 0,.slice none 0 0];simpa using h1);clear hA;go_enter Tryz.func73,Tryz.ntmps73;go_wp2_with (refine wpList_load_mid rfl 44 (.tmp 3) rfl w.heap.size 1 rfl [.slice a1 l1 c1,.slice a2 l2 c2,.slice a3 l3 c3,.int .u8 (s:Nat),.slice a4 l4 c4,.slice a5 l5 c5] _ L0.out Tryz.underlying44 rfl (by kernel_rfl) ?_);refine(HCL.out _ HBA.out).mono ?_;rintro e w1 ⟨c',rfl,hlo,hb1⟩;obtain⟨x0,x1,x2,x3,x4,rfl,o0,o1,o2,o3,o4⟩:=hlo;rw[←HS.out];have hg0:w.heap.size<((w.alloc (.cells #[.int .u8 (kd:Nat),.slice a1 l1 c1,.slice a2 l2 c2,.slice a3 l3 c3,.int .u8 (s:Nat),.slice a4 l4 c4,.slice a5 l5 c5,.slice b1 l6 e1,.slice b2 l7 e2,.slice b3 l8 e3] 52)).alloc (.cells #[.int .u8 0,.slice none 0 0,.slice none 0 0,.slice none 0 0,.int .u8 0,.slice none 0 0,.slice none 0 0,.slice none 0 0,.slice none 0 0,.slice none 0 0] 52)).heap.size:=HB0.out.lt;have hg1:w.heap.size+1<((w.alloc (.cells #[.int .u8 (kd:Nat),.slice a1 l1 c1,.slice a2 l2 c2,.slice a3 l3 c3,.int .u8 (s:Nat),.slice a4 l4 c4,.slice a5 l5 c5,.slice b1 l6 e1,.slice b2 l7 e2,.slice b3 l8 e3] 52)).alloc (.cells #[.int .u8 0,.slice none 0 0,.slice none 0 0,.slice none 0 0,.int .u8 0,.slice none 0 0,.slice none 0 0,.slice none 0 0,.slice none 0 0,.slice none 0 0] 52)).heap.size:=HR0.out.lt;have HK1:=Hd (HB0.out.below hb1 hg0);have HK2:=Hd (HR0.out.below hb1 hg1);have HBW:=Hd (HBA.out.trans (hb1.mono HBA.out.size));have HQ:=Hd (And.intro o0 (And.intro o1 (And.intro o2 (And.intro o3 o4))));have HONE:=Hd (show(#[x0,x1,x2,.int .u8 (s:Nat),x3,x4]:Array Value).all (·.oneCell')=true by
  rw[←dN];simp only[cZ,dA,o0.oneCell,o1.oneCell,o2.oneCell,o3.oneCell,o4.oneCell];rfl)
 obtain⟨Bn,hBn⟩:=eX (((w.alloc (.cells #[.int .u8 (kd:Nat),.slice a1 l1 c1,.slice a2 l2 c2,.slice a3 l3 c3,.int .u8 (s:Nat),.slice a4 l4 c4,.slice a5 l5 c5,.slice b1 l6 e1,.slice b2 l7 e2,.slice b3 l8 e3] 52)).alloc (.cells #[.int .u8 0,.slice none 0 0,.slice none 0 0,.slice none 0 0,.int .u8 0,.slice none 0 0,.slice none 0 0,.slice none 0 0,.slice none 0 0,.slice none 0 0] 52)).heap.size);rw[←hBn]at HQ hg0 hg1;have hBle:Bn≤w1.heap.size:=(by have:=hb1.size;omega);clear hb1 o0 o1 o2 o3 o4 hBn HB0 HR0 L0;go_wp2_with (refine wpList_store_mid rfl 44 (.tmp 6) (.tmp 5) rfl w.heap.size 1 #[x0,x1,x2,.int .u8 (s:Nat),x3,x4] rfl rfl (HK1.out.there 1 6 (by simp)) (by kernel_rfl) HONE.out ?_);dsimp only[Act.put];obtain⟨wr,hwr⟩:=eX (w1.setCells w.heap.size 1 [x0,x1,x2,.int .u8 (s:Nat),x3,x4]);have hon:OnlyG w.heap.size w1 wr:=(by rw[hwr];exact Fh _ _ _ _);have HBK:=Hd (show Blk wr w.heap.size 52 #[.int .u8 (kd:Nat),x0,x1,x2,.int .u8 (s:Nat),x3,x4,.slice b1 l6 e1,.slice b2 l7 e2,.slice b3 l8 e3] by
  rw[hwr];exact(((((HK1.out.set 1 x0).set 2 x1).set 3 x2).set 4 (.int .u8 (s:Nat))).set 5 x3).set 6 x4)
 have HKZ:=Hd (HK2.out.only2 hon (by omega));have HBR:=Hd (HBW.out.trans (hon.1.mono lR));have HQ2:=Hd (And.intro (HQ.out.1.onlyG hon hg0) (And.intro (HQ.out.2.1.onlyG hon hg0) (And.intro (HQ.out.2.2.1.onlyG hon hg0) (And.intro (HQ.out.2.2.2.1.onlyG hon hg0) (HQ.out.2.2.2.2.onlyG hon hg0)))));have hgB:w.heap.size<wr.heap.size:=HBK.out.lt;have hrB:w.heap.size+1<wr.heap.size:=HKZ.out.lt;have hBwr:Bn≤wr.heap.size:=(by have:=hon.2.1;omega);have k7:wr.cell? ⟨w.heap.size,7,none⟩=some (.slice b1 l6 e1):=HBK.out.cell 7;have k8:wr.cell? ⟨w.heap.size,8,none⟩=some (.slice b2 l7 e2):=HBK.out.cell 8;have k9:wr.cell? ⟨w.heap.size,9,none⟩=some (.slice b3 l8 e3):=HBK.out.cell 9;have HC1:=Hd (fun(W:World) (hw:Below wr.heap.size wr W)=>HD1.out W (HBR.out.trans (hw.mono HBR.out.size)));have HC2:=Hd (fun(W:World) (hw:Below wr.heap.size wr W)=>HD2.out W (HBR.out.trans (hw.mono HBR.out.size)));have HC3:=Hd (fun(W:World) (hw:Below wr.heap.size wr W)=>HD3.out W (HBR.out.trans (hw.mono HBR.out.size)));rw[←hwr];clear hwr HK1 HK2 HQ HONE hon HCL HD1 HD2 HD3;refine Ax [eF (.pointer (some ⟨w.heap.size,7,none⟩)),eF (.pointer (some ⟨w.heap.size,7,none⟩)),eF (.slice b1 l6 e1),fun v w'=>Own w' wr.heap.size 5 v (bvs d.par.box),eF (.pointer (some ⟨w.heap.size,7,none⟩)),eF (.pointer (some ⟨w.heap.size,8,none⟩)),eF (.slice b2 l7 e2),fun v w'=>Own w' wr.heap.size 5 v (bvs d.par.hash),eF (.pointer (some ⟨w.heap.size,7,none⟩)),eF (.pointer (some ⟨w.heap.size,9,none⟩)),eF (.slice b3 l8 e3),fun v w'=>Own w' wr.heap.size 3 v (ivs .i64 d.par.late),fun v w'=>∃u0 u1 u2,v=.agg #[u0,u1,u2]∧Own w' wr.heap.size 5 u0 (bvs d.par.box)∧Own w' wr.heap.size 5 u1 (bvs d.par.hash)∧Own w' wr.heap.size 3 u2 (ivs .i64 d.par.late),eF (.pointer (some ⟨w.heap.size,7,none⟩)),fun v w'=>∃u0 u1 u2,Blk w' w.heap.size 52 #[.int .u8 (kd:Nat),x0,x1,x2,.int .u8 (s:Nat),x3,x4,u0,u1,u2]∧Own w' wr.heap.size 5 u0 (bvs d.par.box)∧Own w' wr.heap.size 5 u1 (bvs d.par.hash)∧Own w' wr.heap.size 3 u2 (ivs .i64 d.par.late)]
  (cS 15 true) (fun X=>OnlyG w.heap.size wr X) (fun X Y=>OnlyG w.heap.size X Y) (some 14) (by kernel_rfl) ?_ ((OnlyG.of_below bR (dL hgB)).drewN 1) (fun X Y hx h=>OnlyG.of_below h (dG (dL hgB) hx.2.1)) (fun X Y hx hs=>hx.trans hs) (by kernel_rfl) (by kernel_rfl) ?_ ?_
 ·exact kE (kE (kE (Au (fun v x y h hi hs=>Own.onlyG h hs hgB) (kE (kE (kE (Au (fun v x y h hi hs=>Own.onlyG h hs hgB) (kE (kE (kE (Au (fun v x y h hi hs=>Own.onlyG h hs hgB) (Au (fun v x y h hi hs=>let⟨u0,u1,u2,e,k0,k1,k2⟩:=h;⟨u0,u1,u2,e,Own.onlyG k0 hs hgB,Own.onlyG k1 hs hgB,Own.onlyG k2 hs hgB⟩) (kE (Cs (fun v x y h hi hs=>let⟨u0,u1,u2,e,k0,k1,k2⟩:=h;⟨u0,u1,u2,e.below hs e.lt,k0.below hs lR,k1.below hs lR,k2.below hs lR⟩) (Aj)))))))))))))))
 ·refine gPw (by kernel_rfl) ?_ rfl (gPw (by kernel_rfl) ?_ rfl (gPw (by kernel_rfl) ?_ rfl (gOw (by kernel_rfl) ?_ (gPw (by kernel_rfl) ?_ rfl (gPw (by kernel_rfl) ?_ rfl (gPw (by kernel_rfl) ?_ rfl (gOw (by kernel_rfl) ?_ (gPw (by kernel_rfl) ?_ rfl (gPw (by kernel_rfl) ?_ rfl (gPw (by kernel_rfl) ?_ rfl (gOw (by kernel_rfl) ?_ (gOw (by kernel_rfl) ?_ (gPw (by kernel_rfl) ?_ rfl (gOw (by kernel_rfl) ?_ .nil))))))))))))));all_goals
   intro a wx hbx hbq ho hf;have hbx:OnlyG w.heap.size wr wx:=hbx;refine⟨rfl,?_⟩;intro K hK;try have Pf1:a.tmps[1]?.getD undef=.pointer (some ⟨w.heap.size,0,none⟩):=ho 1 (by kernel_rfl)
   try have Ef0:=eqn hf.1
   try have Ce0:=(hbq.cell (p:=⟨w.heap.size,7,none⟩) hgB).trans k7
   try have Ce1:=(hbq.cell (p:=⟨w.heap.size,8,none⟩) hgB).trans k8
   try have Ce2:=(hbq.cell (p:=⟨w.heap.size,9,none⟩) hgB).trans k9
   try(refine Hd ?_;go_simp;exact hK _ rfl)
  ·go_simp;refine(HC1.out wx hbq).mono ?_;rintro e w2 ⟨v9,rfl,hown,hb2⟩;exact hK _ _ (hown.mono hbq.size) (Ab rfl hb2)
  ·go_simp;refine(HC2.out wx hbq).mono ?_;rintro e w2 ⟨v9,rfl,hown,hb2⟩;exact hK _ _ (hown.mono hbq.size) (Ab rfl hb2)
  ·go_simp;refine(HC3.out wx hbq).mono ?_;rintro e w2 ⟨v9,rfl,hown,hb2⟩;exact hK _ _ (hown.mono hbq.size) (Ab rfl hb2)
  ·have o0:Own wx wr.heap.size 5 (a.tmps[10]?.getD undef) (bvs d.par.box):=hf.1;obtain⟨v0,hv0⟩:=eX (a.tmps[10]?.getD undef);rw[←hv0]at o0;have e0:=hv0.symm;clear hv0;have o1:Own wx wr.heap.size 5 (a.tmps[14]?.getD undef) (bvs d.par.hash):=hf.2.1;obtain⟨v1,hv1⟩:=eX (a.tmps[14]?.getD undef);rw[←hv1]at o1;have e1:=hv1.symm;clear hv1;have o2:Own wx wr.heap.size 3 (a.tmps[18]?.getD undef) (ivs .i64 d.par.late):=hf.2.2.1;obtain⟨v2,hv2⟩:=eX (a.tmps[18]?.getD undef);rw[←hv2]at o2;have e2:=hv2.symm;clear hv2;obtain⟨p1,p2,p3,rfl⟩:=Da o0;obtain⟨p4,p5,p6,rfl⟩:=Da o1;obtain⟨p7,p8,p9,rfl⟩:=Da o2;go_simp;exact hK _ _ ⟨_,_,_,rfl,o0,o1,o2⟩ (Ab rfl bR)
  ·have o1:∃u0 u1 u2,(a.tmps[19]?.getD undef)=.agg #[u0,u1,u2]∧Own wx wr.heap.size 5 u0 (bvs d.par.box)∧Own wx wr.heap.size 5 u1 (bvs d.par.hash)∧Own wx wr.heap.size 3 u2 (ivs .i64 d.par.late):=hf.2.1;obtain⟨v1,hv1⟩:=eX (a.tmps[19]?.getD undef);rw[←hv1]at o1;have e1:=hv1.symm;clear hv1;obtain⟨u0,u1,u2,hu,k0,k1,k2⟩:=o1;have hblk:=HBK.out.below hbq HBK.out.lt;refine wp_store_mid 50 (.tmp 20) (.tmp 19) rfl w.heap.size 7 #[u0,u1,u2] (evs Ef0) (evs (e1.trans hu)) (hblk.there 7 3 (by simp)) (by kernel_rfl) (by rw[←dN];simp only[cZ,dA,k0.oneCell,k1.oneCell,k2.oneCell];rfl) ?_;have hne:∀ {e v xs},Own wx wr.heap.size e v xs→e≠52→∀(j:Nat) (u:Value) (W:World),Own W wr.heap.size e v xs→Own (W.setCell ⟨w.heap.size,j,none⟩ u) wr.heap.size e v xs:=fun _ _ j u W h2=>h2.setLow (p:=⟨w.heap.size,j,none⟩) hgB u;exact hK undef _ ⟨u0,u1,u2,((hblk.set 7 u0).set 8 u1).set 9 u2,hne k0 (by decide) _ _ _ (hne k0 (by decide) _ _ _ (hne k0 (by decide) _ _ _ k0)),hne k1 (by decide) _ _ _ (hne k1 (by decide) _ _ _ (hne k1 (by decide) _ _ _ k1)),hne k2 (by decide) _ _ _ (hne k2 (by decide) _ _ _ (hne k2 (by decide) _ _ _ k2))⟩ (Cc rfl (((OnlyG.setCell 7 u0).trans (OnlyG.setCell 8 u1)).trans (OnlyG.setCell 9 u2)))
 ·rintro f w9 hb9 hfin;have hb9:OnlyG w.heap.size wr w9:=hb9;have S20:∃u0 u1 u2,Blk w9 w.heap.size 52 #[.int .u8 (kd:Nat),x0,x1,x2,.int .u8 (s:Nat),x3,x4,u0,u1,u2]∧Own w9 wr.heap.size 5 u0 (bvs d.par.box)∧Own w9 wr.heap.size 5 u1 (bvs d.par.hash)∧Own w9 wr.heap.size 3 u2 (ivs .i64 d.par.late):=hfin.2.2.2.2.2.2.2.2.2.2.2.2.2.2.1;clear hfin;simp only[Aw,Bl,Ga,cH,cI,cJ,cK,Nat.reduceBEq,Nat.reduceAdd,Bool.or_false,Bool.or_true,cond_true,cond_false];obtain⟨u0,u1,u2,hblk,k0,k1,k2⟩:=S20;have HZ9:=Hd (HKZ.out.only2 hb9 (by omega));have HQ9:=Hd (And.intro (HQ2.out.1.onlyG hb9 hg0) (And.intro (HQ2.out.2.1.onlyG hb9 hg0) (And.intro (HQ2.out.2.2.1.onlyG hb9 hg0) (And.intro (HQ2.out.2.2.2.1.onlyG hb9 hg0) (HQ2.out.2.2.2.2.onlyG hb9 hg0)))));have HB9:=Hd (HBR.out.trans (hb9.1.mono lR));have HP9:=Hd (And.intro (k0.mono hBwr) (And.intro (k1.mono hBwr) (k2.mono hBwr)));obtain⟨XS,hXS⟩:=eX ((#[.int .u8 (kd:Nat),x0,x1,x2,.int .u8 (s:Nat),x3,x4,u0,u1,u2]:Array Value));have HONE:=Hd (show XS.toList.all (·.oneCell')=true by
   rw[hXS];simp only[cZ,dA,HQ9.out.1.oneCell,HQ9.out.2.1.oneCell,HQ9.out.2.2.1.oneCell,HQ9.out.2.2.2.1.oneCell,HQ9.out.2.2.2.2.oneCell,HP9.out.1.oneCell,HP9.out.2.1.oneCell,HP9.out.2.2.oneCell];rfl)
  rw[←hXS]at hblk;have HBK9:=Hd hblk;have HIN:=Hd (show(Tryz.prog.info? 52).map (·.size)=some XS.size by rw[hXS];exact Be);have HZS:=Hd (show(#[.int .u8 0,.slice none 0 0,.slice none 0 0,.slice none 0 0,.int .u8 0,.slice none 0 0,.slice none 0 0,.slice none 0 0,.slice none 0 0,.slice none 0 0]:Array Value).size=XS.size by rw[hXS];rfl);have HXE:=Hd hXS;have hg9:w.heap.size+1<w9.heap.size:=HZ9.out.lt;clear hXS hblk k0 k1 k2 hb9 k7 k8 k9 HC1 HC2 HC3 HKZ HQ2 HBR HBK hgB hrB;go_wp2_with (first|(refine wpList_load_row rfl 52 (.tmp 1) rfl w.heap.size rfl 52 XS (0,0) _ HBK9.out Tryz.underlying52 rfl HIN.out ?_)|(refine Aa rfl 52 (.tmp 2) (.tmp 21) rfl (w.heap.size+1) XS rfl rfl 52 #[.int .u8 0,.slice none 0 0,.slice none 0 0,.slice none 0 0,.int .u8 0,.slice none 0 0,.slice none 0 0,.slice none 0 0,.slice none 0 0,.slice none 0 0] HZ9.out HIN.out HZS.out HONE.out ?_));intro w3 m0 mb mo msz;have M0:=Hd m0;have HB3:=Hd (HB9.out.trans ((mb (w.heap.size+1) lR).mono (by omega)));have hoo:OnlyG (w.heap.size+1) w9 w3:=⟨mb (w.heap.size+1) lR,by omega,fun i _ hne=>mo i hne⟩;have hb3:w.heap.size≤Bn:=(by omega);have HF:=Hd (And.intro ((HQ9.out.1.onlyG hoo hg1).mono hb3) (And.intro ((HQ9.out.2.1.onlyG hoo hg1).mono hb3) (And.intro ((HQ9.out.2.2.1.onlyG hoo hg1).mono hb3) (And.intro ((HQ9.out.2.2.2.1.onlyG hoo hg1).mono hb3) ((HQ9.out.2.2.2.2.onlyG hoo hg1).mono hb3)))));have HG:=Hd (And.intro ((HP9.out.1.onlyG hoo hg1).mono hb3) (And.intro ((HP9.out.2.1.onlyG hoo hg1).mono hb3) ((HP9.out.2.2.onlyG hoo hg1).mono hb3)));clear m0 mb mo msz hoo;go_wp2_with fail;refine bodyPost_ret (v:=.agg XS) (Gv rfl _ _ (w.heap.size+1) 52 XS _ rfl M0.out Tryz.underlying52 rfl HIN.out) rfl ⟨XS,rfl,⟨x0,x1,x2,x3,x4,u0,u1,u2,by rw[HXE.out,HKD.out,HS.out],HF.out.1,HF.out.2.1,HF.out.2.2.1,HF.out.2.2.2.1,HF.out.2.2.2.2,HG.out.1,HG.out.2.1,HG.out.2.2⟩,HB3.out⟩
section
section
variable {P:Program} {w:World}
end
theorem Own.grown {w w':World} {B:Nat} {e:TypeId} {v:Value} {xs:List Value} {row:Option Nat}(h:Own w B e v xs)(hg:w.grownBy w' row)(hne:∀g,v.ownBlock=some g→row≠some g):Own w' B e v xs:=by
 obtain⟨h1,h2|⟨g,cp,cur,rfl,hb,hh,rest⟩⟩:=h
 ·exact⟨h1,.inl h2⟩
 ·refine⟨h1,.inr ⟨g,cp,cur,rfl,hb,?_,rest⟩⟩;have hl:g<w.heap.size:=by
   rcases aB g w.heap.size with h|h
   ·exact h
   ·rw[aD h]at hh;cases hh
  rw[hg.block g hl (fun e=>hne g (by simp[Value.ownBlock]) e.symm)];exact hh
def Gp (u v:Value):Prop:=∀g,u.ownBlock=some g→v.ownBlock≠some g
theorem Own.blockLt {w:World} {B:Nat} {e:TypeId} {v:Value} {xs:List Value}(h:Own w B e v xs) {g:Nat}(hg:v.ownBlock=some g):g<w.heap.size∧B≤g:=by
 rcases h.2 with⟨rfl,_⟩|⟨g',cp,cur,rfl,hb,hh,_⟩
 ·simp[Value.ownBlock]at hg
 ·simp[Value.ownBlock]at hg;subst hg;refine⟨?_,hb⟩;rcases aB g' w.heap.size with h|h
  ·exact h
  ·rw[aD h]at hh;cases hh
end
def Kg (d:LeafD):Bool:=rlB d.box.length d.sign.length d.ident.length d.source d.par.length d.sig.length
open ShaM
theorem Sj (L:List Nat)(n:Nat):bvs (L++[n])=bvs L++[.int .u8 (n:Int)]:=by simp[bvs]
theorem Zjo (n v:Nat):∀i j,j<i→(beN i v)[j]? =some (v/256^(i-1-j)%256):=by
 intro i
 induction i with
 |zero=>intro j h;omega
 |succ i ih=>
  intro j h;rw[beN];cases j with
  |zero=>simp
  |succ j=>rw[List.getElem?_cons_succ,ih j (by omega),show i+1-1-(j+1)=i-1-j by omega]
theorem Zku {w:World} {B:Nat} {e:TypeId} {v:Value} {xs:List Value}(h:Own w B e v xs)(n:Nat)(hn:xs.length=n):∃a c,v=.slice a n c:=by
 obtain⟨a,c,e,_⟩:=h.rd;exact⟨a,c,by rw[e,hn]⟩
theorem Zjp {w:World} {u:Value} {e:TypeId} {N:Nat}(hN:N=w.heap.size):(w.alloc (.cells #[u] e)).cell? ⟨N,0,none⟩=some u:=by
 subst hN;rw[cell_of_row _ _ _ _ _ _ (heap_alloc_new w _)];rfl
theorem Zfd (n:Nat)(w:World)(hn:n≤1000000):
  Calls Tryz.prog 232 #[.int .i64 (n:Nat)] w fun e w'=>∃v,e=.returned v∧Own w' w.heap.size 5 v (bvs (tailL n))∧Below w.heap.size w w':=by
 obtain⟨Z,hZ⟩:=eX ((119-n%64)%64);have htl:tailL n=([128]++cS Z 0)++beN 8 (8*n):=(by rw[tailL,←hZ];simp);rw[htl];have HZ:=Hd hZ;have O0:=Hd (show Own (w.alloc (.cells #[.int .u8 128] 5)) w.heap.size 5 (.slice (some ⟨w.heap.size,0,none⟩) 1 1) (bvs ([128]++cS 0 0))from Own.full (cs:=#[.int .u8 128]) rfl lR (by unfold maxLen;simp) rfl);obtain⟨m,hm⟩:=eX (8*n);rw[←hm];have hm8:(n:Int)*8=(m:Int):=(by omega);have hmu:IntKind.u64.wrap (n:Int)=(n:Int):=(by rw[IntKind.wrap_u64];omega);have hm2:m≤8000000:=(by omega);clear htl hZ hm;go_enter Tryz.func232,Tryz.ntmps232;go_wp2_with fail
 go_loopg [3] Z (fun q bv wr=>∃k:Nat,k+q=Z∧Own wr w.heap.size 5 bv (bvs ([128]++cS k 0))∧Below w.heap.size w wr)
 case atStart=>exact⟨0,by omega,O0.out,bR.alloc lR _⟩
 case round=>
  obtain⟨k,hk,hown,hb⟩:=hrel;obtain⟨s1,s3,rfl⟩:=Zku hown (1+k) (by rw[bvs_len,aG,dB];rfl);have HK:=Hd hk;have HO:=Hd hown;have HB:=Hd hb;obtain⟨l,hl⟩:=eX (1+k);rw[←hl];obtain⟨r,hr⟩:=eX ((n+l)%64);have e1:((n:Int)+(l:Int))%64=(r:Int):=(by omega);have e2:Int.tmod ((n:Int)+(l:Int)) 64=(r:Int):=(by rw[Int.tmod_eq_emod_of_nonneg (by omega)];omega);have hZ:=HZ.out;have hl64:l≤100:=(by omega);have HLE:=Hd hl
  by_cases hlt:k<Z
  ·have g1:((r:Int)==56)=false:=(by rw[beq_eq_false_iff_ne];omega);have g2:((r:Int) !=56)=true:=(by rw[bne,g1];rfl);clear hown hb hk hZ hr hl;go_wp2_with (at_builtin;refine Ao rfl (.tmp 12) (.tmp 13) 28 rfl w.heap.size 5 _ 1 Fk _ (bvs ([128]++cS k 0)) rfl (by rw[HLE.out];exact HO.out.alloc _) ⟨wr.heap.size,0,none⟩ (.int .u8 0) rfl (Zjp rfl) rfl ?d2 ?d3 ?_);case d2=>have:=HZ.out;have:=HK.out;rw[bvs_len,aG,dB];simp;omega
   case d3=>have:=HB.out.size;simp;omega
   rintro v'' w4 hown-hb4;have HO4:=Hd hown;have HB4:=Hd ((HB.out.alloc HB.out.size (.cells #[.int .u8 0] 5)).trans hb4);clear hown hb4;go_wp2_with fail;go_roundg (gk-1);case measure=>have:=HK.out;omega
   case rel=>
    refine⟨k+1,by have:=HK.out;omega,?_,HB4.out⟩;have:=HO4.out;rw[List.replicate_succ',←bN,Sj];exact this
  ·obtain rfl:k=Z:=(by omega);have g1:((r:Int)==56)=true:=(by rw[beq_iff_eq];omega);have g2:((r:Int) !=56)=false:=(by rw[bne,g1];rfl);clear hown hb hk hZ hr hl;obtain⟨A,hA⟩:=eX ([128]++cS k 0);have hAl:A.length≤100:=(by have:=HZ.out;rw[hA,aG,dB];simp;omega);have HO1:=Hd (show Own wr w.heap.size 5 (.slice s1 l s3) (bvs (A++(beN 8 m).take 0)) by rw[List.take_zero,List.append_nil,hA,HLE.out];exact HO.out);have HAE:=Hd hA;clear hA HO O0;go_wp2_with fail;obtain⟨g1',rfl⟩:∃g1,g1=gk:=⟨_,rfl⟩;obtain⟨w1,rfl⟩:=eX wr
   go_loopg [3,4] 8 (fun q bv iv wr=>∃j:Nat,j+q=8∧iv=.int .i64 (7-(j:Int))∧Own wr w.heap.size 5 bv (bvs (A++(beN 8 m).take j))∧Below w.heap.size w wr)
   case atStart=>exact⟨0,rfl,rfl,HO1.out,HB.out⟩
   case round=>
    obtain⟨j,hj,rfl,hown,hb⟩:=hrel;have HJ:=Hd hj;have HO2:=Hd hown;have HB2:=Hd hb;obtain⟨s4,s5,s6,rfl⟩:=Dl hown
    by_cases hlt2:j<8
    ·obtain⟨i,hi⟩:=eX (7-j);have e0:(7:Int)-(j:Int)=(i:Int):=(by omega);rw[e0];obtain⟨p,hp⟩:=eX (8*i);have ep:8*(i:Int)=(p:Int):=(by omega);have hp64:p<64:=(by omega);have hi8:i<8:=(by omega);obtain⟨x,hx⟩:=eX (m/256^i%256);have ev:(m:Int)/2^p%256=(x:Int):=by
      have hpw:256^i=2^(8*i):=(by rw[Nat.pow_mul]);rw[hx,hp,hpw,dO,Int.natCast_ediv,Int.natCast_pow]
      rfl
     have HL:=Hd (show(beN 8 m).take (j+1)=(beN 8 m).take j++[x] by
      have:=Zjo m m 8 j hlt2;rw[List.take_add_one,this,hx,hi];rfl)
     obtain⟨T,hT⟩:=eX (A++(beN 8 m).take j);have hTl:T.length≤200:=(by rw[hT,aG,dC];omega);have HT:=Hd hT;have HO3:=Hd (show Own wr w.heap.size 5 (.slice s4 s5 s6) (bvs T) by rw[hT];exact hown);have HI:=Hd hi;clear hown hb hj hi hp e0 hx HO2 hT;go_wp2_with (at_builtin;refine Ao rfl (.tmp 19) (.tmp 27) 28 rfl w.heap.size 5 _ 1 Fk _ (bvs T) rfl (HO3.out.alloc _) ⟨wr.heap.size,0,none⟩ (.int .u8 (x:Nat)) rfl (Zjp rfl) rfl ?f2 ?f3 ?_);case f2=>rw[bvs_len];omega
     case f3=>have:=HB2.out.size;simp;omega
     rintro v'' w4 hown-hb4;have HO4:=Hd hown;have HB4:=Hd ((HB2.out.alloc HB2.out.size (.cells #[.int .u8 (x:Nat)] 5)).trans hb4);clear hown hb4;go_wp2_with fail;go_roundg (gk-1);case measure=>have:=HJ.out;omega
     case rel=>
      refine⟨j+1,by have:=HJ.out;omega,?_,?_,HB4.out⟩
      ·have:=HI.out;have:=HJ.out;show Value.int .i64 ((i:Int)-1)=_
       congr 1
       omega
      ·rw[HL.out,←bN,←HT.out,Sj];exact HO4.out
    ·obtain rfl:j=8:=(by omega);clear hown hb hj;go_wp2_with fail;go_ret;refine⟨_,rfl,?_,HB2.out⟩;have:=HO2.out;rw[bJ (by rw[beN_len];omega),HAE.out]at this;simpa using this
theorem Rd.onlyG {w w':World} {v:Value} {xs:List Value} {g:Nat}(h:Rd w v xs)(ho:OnlyG g w w')(hne:∀a n c,v=.slice (some a) n c→a.block≠g):Rd w' v xs:=by
 rcases h.lt with rfl|⟨b,off,cap,e,hb⟩
 ·obtain⟨a,c,e,h1,h2,h3⟩:=h;refine⟨a,c,e,h1,h2,.inl ⟨rfl,?_⟩⟩;rcases h3 with⟨_,h3⟩|⟨b,off,h3,_⟩
  ·exact h3
  ·intro h;rw[h3]at h;cases h
 ·obtain⟨a,c,e',h1,h2,h3⟩:=h;rw[e]at e';simp only[Value.slice.injEq]at e';obtain⟨rfl,-,rfl⟩:=e';refine⟨_,cap,e,h1,h2,?_⟩;rcases h3 with⟨h3,_⟩|⟨b',off',h3,hc⟩
  ·exact .inl ⟨h3,fun h=>by cases h⟩
  ·refine .inr ⟨b',off',h3,fun j u hu=> ?_⟩;simp only[Option.some.injEq,Addr.mk.injEq,and_true]at h3;obtain⟨rfl,rfl⟩:=h3;have hh:=ho.2.2 b hb (hne _ _ _ e);have:=hc j u hu;unfold World.cell? at this⊢;simp only[hh];exact this
theorem Zbk (L:List Nat)(k:Nat):bvs (L.take k)=(bvs L).take k:=by simp[bvs,List.map_take]
theorem Rd.pre {w:World} {a:Option Addr} {n c:Nat} {xs:List Value}(h:Rd w (.slice a n c) xs)(k:Nat)(hk:k≤n):Rd w (.slice a k c) (xs.take k):=by
 obtain⟨a',cap,e,q1,q2,q3⟩:=h;simp only[Value.slice.injEq]at e;obtain⟨rfl,rfl,rfl⟩:=e;have hl:(xs.take k).length=k:=(by rw[dC];omega);refine⟨a,c,by rw[hl],by rw[hl];omega,q2,?_⟩;rcases q3 with⟨rfl,q⟩|⟨b,off,rfl,q⟩
 ·exact .inl ⟨by simp,q⟩
 ·refine .inr ⟨b,off,rfl,fun j u hu=>q j u ?_⟩;rw[List.getElem?_take]at hu
  split at hu
  ·exact hu
  ·cases hu
theorem Rd.cap {w:World} {a:Option Addr} {n c:Nat} {xs:List Value}(h:Rd w (.slice a n c) xs):n≤c∧c≤maxLen:=by
 obtain⟨a',cap,e,q1,q2,_⟩:=h;simp only[Value.slice.injEq]at e;exact⟨by omega,by omega⟩
def Zk8:Value→Nat
 | .slice _ n _=>n
 |_=>0
def Zk9 (B:Nat)(P:List Nat)(Z:Array Value)(a0:Option Addr)(n c0:Nat)(w:World)(a':Act)(w':World):Prop:=
 ∃(ps i rl rc:Nat) (ra:Option Addr),B<ps∧rl+64*i=P.length∧Blk w' ps 244 (Gu (blocksN P HL0 i))∧Blk w' B 224 Z∧Rd w' (.slice ra rl rc) (bvs (P.drop (64*i)))∧(∀a,ra=some a→a.block≠ps)∧Below B w w'∧
  ∃(x1 x5 x6 x7 x8 x9 x10 x11 x12 x13 x14 x15 x16 x17 x18 x19 x20 x21 x22 x23 x24 x25 x26 x27 x28 x29 x30 x31 x32 x33 x34 x35 x36 x37 x38 x39 x40 x41 x42 x43 x44 x45 x46 x47 x48 x49 x50 x51 x52 x53 x54 x55:Value),a'= {tmps:=#[.slice a0 n c0,x1,.pointer (some ⟨B,0,none⟩),.pointer (some ⟨ps,0,none⟩),.slice ra rl rc,x5,x6,x7,x8,x9,x10,x11,x12,x13,x14,x15,x16,x17,x18,x19,x20,x21,x22,x23,x24,x25,x26,x27,x28,x29,x30,x31,x32,x33,x34,x35,x36,x37,x38,x39,x40,x41,x42,x43,x44,x45,x46,x47,x48,x49,x50,x51,x52,x53,x54,x55],defers:=[]}
def Z32a:Array Value:=(bvs (cS 32 0)).toArray
theorem Zh6 {b:List Nat}(h:∀x∈b,x<256):∀x∈padL b,x<256:=by
 intro x hx;rcases List.mem_append.1 hx with hx|hx
 ·exact h x hx
 ·rcases List.mem_cons.1 hx with rfl|hx
  ·omega
  ·rcases List.mem_append.1 hx with hx|hx
   ·rw[(List.mem_replicate.1 hx).2];omega
   ·exact beN_lt _ _ x hx
theorem Zbl (b:List Nat):(padL b).length≤b.length+72:=by
 simp only[padL,tailL,aG,List.length_cons,dB,beN_len];omega
def Za (S:List Nat)(t:Nat):List Nat:=(aF 32).map fun j=>if j<4*t then S.getD (j/4) 0/2^(8*(3-j%4))%256 else 0
theorem Zbm (S:List Nat):(bvs (Za S 0)).toArray=Z32a:=by simp[Za,Z32a,bvs,dD]
theorem Hp (S:List Nat)(t:Nat):(Za S t).length=32:=by simp[Za]
theorem Zfe (S:List Nat)(t:Nat) {j:Nat}(h:j<32):(Za S t).getD j 0=if j<4*t then S.getD (j/4) 0/2^(8*(3-j%4))%256 else 0:=by simp[Za,aH,h]
theorem Zff (l:List Nat)(i j x:Nat):(l.set i x).getD j 0=if i=j∧j<l.length then x else l.getD j 0:=by
 simp only[aH,cY]
 by_cases h:i=j
 ·subst h
  by_cases h2:i<l.length
  ·simp[h2]
  ·simp[h2]
 ·simp[h]
theorem Zbn (S:List Nat) {t:Nat}(h:t<8) {x:Nat}(hx:x=S.getD t 0):((((Za S t).set (4*t) (x/16777216%256)).set (4*t+1) (x/65536%256)).set (4*t+2) (x/256%256)).set (4*t+3) (x%256)=Za S (t+1):=by
 refine Lu (by simp[Hp]) fun j hj=> ?_;simp only[cX,Hp]at hj;simp only[Zff,cX,Hp,Zfe S _ hj]
 by_cases h0:j<4*t
 ·rw[if_neg (by omega),if_neg (by omega),if_neg (by omega),if_neg (by omega),if_pos h0,if_pos (by omega)]
 ·by_cases h4:j<4*(t+1)
  ·have e:j/4=t:=(by omega);rw[if_pos h4,e,←hx];obtain e|e|e|e:j=4*t∨j=4*t+1∨j=4*t+2∨j=4*t+3:=by omega
   ·rw[if_neg (by omega),if_neg (by omega),if_neg (by omega),if_pos (by omega),show j%4=0 by omega]
   ·rw[if_neg (by omega),if_neg (by omega),if_pos (by omega),show j%4=1 by omega]
   ·rw[if_neg (by omega),if_pos (by omega),show j%4=2 by omega]
   ·rw[if_pos (by omega),show j%4=3 by omega];simp
  ·rw[if_neg (by omega),if_neg (by omega),if_neg (by omega),if_neg (by omega),if_neg h0,if_neg h4]
theorem Zbo {S:List Nat} {t g:Nat} {w:World} {ty:TypeId}(h:Blk w g ty (bvs (Za S t)).toArray) {j:Nat}(hj:j<32):∃u,w.cell? ⟨g,j,none⟩=some u:=by
 rw[h.cell];exact⟨_,cA (by simpa [bvs,Hp]using hj)⟩
theorem Qh (L:List Nat)(i n:Nat):(bvs L).toArray.setIfInBounds i (.int .u8 (n:Int))=(bvs (L.set i n)).toArray:=by
 simp[bvs,List.map_set]
theorem Qi {S:List Nat}(h:S.length=8):Za S 8=(S.map (beN 4)).flatten:=by
 match S,h with
 |[a,b,c,d,e,f,g,k],_=>simp[Za,dD,beN]
theorem Zfg (v:Value)(L:List Nat)(w:World)(h:Rd w v (bvs L))(hL:∀x∈L,x<256)(hl:L.length≤1000000):
  Calls Tryz.prog 198 #[v] w fun e w'=>e=.returned (.agg (bvs (shaF L)).toArray)∧Below w.heap.size w w':=by
 have hz:∀w,(zeroValue 224).run Tryz.prog w=.ok (.agg Z32a) w:=fun _=>(by kernel_rfl);have hz8:∀w,(zeroValue 244).run Tryz.prog w=.ok (.agg Z8a) w:=fun _=>(by kernel_rfl);have BG:=fun(W:World)=>Zbh W;have CL:=fun(W:World) (hw:Below w.heap.size w W)=>Rq v L W (h.below hw lR) (by omega);have TL:=fun(W:World)=>Zfd L.length W hl;have hv:∃a c,v=.slice a L.length c:=(by obtain⟨a,c,e,_⟩:=h;exact⟨a,c,by rw[e,bvs_len]⟩);obtain⟨a0,c0,rfl⟩:=hv;have hpl:=padL_len L;have hpb:=Zh6 hL;have hpl2:=Zbl L;obtain⟨P,hP⟩:=eX (padL L);have hPE:bvs L++bvs (tailL L.length)=bvs P:=(by rw[hP,padL];simp[bvs]);rw[←hP]at hpl hpb hpl2;obtain⟨HA,hHA⟩:=eX HLa;simp only[←hHA]at BG;have IH:=Hd (show(Tryz.prog.info? 244).map (·.size)=some HA.size by rw[hHA,HLa];exact Zfa HL0 rfl);have ZH:=Hd (show Z8a.size=HA.size by rw[hHA];unfold Z8a HLa;rw[Bm,Bm];rfl);have OH:=Hd (show HA.toList.all (·.oneCell')=true by rw[hHA,dN];exact Fe HL0);obtain⟨n,hn⟩:=eX L.length;rw[←hn]at CL TL hPE hl hpl2⊢;have HBG:=Hd BG;have HCL:=Hd CL;have HTL:=Hd TL;have HPE:=Hd hPE;have HN:=Hd hn;have HPP:=Hd hP;have HAE:=Hd hHA;clear BG CL TL hPE hn hP hHA h hL;go_enter Tryz.func198,Tryz.ntmps198;go_wp2_with fail;refine Em 0 (Zk9 w.heap.size P Z32a a0 n c0 w) (fun ac _=>Zk8 (ac.tmps.getD 4 undef)) rfl ?_ ?_
 ·rintro ac wx ⟨ps,i,rl,rc,ra,hps,hi,hS,hR,hrd,hne,hb,hf⟩
  iterate 52 (obtain⟨_,hf⟩:=hf)
  subst hf;have HS:=Hd hS;have HR:=Hd hR;have HRD:=Hd hrd;have HB:=Hd hb
  by_cases h0:0<rl
  ·have h64:64≤rl:=(by omega);have hrc:=hrd.cap;have g0:decide (0<rl)=true:=decide_eq_true h0;have hlen:(bvs (P.drop (64*i))).length=rl:=(by rw[bvs_len,dE];omega);obtain⟨bb,oo,rfl,hbl,hcell⟩:=hrd.at3 (r:=0) (u:=(bvs (P.drop (64*i)))[0]'(by omega)) (aI _);have ok:=blocksN_ok P HL0_len HL0_lt i;have hpre:=hrd.pre 64 h64;rw[←Zbk]at hpre;have ST:=Zfc ps _ (blocksN P HL0 i) ((P.drop (64*i)).take 64) wx hS ok.2 ok.1 hpre (fun x hx=>hpb x (List.mem_of_mem_drop (List.mem_of_mem_take hx))) (by rw[dC,dE];omega);have HST:=Hd ST;have HNE:=Hd hne;have HI:=Hd hi;have h64c:64≤rc:=(by omega);clear hcell ST hpre hS hR hrd hb hne hi hlen ok h0;go_wp2_with fail;refine(HST.out).mono ?_;rintro e w' ⟨rfl,hS',ho⟩;have HS':=Hd hS';have HO:=Hd ho;clear hS' ho
   by_cases h64e:rc=64
   ·subst h64e;obtain rfl:rl=64:=(by omega);go_wp2_with fail;refine wp_goto ⟨rfl,⟨ps,i+1,0,0,_,hps,?c1,?c2,HR.out.only2 HO.out (by omega),?c4,?c5,HB.out.trans (HO.out.1.mono (by omega)),_,_,_,_,_,_,_,_,_,_,_,_,_,_,_,_,_,_,_,_,_,_,_,_,_,_,_,_,_,_,_,_,_,_,_,_,_,_,_,_,_,_,_,_,_,_,_,_,_,_,_,_,rfl⟩,?_⟩;case c1=>have:=HI.out;omega
    case c2=>rw[blocksN];exact HS'.out
    case c4=>
     have e:P.drop (64*(i+1))=[]:=List.drop_eq_nil_of_le (by have:=HI.out;omega);rw[e];refine⟨some ⟨bb,oo,none⟩,0,rfl,lR,by unfold maxLen;omega,.inr ⟨bb,oo,rfl,fun j u hu=> ?_⟩⟩;simp[bvs]at hu
    case c5=>intro a e;simp only[Option.some.injEq]at e;subst e;exact HNE.out _ rfl
    show 0<64;omega
   ·go_wp2_with fail;refine wp_goto ⟨rfl,⟨ps,i+1,rl-64,rc-64,_,hps,?d1,?d2,HR.out.only2 HO.out (by omega),?d4,?d5,HB.out.trans (HO.out.1.mono (by omega)),_,_,_,_,_,_,_,_,_,_,_,_,_,_,_,_,_,_,_,_,_,_,_,_,_,_,_,_,_,_,_,_,_,_,_,_,_,_,_,_,_,_,_,_,_,_,_,_,_,_,_,_,rfl⟩,?_⟩;case d1=>have:=HI.out;omega
    case d2=>rw[blocksN];exact HS'.out
    case d4=>
     have h1:Rd w' (.slice (some ⟨bb,oo,none⟩) rl rc) (bvs (P.drop (64*i))):=HRD.out.onlyG HO.out (fun a n c e=>by simp only[Value.slice.injEq,Option.some.injEq]at e;rw[←e.1];exact HNE.out _ rfl);have h2:=h1.sub 64 rl (off':=oo+64) (n':=rl-64) (cap':=rc-64) h64 lR rfl rfl rfl;have e2:((bvs (P.drop (64*i))).take rl).drop 64=bvs (P.drop (64*(i+1))):=by
      rw[bJ (by rw[bvs_len,dE];have:=HI.out;omega)];simp[bvs,List.map_drop,List.drop_drop,Nat.mul_add]
     rw[e2]at h2;exact h2
    case d5=>intro a e;simp only[Option.some.injEq]at e;subst e;exact HNE.out ⟨bb,oo,none⟩ rfl
    show rl-64<rl;omega
  ·obtain rfl:rl=0:=(by omega);obtain⟨S,hSe⟩:=eX (blocksN P HL0 i);have ok:=blocksN_ok P HL0_len HL0_lt i;rw[←hSe]at ok hS;obtain⟨SA,hSA⟩:=eX (Gu S);rw[←hSA]at hS;have HS:=Hd hS;have HSE:=Hd hSe;have HSA:=Hd hSA;have HI:=Hd hi;clear hS hR hrd hb hne hi hSe hSA h0 HRD;have HIS:=Hd (show SA.toList.all (·.oneCell')=true by rw[HSA.out,dN];exact Fe S);have HIZ:=Hd (show(Tryz.prog.info? 244).map (·.size)=some SA.size by rw[HSA.out];exact Zfa S ok.1);go_wp2_with (refine wpList_load_row rfl 244 (.tmp 3) rfl ps rfl 244 SA (0,0) _ (HS.out.alloc _) Tryz.underlying244 rfl HIZ.out ?_);have N0:=Hd (show Blk (wx.alloc (.cells Z32a 224)) wx.heap.size 224 (bvs (Za S 0)).toArray by rw[Zbm];exact Blk.new wx _ _);have A0:=Hd (show Below wx.heap.size wx (wx.alloc (.cells Z32a 224))from bR.alloc lR _);obtain⟨wa,hwa⟩:=eX (wx.alloc (.cells Z32a 224));rw[←hwa]at N0 A0⊢;have hlt:=N0.out.lt;obtain⟨po,hpo⟩:=eX wx.heap.size;have hbs:=HR.out.lt;rw[←hpo]at N0 A0 hlt hbs⊢;have hsx:=Hd hpo;clear hwa hpo
   go_loopg [24] 8 (fun q iv wr=>∃t:Nat,t+q=8∧iv=.int .i64 (t:Nat)∧Blk wr po 224 (bvs (Za S t)).toArray∧Below po wx wr)
   case atStart=>exact⟨0,rfl,rfl,N0.out,A0.out⟩
   case round=>
    obtain⟨t,ht,rfl,k2,ho⟩:=hrel;have HT:=Hd ht;have HK2:=Hd k2;have HO:=Hd ho
    by_cases hlt:t<8
    ·have hltd:decide ((t:Int)<8)=true:=(by rw[decide_eq_true_iff];omega);have hx:=getD_lt32 ok.2 t;obtain⟨x,hxe⟩:=eX (S.getD t 0);rw[←hxe]at hx;have q1:SA[t]? =some (.int .u32 (x:Nat)):=(by rw[HSA.out,hxe];exact Ei (by omega));have HX:=Hd hxe;have hi:=fun w=>Pr (P:=Tryz.prog) w Tryz.underlying244 rfl Tryz.underlying231 (by kernel_rfl) SA .i64 t hlt _ q1;have f0:=k2.frozen (4*t);have f1:=k2.frozen (4*t+1);have f2:=k2.frozen (4*t+2);have f3:=k2.frozen (4*t+3);have hcl:=fun(j:Nat) (hj:j<32)=>Zbo (S:=S) (t:=t) k2 hj;obtain⟨y0,c0'⟩:=hcl (4*t) (by omega);obtain⟨y1,c1'⟩:=hcl (4*t+1) (by omega);obtain⟨y2,c2'⟩:=hcl (4*t+2) (by omega);obtain⟨y3,c3'⟩:=hcl (4*t+3) (by omega);clear ht k2 ho hxe q1 hcl;go_wp2_with fail;go_roundg (gk-1);case measure=>have:=HT.out;omega
     case rel=>
      refine⟨t+1,by have:=HT.out;omega,by go_num,?_,?_⟩
      ·have e:=Zbn S hlt HX.out;rw[show x/16777216%256=x/16777216 from Nat.mod_eq_of_lt (by omega)]at e;rw[←e,←Qh,←Qh,←Qh,←Qh];exact(((HK2.out.set _ _).set _ _).set _ _).set _ _
      ·exact(((HO.out.setCell (by simp) _).setCell (by simp) _).setCell (by simp) _).setCell (by simp) _
    ·obtain rfl:t=8:=(by omega);rw[Qi ok.1]at HK2;obtain⟨OA,hOA⟩:=eX ((bvs ((S.map (beN 4)).flatten)).toArray);rw[←hOA]at HK2;have hO32:((S.map (beN 4)).flatten).length=32:=(by rw[←Qi ok.1,Hp]);have OI:=Hd (show(Tryz.prog.info? 224).map (·.size)=some OA.size by rw[hOA];simp only[dF,bvs_len,hO32];kernel_rfl);have OO:=Hd (show OA.all (·.oneCell')=true by rw[hOA];simp[bvs,Value.oneCell']);have OZ:=Hd (show Z32a.size=OA.size by rw[hOA];simp only[dF,bvs_len,hO32];kernel_rfl);have RR:=Hd (show Blk wr w.heap.size 224 Z32a from HR.out.below ho hbs);have HBO:=Hd (HB.out.trans (ho.mono (dL hbs)));have HOA:=Hd hOA;clear ht k2 ho hOA hO32;go_wp2_with (first|(refine wpList_load_row rfl 224 (.tmp 5) rfl po rfl 224 OA (0,0) _ HK2.out Tryz.underlying224 rfl OI.out ?_)|(refine wpList_store_row rfl 224 (.tmp 2) (.tmp 55) rfl w.heap.size OA rfl rfl 224 Z32a RR.out OI.out OZ.out OO.out ?_));simp only[Exit.jump];refine bodyPost_ret (results_cell_row rfl _ _ w.heap.size 224 OA (0,0) _ rfl (setRow_heap _ _ _ _ _ _ RR.out) Tryz.underlying224 rfl OI.out) rfl ⟨?_,?_⟩
     ·rw[HOA.out,HSE.out,HPP.out];have e:i=(padL L).length/64:=(by have:=HI.out;rw[HPP.out]at this;omega);rw[shaF,e]
     ·exact HBO.out.trans (OnlyG.setRow w.heap.size _).1
 ·intro hJ;have HJ:=Hd hJ;clear hJ;go_wp2_with fail;refine(HBG.out _).mono ?_;rintro e w1 ⟨rfl,hb1⟩;have ez:(w.alloc (.cells Z32a 224)).heap.size=w.heap.size+1:=(by simp);rw[ez]at hb1;have R1:=Hd (show Blk w1 w.heap.size 224 Z32a from(Blk.new w _ _).below hb1 (by omega));have HB1:=Hd (((Below.refl w.heap.size w).alloc lR (.cells Z32a 224)).trans (hb1.mono (by omega)));have hs1:w.heap.size+1≤w1.heap.size:=(by have:=hb1.size;rw[ez]at this;exact this);have N1:=Hd (Blk.new w1 244 Z8a);clear hb1;go_wp2_with (refine Aa rfl 244 (.tmp 3) (.tmp 8) rfl w1.heap.size HA rfl rfl 244 Z8a N1.out IH.out ZH.out OH.out ?_);intro w2 m0 mb mo msz;have S2:=Hd m0;have HB2:=Hd ((HB1.out.alloc HB1.out.size (.cells Z8a 244)).trans ((mb w1.heap.size lR).mono HB1.out.size));have R2:=Hd ((R1.out.alloc (.cells Z8a 244)).below (mb w1.heap.size lR) (by omega));have hs2:w1.heap.size<w2.heap.size:=(by have:w2.heap.size=w1.heap.size+1:=(by simpa using msz);omega);obtain⟨ps,hps⟩:=eX w1.heap.size;have hps2:w.heap.size<ps:=(by omega);rw[←hps]at S2 hs2;rw[←hps];clear m0 mb mo msz N1 R1 HB1 hps;go_wp2_with fail;refine(HCL.out w2 HB2.out).mono ?_;rintro e w3 ⟨cv,rfl,hown,hb3⟩;obtain⟨y1,y2,y3,rfl⟩:=Dl hown;have HO3:=Hd hown;have HB3:=Hd hb3;clear hown hb3;go_wp2_with fail;refine(HTL.out w3).mono ?_;rintro e w4 ⟨tv,rfl,hown,hb4⟩;obtain⟨x1,x2,x3,rfl⟩:=Dl hown;have HT4:=Hd hown.rd;have HO4:=Hd (HO3.out.below hb4 lR);have HB4:=Hd (HB3.out.trans (hb4.mono HB3.out.size));clear hown hb4 HO3 HB3;go_wp2_with (at_builtin;refine Bd rfl (.tmp 10) (.tmp 13) 28 rfl w2.heap.size 5 _ 1 Fk _ (bvs L) rfl HO4.out _ (bvs (tailL n)) rfl HT4.out (Fz _) ?c2 ?c3 ?_);case c2=>
   have e:=congrArg List.length HPE.out;rw[aG,bvs_len P]at e;omega
  case c3=>exact HB4.out.size
  rintro rv w5 hown-hb5;rw[HPE.out]at hown;obtain⟨z1,z2,z3,rfl⟩:=Dl hown;have HR5:=Hd hown.rd;have HNE:=Hd (show∀a n c,Value.slice z1 z2 z3=.slice (some a) n c→a.block≠ps from fun a n' c' e=>by
   simp only[Value.slice.injEq]at e;obtain⟨rfl,rfl,rfl⟩:=e;rcases hown.2 with⟨e,_⟩|⟨gg,cp,cur,e,hg,_⟩
   ·cases e
   ·simp only[Value.slice.injEq,Option.some.injEq]at e;rw[e.1];show gg≠ps
    omega)
  have S5:=Hd ((show Blk w2 ps 244 HA from S2.out).below (HB4.out.trans hb5) (by omega));have R5:=Hd (R2.out.below (HB4.out.trans hb5) R2.out.lt);have HB5:=Hd (HB2.out.trans ((HB4.out.trans hb5).mono HB2.out.size));clear hown hb5 HO4 HT4 HB4 S2 R2 HB2;go_wp2_with fail;go_step3;simp only[Exit.then]
  apply_assumption
  refine HJ.out _ _ ⟨ps,0,z2,z3,z1,hps2,?_,?_,R5.out,?_,?_,HB5.out,_,_,_,_,_,_,_,_,_,_,_,_,_,_,_,_,_,_,_,_,_,_,_,_,_,_,_,_,_,_,_,_,_,_,_,_,_,_,_,_,_,_,_,_,_,_,_,_,_,_,_,_,rfl⟩
  ·obtain⟨a',c',e,-,-,-⟩:=HR5.out;simp only[Value.slice.injEq]at e;rw[e.2.1,bvs_len];rfl
  ·have e:blocksN P HL0 0=HL0:=rfl;rw[e];have:=S5.out;rw[HAE.out]at this;exact this
  ·exact HR5.out
  ·intro a e;exact HNE.out a _ _ (by rw[e])
end Go.Proofs.YtfofaiommeckbaaGreat
namespace Go.Proofs.YtfofaiommeckbaaGreat
open Go.RowKit
section
section
variable {P:Program} {l:List Oper} {Q:Exit→Act→World→Prop} {sat:List Fm} {tl:List Bool} {q:Nat} {a0:Act} {W:World} {i:Nat} {o:Oper}
end
end
section
section
variable {P:Program} {l:List Oper} {Q:Exit→Act→World→Prop} {sat:List Fm} {tl:List Bool} {q:Nat} {a0:Act} {W:World} {i:Nat} {o:Oper} {os:List Oper}
end
end
end Go.Proofs.YtfofaiommeckbaaGreat
