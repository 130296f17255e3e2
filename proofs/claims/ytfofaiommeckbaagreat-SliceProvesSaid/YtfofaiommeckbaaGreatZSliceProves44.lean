import Derived.Test.YtfofaiommeckbaaGreatZSliceProves42
import Derived.Test.YtfofaiommeckbaaGreatZSliceProves25
open Go.Value renaming slice → q9, int → rA, pointer → rB
open Option renaming none → rF
open Go.Proofs.Tryz
open List renaming range → aF, length_drop → eE, drop_drop → iK, length_take → cD, mem_of_mem_drop → iL, getElem?_toArray → bZ, getElem?_cons_zero → cA, getElem?_cons_succ → cB
open Nat renaming le_trans → bM, lt_succ_self → dE, le_of_lt → dW, le_succ → gG
set_option linter.unusedVariables false
set_option maxRecDepth 100000
set_option maxHeartbeats 40000000
namespace Go.Proofs.YtfofaiommeckbaaGreat
open Go.RowKit WireM
def Znp (w:World)(B:Nat)(d:ParD)(c:Array Value):Prop:=
 ∃v1 v2 v3,c=#[v1,v2,v3]∧Own w B 5 v1 (bvs d.box)∧Own w B 5 v2 (bvs d.hash)∧Own w B 3 v3 (ivs .i64 d.late)
theorem Zas {w:World} {B:Nat} {v:Value} {L:List Int}(h:Own w B 3 v (ivs .i64 L)):∃a c,v=.slice a L.length c:=by
 obtain⟨a,c,e,_⟩:=h.rd;rw[Ga]at e;exact⟨a,c,e⟩
theorem RdK.slot {w:World} {B q i:Nat} {v u:Value} {L:List Nat} {a:Option Addr} {n c:Nat}(h:RdK w B v (bvs L))(o:w.cell? ⟨q,i,rF⟩=some (q9 a n c)):RdK (w.setCell ⟨q,i,rF⟩ u) B v (bvs L):=by
 obtain⟨l,cap,h1,h2,h3,f|⟨b,d,f,m,k⟩⟩:=h
 ·exact⟨l,cap,h1,h2,h3,.inl f⟩
 ·refine⟨l,cap,h1,h2,h3,.inr ⟨b,d,f,m,fun j x hx=> ?_⟩⟩;rw[World.cell?_setCell_other]
  ·exact k j x hx
  ·intro e;have g:=k j x hx;rw[←e,o]at g;simp only[Option.some.injEq]at g;subst g;simp[bvs]at hx
theorem RS.slot {w:World} {B q i:Nat} {u:Value} {L:List Nat} {er:Nat} {a:Option Addr} {n c:Nat}(h:RS w B L er)(hc:w.cell? ⟨q,i,rF⟩=some (q9 a n c))(hne:q≠B):RS (w.setCell ⟨q,i,rF⟩ u) B L er:=by
 obtain⟨v,hb,hr⟩:=h;exact⟨v,hb.far (p:=⟨q,i,rF⟩) (fun e=>hne e.symm) u,hr.slot hc⟩
theorem Zm2 (w:World)(u:Value)(t:TypeId):Rd (w.alloc (.cells #[u] t)) (q9 (some ⟨w.heap.size,0,rF⟩) 1 1) [u]:=by
 refine⟨_,1,rfl,lR,by unfold maxLen;omega,.inr ⟨_,0,rfl,?_⟩⟩;intro j x hx;cases j with
 |zero=>simp at hx;subst hx;exact Ar rfl
 |succ j=>simp at hx
def Zg2 (L:List Nat)(j:Nat):Nat:=Gr ((L.drop (4*j)).take 4)
theorem Zf8:∀(k:Nat) (L:List Nat),L.length/4≤k→Zg1 k L=(aF (L.length/4)).map fun j=>((Zg2 L j:Nat):Int)
 |0,L,h=>by rw[show L.length/4=0 by omega];rfl
 |k+1,L,h=>by
  unfold Zg1
  by_cases h4:4≤L.length
  ·rw[if_pos h4,Zf8 k (L.drop 4) (by rw[eE];omega),eE,show L.length/4=(L.length-4)/4+1 by omega,List.range_succ_eq_map,List.map_cons,List.map_map]
   congr 1
   ·refine List.map_congr_left fun j _=> ?_;show((Zg2 (L.drop 4) j:Nat):Int)=((Zg2 L (j+1):Nat):Int);unfold Zg2;rw[iK,show 4+4*j=4*(j+1) by omega]
  ·rw[if_neg h4,show L.length/4=0 by omega];rfl
theorem Zl0 {L:List Nat}(hL:∀n∈L,n<256) {j:Nat}(hj:4*j+4≤L.length):Zg2 L j<4294967296:=by
 have:=Ro 4 ((L.drop (4*j)).take 4) (by rw[cD,eE];omega) fun n hn=>hL n (iL (List.mem_of_mem_take hn));simpa [Zg2]using this
def Zjh (B:Nat)(w:World)(r:Nat×ParD×List Nat×Nat)(e:Ending)(w':World):Prop:=
 ∃c,e=.returned (.tuple #[.agg c,rA .u8 (r.1:Nat)])∧Znp w' w.heap.size r.2.1 c∧RS w' B r.2.2.1 r.2.2.2∧Only B w w'
theorem Zci (J M y L0 L1 L2 L3:List Nat) (e1 e2 e3 B:Nat) (late:List Int) (r:Nat×ParD×List Nat×Nat) (w:World) (h:RS w B L0 0)
  (C1:∀W,RS W B L0 0→Calls prog 254 #[rB (some ⟨B,0,rF⟩)] W (Ms B W (J,L1,e1)))
  (C2:∀W,RS W B L1 e1→Calls prog 254 #[rB (some ⟨B,0,rF⟩)] W (Ms B W (M,L2,e2)))
  (C3:∀W,RS W B L2 e2→Calls prog 254 #[rB (some ⟨B,0,rF⟩)] W (Ms B W (y,L3,e3)))
  (aI:∀n∈y,n<256) (cS:y.length≤1000000000) (A:late=(aF (y.length/4)).map fun j=>((Zg2 y j:Nat):Int))
  (X3:e3≠0→r=(e3,noParD,L3,e3)) (XR:e3=0→y.length%4≠0→r=(3,noParD,L3,e3))
  (XB:e3=0→y.length%4=0→∀b,rpB J.length M.length late=b→r=if b=true then(0,⟨J,M,late⟩,L3,e3)else(3,noParD,L3,e3)):
  Calls prog 219 #[rB (some ⟨B,0,rF⟩)] w (Zjh B w r):=by
 have hB:=h.lt;obtain⟨g,hg⟩:=eX w.heap.size;have HG:=Hd hg;have K:=Hd (show B<g by omega);obtain⟨w0,F⟩:=eX (w.alloc (.cells #[q9 rF 0 0,q9 rF 0 0,q9 rF 0 0] 50));have b1:=Hd F;have a3:=Hd (show g+1≤w0.heap.size by rw[F,hg];simp);have G0:=Hd (show Blk w0 g 50 #[q9 rF 0 0,q9 rF 0 0,q9 rF 0 0] by rw[F,hg];exact Blk.new _ _ _);have A0:=Hd (Al.nil w0 (g+1));have O0:=Hd (show Only B w w0 by rw[F];exact(Only.refl _ _).alloc _);have R0:=Hd (show RS w0 B L0 0 by rw[F];exact h.low ((Below.refl w.heap.size w).alloc lR (.cells #[q9 rF 0 0,q9 rF 0 0,q9 rF 0 0] 50)) hB);have bN:=Hd C1;have b9:=Hd C2;have b3:=Hd C3;have bY:=Hd X3;have bV:=Hd XR;have bX:=Hd XB;have bW:=Hd fun(L:List Nat) (er:Nat) W=>Hj B L er W;have bP:=Hd fun(b:Nat) (L:List Nat) W=>Zia b L 0 W;have cG:=Hd Kk;have bK:=Hd @Ib;obtain⟨n,hn⟩:=eX (y.length/4);have bD:late.length=n:=(by rw[A,List.length_map,List.length_range,hn]);have aD:∀(j:Nat) (hj:j<late.length),late[j]=((Zg2 y j:Nat):Int):=fun j hj=>(by subst A;simp);have aU:=Hd bD;have aR:=Hd aD;have HN:=Hd (show late.length≤1000000000 by omega);have bL:=Hd hn;have bO:=Hd fun(j:Nat) (hj:4*j+4≤y.length)=>Zl0 aI hj;have bA:=Hd fun(W:World) (b j:Nat) (hj:4*j+4≤y.length) (hW:RS W b (y.drop (4*j)) 0)=>(show Calls prog 154 #[rB (some ⟨b,0,rF⟩),rA .i64 4] W fun e W'=>e=.returned (rA .u64 (Zg2 y j:Nat))∧RS W' b (y.drop (4*(j+1))) 0∧Only b W W' from by
  have h1:=Og b _ 0 4 W hW fun x hx=>aI x (iL hx);have e:Hf (y.drop (4*j)) 0 4=((y.drop (4*j)).take 4,y.drop (4*(j+1)),0):=by
   unfold Hf;rw[if_pos (by decide)];unfold Dd;rw[if_neg (by simp),if_neg (by omega),if_neg (by rw[eE];omega),iK,show 4*j+(4:Int).toNat=4*(j+1) by have:(4:Int).toNat=4:=rfl;omega]
   rfl
  rw[e]at h1;exact h1)
 obtain⟨S,hS⟩:=eX (Zjh B w r);rw[←hS];have HS:=Hd (show∀(e:Ending) (w':World) {c:Array Value} {k:Nat} {d:ParD} {R:List Nat} {re:Nat},e=.returned (.tuple #[.agg c,rA .u8 (k:Nat)])→r=(k,d,R,re)→Znp w' w.heap.size d c→RS w' B R re→Only B w w'→S e w' from by
  rintro e w' c k d R re rfl rfl h1 h2 h3;rw[hS];exact⟨c,rfl,h1,h2,h3⟩)
 clear h hB hg F C1 C2 C3 X3 XR XB hS hn bD aD A aI;obtain⟨ln,aS⟩:=eX y.length;have H:=Hd aS;clear aS;go_enter func219,ntmps219;go_wp2_with fail;rw[←b1.out,←HG.out];refine(bN.out w0 R0.out).mono ?_;rintro e w1 ⟨u1,rfl,l,u,a⟩;obtain⟨a1,c1,rfl⟩:=Ip l;have O:=l.mono (B':=g+1) a3.out;have a4:=Hd (bM a3.out a.size);have A1:=Hd (A0.out.only a (by have:=K.out;omega));have G1:=Hd (G0.out.only a (by have:=K.out;omega));have O1:=Hd (O0.out.trans a);have R1:=Hd u;replace A1:=Hd (A1.out.cons O);clear l u a O;go_wp2_with fail;refine(b9.out w1 R1.out).mono ?_;rintro e w2 ⟨u2,rfl,l,u,a⟩;obtain⟨a2,c2,rfl⟩:=Ip l;have O:=l.mono (B':=g+1) a4.out;have a0:=Hd (bM a4.out a.size);have A2:=Hd (A1.out.only a (by have:=K.out;omega));have G2:=Hd (G1.out.only a (by have:=K.out;omega));have O2:=Hd (O1.out.trans a);have R2:=Hd u;replace A2:=Hd (A2.out.cons O);clear l u a O;obtain⟨q,hq⟩:=eX w2.heap.size;have HQ:=Hd hq;have Y:=Hd (show g+1≤q by rw[hq];exact a0.out);clear hq;go_wp2_with (refine Aa rfl 50 (.tmp 4) (.tmp 12) rfl w2.heap.size #[.slice a1 J.length c1,.slice a2 M.length c2,q9 rF 0 0] rfl rfl 50 #[q9 rF 0 0,q9 rF 0 0,q9 rF 0 0] (Blk.new _ _ _) (by kernel_rfl) rfl rfl ?_);rintro w3 f s t o;have z:Below w2.heap.size w2 w3:=(bR.alloc lR _).trans (s _ lR);have cL:=Hd (bM a0.out z.size);have A3:=Hd (A2.out.below z);have G3:=Hd (G2.out.below z G2.out.lt);have O3:=Hd (Rb O2.out z);have R3:=Hd (R2.out.below z);rw[←HQ.out]at f⊢;have Q3:=Hd f;have b6:=Hd (show q<w3.heap.size from f.lt);clear f s t o z;go_wp2_with fail;refine(b3.out w3 R3.out).mono ?_;rintro e w4 ⟨u3,rfl,l,u,a⟩;have cC:=Hd l.rd;have aH:=Hd (Nat.lt_of_lt_of_le b6.out a.size);have cP:=Hd (bM cL.out a.size);have A4:=Hd (A3.out.only a (by have:=K.out;omega));have G4:=Hd (G3.out.only a (by have:=K.out;omega));have Q4:=Hd (Q3.out.only a (by have:=K.out;have:=Y.out;omega));have O4:=Hd (O3.out.trans a);have R4:=Hd u;clear l u a;go_wp2_with fail;refine(bW.out _ _ _ R4.out).mono ?_;rintro e w' ⟨rfl,rfl⟩
 by_cases h3:e3=0
 ·have aZ:=Hd h3;have bQ:((e3:Int) !=0)=false:=(by rw[bne_eq_false_iff_eq];omega);clear h3;go_wp2_with fail;refine(cG.out _ _ _ cC.out).mono ?_;rintro e w7 ⟨rfl,u,z⟩;obtain⟨r,hr⟩:=eX w4.heap.size;rw[←hr]at u z⊢;have aT:q<r:=(by rw[hr];exact aH.out);have aG:Below w4.heap.size w4 w7:=(by rw[←hr];exact z);have HR:=Hd hr;have Q:=Hd aT;have cJ:=Hd u;have b0:=Hd (show Only q w4 w7 from Only.of aG);have cE:=Hd (Q4.out.below aG aH.out);clear hr aT u z aG;go_wp2_with fail
  go_loopg [] n (fun k wr=>∃j:Nat,j+k=n∧∃lv,RS wr r (y.drop (4*j)) 0∧Blk wr q 50 #[.slice a1 J.length c1,.slice a2 M.length c2,lv]∧Own wr (r+1) 3 lv (ivs .i64 (late.take j))∧Only q w4 wr)
  case atStart=>exact⟨0,by omega,_,cJ.out,cE.out,Own.nil _ _ _,b0.out⟩
  case round=>
   obtain⟨j,hj,lv,u,f,l,a⟩:=hrel;have aX:=Hd u;have D:=Hd f;have aC:=Hd l;have G:=Hd a;clear u f l a;obtain⟨I,aQ⟩:=eX ((y.drop (4*j)).length);have bH:I=ln-4*j:=(by rw[aQ,eE,H.out]);have aE:=bP.out r _ wr aX.out;rw[←aQ]at aE;have HL:=Hd aE;have HJ:=Hd hj;have V:=Hd bH;have aA:=Hd (show n=ln/4 by rw[bL.out,H.out]);clear aE aQ bH
   by_cases hjn:j<n
   ·obtain⟨al,cl,rfl⟩:=Zas aC.out;have Z:4*j+4≤ln:=(by have:=aA.out;omega);go_wp2_with fail;refine HL.out.mono ?_;rintro e w' ⟨rfl,rfl⟩;have hd:decide ((I:Int)≥4)=true:=decide_eq_true (by have:=V.out;omega);have bS:decide ((4:Int)≤(I:Int))=true:=decide_eq_true (by have:=V.out;omega);have aP:j<late.length:=(by rw[aU.out];exact hjn);obtain⟨m,hm⟩:=eX (Zg2 y j);have bC:late[j]=(m:Int):=(by rw[aR.out j aP,hm]);have HT:=Hd (show late.take (j+1)=late.take j++[(m:Int)] by rw[List.take_add_one,List.getElem?_eq_getElem aP,bC];rfl);have cR:m<4294967296:=(by rw[hm];exact bO.out j (by rw[←H.out];exact Z));have a5:=aX;have aV:=Hd hjn;have HC:=Hd fun(W:World) (hW:RS W r (y.drop (4*j)) 0)=>bA.out W r j (by rw[←H.out];exact Z) hW;rw[←hm]at HC;have b8:(late.take j).length=j:=(by rw[cD];omega);obtain⟨lj,bB⟩:=eX ((late.take j).length);have y2:=D.out.cell 2;have z2:=D.out.frozen 2;simp only[bZ,cA,cB]at y2;rw[←bB]at y2 D aC;have cN:IntKind.i64.wrap (m:Int)=(m:Int):=IntWalk.i64_in _ ⟨by omega,by omega⟩;clear hj aP bC bB b8 hjn hm Z;go_wp2_with fail
    go_region_law (first
     |(go_simp;go_at_call 154;refine(HC.out _ (show RS wr.drew r _ 0 from a5.out)).mono ?_;rintro e w8 ⟨rfl,E,aM⟩;have aJ:=Hd (Blk.only (show Blk wr.drew q 50 #[.slice a1 J.length c1,.slice a2 M.length c2,q9 al lj cl]from D.out) aM (by have:=Q.out;omega));have y8:=aJ.out.cell 2;have cK:=(aJ.out.alloc (.cells #[rA .i64 (m:Int)] 3)).cell 2;simp only[bZ,cA,cB]at y8 cK)
     |(refine Zij rfl (.tmp 27) (.tmp 31) 48 rfl (r+1) 3 _ 8 Cn (q9 al lj cl) (ivs .i64 (late.take j)) rfl (((show Own wr.drew (r+1) 3 (q9 al lj cl) (ivs .i64 (late.take j))from aC.out).only aM (dE _)).alloc _) _ [rA .i64 (m:Int)] rfl (Zm2 _ _ _) (by simp[Value.oneCell']) (by rw[Ga];simp;have:=HN.out;have:=List.length_take_le j late;omega) (by have:=E.lt;simp;omega) ?_;rintro v9 w9 X aO;obtain⟨a9,n9,c9,rfl⟩:=Co X;have aK:=Hd ((aJ.out.alloc _).below aO (by have:=Q.out;omega));have y9:=aK.out.cell 2;have z9:=aK.out.frozen 2;simp only[bZ,cA,cB]at y9))
    all_goals
     go_wp2_with fail;go_roundg (gk-1);case measure=>have:=HJ.out;have:=aV.out;omega
     case rel=>
      refine⟨j+1,by have:=HJ.out;have:=aV.out;omega,q9 a9 n9 c9,?_,?_,?_,?_⟩
      ·have aL:=E.lt;have T:=((Below.refl (r+1) w8).alloc aL (.cells #[rA .i64 (m:Int)] 3)).trans aO;exact(E.low T (dE _)).slot y9 (by have:=Q.out;omega)
      ·simpa using aK.out.set 2 (q9 a9 n9 c9)
      ·have:=X.setLow (p:=⟨q,2,rF⟩) (by have:=Q.out;simp only;omega) (q9 a9 n9 c9);rw[HT.out,ivs,List.map_append];exact this
      ·have aL:=E.lt;have T:=((Below.refl (r+1) w8).alloc aL (.cells #[rA .i64 (m:Int)] 3)).trans aO;have h8:Below r wr w8:=(Below.draw1 (Below.refl r wr)).trans (aM.below lR (dW a5.out.lt));exact(G.out.then (HR.out▸(h8.trans (T.mono (gG _))))).trans (Only.set 2 _)
   ·obtain rfl:j=n:=(by have:=HJ.out;omega);have ht:late.take j=late:=(by rw[←aU.out,List.take_length]);have how:=aC.out;rw[ht]at how;obtain⟨al,cl,rfl⟩:=Zas how;have a7:=Hd how;have cM:=G.out.size;have a6:=Hd (show I=ln%4 by have:=V.out;have:=aA.out;omega);have GX:=Hd (G4.out.only G.out (by have:=Y.out;omega));have RX:=Hd (R4.out.only G.out (by have:=K.out;have:=Y.out;omega) (dW aH.out));have OX:=Hd (O4.out.then (G.out.below (C:=w.heap.size) (by have:=Y.out;have:=HG.out;omega) O4.out.size));have AX:=Hd (A4.out.other Q4.out (by decide) (fun i O bT=>G.out.block i O (fun e=>bT (by simpa using e))));clear ht how hjn hj;go_wp2_with fail;refine HL.out.mono ?_;rintro e w' ⟨rfl,rfl⟩;have hd:decide ((I:Int)≥4)=false:=decide_eq_false (by have:=V.out;have:=aA.out;omega);have bS:decide ((4:Int)≤(I:Int))=false:=decide_eq_false (by have:=V.out;have:=aA.out;omega);go_wp2_with fail;refine HL.out.mono ?_;rintro e w' ⟨rfl,rfl⟩
    by_cases hre:I=0
    ·have b5:decide ((I:Int)>0)=false:=decide_eq_false (by omega);have b2:decide (0<I)=false:=decide_eq_false (by omega);have b7:decide ((0:Int)<(I:Int))=false:=decide_eq_false (by omega);have HX:=Hd (bX.out aZ.out (by have:=a6.out;rw[←H.out];omega));clear hre;go_wp2_with (refine Rj rfl ?_;refine Aw rfl 50 (.tmp 4) rfl q rfl 50 #[.slice a1 J.length c1,.slice a2 M.length c2,.slice al late.length cl] (0,0) _ D.out underlying50 rfl (by kernel_rfl) ?_);refine(bK.out a1 a2 al J.length M.length c1 c2 cl late wr a7.out.rd).mono ?_;rintro e cQ ⟨rfl,z⟩;have bI:=Hd (D.out.below z D.out.lt);have aB:=Hd (GX.out.below z GX.out.lt);have aW:=Hd (RX.out.below z);have bG:=Hd (Rb OX.out z);have cI:=Hd (AX.out.below z);have cH:=Hd (a7.out.below z lR);clear z;obtain⟨RB,aN⟩:=eX (rpB J.length M.length late);rw[←aN];have bE:=Hd (HX.out RB aN.symm);clear aN;cases RB with
     |false=>
      go_wp2_with (refine Aa rfl 50 (.tmp 2) (.tmp 42) rfl g #[q9 rF 0 0,q9 rF 0 0,q9 rF 0 0] rfl rfl 50 #[q9 rF 0 0,q9 rF 0 0,q9 rF 0 0] aB.out (by kernel_rfl) rfl rfl ?_);rintro a8 f s t o;have N:=Hd f;have U:=Hd (Bs bG.out (s w.heap.size (by rw[HG.out];exact lR)));have P:=Hd (aW.out.low (s g lR) K.out);clear f s t o;go_wp2_with fail;refine bodyPost_ret (v:=.tuple #[.agg #[q9 rF 0 0,q9 rF 0 0,q9 rF 0 0],rA .u8 3]) (Ad results219 _ _ g _ _ _ rfl N.out underlying50 rfl (by kernel_rfl)) rfl ?_;exact HS.out _ _ rfl bE.out ⟨_,_,_,rfl,Own.nil _ _ _,Own.nil _ _ _,Own.nil _ _ _⟩ P.out U.out
     |true=>
      go_wp2_with (first
       |(refine Aw rfl 50 (.tmp 4) rfl q rfl 50 #[.slice a1 J.length c1,.slice a2 M.length c2,.slice al late.length cl] (0,0) _ bI.out underlying50 rfl (by kernel_rfl) ?_)
       |(refine Aa rfl 50 (.tmp 2) (.tmp 43) rfl g #[.slice a1 J.length c1,.slice a2 M.length c2,.slice al late.length cl] rfl rfl 50 #[q9 rF 0 0,q9 rF 0 0,q9 rF 0 0] aB.out (by kernel_rfl) rfl rfl ?_))
      rintro cO f s t o;have bF:=Hd f;have cF:=Hd (aW.out.low (s g lR) K.out);have bU:=Hd (Bs bG.out (s w.heap.size (by rw[HG.out];exact lR)));have aY:=Hd ((cI.out.other aB.out (by decide) (fun i _ O=>t i O)).mono (gG g));have b4:=Hd ((cH.out.other aB.out (by decide) (fun i _ O=>t i O)).mono (B':=g) (by have:=Y.out;have:=Q.out;omega));clear f s t o;go_wp2_with fail;refine bodyPost_ret (v:=.tuple #[.agg #[.slice a1 J.length c1,.slice a2 M.length c2,.slice al late.length cl],rA .u8 0]) (Ad results219 _ _ g _ _ _ rfl bF.out underlying50 rfl (by kernel_rfl)) rfl ?_;refine HS.out _ _ rfl bE.out ?_ cF.out bU.out;rw[←HG.out];exact⟨_,_,_,rfl,aY.out.nth 1 rfl,aY.out.nth 0 rfl,b4.out⟩
    ·have b5:decide ((I:Int)>0)=true:=decide_eq_true (by omega);have b2:decide (0<I)=true:=decide_eq_true (by omega);have b7:decide ((0:Int)<(I:Int))=true:=decide_eq_true (by omega);have HX:=Hd (bV.out aZ.out (by have:=a6.out;rw[←H.out];omega));clear hre;go_wp2_with (refine Aa rfl 50 (.tmp 2) (.tmp 42) rfl g #[q9 rF 0 0,q9 rF 0 0,q9 rF 0 0] rfl rfl 50 #[q9 rF 0 0,q9 rF 0 0,q9 rF 0 0] GX.out (by kernel_rfl) rfl rfl ?_);rintro a8 f s t o;have N:=Hd f;have U:=Hd (Bs OX.out (s w.heap.size (by rw[HG.out];exact lR)));have P:=Hd (RX.out.low (s g lR) K.out);clear f s t o;go_wp2_with fail;refine bodyPost_ret (v:=.tuple #[.agg #[q9 rF 0 0,q9 rF 0 0,q9 rF 0 0],rA .u8 3]) (Ad results219 _ _ g _ _ _ rfl N.out underlying50 rfl (by kernel_rfl)) rfl ?_;exact HS.out _ _ rfl HX.out ⟨_,_,_,rfl,Own.nil _ _ _,Own.nil _ _ _,Own.nil _ _ _⟩ P.out U.out
 ·have bJ:=Hd (bY.out h3);have bQ:((e3:Int) !=0)=true:=(by rw[bne_iff_ne];omega);clear h3;go_wp2_with (refine Aa rfl 50 (.tmp 2) (.tmp 19) rfl g #[q9 rF 0 0,q9 rF 0 0,q9 rF 0 0] rfl rfl 50 #[q9 rF 0 0,q9 rF 0 0,q9 rF 0 0] G4.out (by kernel_rfl) rfl rfl ?_);rintro a8 f s t o;have N:=Hd f;have U:=Hd (Bs O4.out (s w.heap.size (by rw[HG.out];exact lR)));have P:=Hd (R4.out.low (s g lR) K.out);clear f s t o;go_wp2_with fail;refine bodyPost_ret (v:=.tuple #[.agg #[q9 rF 0 0,q9 rF 0 0,q9 rF 0 0],rA .u8 (e3:Nat)]) (Ad results219 _ _ g _ _ _ rfl N.out underlying50 rfl (by kernel_rfl)) rfl ?_;exact HS.out _ _ rfl bJ.out ⟨_,_,_,rfl,Own.nil _ _ _,Own.nil _ _ _,Own.nil _ _ _⟩ P.out U.out
theorem Zf9 (B:Nat)(L:List Nat)(w:World)(h:RS w B L 0)(t:L.length<1000000000)(o:∀n∈L,n<256):
  Calls prog 219 #[rB (some ⟨B,0,rF⟩)] w (Zjh B w (Io L 0)):=by
 have a:=Bo L 0;have c:=Bo (Fc L 0).2.1 (Fc L 0).2.2;have j:∀(M:List Nat) (er:Nat),Sub M L→∀W,RS W B M er→Calls prog 254 #[rB (some ⟨B,0,rF⟩)] W (Ms B W (Fc M er)):=fun M er q W s=>Zd2 B M er W s (by have:=q.1;omega) fun n k=>o n (q.2 n k);unfold Io;simp only;have l:=j L 0 (Sub.refl _);have i:=j _ (Fc L 0).2.2 a.2.1;generalize Fc L 0=r1 at a c l i⊢;have d:=c.2.1.trans a.2.1;have g:=j _ (Fc r1.2.1 r1.2.2).2.2 d;generalize Fc r1.2.1 r1.2.2=r2 at c i g d⊢;have m:=Bo r2.2.1 r2.2.2;generalize Fc r2.2.1 r2.2.2=r3 at m g⊢;have p:=m.1.trans d;refine Zci r1.1 r2.1 r3.1 L r1.2.1 r2.2.1 r3.2.1 r1.2.2 r2.2.2 r3.2.2 B (Zg1 r3.1.length r3.1) _ w h l i g (fun n k=>o n (p.2 n k)) (by have:=p.1;omega) (Zf8 _ _ (by omega)) (fun e=> ?_) (fun e1 e2=> ?_) (fun e1 e2 b r=> ?_)
 ·rw[if_pos e]
 ·rw[if_neg (by omega),if_neg (fun f=>e2 f.1)]
 ·rw[if_neg (by omega)]
  by_cases hb2:b=true
  ·rw[if_pos ⟨e2,r.trans hb2⟩,if_pos hb2]
  ·rw[if_neg (fun f=>hb2 (r.symm.trans f.2)),if_neg hb2]
end Go.Proofs.YtfofaiommeckbaaGreat
