import Derived.Test.YtfofaiommeckbaaGreatZCk21
import Derived.Test.YtfofaiommeckbaaGreatZCk13
open Go.Obj renaming cells -> rJ
open Go.Ending renaming returned -> rK
open Go.Value renaming slice -> rC, int -> rD, pointer -> rE
open Option renaming none -> rI
open Go.Proofs.Tryz
open List renaming range -> aN, length_drop -> dZ, drop_drop -> iG, length_take -> cQ, mem_of_mem_drop -> iD, getElem?_toArray -> cR, getElem?_cons_zero -> cS, getElem?_cons_succ -> aP
open Nat renaming le_trans -> eT, lt_succ_self -> dU, le_of_lt -> eW, le_succ -> gI
set_option linter.unusedVariables false
set_option maxRecDepth 100000
set_option maxHeartbeats 40000000
namespace Go.Proofs.YtfofaiommeckbaaGreat
open Go.RowKit WireM
def Znf (w:World)(B:Nat)(d:ParD)(c:Array Value):Prop:=
 ∃v1 v2 v3,c=#[v1,v2,v3]/\Own w B 5 v1 (bvs d.box)/\Own w B 5 v2 (bvs d.hash)/\Own w B 3 v3 (ivs .i64 d.late)
theorem Ks {w:World} {B:Nat} {v:Value} {L:List Int}(h:Own w B 3 v (ivs .i64 L)):∃a c,v=.slice a L.length c:=by
 obtain⟨a,c,e,_⟩:=h.rd;rw[Fi]at e;exact⟨a,c,e⟩
theorem RdK.slot {w:World} {B q i:Nat} {v u:Value} {L:List Nat} {a:Option Addr} {n c:Nat}(h:RdK w B v (bvs L))(o:w.cell? ⟨q,i,rI⟩=some (rC a n c)):RdK (w.setCell ⟨q,i,rI⟩ u) B v (bvs L):=by
 obtain⟨k,cap,h1,h2,h3,d|⟨b,g,d,m,l⟩⟩:=h
 ·exact⟨k,cap,h1,h2,h3,.inl d⟩
 ·refine⟨k,cap,h1,h2,h3,.inr ⟨b,g,d,m,fun j x hx=> ?_⟩⟩;rw[World.cell?_setCell_other]
  ·exact l j x hx
  ·intro e;have f:=l j x hx;rw[<-e,o]at f;simp only[Option.some.injEq]at f;subst f;simp[bvs]at hx
theorem RS.slot {w:World} {B q i:Nat} {u:Value} {L:List Nat} {er:Nat} {a:Option Addr} {n c:Nat}(h:RS w B L er)(hc:w.cell? ⟨q,i,rI⟩=some (rC a n c))(hne:q≠B):RS (w.setCell ⟨q,i,rI⟩ u) B L er:=by
 obtain⟨v,hb,hr⟩:=h;exact⟨v,hb.far (p:=⟨q,i,rI⟩) (fun e=>hne e.symm) u,hr.slot hc⟩
theorem Zmg (w:World)(u:Value)(t:TypeId):Rd (w.alloc (rJ #[u] t)) (rC (some ⟨w.heap.size,0,rI⟩) 1 1) [u]:=by
 refine⟨_,1,rfl,lR,by unfold maxLen;omega,.inr ⟨_,0,rfl,?_⟩⟩;intro j x hx;cases j with
 |zero=>simp at hx;subst hx;exact Aq rfl
 |succ j=>simp at hx
def Xh (L:List Nat)(j:Nat):Nat:=Du ((L.drop (4*j)).take 4)
theorem Xi:∀(k:Nat) (L:List Nat),L.length/4<=k->Ze3 k L=(aN (L.length/4)).map fun j=>((Xh L j:Nat):Int)
 |0,L,h=>by rw[show L.length/4=0 by omega];rfl
 |k+1,L,h=>by
  unfold Ze3
  by_cases h4:4<=L.length
  ·rw[iP h4,Xi k (L.drop 4) (by rw[dZ];omega),dZ,show L.length/4=(L.length-4)/4+1 by omega,List.range_succ_eq_map,List.map_cons,List.map_map]
   congr 1
   ·refine List.map_congr_left fun j _=> ?_;show((Xh (L.drop 4) j:Nat):Int)=((Xh L (j+1):Nat):Int);unfold Xh;rw[iG,show 4+4*j=4*(j+1) by omega]
  ·rw[iN h4,show L.length/4=0 by omega];rfl
theorem Zfc {L:List Nat}(hL:∀n∈L,n<256) {j:Nat}(hj:4*j+4<=L.length):Xh L j<4294967296:=by
 have:=Nn 4 ((L.drop (4*j)).take 4) (by rw[cQ,dZ];omega) fun n hn=>hL n (iD (List.mem_of_mem_take hn));simpa [Xh]using this
def Zin (B:Nat)(w:World)(r:Nat×ParD×List Nat×Nat)(e:Ending)(w':World):Prop:=
 ∃c,e=rK (.tuple #[.agg c,rD .u8 (r.1:Nat)])/\Znf w' w.heap.size r.2.1 c/\RS w' B r.2.2.1 r.2.2.2/\Only B w w'
theorem Zbu (K M y L0 L1 L2 L3:List Nat) (e1 e2 e3 B:Nat) (late:List Int) (r:Nat×ParD×List Nat×Nat) (w:World) (h:RS w B L0 0)
  (C1:∀W,RS W B L0 0->Calls prog 254 #[rE (some ⟨B,0,rI⟩)] W (Mj B W (K,L1,e1)))
  (C2:∀W,RS W B L1 e1->Calls prog 254 #[rE (some ⟨B,0,rI⟩)] W (Mj B W (M,L2,e2)))
  (C3:∀W,RS W B L2 e2->Calls prog 254 #[rE (some ⟨B,0,rI⟩)] W (Mj B W (y,L3,e3)))
  (aR:∀n∈y,n<256) (cJ:y.length<=1000000000) (D:late=(aN (y.length/4)).map fun j=>((Xh y j:Nat):Int))
  (X3:e3≠0->r=(e3,noParD,L3,e3)) (XR:e3=0->y.length%4≠0->r=(3,noParD,L3,e3))
  (XB:e3=0->y.length%4=0->∀b,rpB K.length M.length late=b->r=if b=true then(0,⟨K,M,late⟩,L3,e3)else(3,noParD,L3,e3)):
  Calls prog 219 #[rE (some ⟨B,0,rI⟩)] w (Zin B w r):=by
 have hB:=h.lt;obtain⟨g,hg⟩:=eX w.heap.size;have HG:=Hd hg;have J:=Hd (show B<g by omega);obtain⟨w0,H⟩:=eX (w.alloc (rJ #[rC rI 0 0,rC rI 0 0,rC rI 0 0] 50));have b1:=Hd H;have a8:=Hd (show g+1<=w0.heap.size by rw[H,hg];simp);have G0:=Hd (show Blk w0 g 50 #[rC rI 0 0,rC rI 0 0,rC rI 0 0] by rw[H,hg];exact Blk.new _ _ _);have A0:=Hd (Al.nil w0 (g+1));have O0:=Hd (show Only B w w0 by rw[H];exact(Only.refl _ _).alloc _);have R0:=Hd (show RS w0 B L0 0 by rw[H];exact h.low ((Below.refl w.heap.size w).alloc lR (rJ #[rC rI 0 0,rC rI 0 0,rC rI 0 0] 50)) hB);have bN:=Hd C1;have bO:=Hd C2;have bP:=Hd C3;have b2:=Hd X3;have b4:=Hd XR;have b3:=Hd XB;have bQ:=Hd fun(L:List Nat) (er:Nat) W=>Gm B L er W;have bS:=Hd fun(b:Nat) (L:List Nat) W=>Zgz b L 0 W;have bU:=Hd Jy;have bY:=Hd @Ho;obtain⟨n,hn⟩:=eX (y.length/4);have bH:late.length=n:=(by rw[D,List.length_map,List.length_range,hn]);have aD:∀(j:Nat) (hj:j<late.length),late[j]=((Xh y j:Nat):Int):=fun j hj=>(by subst D;simp);have aW:=Hd bH;have aU:=Hd aD;have HN:=Hd (show late.length<=1000000000 by omega);have bV:=Hd hn;have bT:=Hd fun(j:Nat) (hj:4*j+4<=y.length)=>Zfc aR hj;have aX:=Hd fun(W:World) (b j:Nat) (hj:4*j+4<=y.length) (hW:RS W b (y.drop (4*j)) 0)=>(show Calls prog 154 #[rE (some ⟨b,0,rI⟩),rD .i64 4] W fun e W'=>e=rK (rD .u64 (Xh y j:Nat))/\RS W' b (y.drop (4*(j+1))) 0/\Only b W W' from by
  have h1:=Nu b _ 0 4 W hW fun x hx=>aR x (iD hx);have e:Eg (y.drop (4*j)) 0 4=((y.drop (4*j)).take 4,y.drop (4*(j+1)),0):=by
   unfold Eg;rw[iP (by decide)];unfold Cc;rw[iN (by simp),iN (by omega),iN (by rw[dZ];omega),iG,show 4*j+(4:Int).toNat=4*(j+1) by have:(4:Int).toNat=4:=rfl;omega]
   rfl
  rw[e]at h1;exact h1)
 obtain⟨S,hS⟩:=eX (Zin B w r);rw[<-hS];have HS:=Hd (show∀(e:Ending) (w':World) {c:Array Value} {k:Nat} {d:ParD} {R:List Nat} {re:Nat},e=rK (.tuple #[.agg c,rD .u8 (k:Nat)])->r=(k,d,R,re)->Znf w' w.heap.size d c->RS w' B R re->Only B w w'->S e w' from by
  rintro e w' c k d R re rfl rfl h1 h2 h3;rw[hS];exact⟨c,rfl,h1,h2,h3⟩)
 clear h hB hg H C1 C2 C3 X3 XR XB hS hn bH aD D aR;obtain⟨ln,bG⟩:=eX y.length;have F:=Hd bG;clear bG;go_in;go_wp2_with fail;rw[<-b1.out,<-HG.out];refine(bN.out w0 R0.out).mono ?_;rintro e w1 ⟨u1,rfl,l,u,a⟩;obtain⟨a1,c1,rfl⟩:=Hv l;have X:=l.mono (B':=g+1) a8.out;have bA:=Hd (eT a8.out a.size);have A1:=Hd (A0.out.only a (by have:=J.out;omega));have G1:=Hd (G0.out.only a (by have:=J.out;omega));have O1:=Hd (O0.out.trans a);have R1:=Hd u;replace A1:=Hd (A1.out.cons X);clear l u a X;go_wp2_with fail;refine(bO.out w1 R1.out).mono ?_;rintro e w2 ⟨u2,rfl,l,u,a⟩;obtain⟨a2,c2,rfl⟩:=Hv l;have X:=l.mono (B':=g+1) bA.out;have bB:=Hd (eT bA.out a.size);have A2:=Hd (A1.out.only a (by have:=J.out;omega));have G2:=Hd (G1.out.only a (by have:=J.out;omega));have O2:=Hd (O1.out.trans a);have R2:=Hd u;replace A2:=Hd (A2.out.cons X);clear l u a X;obtain⟨q,hq⟩:=eX w2.heap.size;have HQ:=Hd hq;have O:=Hd (show g+1<=q by rw[hq];exact bB.out);clear hq;go_wp2_with (refine Aa rfl 50 (.tmp 4) (.tmp 12) rfl w2.heap.size #[.slice a1 K.length c1,.slice a2 M.length c2,rC rI 0 0] rfl rfl 50 #[rC rI 0 0,rC rI 0 0,rC rI 0 0] (Blk.new _ _ _) (by kernel_rfl) rfl rfl ?_);rintro w3 f s t o;have z:Below w2.heap.size w2 w3:=(bR.alloc lR _).trans (s _ lR);have b5:=Hd (eT bB.out z.size);have A3:=Hd (A2.out.below z);have G3:=Hd (G2.out.below z G2.out.lt);have O3:=Hd (Qq O2.out z);have R3:=Hd (R2.out.below z);rw[<-HQ.out]at f|-;have Q3:=Hd f;have bX:=Hd (show q<w3.heap.size from f.lt);clear f s t o z;go_wp2_with fail;refine(bP.out w3 R3.out).mono ?_;rintro e w4 ⟨u3,rfl,l,u,a⟩;have b0:=Hd l.rd;have aF:=Hd (Nat.lt_of_lt_of_le bX.out a.size);have cI:=Hd (eT b5.out a.size);have A4:=Hd (A3.out.only a (by have:=J.out;omega));have G4:=Hd (G3.out.only a (by have:=J.out;omega));have Q4:=Hd (Q3.out.only a (by have:=J.out;have:=O.out;omega));have O4:=Hd (O3.out.trans a);have R4:=Hd u;clear l u a;go_wp2_with fail;refine(bQ.out _ _ _ R4.out).mono ?_;rintro e w' ⟨rfl,rfl⟩
 by_cases h3:e3=0
 ·have aT:=Hd h3;have cA:((e3:Int) !=0)=false:=(by rw[bne_eq_false_iff_eq];omega);clear h3;go_wp2_with fail;refine(bU.out _ _ _ b0.out).mono ?_;rintro e w7 ⟨rfl,u,z⟩;obtain⟨r,hr⟩:=eX w4.heap.size;rw[<-hr]at u z|-;have bI:q<r:=(by rw[hr];exact aF.out);have aG:Below w4.heap.size w4 w7:=(by rw[<-hr];exact z);have HR:=Hd hr;have P:=Hd bI;have bZ:=Hd u;have bM:=Hd (show Only q w4 w7 from Only.of aG);have bW:=Hd (Q4.out.below aG aF.out);clear hr bI u z aG;go_wp2_with fail
  go_loopg [] n (fun k wr=>∃j:Nat,j+k=n/\∃lv,RS wr r (y.drop (4*j)) 0/\Blk wr q 50 #[.slice a1 K.length c1,.slice a2 M.length c2,lv]/\Own wr (r+1) 3 lv (ivs .i64 (late.take j))/\Only q w4 wr)
  case atStart=>exact⟨0,by omega,_,bZ.out,bW.out,Own.nil _ _ _,bM.out⟩
  case round=>
   obtain⟨j,hj,lv,u,f,l,a⟩:=hrel;have a4:=Hd u;have A:=Hd f;have aC:=Hd l;have G:=Hd a;clear u f l a;obtain⟨I,aK⟩:=eX ((y.drop (4*j)).length);have bE:I=ln-4*j:=(by rw[aK,dZ,F.out]);have aE:=bS.out r _ wr a4.out;rw[<-aK]at aE;have HL:=Hd aE;have HJ:=Hd hj;have N:=Hd bE;have aB:=Hd (show n=ln/4 by rw[bV.out,F.out]);clear aE aK bE
   by_cases hjn:j<n
   ·obtain⟨al,cl,rfl⟩:=Ks aC.out;have Y:4*j+4<=ln:=(by have:=aB.out;omega);go_wp2_with fail;refine HL.out.mono ?_;rintro e w' ⟨rfl,rfl⟩;have hd:decide ((I:Int)>=4)=true:=dT (by have:=N.out;omega);have cB:decide ((4:Int)<=(I:Int))=true:=dT (by have:=N.out;omega);have aJ:j<late.length:=(by rw[aW.out];exact hjn);obtain⟨m,hm⟩:=eX (Xh y j);have bJ:late[j]=(m:Int):=(by rw[aU.out j aJ,hm]);have HT:=Hd (show late.take (j+1)=late.take j++[(m:Int)] by rw[List.take_add_one,List.getElem?_eq_getElem aJ,bJ];rfl);have cK:m<4294967296:=(by rw[hm];exact bT.out j (by rw[<-F.out];exact Y));have a5:=a4;have aV:=Hd hjn;have HC:=Hd fun(W:World) (hW:RS W r (y.drop (4*j)) 0)=>aX.out W r j (by rw[<-F.out];exact Y) hW;rw[<-hm]at HC;have cF:(late.take j).length=j:=(by rw[cQ];omega);obtain⟨lj,bF⟩:=eX ((late.take j).length);have y2:=A.out.cell 2;have z2:=A.out.frozen 2;simp only[cR,cS,aP]at y2;rw[<-bF]at y2 A aC;have cL:IntKind.i64.wrap (m:Int)=(m:Int):=IntWalk.i64_in _ ⟨by omega,by omega⟩;clear hj aJ bJ bF cF hjn hm Y;go_wp2_with fail
    go_region_law (first
     |(go_simp;go_at_call 154;refine(HC.out _ (show RS wr.drew r _ 0 from a5.out)).mono ?_;rintro e w8 ⟨rfl,E,aL⟩;have aM:=Hd (Blk.only (show Blk wr.drew q 50 #[.slice a1 K.length c1,.slice a2 M.length c2,rC al lj cl]from A.out) aL (by have:=P.out;omega));have y8:=aM.out.cell 2;have cH:=(aM.out.alloc (rJ #[rD .i64 (m:Int)] 3)).cell 2;simp only[cR,cS,aP]at y8 cH)
     |(refine Zgi rfl (.tmp 27) (.tmp 31) 48 rfl (r+1) 3 _ 8 Cg (rC al lj cl) (ivs .i64 (late.take j)) rfl (((show Own wr.drew (r+1) 3 (rC al lj cl) (ivs .i64 (late.take j))from aC.out).only aL (dU _)).alloc _) _ [rD .i64 (m:Int)] rfl (Zmg _ _ _) (by simp[Value.oneCell']) (by rw[Fi];simp;have:=HN.out;have:=List.length_take_le j late;omega) (by have:=E.lt;simp;omega) ?_;rintro v9 w9 Z aI;obtain⟨a9,n9,c9,rfl⟩:=Df Z;have aO:=Hd ((aM.out.alloc _).below aI (by have:=P.out;omega));have y9:=aO.out.cell 2;have z9:=aO.out.frozen 2;simp only[cR,cS,aP]at y9))
    all_goals
     go_wp2_with fail;go_roundg (gk-1);case measure=>have:=HJ.out;have:=aV.out;omega
     case rel=>
      refine⟨j+1,by have:=HJ.out;have:=aV.out;omega,rC a9 n9 c9,?_,?_,?_,?_⟩
      ·have aQ:=E.lt;have V:=((Below.refl (r+1) w8).alloc aQ (rJ #[rD .i64 (m:Int)] 3)).trans aI;exact(E.low V (dU _)).slot y9 (by have:=P.out;omega)
      ·simpa using aO.out.set 2 (rC a9 n9 c9)
      ·have:=Z.setLow (p:=⟨q,2,rI⟩) (by have:=P.out;simp only;omega) (rC a9 n9 c9);rw[HT.out,ivs,List.map_append];exact this
      ·have aQ:=E.lt;have V:=((Below.refl (r+1) w8).alloc aQ (rJ #[rD .i64 (m:Int)] 3)).trans aI;have h8:Below r wr w8:=(Below.draw1 (Below.refl r wr)).trans (aL.below lR (eW a5.out.lt));exact(G.out.then (HR.out▸(h8.trans (V.mono (gI _))))).trans (Only.set 2 _)
   ·obtain rfl:j=n:=(by have:=HJ.out;omega);have ht:late.take j=late:=(by rw[<-aW.out,List.take_length]);have how:=aC.out;rw[ht]at how;obtain⟨al,cl,rfl⟩:=Ks how;have aY:=Hd how;have cM:=G.out.size;have a3:=Hd (show I=ln%4 by have:=N.out;have:=aB.out;omega);have GX:=Hd (G4.out.only G.out (by have:=O.out;omega));have RX:=Hd (R4.out.only G.out (by have:=J.out;have:=O.out;omega) (eW aF.out));have OX:=Hd (O4.out.then (G.out.below (C:=w.heap.size) (by have:=O.out;have:=HG.out;omega) O4.out.size));have AX:=Hd (A4.out.other Q4.out (by decide) (fun i X cG=>G.out.block i X (fun e=>cG (by simpa using e))));clear ht how hjn hj;go_wp2_with fail;refine HL.out.mono ?_;rintro e w' ⟨rfl,rfl⟩;have hd:decide ((I:Int)>=4)=false:=dF (by have:=N.out;have:=aB.out;omega);have cB:decide ((4:Int)<=(I:Int))=false:=dF (by have:=N.out;have:=aB.out;omega);go_wp2_with fail;refine HL.out.mono ?_;rintro e w' ⟨rfl,rfl⟩
    by_cases hre:I=0
    ·have cC:decide ((I:Int)>0)=false:=dF (by omega);have cD:decide (0<I)=false:=dF (by omega);have cE:decide ((0:Int)<(I:Int))=false:=dF (by omega);have HX:=Hd (b3.out aT.out (by have:=a3.out;rw[<-F.out];omega));clear hre;go_wp2_with (refine Js rfl ?_;refine Af rfl 50 (.tmp 4) rfl q rfl 50 #[.slice a1 K.length c1,.slice a2 M.length c2,.slice al late.length cl] (0,0) _ A.out underlying50 rfl (by kernel_rfl) ?_);refine(bY.out a1 a2 al K.length M.length c1 c2 cl late wr aY.out.rd).mono ?_;rintro e cN ⟨rfl,z⟩;have aZ:=Hd (A.out.below z A.out.lt);have aA:=Hd (GX.out.below z GX.out.lt);have bD:=Hd (RX.out.below z);have bC:=Hd (Qq OX.out z);have bL:=Hd (AX.out.below z);have b6:=Hd (aY.out.below z lR);clear z;obtain⟨RB,aH⟩:=eX (rpB K.length M.length late);rw[<-aH];have a6:=Hd (HX.out RB aH.symm);clear aH;cases RB with
     |false=>
      go_wp2_with (refine Aa rfl 50 (.tmp 2) (.tmp 42) rfl g #[rC rI 0 0,rC rI 0 0,rC rI 0 0] rfl rfl 50 #[rC rI 0 0,rC rI 0 0,rC rI 0 0] aA.out (by kernel_rfl) rfl rfl ?_);rintro bK f s t o;have T:=Hd f;have Q:=Hd (Bq bC.out (s w.heap.size (by rw[HG.out];exact lR)));have U:=Hd (bD.out.low (s g lR) J.out);clear f s t o;go_wp2_with fail;refine bodyPost_ret (v:=.tuple #[.agg #[rC rI 0 0,rC rI 0 0,rC rI 0 0],rD .u8 3]) (Ac results219 _ _ g _ _ _ rfl T.out underlying50 rfl (by kernel_rfl)) rfl ?_;exact HS.out _ _ rfl a6.out ⟨_,_,_,rfl,Own.nil _ _ _,Own.nil _ _ _,Own.nil _ _ _⟩ U.out Q.out
     |true=>
      go_wp2_with (first
       |(refine Af rfl 50 (.tmp 4) rfl q rfl 50 #[.slice a1 K.length c1,.slice a2 M.length c2,.slice al late.length cl] (0,0) _ aZ.out underlying50 rfl (by kernel_rfl) ?_)
       |(refine Aa rfl 50 (.tmp 2) (.tmp 43) rfl g #[.slice a1 K.length c1,.slice a2 M.length c2,.slice al late.length cl] rfl rfl 50 #[rC rI 0 0,rC rI 0 0,rC rI 0 0] aA.out (by kernel_rfl) rfl rfl ?_))
      rintro cO f s t o;have a0:=Hd f;have b9:=Hd (bD.out.low (s g lR) J.out);have b8:=Hd (Bq bC.out (s w.heap.size (by rw[HG.out];exact lR)));have aS:=Hd ((bL.out.other aA.out (by decide) (fun i _ X=>t i X)).mono (gI g));have b7:=Hd ((b6.out.other aA.out (by decide) (fun i _ X=>t i X)).mono (B':=g) (by have:=O.out;have:=P.out;omega));clear f s t o;go_wp2_with fail;refine bodyPost_ret (v:=.tuple #[.agg #[.slice a1 K.length c1,.slice a2 M.length c2,.slice al late.length cl],rD .u8 0]) (Ac results219 _ _ g _ _ _ rfl a0.out underlying50 rfl (by kernel_rfl)) rfl ?_;refine HS.out _ _ rfl a6.out ?_ b9.out b8.out;rw[<-HG.out];exact⟨_,_,_,rfl,aS.out.nth 1 rfl,aS.out.nth 0 rfl,b7.out⟩
    ·have cC:decide ((I:Int)>0)=true:=dT (by omega);have cD:decide (0<I)=true:=dT (by omega);have cE:decide ((0:Int)<(I:Int))=true:=dT (by omega);have HX:=Hd (b4.out aT.out (by have:=a3.out;rw[<-F.out];omega));clear hre;go_wp2_with (refine Aa rfl 50 (.tmp 2) (.tmp 42) rfl g #[rC rI 0 0,rC rI 0 0,rC rI 0 0] rfl rfl 50 #[rC rI 0 0,rC rI 0 0,rC rI 0 0] GX.out (by kernel_rfl) rfl rfl ?_);rintro bK f s t o;have T:=Hd f;have Q:=Hd (Bq OX.out (s w.heap.size (by rw[HG.out];exact lR)));have U:=Hd (RX.out.low (s g lR) J.out);clear f s t o;go_wp2_with fail;refine bodyPost_ret (v:=.tuple #[.agg #[rC rI 0 0,rC rI 0 0,rC rI 0 0],rD .u8 3]) (Ac results219 _ _ g _ _ _ rfl T.out underlying50 rfl (by kernel_rfl)) rfl ?_;exact HS.out _ _ rfl HX.out ⟨_,_,_,rfl,Own.nil _ _ _,Own.nil _ _ _,Own.nil _ _ _⟩ U.out Q.out
 ·have a7:=Hd (b2.out h3);have cA:((e3:Int) !=0)=true:=(by rw[bne_iff_ne];omega);clear h3;go_wp2_with (refine Aa rfl 50 (.tmp 2) (.tmp 19) rfl g #[rC rI 0 0,rC rI 0 0,rC rI 0 0] rfl rfl 50 #[rC rI 0 0,rC rI 0 0,rC rI 0 0] G4.out (by kernel_rfl) rfl rfl ?_);rintro bK f s t o;have T:=Hd f;have Q:=Hd (Bq O4.out (s w.heap.size (by rw[HG.out];exact lR)));have U:=Hd (R4.out.low (s g lR) J.out);clear f s t o;go_wp2_with fail;refine bodyPost_ret (v:=.tuple #[.agg #[rC rI 0 0,rC rI 0 0,rC rI 0 0],rD .u8 (e3:Nat)]) (Ac results219 _ _ g _ _ _ rfl T.out underlying50 rfl (by kernel_rfl)) rfl ?_;exact HS.out _ _ rfl a7.out ⟨_,_,_,rfl,Own.nil _ _ _,Own.nil _ _ _,Own.nil _ _ _⟩ U.out Q.out
theorem Zfd (B:Nat)(L:List Nat)(w:World)(h:RS w B L 0)(t:L.length<1000000000)(m:∀n∈L,n<256):
  Calls prog 219 #[rE (some ⟨B,0,rI⟩)] w (Zin B w (Ei L 0)):=by
 have i:=Az L 0;have j:=Az (Bg L 0).2.1 (Bg L 0).2.2;have g:∀(M:List Nat) (er:Nat),Sub M L->∀W,RS W B M er->Calls prog 254 #[rE (some ⟨B,0,rI⟩)] W (Mj B W (Bg M er)):=fun M er o W s=>Zcs B M er W s (by have:=o.1;omega) fun n f=>m n (o.2 n f);unfold Ei;simp only;have l:=g L 0 (Sub.refl _);have a:=g _ (Bg L 0).2.2 i.2.1;generalize Bg L 0=r1 at i j l a|-;have k:=j.2.1.trans i.2.1;have c:=g _ (Bg r1.2.1 r1.2.2).2.2 k;generalize Bg r1.2.1 r1.2.2=r2 at j a c k|-;have q:=Az r2.2.1 r2.2.2;generalize Bg r2.2.1 r2.2.2=r3 at q c|-;have r:=q.1.trans k;refine Zbu r1.1 r2.1 r3.1 L r1.2.1 r2.2.1 r3.2.1 r1.2.2 r2.2.2 r3.2.2 B (Ze3 r3.1.length r3.1) _ w h l a c (fun n f=>m n (r.2 n f)) (by have:=r.1;omega) (Xi _ _ (by omega)) (fun e=> ?_) (fun e1 e2=> ?_) (fun e1 e2 b p=> ?_)
 ·rw[iP e]
 ·rw[iN (by omega),iN (fun d=>e2 d.1)]
 ·rw[iN (by omega)]
  by_cases hb2:b=true
  ·rw[iP ⟨e2,p.trans hb2⟩,iP hb2]
  ·rw[iN (fun d=>hb2 (p.symm.trans d.2)),iN hb2]
