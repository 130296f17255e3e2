import Derived.Test.YtfofaiommeckbaaGreatZTr25
open Go.Obj renaming cells -> rK
open Go.Ending renaming returned -> rM
open Go.Value renaming slice -> rD, int -> rE, pointer -> rF
open Option renaming none -> rJ
open Go.Proofs.Tryz
open List renaming range -> aC, length_drop -> eD, drop_drop -> iQ, length_take -> bW, mem_of_mem_drop -> iR, getElem?_toArray -> bY, getElem?_cons_zero -> bZ, getElem?_cons_succ -> cA
open Nat renaming le_trans -> eN, lt_succ_self -> dV, le_of_lt -> fE, le_succ -> gJ
set_option linter.unusedVariables false
set_option maxRecDepth 100000
set_option maxHeartbeats 40000000
namespace Go.Proofs.YtfofaiommeckbaaGreat
open Go.RowKit WireM
def Znr (w:World)(B:Nat)(d:ParD)(c:Array Value):Prop:=
 ∃v1 v2 v3,c=#[v1,v2,v3]/\Own w B 5 v1 (bvs d.box)/\Own w B 5 v2 (bvs d.hash)/\Own w B 3 v3 (ivs .i64 d.late)
theorem Zaj {w:World} {B:Nat} {v:Value} {L:List Int}(h:Own w B 3 v (ivs .i64 L)):∃a c,v=.slice a L.length c:=by
 obtain⟨a,c,e,_⟩:=h.rd;rw[Dh]at e;exact⟨a,c,e⟩
theorem RdK.slot {w:World} {B q i:Nat} {v u:Value} {L:List Nat} {a:Option Addr} {n c:Nat}(h:RdK w B v (bvs L))(p:w.cell? ⟨q,i,rJ⟩=some (rD a n c)):RdK (w.setCell ⟨q,i,rJ⟩ u) B v (bvs L):=by
 obtain⟨k,cap,l,h2,h3,d|⟨b,g,d,o,m⟩⟩:=h
 ·exact⟨k,cap,l,h2,h3,.inl d⟩
 ·refine⟨k,cap,l,h2,h3,.inr ⟨b,g,d,o,fun j x hx=> ?_⟩⟩;rw[World.cell?_setCell_other]
  ·exact m j x hx
  ·intro e;have f:=m j x hx;rw[<-e,p]at f;simp only[Option.some.injEq]at f;subst f;simp[bvs]at hx
theorem RS.slot {w:World} {B q i:Nat} {u:Value} {L:List Nat} {er:Nat} {a:Option Addr} {n c:Nat}(h:RS w B L er)(hc:w.cell? ⟨q,i,rJ⟩=some (rD a n c))(hne:q≠B):RS (w.setCell ⟨q,i,rJ⟩ u) B L er:=by
 obtain⟨v,hb,hr⟩:=h;exact⟨v,hb.far (p:=⟨q,i,rJ⟩) (fun e=>hne e.symm) u,hr.slot hc⟩
theorem Zm4 (w:World)(u:Value)(t:TypeId):Rd (w.alloc (rK #[u] t)) (rD (some ⟨w.heap.size,0,rJ⟩) 1 1) [u]:=by
 refine⟨_,1,rfl,lR,by unfold maxLen;omega,.inr ⟨_,0,rfl,?_⟩⟩;intro j x hx;cases j with
 |zero=>simp at hx;subst hx;exact Bi rfl
 |succ j=>simp at hx
def Zg5 (L:List Nat)(j:Nat):Nat:=Ge ((L.drop (4*j)).take 4)
theorem Zf5:∀(k:Nat) (L:List Nat),L.length/4<=k->Zg4 k L=(aC (L.length/4)).map fun j=>((Zg5 L j:Nat):Int)
 |0,L,h=>by rw[show L.length/4=0 by omega];rfl
 |k+1,L,h=>by
  unfold Zg4
  by_cases h4:4<=L.length
  ·rw[iP h4,Zf5 k (L.drop 4) (by rw[eD];omega),eD,show L.length/4=(L.length-4)/4+1 by omega,List.range_succ_eq_map,List.map_cons,List.map_map]
   congr 1
   ·refine List.map_congr_left fun j _=> ?_;show((Zg5 (L.drop 4) j:Nat):Int)=((Zg5 L (j+1):Nat):Int);unfold Zg5;rw[iQ,show 4+4*j=4*(j+1) by omega]
  ·rw[iN h4,show L.length/4=0 by omega];rfl
theorem Zl1 {L:List Nat}(hL:∀n∈L,n<256) {j:Nat}(hj:4*j+4<=L.length):Zg5 L j<4294967296:=by
 have:=Qv 4 ((L.drop (4*j)).take 4) (by rw[bW,eD];omega) fun n hn=>hL n (iR (List.mem_of_mem_take hn));simpa [Zg5]using this
def Zjn (B:Nat)(w:World)(r:Nat×ParD×List Nat×Nat)(e:Ending)(w':World):Prop:=
 ∃c,e=rM (.tuple #[.agg c,rE .u8 (r.1:Nat)])/\Znr w' w.heap.size r.2.1 c/\RS w' B r.2.2.1 r.2.2.2/\Only B w w'
theorem Zck (K M y L0 L1 L2 L3:List Nat) (e1 e2 e3 B:Nat) (late:List Int) (r:Nat×ParD×List Nat×Nat) (w:World) (h:RS w B L0 0)
  (C1:∀W,RS W B L0 0->Calls prog 254 #[rF (some ⟨B,0,rJ⟩)] W (Lz B W (K,L1,e1)))
  (C2:∀W,RS W B L1 e1->Calls prog 254 #[rF (some ⟨B,0,rJ⟩)] W (Lz B W (M,L2,e2)))
  (C3:∀W,RS W B L2 e2->Calls prog 254 #[rF (some ⟨B,0,rJ⟩)] W (Lz B W (y,L3,e3)))
  (aQ:∀n∈y,n<256) (cM:y.length<=1000000000) (D:late=(aC (y.length/4)).map fun j=>((Zg5 y j:Nat):Int))
  (X3:e3≠0->r=(e3,noParD,L3,e3)) (XR:e3=0->y.length%4≠0->r=(3,noParD,L3,e3))
  (XB:e3=0->y.length%4=0->∀b,rpB K.length M.length late=b->r=if b=true then(0,⟨K,M,late⟩,L3,e3)else(3,noParD,L3,e3)):
  Calls prog 219 #[rF (some ⟨B,0,rJ⟩)] w (Zjn B w r):=by
 have hB:=h.lt;obtain⟨g,hg⟩:=eX w.heap.size;have HG:=Hd hg;have J:=Hd (show B<g by omega);obtain⟨w0,H⟩:=eX (w.alloc (rK #[rD rJ 0 0,rD rJ 0 0,rD rJ 0 0] 50));have b3:=Hd H;have a7:=Hd (show g+1<=w0.heap.size by rw[H,hg];simp);have G0:=Hd (show Blk w0 g 50 #[rD rJ 0 0,rD rJ 0 0,rD rJ 0 0] by rw[H,hg];exact Blk.new _ _ _);have A0:=Hd (Al.nil w0 (g+1));have O0:=Hd (show Only B w w0 by rw[H];exact(Only.refl _ _).alloc _);have R0:=Hd (show RS w0 B L0 0 by rw[H];exact h.low ((Below.refl w.heap.size w).alloc lR (rK #[rD rJ 0 0,rD rJ 0 0,rD rJ 0 0] 50)) hB);have bM:=Hd C1;have bN:=Hd C2;have bO:=Hd C3;have b4:=Hd X3;have b6:=Hd XR;have b5:=Hd XB;have bP:=Hd fun(L:List Nat) (er:Nat) W=>Gv B L er W;have bQ:=Hd fun(b:Nat) (L:List Nat) W=>Zhs b L 0 W;have bT:=Hd Jg;have b0:=Hd @Hs;obtain⟨n,hn⟩:=eX (y.length/4);have bG:late.length=n:=(by rw[D,List.length_map,List.length_range,hn]);have aE:∀(j:Nat) (hj:j<late.length),late[j]=((Zg5 y j:Nat):Int):=fun j hj=>(by subst D;simp);have aV:=Hd bG;have aT:=Hd aE;have HN:=Hd (show late.length<=1000000000 by omega);have bU:=Hd hn;have bS:=Hd fun(j:Nat) (hj:4*j+4<=y.length)=>Zl1 aQ hj;have aW:=Hd fun(W:World) (b j:Nat) (hj:4*j+4<=y.length) (hW:RS W b (y.drop (4*j)) 0)=>(show Calls prog 154 #[rF (some ⟨b,0,rJ⟩),rE .i64 4] W fun e W'=>e=rM (rE .u64 (Zg5 y j:Nat))/\RS W' b (y.drop (4*(j+1))) 0/\Only b W W' from by
  have h1:=Nk b _ 0 4 W hW fun x hx=>aQ x (iR hx);have e:Gt (y.drop (4*j)) 0 4=((y.drop (4*j)).take 4,y.drop (4*(j+1)),0):=by
   unfold Gt;rw[iP (by decide)];unfold Cs;rw[iN (by simp),iN (by omega),iN (by rw[eD];omega),iQ,show 4*j+(4:Int).toNat=4*(j+1) by have:(4:Int).toNat=4:=rfl;omega]
   rfl
  rw[e]at h1;exact h1)
 obtain⟨S,hS⟩:=eX (Zjn B w r);rw[<-hS];have HS:=Hd (show∀(e:Ending) (w':World) {c:Array Value} {k:Nat} {d:ParD} {R:List Nat} {re:Nat},e=rM (.tuple #[.agg c,rE .u8 (k:Nat)])->r=(k,d,R,re)->Znr w' w.heap.size d c->RS w' B R re->Only B w w'->S e w' from by
  rintro e w' c k d R re rfl rfl h1 h2 h3;rw[hS];exact⟨c,rfl,h1,h2,h3⟩)
 clear h hB hg H C1 C2 C3 X3 XR XB hS hn bG aE D aQ;obtain⟨ln,bF⟩:=eX y.length;have F:=Hd bF;clear bF;go_in;go_wp2_with fail;rw[<-b3.out,<-HG.out];refine(bM.out w0 R0.out).mono ?_;rintro e w1 ⟨u1,rfl,l,u,a⟩;obtain⟨a1,c1,rfl⟩:=Ia l;have X:=l.mono (B':=g+1) a7.out;have a8:=Hd (eN a7.out a.size);have A1:=Hd (A0.out.only a (by have:=J.out;omega));have G1:=Hd (G0.out.only a (by have:=J.out;omega));have O1:=Hd (O0.out.trans a);have R1:=Hd u;replace A1:=Hd (A1.out.cons X);clear l u a X;go_wp2_with fail;refine(bN.out w1 R1.out).mono ?_;rintro e w2 ⟨u2,rfl,l,u,a⟩;obtain⟨a2,c2,rfl⟩:=Ia l;have X:=l.mono (B':=g+1) a8.out;have bA:=Hd (eN a8.out a.size);have A2:=Hd (A1.out.only a (by have:=J.out;omega));have G2:=Hd (G1.out.only a (by have:=J.out;omega));have O2:=Hd (O1.out.trans a);have R2:=Hd u;replace A2:=Hd (A2.out.cons X);clear l u a X;obtain⟨q,hq⟩:=eX w2.heap.size;have HQ:=Hd hq;have O:=Hd (show g+1<=q by rw[hq];exact bA.out);clear hq;go_wp2_with (refine Aa rfl 50 (.tmp 4) (.tmp 12) rfl w2.heap.size #[.slice a1 K.length c1,.slice a2 M.length c2,rD rJ 0 0] rfl rfl 50 #[rD rJ 0 0,rD rJ 0 0,rD rJ 0 0] (Blk.new _ _ _) (by kernel_rfl) rfl rfl ?_);rintro w3 f s t o;have z:Below w2.heap.size w2 w3:=(bR.alloc lR _).trans (s _ lR);have b7:=Hd (eN bA.out z.size);have A3:=Hd (A2.out.below z);have G3:=Hd (G2.out.below z G2.out.lt);have O3:=Hd (Qk O2.out z);have R3:=Hd (R2.out.below z);rw[<-HQ.out]at f|-;have Q3:=Hd f;have bX:=Hd (show q<w3.heap.size from f.lt);clear f s t o z;go_wp2_with fail;refine(bO.out w3 R3.out).mono ?_;rintro e w4 ⟨u3,rfl,l,u,a⟩;have b2:=Hd l.rd;have aG:=Hd (Nat.lt_of_lt_of_le bX.out a.size);have cL:=Hd (eN b7.out a.size);have A4:=Hd (A3.out.only a (by have:=J.out;omega));have G4:=Hd (G3.out.only a (by have:=J.out;omega));have Q4:=Hd (Q3.out.only a (by have:=J.out;have:=O.out;omega));have O4:=Hd (O3.out.trans a);have R4:=Hd u;clear l u a;go_wp2_with fail;refine(bP.out _ _ _ R4.out).mono ?_;rintro e w' ⟨rfl,rfl⟩
 by_cases h3:e3=0
 ·have aS:=Hd h3;have cD:((e3:Int) !=0)=false:=(by rw[bne_eq_false_iff_eq];omega);clear h3;go_wp2_with fail;refine(bT.out _ _ _ b2.out).mono ?_;rintro e w7 ⟨rfl,u,z⟩;obtain⟨r,hr⟩:=eX w4.heap.size;rw[<-hr]at u z|-;have bH:q<r:=(by rw[hr];exact aG.out);have aH:Below w4.heap.size w4 w7:=(by rw[<-hr];exact z);have HR:=Hd hr;have P:=Hd bH;have b1:=Hd u;have bL:=Hd (show Only q w4 w7 from Only.of aH);have bV:=Hd (Q4.out.below aH aG.out);clear hr bH u z aH;go_wp2_with fail
  go_loopg [] n (fun k wr=>∃j:Nat,j+k=n/\∃lv,RS wr r (y.drop (4*j)) 0/\Blk wr q 50 #[.slice a1 K.length c1,.slice a2 M.length c2,lv]/\Own wr (r+1) 3 lv (ivs .i64 (late.take j))/\Only q w4 wr)
  case atStart=>exact⟨0,by omega,_,b1.out,bV.out,Own.nil _ _ _,bL.out⟩
  case round=>
   obtain⟨j,hj,lv,u,f,l,a⟩:=hrel;have a3:=Hd u;have A:=Hd f;have aD:=Hd l;have G:=Hd a;clear u f l a;obtain⟨I,aL⟩:=eX ((y.drop (4*j)).length);have bD:I=ln-4*j:=(by rw[aL,eD,F.out]);have aF:=bQ.out r _ wr a3.out;rw[<-aL]at aF;have HL:=Hd aF;have HJ:=Hd hj;have N:=Hd bD;have aB:=Hd (show n=ln/4 by rw[bU.out,F.out]);clear aF aL bD
   by_cases hjn:j<n
   ·obtain⟨al,cl,rfl⟩:=Zaj aD.out;have Y:4*j+4<=ln:=(by have:=aB.out;omega);go_wp2_with fail;refine HL.out.mono ?_;rintro e w' ⟨rfl,rfl⟩;have hd:decide ((I:Int)>=4)=true:=dT (by have:=N.out;omega);have cE:decide ((4:Int)<=(I:Int))=true:=dT (by have:=N.out;omega);have aK:j<late.length:=(by rw[aV.out];exact hjn);obtain⟨m,hm⟩:=eX (Zg5 y j);have bI:late[j]=(m:Int):=(by rw[aT.out j aK,hm]);have HT:=Hd (show late.take (j+1)=late.take j++[(m:Int)] by rw[List.take_add_one,List.getElem?_eq_getElem aK,bI];rfl);have cN:m<4294967296:=(by rw[hm];exact bS.out j (by rw[<-F.out];exact Y));have a4:=a3;have aU:=Hd hjn;have HC:=Hd fun(W:World) (hW:RS W r (y.drop (4*j)) 0)=>aW.out W r j (by rw[<-F.out];exact Y) hW;rw[<-hm]at HC;have cI:(late.take j).length=j:=(by rw[bW];omega);obtain⟨lj,bE⟩:=eX ((late.take j).length);have y2:=A.out.cell 2;have z2:=A.out.frozen 2;simp only[bY,bZ,cA]at y2;rw[<-bE]at y2 A aD;have cO:IntKind.i64.wrap (m:Int)=(m:Int):=IntWalk.i64_in _ ⟨by omega,by omega⟩;clear hj aK bI bE cI hjn hm Y;go_wp2_with fail
    go_region_law (first
     |(go_simp;go_at_call 154;refine(HC.out _ (show RS wr.drew r _ 0 from a4.out)).mono ?_;rintro e w8 ⟨rfl,E,aM⟩;have aN:=Hd (Blk.only (show Blk wr.drew q 50 #[.slice a1 K.length c1,.slice a2 M.length c2,rD al lj cl]from A.out) aM (by have:=P.out;omega));have y8:=aN.out.cell 2;have cK:=(aN.out.alloc (rK #[rE .i64 (m:Int)] 3)).cell 2;simp only[bY,bZ,cA]at y8 cK)
     |(refine Zhx rfl (.tmp 27) (.tmp 31) 48 rfl (r+1) 3 _ 8 He (rD al lj cl) (ivs .i64 (late.take j)) rfl (((show Own wr.drew (r+1) 3 (rD al lj cl) (ivs .i64 (late.take j))from aD.out).only aM (dV _)).alloc _) _ [rE .i64 (m:Int)] rfl (Zm4 _ _ _) (by simp[Value.oneCell']) (by rw[Dh];simp;have:=HN.out;have:=List.length_take_le j late;omega) (by have:=E.lt;simp;omega) ?_;rintro v9 w9 Z aJ;obtain⟨a9,n9,c9,rfl⟩:=Da Z;have aO:=Hd ((aN.out.alloc _).below aJ (by have:=P.out;omega));have y9:=aO.out.cell 2;have z9:=aO.out.frozen 2;simp only[bY,bZ,cA]at y9))
    all_goals
     go_wp2_with fail;go_roundg (gk-1);case measure=>have:=HJ.out;have:=aU.out;omega
     case rel=>
      refine⟨j+1,by have:=HJ.out;have:=aU.out;omega,rD a9 n9 c9,?_,?_,?_,?_⟩
      ·have aP:=E.lt;have V:=((Below.refl (r+1) w8).alloc aP (rK #[rE .i64 (m:Int)] 3)).trans aJ;exact(E.low V (dV _)).slot y9 (by have:=P.out;omega)
      ·simpa using aO.out.set 2 (rD a9 n9 c9)
      ·have:=Z.setLow (p:=⟨q,2,rJ⟩) (by have:=P.out;simp only;omega) (rD a9 n9 c9);rw[HT.out,ivs,List.map_append];exact this
      ·have aP:=E.lt;have V:=((Below.refl (r+1) w8).alloc aP (rK #[rE .i64 (m:Int)] 3)).trans aJ;have h8:Below r wr w8:=(Below.draw1 (Below.refl r wr)).trans (aM.below lR (fE a4.out.lt));exact(G.out.then (HR.out▸(h8.trans (V.mono (gJ _))))).trans (Only.set 2 _)
   ·obtain rfl:j=n:=(by have:=HJ.out;omega);have ht:late.take j=late:=(by rw[<-aV.out,List.take_length]);have how:=aD.out;rw[ht]at how;obtain⟨al,cl,rfl⟩:=Zaj how;have aX:=Hd how;have cP:=G.out.size;have a0:=Hd (show I=ln%4 by have:=N.out;have:=aB.out;omega);have GX:=Hd (G4.out.only G.out (by have:=O.out;omega));have RX:=Hd (R4.out.only G.out (by have:=J.out;have:=O.out;omega) (fE aG.out));have OX:=Hd (O4.out.then (G.out.below (C:=w.heap.size) (by have:=O.out;have:=HG.out;omega) O4.out.size));have AX:=Hd (A4.out.other Q4.out (by decide) (fun i X cJ=>G.out.block i X (fun e=>cJ (by simpa using e))));clear ht how hjn hj;go_wp2_with fail;refine HL.out.mono ?_;rintro e w' ⟨rfl,rfl⟩;have hd:decide ((I:Int)>=4)=false:=dF (by have:=N.out;have:=aB.out;omega);have cE:decide ((4:Int)<=(I:Int))=false:=dF (by have:=N.out;have:=aB.out;omega);go_wp2_with fail;refine HL.out.mono ?_;rintro e w' ⟨rfl,rfl⟩
    by_cases hre:I=0
    ·have cF:decide ((I:Int)>0)=false:=dF (by omega);have cG:decide (0<I)=false:=dF (by omega);have cH:decide ((0:Int)<(I:Int))=false:=dF (by omega);have HX:=Hd (b5.out aS.out (by have:=a0.out;rw[<-F.out];omega));clear hre;go_wp2_with (refine Qr rfl ?_;refine As rfl 50 (.tmp 4) rfl q rfl 50 #[.slice a1 K.length c1,.slice a2 M.length c2,.slice al late.length cl] (0,0) _ A.out underlying50 rfl (by kernel_rfl) ?_);refine(b0.out a1 a2 al K.length M.length c1 c2 cl late wr aX.out.rd).mono ?_;rintro e cQ ⟨rfl,z⟩;have aY:=Hd (A.out.below z A.out.lt);have aA:=Hd (GX.out.below z GX.out.lt);have bC:=Hd (RX.out.below z);have bB:=Hd (Qk OX.out z);have bK:=Hd (AX.out.below z);have b8:=Hd (aX.out.below z lR);clear z;obtain⟨RB,aI⟩:=eX (rpB K.length M.length late);rw[<-aI];have a5:=Hd (HX.out RB aI.symm);clear aI;cases RB with
     |false=>
      go_wp2_with (refine Aa rfl 50 (.tmp 2) (.tmp 42) rfl g #[rD rJ 0 0,rD rJ 0 0,rD rJ 0 0] rfl rfl 50 #[rD rJ 0 0,rD rJ 0 0,rD rJ 0 0] aA.out (by kernel_rfl) rfl rfl ?_);rintro bJ f s t o;have T:=Hd f;have Q:=Hd (Bo bB.out (s w.heap.size (by rw[HG.out];exact lR)));have U:=Hd (bC.out.low (s g lR) J.out);clear f s t o;go_wp2_with fail;refine bodyPost_ret (v:=.tuple #[.agg #[rD rJ 0 0,rD rJ 0 0,rD rJ 0 0],rE .u8 3]) (Ad results219 _ _ g _ _ _ rfl T.out underlying50 rfl (by kernel_rfl)) rfl ?_;exact HS.out _ _ rfl a5.out ⟨_,_,_,rfl,Own.nil _ _ _,Own.nil _ _ _,Own.nil _ _ _⟩ U.out Q.out
     |true=>
      go_wp2_with (first
       |(refine As rfl 50 (.tmp 4) rfl q rfl 50 #[.slice a1 K.length c1,.slice a2 M.length c2,.slice al late.length cl] (0,0) _ aY.out underlying50 rfl (by kernel_rfl) ?_)
       |(refine Aa rfl 50 (.tmp 2) (.tmp 43) rfl g #[.slice a1 K.length c1,.slice a2 M.length c2,.slice al late.length cl] rfl rfl 50 #[rD rJ 0 0,rD rJ 0 0,rD rJ 0 0] aA.out (by kernel_rfl) rfl rfl ?_))
      rintro cR f s t o;have aZ:=Hd f;have cC:=Hd (bC.out.low (s g lR) J.out);have cB:=Hd (Bo bB.out (s w.heap.size (by rw[HG.out];exact lR)));have aR:=Hd ((bK.out.other aA.out (by decide) (fun i _ X=>t i X)).mono (gJ g));have b9:=Hd ((b8.out.other aA.out (by decide) (fun i _ X=>t i X)).mono (B':=g) (by have:=O.out;have:=P.out;omega));clear f s t o;go_wp2_with fail;refine bodyPost_ret (v:=.tuple #[.agg #[.slice a1 K.length c1,.slice a2 M.length c2,.slice al late.length cl],rE .u8 0]) (Ad results219 _ _ g _ _ _ rfl aZ.out underlying50 rfl (by kernel_rfl)) rfl ?_;refine HS.out _ _ rfl a5.out ?_ cC.out cB.out;rw[<-HG.out];exact⟨_,_,_,rfl,aR.out.nth 1 rfl,aR.out.nth 0 rfl,b9.out⟩
    ·have cF:decide ((I:Int)>0)=true:=dT (by omega);have cG:decide (0<I)=true:=dT (by omega);have cH:decide ((0:Int)<(I:Int))=true:=dT (by omega);have HX:=Hd (b6.out aS.out (by have:=a0.out;rw[<-F.out];omega));clear hre;go_wp2_with (refine Aa rfl 50 (.tmp 2) (.tmp 42) rfl g #[rD rJ 0 0,rD rJ 0 0,rD rJ 0 0] rfl rfl 50 #[rD rJ 0 0,rD rJ 0 0,rD rJ 0 0] GX.out (by kernel_rfl) rfl rfl ?_);rintro bJ f s t o;have T:=Hd f;have Q:=Hd (Bo OX.out (s w.heap.size (by rw[HG.out];exact lR)));have U:=Hd (RX.out.low (s g lR) J.out);clear f s t o;go_wp2_with fail;refine bodyPost_ret (v:=.tuple #[.agg #[rD rJ 0 0,rD rJ 0 0,rD rJ 0 0],rE .u8 3]) (Ad results219 _ _ g _ _ _ rfl T.out underlying50 rfl (by kernel_rfl)) rfl ?_;exact HS.out _ _ rfl HX.out ⟨_,_,_,rfl,Own.nil _ _ _,Own.nil _ _ _,Own.nil _ _ _⟩ U.out Q.out
 ·have a6:=Hd (b4.out h3);have cD:((e3:Int) !=0)=true:=(by rw[bne_iff_ne];omega);clear h3;go_wp2_with (refine Aa rfl 50 (.tmp 2) (.tmp 19) rfl g #[rD rJ 0 0,rD rJ 0 0,rD rJ 0 0] rfl rfl 50 #[rD rJ 0 0,rD rJ 0 0,rD rJ 0 0] G4.out (by kernel_rfl) rfl rfl ?_);rintro bJ f s t o;have T:=Hd f;have Q:=Hd (Bo O4.out (s w.heap.size (by rw[HG.out];exact lR)));have U:=Hd (R4.out.low (s g lR) J.out);clear f s t o;go_wp2_with fail;refine bodyPost_ret (v:=.tuple #[.agg #[rD rJ 0 0,rD rJ 0 0,rD rJ 0 0],rE .u8 (e3:Nat)]) (Ad results219 _ _ g _ _ _ rfl T.out underlying50 rfl (by kernel_rfl)) rfl ?_;exact HS.out _ _ rfl a6.out ⟨_,_,_,rfl,Own.nil _ _ _,Own.nil _ _ _,Own.nil _ _ _⟩ U.out Q.out
theorem Zf6 (B:Nat)(L:List Nat)(w:World)(h:RS w B L 0)(u:L.length<1000000000)(m:∀n∈L,n<256):
  Calls prog 219 #[rF (some ⟨B,0,rJ⟩)] w (Zjn B w (Hz L 0)):=by
 have i:=Bh L 0;have j:=Bh (En L 0).2.1 (En L 0).2.2;have g:∀(M:List Nat) (er:Nat),Sub M L->∀W,RS W B M er->Calls prog 254 #[rF (some ⟨B,0,rJ⟩)] W (Lz B W (En M er)):=fun M er o W t=>Zdg B M er W t (by have:=o.1;omega) fun n f=>m n (o.2 n f);unfold Hz;simp only;have l:=g L 0 (Sub.refl _);have a:=g _ (En L 0).2.2 i.2.1;generalize En L 0=r1 at i j l a|-;have k:=j.2.1.trans i.2.1;have c:=g _ (En r1.2.1 r1.2.2).2.2 k;generalize En r1.2.1 r1.2.2=r2 at j a c k|-;have q:=Bh r2.2.1 r2.2.2;generalize En r2.2.1 r2.2.2=r3 at q c|-;have r:=q.1.trans k;refine Zck r1.1 r2.1 r3.1 L r1.2.1 r2.2.1 r3.2.1 r1.2.2 r2.2.2 r3.2.2 B (Zg4 r3.1.length r3.1) _ w h l a c (fun n f=>m n (r.2 n f)) (by have:=r.1;omega) (Zf5 _ _ (by omega)) (fun e=> ?_) (fun s e2=> ?_) (fun s e2 b p=> ?_)
 ·rw[iP e]
 ·rw[iN (by omega),iN (fun d=>e2 d.1)]
 ·rw[iN (by omega)]
  by_cases hb2:b=true
  ·rw[iP ⟨e2,p.trans hb2⟩,iP hb2]
  ·rw[iN (fun d=>hb2 (p.symm.trans d.2)),iN hb2]
