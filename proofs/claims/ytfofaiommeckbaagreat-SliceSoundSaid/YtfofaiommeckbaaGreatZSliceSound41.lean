/- Walk: node.takeParent on any bytes. -/
import Derived.Test.YtfofaiommeckbaaGreatZSliceSoundB
import Derived.Test.YtfofaiommeckbaaGreatZSliceSound39
import Derived.Test.YtfofaiommeckbaaGreatZSliceSound27
open List renaming range → aH, length_drop → eM, drop_drop → gY, length_take → cF, mem_of_mem_drop → gZ, getElem?_toArray → cC, getElem?_cons_zero → cD, getElem?_cons_succ → cE
open Nat renaming le_trans → bO, lt_succ_self → dG, le_of_lt → eA, le_succ → fZ
set_option linter.unusedVariables false
set_option maxRecDepth 100000
set_option maxHeartbeats 40000000
namespace Go.Proofs.YtfofaiommeckbaaGreat
open Go.RowKit WireM
def Znc (w:World)(B:Nat)(d:ParD)(c:Array Value):Prop:=
 ∃v1 v2 v3,c=#[v1,v2,v3]∧Own w B 5 v1 (bvs d.box)∧Own w B 5 v2 (bvs d.hash)∧Own w B 3 v3 (ivs .i64 d.late)
theorem Zs {w:World} {B:Nat} {v:Value} {L:List Int}(h:Own w B 3 v (ivs .i64 L)):∃a c,v=.slice a L.length c:=by
 obtain⟨a,c,e,_⟩:=h.rd;rw[Ha]at e;exact⟨a,c,e⟩
theorem RdK.slot {w:World} {B q i:Nat} {v u:Value} {L:List Nat} {a:Option Addr} {n c:Nat}(h:RdK w B v (bvs L))(p:w.cell? ⟨q,i,none⟩=some (.slice a n c)):RdK (w.setCell ⟨q,i,none⟩ u) B v (bvs L):=by
 obtain⟨k,cap,m,h2,h3,d|⟨b,f,d,o,l⟩⟩:=h
 ·exact⟨k,cap,m,h2,h3,.inl d⟩
 ·refine⟨k,cap,m,h2,h3,.inr ⟨b,f,d,o,fun j x hx=> ?_⟩⟩;rw[World.cell?_setCell_other]
  ·exact l j x hx
  ·intro e;have g:=l j x hx;rw[←e,p]at g;simp only[Option.some.injEq]at g;subst g;simp[bvs]at hx
theorem RS.slot {w:World} {B q i:Nat} {u:Value} {L:List Nat} {er:Nat} {a:Option Addr} {n c:Nat}(h:RS w B L er)(hc:w.cell? ⟨q,i,none⟩=some (.slice a n c))(hne:q≠B):RS (w.setCell ⟨q,i,none⟩ u) B L er:=by
 obtain⟨v,hb,hr⟩:=h;exact⟨v,hb.far (p:=⟨q,i,none⟩) (fun e=>hne e.symm) u,hr.slot hc⟩
theorem Zl6 (w:World)(u:Value)(t:TypeId):Rd (w.alloc (.cells #[u] t)) (.slice (some ⟨w.heap.size,0,none⟩) 1 1) [u]:=by
 refine⟨_,1,rfl,lR,by unfold maxLen;omega,.inr ⟨_,0,rfl,?_⟩⟩;intro j x hx;cases j with
 |zero=>simp at hx;subst hx;exact Bz rfl
 |succ j=>simp at hx
def Zgb (L:List Nat)(j:Nat):Nat:=Ds ((L.drop (4*j)).take 4)
theorem Ze2:∀(k:Nat) (L:List Nat),L.length/4≤k→Zb7 k L=(aH (L.length/4)).map fun j=>((Zgb L j:Nat):Int)
 |0,L,h=>by rw[show L.length/4=0 by omega];rfl
 |k+1,L,h=>by
  unfold Zb7
  by_cases h4:4≤L.length
  ·rw[if_pos h4,Ze2 k (L.drop 4) (by rw[eM];omega),eM,show L.length/4=(L.length-4)/4+1 by omega,List.range_succ_eq_map,List.map_cons,List.map_map]
   congr 1
   ·refine List.map_congr_left fun j _=> ?_;show((Zgb (L.drop 4) j:Nat):Int)=((Zgb L (j+1):Nat):Int);unfold Zgb;rw[gY,show 4+4*j=4*(j+1) by omega]
  ·rw[if_neg h4,show L.length/4=0 by omega];rfl
theorem Zk2 {L:List Nat}(hL:∀n∈L,n<256) {j:Nat}(hj:4*j+4≤L.length):Zgb L j<4294967296:=by
 have:=Mt 4 ((L.drop (4*j)).take 4) (by rw[cF,eM];omega) fun n hn=>hL n (gZ (List.mem_of_mem_take hn));simpa [Zgb]using this
def Zik (B:Nat)(w:World)(r:Nat×ParD×List Nat×Nat)(e:Ending)(w':World):Prop:=
 ∃c,e=.returned (.tuple #[.agg c,.int .u8 (r.1:Nat)])∧Znc w' w.heap.size r.2.1 c∧RS w' B r.2.2.1 r.2.2.2∧Only B w w'
theorem Zbq (J M y L0 L1 L2 L3:List Nat) (e1 e2 e3 B:Nat) (late:List Int) (r:Nat×ParD×List Nat×Nat) (w:World) (h:RS w B L0 0)
  (C1:∀W,RS W B L0 0→Calls Tryz.prog 254 #[.pointer (some ⟨B,0,none⟩)] W (Ls B W (J,L1,e1)))
  (C2:∀W,RS W B L1 e1→Calls Tryz.prog 254 #[.pointer (some ⟨B,0,none⟩)] W (Ls B W (M,L2,e2)))
  (C3:∀W,RS W B L2 e2→Calls Tryz.prog 254 #[.pointer (some ⟨B,0,none⟩)] W (Ls B W (y,L3,e3)))
  (aG:∀n∈y,n<256) (cO:y.length≤1000000000) (D:late=(aH (y.length/4)).map fun j=>((Zgb y j:Nat):Int))
  (X3:e3≠0→r=(e3,noParD,L3,e3)) (XR:e3=0→y.length%4≠0→r=(3,noParD,L3,e3))
  (XB:e3=0→y.length%4=0→∀b,rpB J.length M.length late=b→r=if b=true then(0,⟨J,M,late⟩,L3,e3)else(3,noParD,L3,e3)):
  Calls Tryz.prog 219 #[.pointer (some ⟨B,0,none⟩)] w (Zik B w r):=by
 have hB:=h.lt;obtain⟨g,hg⟩:=eX w.heap.size;have HG:=Hd hg;have K:=Hd (show B<g by omega);obtain⟨w0,H⟩:=eX (w.alloc (.cells #[.slice none 0 0,.slice none 0 0,.slice none 0 0] 50));have cG:=Hd H;have bC:=Hd (show g+1≤w0.heap.size by rw[H,hg];simp);have G0:=Hd (show Blk w0 g 50 #[.slice none 0 0,.slice none 0 0,.slice none 0 0] by rw[H,hg];exact Blk.new _ _ _);have A0:=Hd (Al.nil w0 (g+1));have O0:=Hd (show Only B w w0 by rw[H];exact(Only.refl _ _).alloc _);have R0:=Hd (show RS w0 B L0 0 by rw[H];exact h.low ((Below.refl w.heap.size w).alloc lR (.cells #[.slice none 0 0,.slice none 0 0,.slice none 0 0] 50)) hB);have b3:=Hd C1;have cL:=Hd C2;have cH:=Hd C3;have b7:=Hd X3;have b8:=Hd XR;have b2:=Hd XB;have bV:=Hd fun(L:List Nat) (er:Nat) W=>Hb B L er W;have cA:=Hd fun(b:Nat) (L:List Nat) W=>Zhi b L 0 W;have b1:=Hd Jo;have bP:=Hd @Hv;obtain⟨n,hn⟩:=eX (y.length/4);have aX:late.length=n:=(by rw[D,List.length_map,List.length_range,hn]);have aD:∀(j:Nat) (hj:j<late.length),late[j]=((Zgb y j:Nat):Int):=fun j hj=>(by subst D;simp);have a5:=Hd aX;have a8:=Hd aD;have HN:=Hd (show late.length≤1000000000 by omega);have bZ:=Hd hn;have b9:=Hd fun(j:Nat) (hj:4*j+4≤y.length)=>Zk2 aG hj;have aS:=Hd fun(W:World) (b j:Nat) (hj:4*j+4≤y.length) (hW:RS W b (y.drop (4*j)) 0)=>(show Calls Tryz.prog 154 #[.pointer (some ⟨b,0,none⟩),.int .i64 4] W fun e W'=>e=.returned (.int .u64 (Zgb y j:Nat))∧RS W' b (y.drop (4*(j+1))) 0∧Only b W W' from by
  have h1:=Ni b _ 0 4 W hW fun x hx=>aG x (gZ hx);have e:Fe (y.drop (4*j)) 0 4=((y.drop (4*j)).take 4,y.drop (4*(j+1)),0):=by
   unfold Fe;rw[if_pos (by decide)];unfold Cm;rw[if_neg (by simp),if_neg (by omega),if_neg (by rw[eM];omega),gY,show 4*j+(4:Int).toNat=4*(j+1) by have:(4:Int).toNat=4:=rfl;omega]
   rfl
  rw[e]at h1;exact h1)
 obtain⟨S,hS⟩:=eX (Zik B w r);rw[←hS];have HS:=Hd (show∀(e:Ending) (w':World) {c:Array Value} {k:Nat} {d:ParD} {R:List Nat} {re:Nat},e=.returned (.tuple #[.agg c,.int .u8 (k:Nat)])→r=(k,d,R,re)→Znc w' w.heap.size d c→RS w' B R re→Only B w w'→S e w' from by
  rintro e w' c k d R re rfl rfl h1 h2 h3;rw[hS];exact⟨c,rfl,h1,h2,h3⟩)
 clear h hB hg H C1 C2 C3 X3 XR XB hS hn aX aD D aG;obtain⟨ln,a3⟩:=eX y.length;have G:=Hd a3;clear a3;go_enter Tryz.func219,Tryz.ntmps219;go_wp2_with fail;rw[←cG.out,←HG.out];refine(b3.out w0 R0.out).mono ?_;rintro e w1 ⟨u1,rfl,l,u,a⟩;obtain⟨a1,c1,rfl⟩:=Ic l;have T:=l.mono (B':=g+1) bC.out;have a6:=Hd (bO bC.out a.size);have A1:=Hd (A0.out.only a (by have:=K.out;omega));have G1:=Hd (G0.out.only a (by have:=K.out;omega));have O1:=Hd (O0.out.trans a);have R1:=Hd u;replace A1:=Hd (A1.out.cons T);clear l u a T;go_wp2_with fail;refine(cL.out w1 R1.out).mono ?_;rintro e w2 ⟨u2,rfl,l,u,a⟩;obtain⟨a2,c2,rfl⟩:=Ic l;have T:=l.mono (B':=g+1) a6.out;have bI:=Hd (bO a6.out a.size);have A2:=Hd (A1.out.only a (by have:=K.out;omega));have G2:=Hd (G1.out.only a (by have:=K.out;omega));have O2:=Hd (O1.out.trans a);have R2:=Hd u;replace A2:=Hd (A2.out.cons T);clear l u a T;obtain⟨q,hq⟩:=eX w2.heap.size;have HQ:=Hd hq;have U:=Hd (show g+1≤q by rw[hq];exact bI.out);clear hq;go_wp2_with (refine Aa rfl 50 (.tmp 4) (.tmp 12) rfl w2.heap.size #[.slice a1 J.length c1,.slice a2 M.length c2,.slice none 0 0] rfl rfl 50 #[.slice none 0 0,.slice none 0 0,.slice none 0 0] (Blk.new _ _ _) (by kernel_rfl) rfl rfl ?_);rintro w3 f s t o;have z:Below w2.heap.size w2 w3:=(bR.alloc lR _).trans (s _ lR);have bU:=Hd (bO bI.out z.size);have A3:=Hd (A2.out.below z);have G3:=Hd (G2.out.below z G2.out.lt);have O3:=Hd (Py O2.out z);have R3:=Hd (R2.out.below z);rw[←HQ.out]at f⊢;have Q3:=Hd f;have bS:=Hd (show q<w3.heap.size from f.lt);clear f s t o z;go_wp2_with fail;refine(cH.out w3 R3.out).mono ?_;rintro e w4 ⟨u3,rfl,l,u,a⟩;have cJ:=Hd l.rd;have aN:=Hd (Nat.lt_of_lt_of_le bS.out a.size);have cM:=Hd (bO bU.out a.size);have A4:=Hd (A3.out.only a (by have:=K.out;omega));have G4:=Hd (G3.out.only a (by have:=K.out;omega));have Q4:=Hd (Q3.out.only a (by have:=K.out;have:=U.out;omega));have O4:=Hd (O3.out.trans a);have R4:=Hd u;clear l u a;go_wp2_with fail;refine(bV.out _ _ _ R4.out).mono ?_;rintro e w' ⟨rfl,rfl⟩
 by_cases h3:e3=0
 ·have bD:=Hd h3;have b0:((e3:Int) !=0)=false:=(by rw[bne_eq_false_iff_eq];omega);clear h3;go_wp2_with fail;refine(b1.out _ _ _ cJ.out).mono ?_;rintro e w7 ⟨rfl,u,z⟩;obtain⟨r,hr⟩:=eX w4.heap.size;rw[←hr]at u z⊢;have aW:q<r:=(by rw[hr];exact aN.out);have aF:Below w4.heap.size w4 w7:=(by rw[←hr];exact z);have HR:=Hd hr;have Y:=Hd aW;have bQ:=Hd u;have bM:=Hd (show Only q w4 w7 from Only.of aF);have bN:=Hd (Q4.out.below aF aN.out);clear hr aW u z aF;go_wp2_with fail
  go_loopg [] n (fun k wr=>∃j:Nat,j+k=n∧∃lv,RS wr r (y.drop (4*j)) 0∧Blk wr q 50 #[.slice a1 J.length c1,.slice a2 M.length c2,lv]∧Own wr (r+1) 3 lv (ivs .i64 (late.take j))∧Only q w4 wr)
  case atStart=>exact⟨0,by omega,_,bQ.out,bN.out,Own.nil _ _ _,bM.out⟩
  case round=>
   obtain⟨j,hj,lv,u,f,l,a⟩:=hrel;have aT:=Hd u;have A:=Hd f;have aB:=Hd l;have I:=Hd a;clear u f l a;obtain⟨F,aI⟩:=eX ((y.drop (4*j)).length);have aU:F=ln-4*j:=(by rw[aI,eM,G.out]);have aM:=cA.out r _ wr aT.out;rw[←aI]at aM;have HL:=Hd aM;have HJ:=Hd hj;have V:=Hd aU;have aA:=Hd (show n=ln/4 by rw[bZ.out,G.out]);clear aM aI aU
   by_cases hjn:j<n
   ·obtain⟨al,cl,rfl⟩:=Zs aB.out;have P:4*j+4≤ln:=(by have:=aA.out;omega);go_wp2_with fail;refine HL.out.mono ?_;rintro e w' ⟨rfl,rfl⟩;have hd:decide ((F:Int)≥4)=true:=decide_eq_true (by have:=V.out;omega);have b5:decide ((4:Int)≤(F:Int))=true:=decide_eq_true (by have:=V.out;omega);have aO:j<late.length:=(by rw[a5.out];exact hjn);obtain⟨m,hm⟩:=eX (Zgb y j);have bJ:late[j]=(m:Int):=(by rw[a8.out j aO,hm]);have HT:=Hd (show late.take (j+1)=late.take j++[(m:Int)] by rw[List.take_add_one,List.getElem?_eq_getElem aO,bJ];rfl);have cR:m<4294967296:=(by rw[hm];exact b9.out j (by rw[←G.out];exact P));have bH:=aT;have aZ:=Hd hjn;have HC:=Hd fun(W:World) (hW:RS W r (y.drop (4*j)) 0)=>aS.out W r j (by rw[←G.out];exact P) hW;rw[←hm]at HC;have bT:(late.take j).length=j:=(by rw[cF];omega);obtain⟨lj,aY⟩:=eX ((late.take j).length);have y2:=A.out.cell 2;have z2:=A.out.frozen 2;simp only[cC,cD,cE]at y2;rw[←aY]at y2 A aB;have cN:IntKind.i64.wrap (m:Int)=(m:Int):=IntWalk.i64_in _ ⟨by omega,by omega⟩;clear hj aO bJ aY bT hjn hm P;go_wp2_with fail
    go_region_law (first
     |(go_simp;go_at_call 154;refine(HC.out _ (show RS wr.drew r _ 0 from bH.out)).mono ?_;rintro e w8 ⟨rfl,E,aE⟩;have aL:=Hd (Blk.only (show Blk wr.drew q 50 #[.slice a1 J.length c1,.slice a2 M.length c2,.slice al lj cl]from A.out) aE (by have:=Y.out;omega));have y8:=aL.out.cell 2;have bY:=(aL.out.alloc (.cells #[.int .i64 (m:Int)] 3)).cell 2;simp only[cC,cD,cE]at y8 bY)
     |(refine Zhr rfl (.tmp 27) (.tmp 31) 48 rfl (r+1) 3 _ 8 Qu (.slice al lj cl) (ivs .i64 (late.take j)) rfl (((show Own wr.drew (r+1) 3 (.slice al lj cl) (ivs .i64 (late.take j))from aB.out).only aE (dG _)).alloc _) _ [.int .i64 (m:Int)] rfl (Zl6 _ _ _) (by simp[Value.oneCell']) (by rw[Ha];simp;have:=HN.out;have:=List.length_take_le j late;omega) (by have:=E.lt;simp;omega) ?_;rintro v9 w9 Q aJ;obtain⟨a9,n9,c9,rfl⟩:=Dk Q;have aP:=Hd ((aL.out.alloc _).below aJ (by have:=Y.out;omega));have y9:=aP.out.cell 2;have z9:=aP.out.frozen 2;simp only[cC,cD,cE]at y9))
    all_goals
     go_wp2_with fail;go_roundg (gk-1);case measure=>have:=HJ.out;have:=aZ.out;omega
     case rel=>
      refine⟨j+1,by have:=HJ.out;have:=aZ.out;omega,.slice a9 n9 c9,?_,?_,?_,?_⟩
      ·have aK:=E.lt;have N:=((Below.refl (r+1) w8).alloc aK (.cells #[.int .i64 (m:Int)] 3)).trans aJ;exact(E.low N (dG _)).slot y9 (by have:=Y.out;omega)
      ·simpa using aP.out.set 2 (.slice a9 n9 c9)
      ·have:=Q.setLow (p:=⟨q,2,none⟩) (by have:=Y.out;simp only;omega) (.slice a9 n9 c9);rw[HT.out,ivs,List.map_append];exact this
      ·have aK:=E.lt;have N:=((Below.refl (r+1) w8).alloc aK (.cells #[.int .i64 (m:Int)] 3)).trans aJ;have h8:Below r wr w8:=(Below.draw1 (Below.refl r wr)).trans (aE.below lR (eA bH.out.lt));exact(I.out.then (HR.out▸(h8.trans (N.mono (fZ _))))).trans (Only.set 2 _)
   ·obtain rfl:j=n:=(by have:=HJ.out;omega);have ht:late.take j=late:=(by rw[←a5.out,List.take_length]);have how:=aB.out;rw[ht]at how;obtain⟨al,cl,rfl⟩:=Zs how;have aR:=Hd how;have cQ:=I.out.size;have bG:=Hd (show F=ln%4 by have:=V.out;have:=aA.out;omega);have GX:=Hd (G4.out.only I.out (by have:=U.out;omega));have RX:=Hd (R4.out.only I.out (by have:=K.out;have:=U.out;omega) (eA aN.out));have OX:=Hd (O4.out.then (I.out.below (C:=w.heap.size) (by have:=U.out;have:=HG.out;omega) O4.out.size));have AX:=Hd (A4.out.other Q4.out (by decide) (fun i T bX=>I.out.block i T (fun e=>bX (by simpa using e))));clear ht how hjn hj;go_wp2_with fail;refine HL.out.mono ?_;rintro e w' ⟨rfl,rfl⟩;have hd:decide ((F:Int)≥4)=false:=decide_eq_false (by have:=V.out;have:=aA.out;omega);have b5:decide ((4:Int)≤(F:Int))=false:=decide_eq_false (by have:=V.out;have:=aA.out;omega);go_wp2_with fail;refine HL.out.mono ?_;rintro e w' ⟨rfl,rfl⟩
    by_cases hre:F=0
    ·have bW:decide ((F:Int)>0)=false:=decide_eq_false (by omega);have b6:decide (0<F)=false:=decide_eq_false (by omega);have cI:decide ((0:Int)<(F:Int))=false:=decide_eq_false (by omega);have HX:=Hd (b2.out bD.out (by have:=bG.out;rw[←G.out];omega));clear hre;go_wp2_with (refine Qi rfl ?_;refine Au rfl 50 (.tmp 4) rfl q rfl 50 #[.slice a1 J.length c1,.slice a2 M.length c2,.slice al late.length cl] (0,0) _ A.out Tryz.underlying50 rfl (by kernel_rfl) ?_);refine(bP.out a1 a2 al J.length M.length c1 c2 cl late wr aR.out.rd).mono ?_;rintro e cP ⟨rfl,z⟩;have bA:=Hd (A.out.below z A.out.lt);have aC:=Hd (GX.out.below z GX.out.lt);have bE:=Hd (RX.out.below z);have bB:=Hd (Py OX.out z);have cK:=Hd (AX.out.below z);have bK:=Hd (aR.out.below z lR);clear z;obtain⟨RB,aQ⟩:=eX (rpB J.length M.length late);rw[←aQ];have aV:=Hd (HX.out RB aQ.symm);clear aQ;cases RB with
     |false=>
      go_wp2_with (refine Aa rfl 50 (.tmp 2) (.tmp 42) rfl g #[.slice none 0 0,.slice none 0 0,.slice none 0 0] rfl rfl 50 #[.slice none 0 0,.slice none 0 0,.slice none 0 0] aC.out (by kernel_rfl) rfl rfl ?_);rintro a4 f s t o;have X:=Hd f;have Z:=Hd (Bk bB.out (s w.heap.size (by rw[HG.out];exact lR)));have O:=Hd (bE.out.low (s g lR) K.out);clear f s t o;go_wp2_with fail;refine bodyPost_ret (v:=.tuple #[.agg #[.slice none 0 0,.slice none 0 0,.slice none 0 0],.int .u8 3]) (Ad Tryz.results219 _ _ g _ _ _ rfl X.out Tryz.underlying50 rfl (by kernel_rfl)) rfl ?_;exact HS.out _ _ rfl aV.out ⟨_,_,_,rfl,Own.nil _ _ _,Own.nil _ _ _,Own.nil _ _ _⟩ O.out Z.out
     |true=>
      go_wp2_with (first
       |(refine Au rfl 50 (.tmp 4) rfl q rfl 50 #[.slice a1 J.length c1,.slice a2 M.length c2,.slice al late.length cl] (0,0) _ bA.out Tryz.underlying50 rfl (by kernel_rfl) ?_)
       |(refine Aa rfl 50 (.tmp 2) (.tmp 43) rfl g #[.slice a1 J.length c1,.slice a2 M.length c2,.slice al late.length cl] rfl rfl 50 #[.slice none 0 0,.slice none 0 0,.slice none 0 0] aC.out (by kernel_rfl) rfl rfl ?_))
      rintro cS f s t o;have a7:=Hd f;have cB:=Hd (bE.out.low (s g lR) K.out);have b4:=Hd (Bk bB.out (s w.heap.size (by rw[HG.out];exact lR)));have bF:=Hd ((cK.out.other aC.out (by decide) (fun i _ T=>t i T)).mono (fZ g));have bL:=Hd ((bK.out.other aC.out (by decide) (fun i _ T=>t i T)).mono (B':=g) (by have:=U.out;have:=Y.out;omega));clear f s t o;go_wp2_with fail;refine bodyPost_ret (v:=.tuple #[.agg #[.slice a1 J.length c1,.slice a2 M.length c2,.slice al late.length cl],.int .u8 0]) (Ad Tryz.results219 _ _ g _ _ _ rfl a7.out Tryz.underlying50 rfl (by kernel_rfl)) rfl ?_;refine HS.out _ _ rfl aV.out ?_ cB.out b4.out;rw[←HG.out];exact⟨_,_,_,rfl,bF.out.nth 1 rfl,bF.out.nth 0 rfl,bL.out⟩
    ·have bW:decide ((F:Int)>0)=true:=decide_eq_true (by omega);have b6:decide (0<F)=true:=decide_eq_true (by omega);have cI:decide ((0:Int)<(F:Int))=true:=decide_eq_true (by omega);have HX:=Hd (b8.out bD.out (by have:=bG.out;rw[←G.out];omega));clear hre;go_wp2_with (refine Aa rfl 50 (.tmp 2) (.tmp 42) rfl g #[.slice none 0 0,.slice none 0 0,.slice none 0 0] rfl rfl 50 #[.slice none 0 0,.slice none 0 0,.slice none 0 0] GX.out (by kernel_rfl) rfl rfl ?_);rintro a4 f s t o;have X:=Hd f;have Z:=Hd (Bk OX.out (s w.heap.size (by rw[HG.out];exact lR)));have O:=Hd (RX.out.low (s g lR) K.out);clear f s t o;go_wp2_with fail;refine bodyPost_ret (v:=.tuple #[.agg #[.slice none 0 0,.slice none 0 0,.slice none 0 0],.int .u8 3]) (Ad Tryz.results219 _ _ g _ _ _ rfl X.out Tryz.underlying50 rfl (by kernel_rfl)) rfl ?_;exact HS.out _ _ rfl HX.out ⟨_,_,_,rfl,Own.nil _ _ _,Own.nil _ _ _,Own.nil _ _ _⟩ O.out Z.out
 ·have a0:=Hd (b7.out h3);have b0:((e3:Int) !=0)=true:=(by rw[bne_iff_ne];omega);clear h3;go_wp2_with (refine Aa rfl 50 (.tmp 2) (.tmp 19) rfl g #[.slice none 0 0,.slice none 0 0,.slice none 0 0] rfl rfl 50 #[.slice none 0 0,.slice none 0 0,.slice none 0 0] G4.out (by kernel_rfl) rfl rfl ?_);rintro a4 f s t o;have X:=Hd f;have Z:=Hd (Bk O4.out (s w.heap.size (by rw[HG.out];exact lR)));have O:=Hd (R4.out.low (s g lR) K.out);clear f s t o;go_wp2_with fail;refine bodyPost_ret (v:=.tuple #[.agg #[.slice none 0 0,.slice none 0 0,.slice none 0 0],.int .u8 (e3:Nat)]) (Ad Tryz.results219 _ _ g _ _ _ rfl X.out Tryz.underlying50 rfl (by kernel_rfl)) rfl ?_;exact HS.out _ _ rfl a0.out ⟨_,_,_,rfl,Own.nil _ _ _,Own.nil _ _ _,Own.nil _ _ _⟩ O.out Z.out
theorem Ze3 (B:Nat)(L:List Nat)(w:World)(h:RS w B L 0)(u:L.length<1000000000)(q:∀n∈L,n<256):
  Calls Tryz.prog 219 #[.pointer (some ⟨B,0,none⟩)] w (Zik B w (Fp L 0)):=by
 have i:=Ay L 0;have a:=Ay (By L 0).2.1 (By L 0).2.2;have d:∀(M:List Nat) (er:Nat),Sub M L→∀W,RS W B M er→Calls Tryz.prog 254 #[.pointer (some ⟨B,0,none⟩)] W (Ls B W (By M er)):=fun M er m W s=>Zdh B M er W s (by have:=m.1;omega) fun n g=>q n (m.2 n g);unfold Fp;simp only;have r:=d L 0 (Sub.refl _);have k:=d _ (By L 0).2.2 i.2.1;generalize By L 0=r1 at i a r k⊢;have f:=a.2.1.trans i.2.1;have j:=d _ (By r1.2.1 r1.2.2).2.2 f;generalize By r1.2.1 r1.2.2=r2 at a k j f⊢;have p:=Ay r2.2.1 r2.2.2;generalize By r2.2.1 r2.2.2=r3 at p j⊢;have o:=p.1.trans f;refine Zbq r1.1 r2.1 r3.1 L r1.2.1 r2.2.1 r3.2.1 r1.2.2 r2.2.2 r3.2.2 B (Zb7 r3.1.length r3.1) _ w h r k j (fun n g=>q n (o.2 n g)) (by have:=o.1;omega) (Ze2 _ _ (by omega)) (fun e=> ?_) (fun t e2=> ?_) (fun t e2 b l=> ?_)
 ·rw[if_pos e]
 ·rw[if_neg (by omega),if_neg (fun c=>e2 c.1)]
 ·rw[if_neg (by omega)]
  by_cases hb2:b=true
  ·rw[if_pos ⟨e2,l.trans hb2⟩,if_pos hb2]
  ·rw[if_neg (fun c=>hb2 (l.symm.trans c.2)),if_neg hb2]
end Go.Proofs.YtfofaiommeckbaaGreat
