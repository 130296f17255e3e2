/- Walk: node.takeParent on any bytes. -/
import Derived.Test.YtfofaiommeckbaaGreatZSliceReadsB
import Derived.Test.YtfofaiommeckbaaGreatZSliceReads45
import Derived.Test.YtfofaiommeckbaaGreatZSliceReads29
open List renaming range → aF, length_drop → dE, drop_drop → gG, length_take → dC, mem_of_mem_drop → gC, getElem?_toArray → bK, getElem?_cons_zero → bL, getElem?_cons_succ → bM
open Nat renaming le_trans → dG, lt_succ_self → fL, le_of_lt → dL, le_succ → fN
set_option linter.unusedVariables false
set_option maxRecDepth 100000
set_option maxHeartbeats 40000000
namespace Go.Proofs.YtfofaiommeckbaaGreat
open Go.RowKit WireM
def Zk6 (w:World)(B:Nat)(d:ParD)(c:Array Value):Prop:=
 ∃v1 v2 v3,c=#[v1,v2,v3]∧Own w B 5 v1 (bvs d.box)∧Own w B 5 v2 (bvs d.hash)∧Own w B 3 v3 (ivs .i64 d.late)
theorem Ju {w:World} {B:Nat} {v:Value} {L:List Int}(h:Own w B 3 v (ivs .i64 L)):∃a c,v=.slice a L.length c:=by
 obtain⟨a,c,e,_⟩:=h.rd;rw[Fa]at e;exact⟨a,c,e⟩
theorem RdK.slot {w:World} {B q i:Nat} {v u:Value} {L:List Nat} {a:Option Addr} {n c:Nat}(h:RdK w B v (bvs L))(hc:w.cell? ⟨q,i,none⟩=some (.slice a n c)):RdK (w.setCell ⟨q,i,none⟩ u) B v (bvs L):=by
 obtain⟨a',cap,h1,h2,h3,h4|⟨b,off,h4,h5,h6⟩⟩:=h
 ·exact⟨a',cap,h1,h2,h3,.inl h4⟩
 ·refine⟨a',cap,h1,h2,h3,.inr ⟨b,off,h4,h5,fun j x hx=> ?_⟩⟩;rw[World.cell?_setCell_other]
  ·exact h6 j x hx
  ·intro e;have h7:=h6 j x hx;rw[←e,hc]at h7;simp only[Option.some.injEq]at h7;subst h7;simp[bvs]at hx
theorem RS.slot {w:World} {B q i:Nat} {u:Value} {L:List Nat} {er:Nat} {a:Option Addr} {n c:Nat}(h:RS w B L er)(hc:w.cell? ⟨q,i,none⟩=some (.slice a n c))(hne:q≠B):RS (w.setCell ⟨q,i,none⟩ u) B L er:=by
 obtain⟨v,hb,hr⟩:=h;exact⟨v,hb.far (p:=⟨q,i,none⟩) (fun e=>hne e.symm) u,hr.slot hc⟩
theorem Zj5 (w:World)(u:Value)(t:TypeId):Rd (w.alloc (.cells #[u] t)) (.slice (some ⟨w.heap.size,0,none⟩) 1 1) [u]:=by
 refine⟨_,1,rfl,lR,by unfold maxLen;omega,.inr ⟨_,0,rfl,?_⟩⟩;intro j x hx;cases j with
 |zero=>simp at hx;subst hx;exact Ar rfl
 |succ j=>simp at hx
def Vr (L:List Nat)(j:Nat):Nat:=Ct ((L.drop (4*j)).take 4)
theorem Vs:∀(k:Nat) (L:List Nat),L.length/4≤k→Zde k L=(aF (L.length/4)).map fun j=>((Vr L j:Nat):Int)
 |0,L,h=>by rw[show L.length/4=0 by omega];rfl
 |k+1,L,h=>by
  unfold Zde
  by_cases h4:4≤L.length
  ·rw[if_pos h4,Vs k (L.drop 4) (by rw[dE];omega),dE,show L.length/4=(L.length-4)/4+1 by omega,List.range_succ_eq_map,List.map_cons,List.map_map]
   congr 1
   ·refine List.map_congr_left fun j _=> ?_;show((Vr (L.drop 4) j:Nat):Int)=((Vr L (j+1):Nat):Int);unfold Vr;rw[gG,show 4+4*j=4*(j+1) by omega]
  ·rw[if_neg h4,show L.length/4=0 by omega];rfl
theorem Zdn {L:List Nat}(hL:∀n∈L,n<256) {j:Nat}(hj:4*j+4≤L.length):Vr L j<4294967296:=by
 have:=Mr 4 ((L.drop (4*j)).take 4) (by rw[dC,dE];omega) fun n hn=>hL n (gC (List.mem_of_mem_take hn));simpa [Vr]using this
def Zgn (B:Nat)(w:World)(r:Nat×ParD×List Nat×Nat)(e:Ending)(w':World):Prop:=
 ∃c,e=.returned (.tuple #[.agg c,.int .u8 (r.1:Nat)])∧Zk6 w' w.heap.size r.2.1 c∧RS w' B r.2.2.1 r.2.2.2∧Only B w w'
theorem Zad (v1 v2 v3 L0 L1 L2 L3:List Nat) (e1 e2 e3 B:Nat) (late:List Int) (r:Nat×ParD×List Nat×Nat) (w:World) (h:RS w B L0 0)
  (C1:∀W,RS W B L0 0→Calls Tryz.prog 254 #[.pointer (some ⟨B,0,none⟩)] W (Lk B W (v1,L1,e1)))
  (C2:∀W,RS W B L1 e1→Calls Tryz.prog 254 #[.pointer (some ⟨B,0,none⟩)] W (Lk B W (v2,L2,e2)))
  (C3:∀W,RS W B L2 e2→Calls Tryz.prog 254 #[.pointer (some ⟨B,0,none⟩)] W (Lk B W (v3,L3,e3)))
  (hv3:∀n∈v3,n<256) (hl3:v3.length≤1000000000) (hlate:late=(aF (v3.length/4)).map fun j=>((Vr v3 j:Nat):Int))
  (X3:e3≠0→r=(e3,noParD,L3,e3)) (XR:e3=0→v3.length%4≠0→r=(3,noParD,L3,e3))
  (XB:e3=0→v3.length%4=0→∀b,rpB v1.length v2.length late=b→r=if b=true then(0,⟨v1,v2,late⟩,L3,e3)else(3,noParD,L3,e3)):
  Calls Tryz.prog 219 #[.pointer (some ⟨B,0,none⟩)] w (Zgn B w r):=by
 have hB:=h.lt;obtain⟨g,hg⟩:=eX w.heap.size;have HG:=Hd hg;have HB:=Hd (show B<g by omega);obtain⟨w0,hw0⟩:=eX (w.alloc (.cells #[.slice none 0 0,.slice none 0 0,.slice none 0 0] 50));have HW0:=Hd hw0;have HZ0:=Hd (show g+1≤w0.heap.size by rw[hw0,hg];simp);have G0:=Hd (show Blk w0 g 50 #[.slice none 0 0,.slice none 0 0,.slice none 0 0] by rw[hw0,hg];exact Blk.new _ _ _);have A0:=Hd (Al.nil w0 (g+1));have O0:=Hd (show Only B w w0 by rw[hw0];exact(Only.refl _ _).alloc _);have R0:=Hd (show RS w0 B L0 0 by rw[hw0];exact h.low ((Below.refl w.heap.size w).alloc lR (.cells #[.slice none 0 0,.slice none 0 0,.slice none 0 0] 50)) hB);have HC1:=Hd C1;have HC2:=Hd C2;have HC3:=Hd C3;have HX3:=Hd X3;have HXR:=Hd XR;have HXB:=Hd XB;have HER:=Hd fun(L:List Nat) (er:Nat) W=>Gh B L er W;have HLF:=Hd fun(b:Nat) (L:List Nat) W=>Zfr b L 0 W;have HNR:=Hd Ji;have HRG:=Hd @Hb;obtain⟨n,hn⟩:=eX (v3.length/4);have hnl:late.length=n:=(by rw[hlate,List.length_map,List.length_range,hn]);have hget:∀(j:Nat) (hj:j<late.length),late[j]=((Vr v3 j:Nat):Int):=fun j hj=>(by subst hlate;simp);have HNL:=Hd hnl;have HGET:=Hd hget;have HN:=Hd (show late.length≤1000000000 by omega);have HNV:=Hd hn;have HLT:=Hd fun(j:Nat) (hj:4*j+4≤v3.length)=>Zdn hv3 hj;have HNUM:=Hd fun(W:World) (b j:Nat) (hj:4*j+4≤v3.length) (hW:RS W b (v3.drop (4*j)) 0)=>(show Calls Tryz.prog 154 #[.pointer (some ⟨b,0,none⟩),.int .i64 4] W fun e W'=>e=.returned (.int .u64 (Vr v3 j:Nat))∧RS W' b (v3.drop (4*(j+1))) 0∧Only b W W' from by
  have h1:=Mx b _ 0 4 W hW fun x hx=>hv3 x (gC hx);have e:Eb (v3.drop (4*j)) 0 4=((v3.drop (4*j)).take 4,v3.drop (4*(j+1)),0):=by
   unfold Eb;rw[if_pos (by decide)];unfold Bw;rw[if_neg (by simp),if_neg (by omega),if_neg (by rw[dE];omega),gG,show 4*j+(4:Int).toNat=4*(j+1) by have:(4:Int).toNat=4:=rfl;omega]
   rfl
  rw[e]at h1;exact h1)
 obtain⟨S,hS⟩:=eX (Zgn B w r);rw[←hS];have HS:=Hd (show∀(e:Ending) (w':World) {c:Array Value} {k:Nat} {d:ParD} {R:List Nat} {re:Nat},e=.returned (.tuple #[.agg c,.int .u8 (k:Nat)])→r=(k,d,R,re)→Zk6 w' w.heap.size d c→RS w' B R re→Only B w w'→S e w' from by
  rintro e w' c k d R re rfl rfl h1 h2 h3;rw[hS];exact⟨c,rfl,h1,h2,h3⟩)
 clear h hB hg hw0 C1 C2 C3 X3 XR XB hS hn hnl hget hlate hv3;obtain⟨ln,hln⟩:=eX v3.length;have HLN:=Hd hln;clear hln;go_enter Tryz.func219,Tryz.ntmps219;go_wp2_with fail;rw[←HW0.out,←HG.out];refine(HC1.out w0 R0.out).mono ?_;rintro e w1 ⟨u1,rfl,hown,hrs,honly⟩;obtain⟨a1,c1,rfl⟩:=Hi hown;have hi:=hown.mono (B':=g+1) HZ0.out;have HZ1:=Hd (dG HZ0.out honly.size);have A1:=Hd (A0.out.only honly (by have:=HB.out;omega));have G1:=Hd (G0.out.only honly (by have:=HB.out;omega));have O1:=Hd (O0.out.trans honly);have R1:=Hd hrs;replace A1:=Hd (A1.out.cons hi);clear hown hrs honly hi;go_wp2_with fail;refine(HC2.out w1 R1.out).mono ?_;rintro e w2 ⟨u2,rfl,hown,hrs,honly⟩;obtain⟨a2,c2,rfl⟩:=Hi hown;have hi:=hown.mono (B':=g+1) HZ1.out;have HZ2:=Hd (dG HZ1.out honly.size);have A2:=Hd (A1.out.only honly (by have:=HB.out;omega));have G2:=Hd (G1.out.only honly (by have:=HB.out;omega));have O2:=Hd (O1.out.trans honly);have R2:=Hd hrs;replace A2:=Hd (A2.out.cons hi);clear hown hrs honly hi;obtain⟨q,hq⟩:=eX w2.heap.size;have HQ:=Hd hq;have HQ1:=Hd (show g+1≤q by rw[hq];exact HZ2.out);clear hq;go_wp2_with (refine Aa rfl 50 (.tmp 4) (.tmp 12) rfl w2.heap.size #[.slice a1 v1.length c1,.slice a2 v2.length c2,.slice none 0 0] rfl rfl 50 #[.slice none 0 0,.slice none 0 0,.slice none 0 0] (Blk.new _ _ _) (by kernel_rfl) rfl rfl ?_);rintro w3 hblk hbl hoth hsize;have hb:Below w2.heap.size w2 w3:=(bR.alloc lR _).trans (hbl _ lR);have HZ3:=Hd (dG HZ2.out hb.size);have A3:=Hd (A2.out.below hb);have G3:=Hd (G2.out.below hb G2.out.lt);have O3:=Hd (Pm O2.out hb);have R3:=Hd (R2.out.below hb);rw[←HQ.out]at hblk⊢;have Q3:=Hd hblk;have HQZ:=Hd (show q<w3.heap.size from hblk.lt);clear hblk hbl hoth hsize hb;go_wp2_with fail;refine(HC3.out w3 R3.out).mono ?_;rintro e w4 ⟨u3,rfl,hown,hrs,honly⟩;have HV4:=Hd hown.rd;have HQ4:=Hd (Nat.lt_of_lt_of_le HQZ.out honly.size);have HZ4:=Hd (dG HZ3.out honly.size);have A4:=Hd (A3.out.only honly (by have:=HB.out;omega));have G4:=Hd (G3.out.only honly (by have:=HB.out;omega));have Q4:=Hd (Q3.out.only honly (by have:=HB.out;have:=HQ1.out;omega));have O4:=Hd (O3.out.trans honly);have R4:=Hd hrs;clear hown hrs honly;go_wp2_with fail;refine(HER.out _ _ _ R4.out).mono ?_;rintro e w' ⟨rfl,rfl⟩
 by_cases h3:e3=0
 ·have HE3:=Hd h3;have h3b:((e3:Int) !=0)=false:=(by rw[bne_eq_false_iff_eq];omega);clear h3;go_wp2_with fail;refine(HNR.out _ _ _ HV4.out).mono ?_;rintro e w7 ⟨rfl,hrs,hb⟩;obtain⟨r,hr⟩:=eX w4.heap.size;rw[←hr]at hrs hb⊢;have hqr:q<r:=(by rw[hr];exact HQ4.out);have h67:Below w4.heap.size w4 w7:=(by rw[←hr];exact hb);have HR:=Hd hr;have HQR:=Hd hqr;have HRL:=Hd hrs;have H67:=Hd (show Only q w4 w7 from Only.of h67);have HP7:=Hd (Q4.out.below h67 HQ4.out);clear hr hqr hrs hb h67;go_wp2_with fail
  go_loopg [] n (fun k wr=>∃j:Nat,j+k=n∧∃lv,RS wr r (v3.drop (4*j)) 0∧Blk wr q 50 #[.slice a1 v1.length c1,.slice a2 v2.length c2,lv]∧Own wr (r+1) 3 lv (ivs .i64 (late.take j))∧Only q w4 wr)
  case atStart=>exact⟨0,by omega,_,HRL.out,HP7.out,Own.nil _ _ _,H67.out⟩
  case round=>
   obtain⟨j,hj,lv,hrs,hblk,hown,honly⟩:=hrel;have HRS:=Hd hrs;have HPK:=Hd hblk;have HOW:=Hd hown;have HON:=Hd honly;clear hrs hblk hown honly;obtain⟨ll,hll⟩:=eX ((v3.drop (4*j)).length);have hl4:ll=ln-4*j:=(by rw[hll,dE,HLN.out]);have HLC:=HLF.out r _ wr HRS.out;rw[←hll]at HLC;have HL:=Hd HLC;have HJ:=Hd hj;have HL4:=Hd hl4;have HNN:=Hd (show n=ln/4 by rw[HNV.out,HLN.out]);clear HLC hll hl4
   by_cases hjn:j<n
   ·obtain⟨al,cl,rfl⟩:=Ju HOW.out;have hlj4:4*j+4≤ln:=(by have:=HNN.out;omega);go_wp2_with fail;refine HL.out.mono ?_;rintro e w' ⟨rfl,rfl⟩;have hd:decide ((ll:Int)≥4)=true:=decide_eq_true (by have:=HL4.out;omega);have hd':decide ((4:Int)≤(ll:Int))=true:=decide_eq_true (by have:=HL4.out;omega);have hjl:j<late.length:=(by rw[HNL.out];exact hjn);obtain⟨m,hm⟩:=eX (Vr v3 j);have hxg:late[j]=(m:Int):=(by rw[HGET.out j hjl,hm]);have HT:=Hd (show late.take (j+1)=late.take j++[(m:Int)] by rw[List.take_add_one,List.getElem?_eq_getElem hjl,hxg];rfl);have hmb:m<4294967296:=(by rw[hm];exact HLT.out j (by rw[←HLN.out];exact hlj4));have HRX:=HRS;have HJN:=Hd hjn;have HC:=Hd fun(W:World) (hW:RS W r (v3.drop (4*j)) 0)=>HNUM.out W r j (by rw[←HLN.out];exact hlj4) hW;rw[←hm]at HC;have hjb:(late.take j).length=j:=(by rw[dC];omega);obtain⟨lj,hlj⟩:=eX ((late.take j).length);have y2:=HPK.out.cell 2;have z2:=HPK.out.frozen 2;simp only[bK,bL,bM]at y2;rw[←hlj]at y2 HPK HOW;have hwm:IntKind.i64.wrap (m:Int)=(m:Int):=IntWalk.i64_in _ ⟨by omega,by omega⟩;clear hj hjl hxg hlj hjb hjn hm hlj4;go_wp2_with fail
    go_region_law (first
     |(go_simp;go_at_call 154;refine(HC.out _ (show RS wr.drew r _ 0 from HRX.out)).mono ?_;rintro e w8 ⟨rfl,hrs8,ho8⟩;have hp8:=Hd (Blk.only (show Blk wr.drew q 50 #[.slice a1 v1.length c1,.slice a2 v2.length c2,.slice al lj cl]from HPK.out) ho8 (by have:=HQR.out;omega));have y8:=hp8.out.cell 2;have y8a:=(hp8.out.alloc (.cells #[.int .i64 (m:Int)] 3)).cell 2;simp only[bK,bL,bM]at y8 y8a)
     |(refine Zfu rfl (.tmp 27) (.tmp 31) 48 rfl (r+1) 3 _ 8 Cg (.slice al lj cl) (ivs .i64 (late.take j)) rfl (((show Own wr.drew (r+1) 3 (.slice al lj cl) (ivs .i64 (late.take j))from HOW.out).only ho8 (fL _)).alloc _) _ [.int .i64 (m:Int)] rfl (Zj5 _ _ _) (by simp[Value.oneCell']) (by rw[Fa];simp;have:=HN.out;have:=List.length_take_le j late;omega) (by have:=hrs8.lt;simp;omega) ?_;rintro v9 w9 hown9 hb9;obtain⟨a9,n9,c9,rfl⟩:=Da hown9;have hp9:=Hd ((hp8.out.alloc _).below hb9 (by have:=HQR.out;omega));have y9:=hp9.out.cell 2;have z9:=hp9.out.frozen 2;simp only[bK,bL,bM]at y9))
    all_goals
     go_wp2_with fail;go_roundg (gk-1);case measure=>have:=HJ.out;have:=HJN.out;omega
     case rel=>
      refine⟨j+1,by have:=HJ.out;have:=HJN.out;omega,.slice a9 n9 c9,?_,?_,?_,?_⟩
      ·have hr8:=hrs8.lt;have hb89:=((Below.refl (r+1) w8).alloc hr8 (.cells #[.int .i64 (m:Int)] 3)).trans hb9;exact(hrs8.low hb89 (fL _)).slot y9 (by have:=HQR.out;omega)
      ·simpa using hp9.out.set 2 (.slice a9 n9 c9)
      ·have:=hown9.setLow (p:=⟨q,2,none⟩) (by have:=HQR.out;simp only;omega) (.slice a9 n9 c9);rw[HT.out,ivs,List.map_append];exact this
      ·have hr8:=hrs8.lt;have hb89:=((Below.refl (r+1) w8).alloc hr8 (.cells #[.int .i64 (m:Int)] 3)).trans hb9;have h8:Below r wr w8:=(Below.draw1 (Below.refl r wr)).trans (ho8.below lR (dL HRX.out.lt));exact(HON.out.then (HR.out▸(h8.trans (hb89.mono (fN _))))).trans (Only.set 2 _)
   ·obtain rfl:j=n:=(by have:=HJ.out;omega);have ht:late.take j=late:=(by rw[←HNL.out,List.take_length]);have how:=HOW.out;rw[ht]at how;obtain⟨al,cl,rfl⟩:=Ju how;have HOL:=Hd how;have hz6:=HON.out.size;have HRE:=Hd (show ll=ln%4 by have:=HL4.out;have:=HNN.out;omega);have GX:=Hd (G4.out.only HON.out (by have:=HQ1.out;omega));have RX:=Hd (R4.out.only HON.out (by have:=HB.out;have:=HQ1.out;omega) (dL HQ4.out));have OX:=Hd (O4.out.then (HON.out.below (C:=w.heap.size) (by have:=HQ1.out;have:=HG.out;omega) O4.out.size));have AX:=Hd (A4.out.other Q4.out (by decide) (fun i hi hne=>HON.out.block i hi (fun e=>hne (by simpa using e))));clear ht how hjn hj;go_wp2_with fail;refine HL.out.mono ?_;rintro e w' ⟨rfl,rfl⟩;have hd:decide ((ll:Int)≥4)=false:=decide_eq_false (by have:=HL4.out;have:=HNN.out;omega);have hd':decide ((4:Int)≤(ll:Int))=false:=decide_eq_false (by have:=HL4.out;have:=HNN.out;omega);go_wp2_with fail;refine HL.out.mono ?_;rintro e w' ⟨rfl,rfl⟩
    by_cases hre:ll=0
    ·have hg0:decide ((ll:Int)>0)=false:=decide_eq_false (by omega);have hg1:decide (0<ll)=false:=decide_eq_false (by omega);have hg2:decide ((0:Int)<(ll:Int))=false:=decide_eq_false (by omega);have HX:=Hd (HXB.out HE3.out (by have:=HRE.out;rw[←HLN.out];omega));clear hre;go_wp2_with (refine Iz rfl ?_;refine Ai rfl 50 (.tmp 4) rfl q rfl 50 #[.slice a1 v1.length c1,.slice a2 v2.length c2,.slice al late.length cl] (0,0) _ HPK.out Tryz.underlying50 rfl (by kernel_rfl) ?_);refine(HRG.out a1 a2 al v1.length v2.length c1 c2 cl late wr HOL.out.rd).mono ?_;rintro e w10 ⟨rfl,hb⟩;have HP10:=Hd (HPK.out.below hb HPK.out.lt);have G10:=Hd (GX.out.below hb GX.out.lt);have R10:=Hd (RX.out.below hb);have O10:=Hd (Pm OX.out hb);have A10:=Hd (AX.out.below hb);have K10:=Hd (HOL.out.below hb lR);clear hb;obtain⟨RB,hRB⟩:=eX (rpB v1.length v2.length late);rw[←hRB];have HX2:=Hd (HX.out RB hRB.symm);clear hRB;cases RB with
     |false=>
      go_wp2_with (refine Aa rfl 50 (.tmp 2) (.tmp 42) rfl g #[.slice none 0 0,.slice none 0 0,.slice none 0 0] rfl rfl 50 #[.slice none 0 0,.slice none 0 0,.slice none 0 0] G10.out (by kernel_rfl) rfl rfl ?_);rintro w19 hblk hbl hoth hsize;have P19:=Hd hblk;have O19:=Hd (Bq O10.out (hbl w.heap.size (by rw[HG.out];exact lR)));have R19:=Hd (R10.out.low (hbl g lR) HB.out);clear hblk hbl hoth hsize;go_wp2_with fail;refine bodyPost_ret (v:=.tuple #[.agg #[.slice none 0 0,.slice none 0 0,.slice none 0 0],.int .u8 3]) (Af Tryz.results219 _ _ g _ _ _ rfl P19.out Tryz.underlying50 rfl (by kernel_rfl)) rfl ?_;exact HS.out _ _ rfl HX2.out ⟨_,_,_,rfl,Own.nil _ _ _,Own.nil _ _ _,Own.nil _ _ _⟩ R19.out O19.out
     |true=>
      go_wp2_with (first
       |(refine Ai rfl 50 (.tmp 4) rfl q rfl 50 #[.slice a1 v1.length c1,.slice a2 v2.length c2,.slice al late.length cl] (0,0) _ HP10.out Tryz.underlying50 rfl (by kernel_rfl) ?_)
       |(refine Aa rfl 50 (.tmp 2) (.tmp 43) rfl g #[.slice a1 v1.length c1,.slice a2 v2.length c2,.slice al late.length cl] rfl rfl 50 #[.slice none 0 0,.slice none 0 0,.slice none 0 0] G10.out (by kernel_rfl) rfl rfl ?_))
      rintro w11 hblk hbl hoth hsize;have HP11:=Hd hblk;have R11:=Hd (R10.out.low (hbl g lR) HB.out);have O11:=Hd (Bq O10.out (hbl w.heap.size (by rw[HG.out];exact lR)));have A11:=Hd ((A10.out.other G10.out (by decide) (fun i _ hi=>hoth i hi)).mono (fN g));have K11:=Hd ((K10.out.other G10.out (by decide) (fun i _ hi=>hoth i hi)).mono (B':=g) (by have:=HQ1.out;have:=HQR.out;omega));clear hblk hbl hoth hsize;go_wp2_with fail;refine bodyPost_ret (v:=.tuple #[.agg #[.slice a1 v1.length c1,.slice a2 v2.length c2,.slice al late.length cl],.int .u8 0]) (Af Tryz.results219 _ _ g _ _ _ rfl HP11.out Tryz.underlying50 rfl (by kernel_rfl)) rfl ?_;refine HS.out _ _ rfl HX2.out ?_ R11.out O11.out;rw[←HG.out];exact⟨_,_,_,rfl,A11.out.nth 1 rfl,A11.out.nth 0 rfl,K11.out⟩
    ·have hg0:decide ((ll:Int)>0)=true:=decide_eq_true (by omega);have hg1:decide (0<ll)=true:=decide_eq_true (by omega);have hg2:decide ((0:Int)<(ll:Int))=true:=decide_eq_true (by omega);have HX:=Hd (HXR.out HE3.out (by have:=HRE.out;rw[←HLN.out];omega));clear hre;go_wp2_with (refine Aa rfl 50 (.tmp 2) (.tmp 42) rfl g #[.slice none 0 0,.slice none 0 0,.slice none 0 0] rfl rfl 50 #[.slice none 0 0,.slice none 0 0,.slice none 0 0] GX.out (by kernel_rfl) rfl rfl ?_);rintro w19 hblk hbl hoth hsize;have P19:=Hd hblk;have O19:=Hd (Bq OX.out (hbl w.heap.size (by rw[HG.out];exact lR)));have R19:=Hd (RX.out.low (hbl g lR) HB.out);clear hblk hbl hoth hsize;go_wp2_with fail;refine bodyPost_ret (v:=.tuple #[.agg #[.slice none 0 0,.slice none 0 0,.slice none 0 0],.int .u8 3]) (Af Tryz.results219 _ _ g _ _ _ rfl P19.out Tryz.underlying50 rfl (by kernel_rfl)) rfl ?_;exact HS.out _ _ rfl HX.out ⟨_,_,_,rfl,Own.nil _ _ _,Own.nil _ _ _,Own.nil _ _ _⟩ R19.out O19.out
 ·have HX32:=Hd (HX3.out h3);have h3b:((e3:Int) !=0)=true:=(by rw[bne_iff_ne];omega);clear h3;go_wp2_with (refine Aa rfl 50 (.tmp 2) (.tmp 19) rfl g #[.slice none 0 0,.slice none 0 0,.slice none 0 0] rfl rfl 50 #[.slice none 0 0,.slice none 0 0,.slice none 0 0] G4.out (by kernel_rfl) rfl rfl ?_);rintro w19 hblk hbl hoth hsize;have P19:=Hd hblk;have O19:=Hd (Bq O4.out (hbl w.heap.size (by rw[HG.out];exact lR)));have R19:=Hd (R4.out.low (hbl g lR) HB.out);clear hblk hbl hoth hsize;go_wp2_with fail;refine bodyPost_ret (v:=.tuple #[.agg #[.slice none 0 0,.slice none 0 0,.slice none 0 0],.int .u8 (e3:Nat)]) (Af Tryz.results219 _ _ g _ _ _ rfl P19.out Tryz.underlying50 rfl (by kernel_rfl)) rfl ?_;exact HS.out _ _ rfl HX32.out ⟨_,_,_,rfl,Own.nil _ _ _,Own.nil _ _ _,Own.nil _ _ _⟩ R19.out O19.out
theorem Zdo (B:Nat)(L:List Nat)(w:World)(h:RS w B L 0)(hl:L.length<1000000000)(hL:∀n∈L,n<256):
  Calls Tryz.prog 219 #[.pointer (some ⟨B,0,none⟩)] w (Zgn B w (Ee L 0)):=by
 have p1:=Bb L 0;have p2:=Bb (Bf L 0).2.1 (Bf L 0).2.2;have hv:∀(M:List Nat) (er:Nat),Sub M L→∀W,RS W B M er→Calls Tryz.prog 254 #[.pointer (some ⟨B,0,none⟩)] W (Lk B W (Bf M er)):=fun M er hM W hW=>Zbx B M er W hW (by have:=hM.1;omega) fun n hn=>hL n (hM.2 n hn);unfold Ee;simp only;have C1:=hv L 0 (Sub.refl _);have C2:=hv _ (Bf L 0).2.2 p1.2.1;generalize Bf L 0=r1 at p1 p2 C1 C2⊢;have s2:=p2.2.1.trans p1.2.1;have C3:=hv _ (Bf r1.2.1 r1.2.2).2.2 s2;generalize Bf r1.2.1 r1.2.2=r2 at p2 C2 C3 s2⊢;have p3:=Bb r2.2.1 r2.2.2;generalize Bf r2.2.1 r2.2.2=r3 at p3 C3⊢;have s3:=p3.1.trans s2;refine Zad r1.1 r2.1 r3.1 L r1.2.1 r2.2.1 r3.2.1 r1.2.2 r2.2.2 r3.2.2 B (Zde r3.1.length r3.1) _ w h C1 C2 C3 (fun n hn=>hL n (s3.2 n hn)) (by have:=s3.1;omega) (Vs _ _ (by omega)) (fun e=> ?_) (fun e1 e2=> ?_) (fun e1 e2 b hb=> ?_)
 ·rw[if_pos e]
 ·rw[if_neg (by omega),if_neg (fun hc=>e2 hc.1)]
 ·rw[if_neg (by omega)]
  by_cases hb2:b=true
  ·rw[if_pos ⟨e2,hb.trans hb2⟩,if_pos hb2]
  ·rw[if_neg (fun hc=>hb2 (hb.symm.trans hc.2)),if_neg hb2]
end Go.Proofs.YtfofaiommeckbaaGreat
