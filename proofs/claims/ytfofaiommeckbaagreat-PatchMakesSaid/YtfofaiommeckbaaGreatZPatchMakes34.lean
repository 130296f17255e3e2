/- Walks: the reference's Digest. -/
import Derived.Test.YtfofaiommeckbaaGreatZPatchMakesB
import Derived.Test.YtfofaiommeckbaaGreatZPatchMakes32
import Derived.Test.YtfofaiommeckbaaGreatZPatchMakes33
open Bool renaming and_eq_true → cC, or_false → cW, or_true → cX
open Nat renaming pow_succ → aN, lt_of_lt_of_le → dP, le_trans → fU, succ_le_of_lt → gH, lt_succ_self → cZ, lt_succ_of_lt → gI, le_of_lt → fT
open List renaming getD_eq_getElem?_getD → aH, range → aF, flatMap_def → fM, map_congr_left → fN, getElem?_eq_getElem → aI, getElem_mem → aJ, replicate → bW, getElem?_toArray → bN, getElem?_cons_zero → bO, getElem?_cons_succ → bP, filterMap_cons → cS, filterMap_nil → cT, contains_cons → cU, contains_nil → cV, all_eq_true → bU
set_option linter.unusedVariables false
set_option maxRecDepth 100000
set_option maxHeartbeats 40000000
namespace Go.Proofs.YtfofaiommeckbaaGreat
open Go.RowKit ShaM WireM
theorem Ny (v:Value)(L:List Nat)(w:World)(h:Rd w v (bvs L))(hL:∀x∈L,x<256)(hl:L.length≤1000000):
  Calls Tryz.prog 85 #[v] w fun e w'=>∃v',e=.returned v'∧Own w' w.heap.size 5 v' (bvs (shaF L))∧Below w.heap.size w w':=by
 have TB:=Hd (Yf w);have RS:=Hd (fun(W:World) (hw:Below w.heap.size w W) (vh vk:Value) (hh:Rd W vh (qvs HL0)) (hk:Rd W vk (qvs KL))=>Zdg v vh vk L W (h.below hw lR) hh hk hL hl);clear h hL hl;go_enter Tryz.func85,Tryz.ntmps85;go_wp2_with fail;refine(TB.out).mono ?_;rintro e w1 ⟨v1,v2,rfl,h1,h2,hb⟩;have C:=Hd (RS.out w1 hb v1 v2 h1 h2);have HB:=Hd hb;clear h1 h2 hb;go_wp2_with fail;refine(C.out).mono ?_;rintro e w2 ⟨v3,rfl,hown,hb2⟩;have HO:=Hd hown;have HB2:=Hd (HB.out.trans (hb2.mono HB.out.size));clear hown hb2;go_wp2_with fail;go_ret;exact⟨_,rfl,HO.out.mono HB.out.size,HB2.out⟩
open WalkM
theorem Wa (t:List NodeD)(ps:List Int)(hs:Ez t=true)(hok:TreeOk t)(k:Nat)(hT:Vb t ps k):Zl t ps k:=by
 intro x v vp w h hpr hlev hx;have C:=Hd (hT x v vp w h hpr hlev hx);have hl:=Zk (Ly hs ps) k x;have hlt:=Zt (woD t ps) (Zgb hok ps) (Ly hs ps) k x;have HE:=Hd (Gf (woD t ps) k x);obtain⟨TX,hTX⟩:=eX (Hz (woD t ps) k x);rw[←hTX]at C hl hlt HE;rw[HE.out];have HL:=Hd (show TX.length≤1000000 by omega);have HLT:=Hd hlt;obtain⟨a1,a2,a3,rfl⟩:∃a b c,v=.slice a b c:=(by obtain⟨a,c,e,_⟩:=h.sl;exact⟨_,_,_,e⟩);clear hl hlt hTX h hpr hlev hx hT;go_enter Tryz.func76,Tryz.ntmps76;go_wp2_with fail;refine(C.out).mono ?_;rintro e w1 ⟨v1,rfl,hown,hb⟩;have HR:=Hd hown.rd;have HB:=Hd hb;clear hown hb;go_wp2_with fail;refine(Ny _ TX w1 HR.out HLT.out HL.out).mono ?_;rintro e w2 ⟨v2,rfl,hown,hb⟩;have HO:=Hd (hown.mono HB.out.size);have HB2:=Hd (HB.out.trans (hb.mono HB.out.size));clear hown hb;go_wp2_with fail;go_ret;exact⟨_,rfl,HO.out,HB2.out⟩
theorem Zbb (t:List NodeD)(ps:List Int)(hs:Ez t=true)(hok:TreeOk t)(hp:Gc t=true):∀k,Vb t ps k∧Zl t ps k:=by
 intro k
 induction k with
 |zero=>have h:=Xa t ps hs hok hp;exact⟨h,Wa t ps hs hok 0 h⟩
 |succ k ih=>have h:=Xb t ps hs hok hp k ih.2;exact⟨h,Wa t ps hs hok (k+1) h⟩
theorem Zfo (t:List NodeD):woD t []=nd t:=funext fun x=>Zew t x
theorem Xn (t:List NodeD)(hs:Ez t=true)(hok:TreeOk t)(hr:Lx t=true)(x:Nat)(hx:x<t.length)(v vp:Value)(ps:List Int)(w:World)(h:TreeR w v t)(hp:Rd w vp (ivs .i64 ps)):
  Calls Tryz.prog 76 #[v,.int .i64 (x:Nat),vp] w fun e w'=>∃v',e=.returned v'∧Own w' w.heap.size 5 v' (bvs (Mz (woD t ps) x))∧Below w.heap.size w w':=by
 obtain⟨hln,hpl⟩:Gb t.length≠0∧Gc t=true:=by
  rw[Lx,cC,cC]at hr;exact⟨of_decide_eq_true hr.1,hr.2.1⟩
 obtain⟨d,hd,hN,hl⟩:=Lo hln;have hlen:=Fn hs;have e:2^(d+1)=2*2^d:=(by rw[aN];omega);exact(Zbb t ps hs hok hpl (lev x)).2 x v vp w h hp (lev_is (by omega)) (by have:=Oz (x:=x) (d:=d) (by omega) hd;omega)
end Go.Proofs.YtfofaiommeckbaaGreat
namespace Go.Proofs.YtfofaiommeckbaaGreat
open Go.RowKit WalkM WireM ShaM
theorem Zbc {t:List NodeD}(hr:Lx t=true) {x:Nat}(hx:x<t.length):∀u∈(nd t x).par.late,∃m:Nat,u=(m:Int)∧2*m<t.length:=by
 rw[Lx,cC,cC,cC]at hr;obtain⟨h1,hp,_,hl⟩:=hr;obtain⟨d,hd,hN,hlen⟩:=Lo (of_decide_eq_true h1);intro u hu;obtain⟨h2,m,rfl,hm⟩:=Te hp hx hu;have hL:=Wy (Wz hl x hx) _ hu;refine⟨m,rfl,?_⟩;have:=hL.1;rw[hN]at this;omega
theorem Zfp {t:List NodeD}(hs:Ez t=true)(hok:TreeOk t)(hr:Lx t=true):It (Er t):=by
 have hlen:=Fn hs;intro p hp;unfold Er at hp;obtain⟨i,hi,rfl⟩:=List.mem_map.1 hp;have hi:=List.mem_range.1 hi;refine⟨(hok.nd i).kind,?_,fun u hu=> ?_⟩
 ·have:=Ln hs i;unfold Cc at this;have:=of_decide_eq_true this;show(nd t i).par.late.length≤1000;omega
 ·obtain⟨m,rfl,h1⟩:=Zbc hr hi u hu;omega
theorem Zbd {w:World} {v:Value} {OL:List Nat}(h:Rd w v (ivs .i64 (OL.map fun m:Nat=>(m:Int)))):∃a c,v=.slice a OL.length c∧∀r,r<OL.length→∃b o,a=some ⟨b,o,none⟩∧b<w.heap.size∧w.cell? ⟨b,o+r,none⟩=some (.int .i64 ((OL.getD r 0:Nat):Int)):=by
 obtain⟨a,n,c,rfl⟩:∃a n c,v=.slice a n c:=(by obtain⟨a,c,e,-⟩:=h;exact⟨_,_,_,e⟩);obtain rfl:n=OL.length:=by
  obtain⟨a',c',e,-⟩:=h;cases e;simp[ivs]
 refine⟨a,c,rfl,fun r hr=>h.at3 ?_⟩;rw[Bq (by simpa using hr)]
 congr 3
 simp[aH,hr]
theorem Zbe {w W:World} {B N:Nat} {V:Value} {t:List NodeD} {OL:List Nat} {C:Nat→Array Value} (hC:∀m,m<N→NodeC w (nd t m) (C m)) (hb:Below w.heap.size w W) (hO:∀k,k<OL.length→OL.getD k 0<N)
  (ho:OwnK W B 87 11 V OL.length ((aF OL.length).flatMap fun k=> .int .i64 ((OL.getD k 0:Nat):Int)::(C (OL.getD k 0)).toList)):SpotsR W V (OL.map fun m:Nat=>((m:Int),nd t m)):=by
 have hl:(OL.map fun m:Nat=>((m:Int),nd t m)).length=OL.length:=(by simp);have hat:∀i,i<OL.length→spt (OL.map fun m:Nat=>((m:Int),nd t m)) i=(((OL.getD i 0:Nat):Int),nd t (OL.getD i 0)):=fun i hi=>(by simp[spt,aH,hi]);refine Pq (B:=B) (C:=fun i=>if i<OL.length then C (OL.getD i 0)else#[.int .u8 0,.slice none 0 0,.slice none 0 0,.slice none 0 0,.int .u8 0,.slice none 0 0,.slice none 0 0,.slice none 0 0,.slice none 0 0,.slice none 0 0]) (fun i=> ?_) (fun i hi=> ?_) ?_
 ·split
  ·rename_i hi;exact(hC _ (hO i hi)).size
  ·rfl
 ·rw[hl]at hi;rw[hat i hi,if_pos hi];exact(hC _ (hO i hi)).below hb lR
 ·rw[hl];have e:(aF OL.length).flatMap (Dn (OL.map fun m:Nat=>((m:Int),nd t m)) fun i=>if i<OL.length then C (OL.getD i 0)else#[.int .u8 0,.slice none 0 0,.slice none 0 0,.slice none 0 0,.int .u8 0,.slice none 0 0,.slice none 0 0,.slice none 0 0,.slice none 0 0,.slice none 0 0])=(aF OL.length).flatMap fun k=> .int .i64 ((OL.getD k 0:Nat):Int)::(C (OL.getD k 0)).toList:=by
   rw[fM,fM]
   congr 1
   refine fN fun i hi=> ?_;have hi:=List.mem_range.1 hi;rw[Dn,hat i hi,if_pos hi]
  rw[e];exact ho
theorem Zbf {W:World} {B:Nat} {V:Value} {t:List NodeD} {SL:List Nat} {U:Nat→Value} (hU:∀j,j<SL.length→Own W B 5 (U j) (bvs (Mz (nd t) (SL.getD j 0))))
  (ho:OwnK W B 89 2 V SL.length ((aF SL.length).flatMap fun j=>[.int .i64 ((SL.getD j 0:Nat):Int),U j])):StubsR W V (SL.map fun m:Nat=>((m:Int),Mz (nd t) m)):=by
 have hl:(SL.map fun m:Nat=>((m:Int),Mz (nd t) m)).length=SL.length:=(by simp);have hat:∀i,i<SL.length→stb (SL.map fun m:Nat=>((m:Int),Mz (nd t) m)) i=(((SL.getD i 0:Nat):Int),Mz (nd t) (SL.getD i 0)):=fun i hi=>(by simp[stb,aH,hi]);refine Vq (B:=B) (U:=U) (fun i hi=> ?_) ?_
 ·rw[hl]at hi;rw[hat i hi];exact(hU i hi).rd
 ·rw[hl];have e:(aF SL.length).flatMap (Gv (SL.map fun m:Nat=>((m:Int),Mz (nd t) m)) U)=(aF SL.length).flatMap fun j=>[.int .i64 ((SL.getD j 0:Nat):Int),U j]:=by
   rw[fM,fM]
   congr 1
   refine fN fun i hi=> ?_;have hi:=List.mem_range.1 hi;rw[Gv,hat i hi]
  rw[e];exact ho
def Zg1 (t:List NodeD)(M i:Nat)(OL SL:List Nat):SparseD:=⟨(M:Int),(i:Int),OL.map fun m:Nat=>((m:Int),nd t m),SL.map fun m:Nat=>((m:Int),Mz (nd t) m)⟩
theorem Zdh (t:List NodeD) (hs:Ez t=true) (hok:TreeOk t) (hr:Lx t=true) (d i:Nat) (only:Bool) (OL SL:List Nat) (hd:d≤16) (hlen:t.length+1=2*2^d) (hi:2*i+1<2^(d+1))
  (eO:Du (Ac (Ah (Er t)) d i only d)=OL.map fun m:Nat=>(m:Int)) (eS:Du (Cv (Ac (Ah (Er t)) d i only d))=SL.map fun m:Nat=>(m:Int))
  (hO:∀m∈OL,m<t.length) (hS:∀m∈SL,m<t.length) (hnO:OL.length≤100000) (hnS:SL.length≤100000) (v:Value) (w:World) (h:TreeR w v t):
  Calls Tryz.prog 35 #[v,.int .i64 (i:Nat),.bool only] w fun e w'=>∃v',e=.returned v'∧SparseR w' v' (Zg1 t (2^d) i OL SL)∧Below w.heap.size w w':=by
 have h40:=Fn hs;have HK:=Zfp hs hok hr;have hp:=Nat.two_pow_pos d;obtain⟨a,cp,rfl,hc,hc2⟩:=h.sl;obtain⟨b,off,-,rfl,hbl,-,-⟩:=h.node (i:=0) (by omega);obtain⟨C,hC⟩:=Ci (n:=t.length) (P:=fun i c=>NodeC w (nd t i) c∧w.rangeAt b (off+i*10) c.toList) fun i hi=>by
  obtain⟨b',off',c,h1,h2,h3,h4⟩:=h.node hi;cases h1;exact⟨c,h3,h4⟩
 have HSP:=Hd fun(W:World) (hw:Below w.heap.size w W)=>Tr _ t W (h.below hw lR) (by omega);have HOP:=Hd fun(W:World) (vs:Value) (hs:SpotsR W vs (Er t))=>Mf (Er t) d i only vs W hd hi hs HK;have HRH:=Hd fun(W:World) (hw:Below w.heap.size w W) (x:Nat) (hx:x<t.length)=>Xn t hs hok hr x hx _ (.slice none 0 0) [] W (h.below hw lR) (Sr W);rw[Zfo]at HRH;rw[eO,eS]at HOP;obtain⟨OK,hOK⟩:=eX (Bm (Ah (Er t)) d i only d);rw[←hOK]at HOP;have hi40:i<41:=by
  have:2^(d+1)=2*2^d:=(by rw[aN];omega);omega
 obtain⟨M,hM⟩:=eX (2^d);rw[←hM]at HOP hlen⊢;obtain⟨N,hN⟩:=eX t.length;rw[←hN]at h40 hO hS hlen hC HRH HSP h hc⊢;have hdiv:Int.tdiv ((N:Int)+1) 2=(M:Int):=(by rw[Int.tdiv_eq_ediv_of_nonneg (by omega)];omega);have gw1:IntKind.i64.wrap (M:Int)=(M:Int):=(by rw[IntKind.wrap_i64]<;>omega);have gw0:IntKind.i64.wrap ((N:Int)+1)=(N:Int)+1:=(by rw[IntKind.wrap_i64]<;>omega);have HC:=Hd hC;have HO:=Hd hO;have HS:=Hd hS;clear hC hO hS HK eO eS hOK hN hM hok hr hs h hi;go_enter Tryz.func35,Tryz.ntmps35;go_wp2_with fail;refine(HSP.out _ ((Below.refl w.heap.size w).alloc lR _)).mono ?_;rintro e w1 ⟨v1,rfl,hsp,hb1⟩;have hba:=(Below.refl w.heap.size w).alloc lR (.cells #[.int .i64 0,.int .i64 0,.slice none 0 0,.slice none 0 0] 25);have hr0:=Blk.new w 25 #[.int .i64 0,.int .i64 0,.slice none 0 0,.slice none 0 0];have hr1:=hr0.below hb1 hr0.lt;have HB1:=Hd (hba.trans (hb1.mono hba.size));have HRB1:=Hd hr1;clear hb1 hba hr0 hr1;go_wp2_with fail;refine(HOP.out _ _ hsp).mono ?_;rintro e w3 ⟨VO,VS,rfl,hvo,hvs,hb3⟩;have HRB:=Hd (HRB1.out.below hb3 HRB1.out.lt);have HB3:=Hd (HB1.out.trans (hb3.mono HB1.out.size));clear hb3 hsp HRB1;obtain⟨a1,c1,rfl,hoc⟩:=Zbd hvo.rd;obtain⟨a2,c2,rfl,hsc⟩:=Zbd hvs.rd;obtain⟨fc,hf⟩:∃fc:Nat→List Value,fc=fun k=> .int .i64 ((OL.getD k 0:Nat):Int)::(C (OL.getD k 0)).toList:=⟨_,rfl⟩;have HF:=Hd (show∀k,fc k=.int .i64 ((OL.getD k 0:Nat):Int)::(C (OL.getD k 0)).toList from fun k=>by rw[hf]);have HMO:=Hd (show∀k,k<OL.length→OL.getD k 0<N from fun k hk=>HO.out _ (by rw[aH,aI hk];exact aJ hk));have HMS:=Hd (show∀k,k<SL.length→SL.getD k 0<N from fun k hk=>HS.out _ (by rw[aH,aI hk];exact aJ hk));obtain⟨no,hno⟩:=eX OL.length;obtain⟨ns,hns⟩:=eX SL.length;rw[←hno]at hoc HMO hnO⊢;rw[←hns]at hsc HMS hnS⊢;have HNO:=Hd hno;have HNS:=Hd hns;have HOC:=Hd hoc;have HSC:=Hd hsc;clear hvo hvs hoc hsc hno hns hf HO HS;go_wp2_with fail;obtain⟨q,hq⟩:=eX w3.heap.size;have HBK4:=Hd (show Blk (w3.alloc (.cells #[.int .i64 (M:Nat),.int .i64 (i:Nat),.slice none 0 0,.slice none 0 0] 25)) q 25 #[.int .i64 (M:Nat),.int .i64 (i:Nat),.slice none 0 0,.slice none 0 0]from hq▸Blk.new _ _ _);have HB4:=Hd (show Below q w3 (w3.alloc (.cells #[.int .i64 (M:Nat),.int .i64 (i:Nat),.slice none 0 0,.slice none 0 0] 25))from hq▸bR.alloc lR _);rw[←hq];have HQ:=Hd hq;clear hq;obtain⟨w4,hw4⟩:=eX (w3.alloc (.cells #[.int .i64 (M:Nat),.int .i64 (i:Nat),.slice none 0 0,.slice none 0 0] 25));rw[←hw4]at HBK4 HB4⊢;clear hw4
 go_loopg [12] no (fun gk iv wr=>∃(r:Nat) (V:Value),r+gk=no∧iv=.int .i64 (r:Nat)∧Blk wr q 25 #[.int .i64 (M:Nat),.int .i64 (i:Nat),V,.slice none 0 0]∧OwnK wr (q+1) 87 11 V r ((aF r).flatMap fc)∧Below q w3 wr)
 case atStart=>exact⟨0,_,by omega,rfl,HBK4.out,OwnK.nil _ _ _ _,HB4.out⟩
 case round=>
  obtain⟨r,V,hr,rfl,hblk,hown,hb⟩:=hrel;have HR:=Hd hr;have HBK:=Hd hblk;have HOK:=Hd hown;have HB:=Hd hb;clear hr hblk hown hb
  by_cases hlt:r<no
  ·have hlt':decide (r<no)=true:=decide_eq_true hlt;have hltI:(r:Int)<(no:Int):=(by omega);obtain⟨b1,o1,rfl,hb1l,cx0⟩:=HOC.out r hlt;have cx:=(HB.out.cell (p:=⟨b1,o1+r,none⟩) (by rw[HQ.out];exact hb1l)).trans cx0;have HB1L:=Hd (show b1<q from by rw[HQ.out];exact hb1l);have hm:=HMO.out r hlt;have HFR:=Hd (HF.out r);obtain⟨m,hmm⟩:=eX (OL.getD r 0);rw[←hmm]at cx hm HFR;obtain⟨hnc,hra⟩:=HC.out m hm;have HBL:=Hd (show b<q from by rw[HQ.out];exact dP hbl HB3.out.size);have HRA:=Hd (Af (Af hra HB3.out hbl) HB.out HBL.out);have HONE:=Hd hnc.oneL;obtain⟨x0,x1,x2,x3,x4,x5,x6,x7,x8,x9,hcr⟩:=hnc.ten;rw[hcr]at HRA HONE HFR;have HVL:=Hd (show∀g,V.ownBlock=some g→g<wr.heap.size from fun g hg=>(HOK.out.lt hg).1);have HNB:=Hd (show r≤100000 from by omega);have hmI:(m:Int)<(N:Int):=(by omega);clear cx0 hnc hra hcr hmm hb1l;go_wp2_with fail;refine Ay [eF (.pointer (some ⟨q,2,none⟩)),eF V,eF (.slice (some ⟨b1,o1,none⟩) no c1),eF (.int .i64 (r:Nat)),eF (.pointer (some ⟨b1,o1+r,none⟩)),eF (.int .i64 (m:Nat)),eF (.slice (some ⟨b,off,none⟩) N cp),eF (.slice (some ⟨b1,o1,none⟩) no c1),eF (.int .i64 (r:Nat)),eF (.pointer (some ⟨b1,o1+r,none⟩)),eF (.int .i64 (m:Nat)),eF (.pointer (some ⟨b,off+m*10,none⟩)),eF (.agg #[x0,x1,x2,x3,x4,x5,x6,x7,x8,x9]),eF (.agg #[.int .i64 (m:Nat),x0,x1,x2,x3,x4,x5,x6,x7,x8,x9]),fun v w'=>∃g,v=.slice (some ⟨g,0,none⟩) 1 1∧wr.heap.size≤g∧Blk w' g 87 #[.int .i64 (m:Nat),x0,x1,x2,x3,x4,x5,x6,x7,x8,x9],fun v w'=>OwnK w' (q+1) 87 11 v (r+1) ((aF (r+1)).flatMap fc),eF (.pointer (some ⟨q,2,none⟩)),fun v w'=>∃V2,Blk w' q 25 #[.int .i64 (M:Nat),.int .i64 (i:Nat),V2,.slice none 0 0]∧OwnK w' (q+1) 87 11 V2 (r+1) ((aF (r+1)).flatMap fc)∧CutS wr V q w']
    ((bW 18 false).set 17 true) (fun X=>ButO wr V (q+1) X) (fun X Y=>StepO V (q+1) X Y) (some 15) 17 (by kernel_rfl) ?_ (ButO.start wr V (q+1)) (fun X Y hx h=>StepO.of h (fU (gH HBK.out.lt) hx.low.size)) (fun X Y hx hs=>hx.step hs) (by kernel_rfl) (by kernel_rfl) (by kernel_rfl) ?_ ?_
   ·exact kE (kE (kE (kE (kE (kE (kE (kE (kE (kE (kE (kE (kE (kE (Cn (fun v x y h hi hs=>let⟨g,e,hg,k⟩:=h;⟨g,e,hg,(hs.2 g k.lt (fun ee=>absurd (HVL.out g ee) (by omega))).trans k⟩) (Dk (fun v x y h hi hs=>OwnK.below h hs lR) (kE (Ag (fun _ _ _ _ _ _=>trivial) (Ai))))))))))))))))))
   ·refine gP8 ?_ rfl (Yl (by kernel_rfl) ?_ rfl (gP8 ?_ rfl (gP8 ?_ rfl (gP8 ?_ rfl (gO8 ?_ (gP8 ?_ rfl (gP8 ?_ rfl (gP8 ?_ rfl (gP8 ?_ rfl (gO8 ?_ (gP8 ?_ rfl (gO8 ?_ (gP8 ?_ rfl (Nf (by kernel_rfl) ?_ (Nf (by kernel_rfl) ?_ (gP8 ?_ rfl (gO8 ?_ .nil)))))))))))))))));all_goals
     intro a wx hbx hbq ho hf;have hbx:ButO wr V (q+1) wx:=hbx;refine⟨rfl,?_⟩;intro K hK;try have Pf0:a.tmps[0]?.getD undef=.slice (some ⟨b,off,none⟩) N cp:=ho 0 (by kernel_rfl)
     try have Pf8:a.tmps[8]?.getD undef=.slice (some ⟨b1,o1,none⟩) no c1:=ho 8 (by kernel_rfl)
     try have Pf11:a.tmps[11]?.getD undef=.pointer (some ⟨q,0,none⟩):=ho 11 (by kernel_rfl)
     try have Pf12:a.tmps[12]?.getD undef=.int .i64 (r:Nat):=ho 12 (by kernel_rfl)
     try have Ef0:=eqn hf.1
     try have Ef1:=eqn hf.2.1
     try(have Ce0:=(hbx.low.cell (p:=⟨q,2,none⟩) (cZ q)).trans (HBK.out.cell 2);simp only[bN,bO,bP]at Ce0)
     try(refine Hd ?_;go_simp;exact hK _ rfl)
    ·have d1:=(hbx.low.cell (p:=⟨b1,o1+r,none⟩) (gI HB1L.out)).trans cx;go_simp;exact hK _ _ rfl (fun _=>Ae rfl bR)
    ·have d1:=(hbx.low.cell (p:=⟨b1,o1+r,none⟩) (gI HB1L.out)).trans cx;go_simp;exact hK _ _ rfl (fun _=>Ae rfl bR)
    ·exact wp_load_mid 52 (.tmp 48) rfl b (off+m*10) (evs Ef0) _ _ (Af HRA.out hbx.low (by have:=HBL.out;omega)) Tryz.underlying52 rfl (Ba) (hK _ _ rfl (fun _=>Ae rfl bR))
    ·go_simp;exact hK _ _ ⟨_,rfl,hbx.low.size,Blk.new _ _ _⟩ (fun _=>Ae rfl (bR.alloc lR _))
    ·have o1:∃g,(a.tmps[51]?.getD undef)=.slice (some ⟨g,0,none⟩) 1 1∧wr.heap.size≤g∧Blk wx g 87 #[.int .i64 (m:Nat),x0,x1,x2,x3,x4,x5,x6,x7,x8,x9]:=hf.2.1;obtain⟨v1,hv1⟩:=eX (a.tmps[51]?.getD undef);rw[←hv1]at o1;have e1:=hv1.symm;clear hv1;obtain⟨g,hv,hg,hblk⟩:=o1;have hok2:=HOK.out.below hbq lR;refine Iw (.tmp 38) (.tmp 51) 22 rfl (q+1) 87 _ 11 216 Vr V r _ (evs Ef0) hok2 g [.int .i64 (m:Nat),x0,x1,x2,x3,x4,x5,x6,x7,x8,x9] (evs (e1.trans hv)) rfl (fun j u hu=>by have:=hblk.range 0 j u hu;simpa using this) (by rw[List.all_eq_true.symm];exact HONE.out) (by have:=HNB.out;omega) (by have:=hbx.low.size;have:=HBK.out.lt;omega) ?_;intro v' w' h2 h3;refine hK _ _ ?_ (fun _=>Cp rfl h3);rw[Iv,HFR.out];exact h2
    ·have o1:OwnK wx (q+1) 87 11 (a.tmps[52]?.getD undef) (r+1) ((aF (r+1)).flatMap fc):=hf.2.1;obtain⟨v1,hv1⟩:=eX (a.tmps[52]?.getD undef);rw[←hv1]at o1;have e1:=hv1.symm;clear hv1;have hblk:=HBK.out.below hbx.low (cZ q);have d1:wx.cell? ⟨q,2,none⟩=some V:=hblk.cell 2;have d2:=hblk.frozen 2;obtain⟨ga,gc,rfl⟩:=OwnK.sl o1;have hql:q≤wx.heap.size:=fT hblk.lt;have hs2:=hblk.set 2 (.slice ga (r+1) gc);have ho2:=OwnK.onlyQ o1 (Only.set (a:=wx) (B:=q) 2 (.slice ga (r+1) gc)) (cZ q);have hc2:=hbx.put hql 2 (.slice ga (r+1) gc);go_simp;exact hK undef _ ⟨_,hs2,ho2,hc2⟩ (fun h=>absurd rfl h)
   ·rintro f w9 hfin;have S53:∃V2,Blk w9 q 25 #[.int .i64 (M:Nat),.int .i64 (i:Nat),V2,.slice none 0 0]∧OwnK w9 (q+1) 87 11 V2 (r+1) ((aF (r+1)).flatMap fc)∧CutS wr V q w9:=hfin.2.2.2.2.2.2.2.2.2.2.2.2.2.2.2.2.2.1;clear hfin;simp only[Al,Au,En,cS,cT,cU,cV,Nat.reduceBEq,Nat.reduceAdd,cW,cX,cond_true,cond_false];obtain⟨V2,hb2,ho2,hc2⟩:=S53;have HBK2:=Hd hb2;have HOK2:=Hd ho2;have HB2:=Hd (HB.out.trans hc2.low);clear hb2 ho2 hc2;go_wp2_with fail;go_roundg (gk-1);case measure=>have:=HR.out;omega
    case rel=>exact⟨r+1,_,by have:=HR.out;omega,by go_num,HBK2.out,HOK2.out,HB2.out⟩
  ·obtain rfl:no=r:=(by have:=HR.out;omega);have hlt':decide (no<no)=false:=decide_eq_false hlt;clear hlt;obtain⟨w5,hw5⟩:=eX wr;rw[←hw5]at HBK HOK HB⊢;clear hw5;go_wp2_with fail
   go_loopg [13] ns (fun gk iv wr=>∃(r:Nat) (SV:Value) (U:Nat→Value),r+gk=ns∧iv=.int .i64 (r:Nat)∧Blk wr q 25 #[.int .i64 (M:Nat),.int .i64 (i:Nat),V,SV]∧OwnK wr (q+1) 89 2 SV r ((aF r).flatMap fun j=>[.int .i64 ((SL.getD j 0:Nat):Int),U j])∧(∀j,j<r→Own wr (q+1) 5 (U j) (bvs (Mz (nd t) (SL.getD j 0))))∧OwnK wr (q+1) 87 11 V no ((aF no).flatMap fc)∧Below q w3 wr)
   case atStart=>exact⟨0,_,fun _=> .slice none 0 0,by omega,rfl,HBK.out,OwnK.nil _ _ _ _,fun j hj=>absurd hj (Nat.not_lt_zero j),HOK.out,HB.out⟩
   case round=>
    obtain⟨r,SV,U,hk,rfl,hblk,hown,hu,hov,hb⟩:=hrel;clear HBK HOK HB HR HBK4 HB4;have HR:=Hd hk;have HBK:=Hd hblk;have HOK:=Hd hown;have HU:=Hd hu;have HOV:=Hd hov;have HB:=Hd hb;clear hk hblk hown hu hov hb
    by_cases hlt:r<ns
    ·have hlt2:decide (r<ns)=true:=decide_eq_true hlt;have hltI:(r:Int)<(ns:Int):=(by omega);obtain⟨b2,o2,rfl,hb2l,cx0⟩:=HSC.out r hlt;have cx:=(HB.out.cell (p:=⟨b2,o2+r,none⟩) (by rw[HQ.out];exact hb2l)).trans cx0;have HB2L:=Hd (show b2<q from by rw[HQ.out];exact hb2l);have hm:=HMS.out r hlt;obtain⟨m,hmm⟩:=eX (SL.getD r 0);rw[←hmm]at cx hm;have HMM:=Hd hmm;have HWQ:=Hd (show w.heap.size≤q+1 from by rw[HQ.out];exact Nat.le_succ_of_le HB3.out.size);have HBW:=Hd (HB3.out.trans (HB.out.mono (by rw[HQ.out];exact HB3.out.size)));have HRX:=Hd fun(W:World) (hw:Below w.heap.size w W)=>HRH.out W hw m hm;obtain⟨HX,hHX⟩:=eX (Mz (nd t) m);rw[←hHX]at HRX;have HXX:=Hd hHX;obtain⟨XS,hXS⟩:=eX ((aF r).flatMap fun j=>[.int .i64 ((SL.getD j 0:Nat):Int),U j]);rw[←hXS]at HOK;have HXS:=Hd hXS;have HVL:=Hd (show∀g,SV.ownBlock=some g→g<wr.heap.size from fun g hg=>(HOK.out.lt hg).1);have HNB:=Hd (show r≤100000 from by omega);clear cx0 hmm hb2l hXS hHX hm;go_wp2_with fail;refine Ay [eF (.pointer (some ⟨q,3,none⟩)),eF SV,eF (.slice (some ⟨b2,o2,none⟩) ns c2),eF (.int .i64 (r:Nat)),eF (.pointer (some ⟨b2,o2+r,none⟩)),eF (.int .i64 (m:Nat)),eF (.slice (some ⟨b,off,none⟩) N cp),eF (.slice (some ⟨b2,o2,none⟩) ns c2),eF (.int .i64 (r:Nat)),eF (.pointer (some ⟨b2,o2+r,none⟩)),eF (.int .i64 (m:Nat)),fun v w'=>Own w' wr.heap.size 5 v (bvs HX),fun v w'=>∃u,v=.agg #[.int .i64 (m:Nat),u]∧Own w' wr.heap.size 5 u (bvs HX),fun v w'=>∃g u,v=.slice (some ⟨g,0,none⟩) 1 1∧wr.heap.size≤g∧Blk w' g 89 #[.int .i64 (m:Nat),u]∧Own w' wr.heap.size 5 u (bvs HX),fun v w'=>∃u,OwnK w' (q+1) 89 2 v (r+1) (XS++[.int .i64 (m:Nat),u])∧Own w' (q+1) 5 u (bvs HX),eF (.pointer (some ⟨q,3,none⟩)),fun v w'=>∃V2 u,Blk w' q 25 #[.int .i64 (M:Nat),.int .i64 (i:Nat),V,V2]∧OwnK w' (q+1) 89 2 V2 (r+1) (XS++[.int .i64 (m:Nat),u])∧Own w' (q+1) 5 u (bvs HX)∧CutS wr SV q w']
      ((bW 17 false).set 16 true) (fun X=>ButO wr SV (q+1) X) (fun X Y=>StepO SV (q+1) X Y) (some 14) 16 (by kernel_rfl) ?_ (ButO.start wr SV (q+1)) (fun X Y hx h=>StepO.of h (fU (gH HBK.out.lt) hx.low.size)) (fun X Y hx hs=>hx.step hs) (by kernel_rfl) (by kernel_rfl) (by kernel_rfl) ?_ ?_
     ·exact kE (kE (kE (kE (kE (kE (kE (kE (kE (kE (kE (Cn (fun v x y h hi hs=>StepO.own hs h HVL.out) (Cn (fun v x y h hi hs=>let⟨u,e,k⟩:=h;⟨u,e,StepO.own hs k HVL.out⟩) (Cn (fun v x y h hi hs=>let⟨g,u,e,hg,k,k2⟩:=h;⟨g,u,e,hg,(hs.2 g k.lt (fun ee=>absurd (HVL.out g ee) (by omega))).trans k,StepO.own hs k2 HVL.out⟩) (Dk (fun v x y h hi hs=>let⟨u,k,k2⟩:=h;⟨u,OwnK.below k hs lR,Own.below k2 hs lR⟩) (kE (Ag (fun _ _ _ _ _ _=>trivial) (Ai)))))))))))))))))
     ·refine gP8 ?_ rfl (Yl (by kernel_rfl) ?_ rfl (gP8 ?_ rfl (gP8 ?_ rfl (gP8 ?_ rfl (gO8 ?_ (gP8 ?_ rfl (gP8 ?_ rfl (gP8 ?_ rfl (gP8 ?_ rfl (gO8 ?_ (Nf (by kernel_rfl) ?_ (gO8 ?_ (Nf (by kernel_rfl) ?_ (Nf (by kernel_rfl) ?_ (gP8 ?_ rfl (gO8 ?_ .nil))))))))))))))));all_goals
       intro a wx hbx hbq ho hf;have hbx:ButO wr SV (q+1) wx:=hbx;refine⟨rfl,?_⟩;intro K hK;try have Pf0:a.tmps[0]?.getD undef=.slice (some ⟨b,off,none⟩) N cp:=ho 0 (by kernel_rfl)
       try have Pf9:a.tmps[9]?.getD undef=.slice (some ⟨b2,o2,none⟩) ns c2:=ho 9 (by kernel_rfl)
       try have Pf11:a.tmps[11]?.getD undef=.pointer (some ⟨q,0,none⟩):=ho 11 (by kernel_rfl)
       try have Pf13:a.tmps[13]?.getD undef=.int .i64 (r:Nat):=ho 13 (by kernel_rfl)
       try have Ef0:=eqn hf.1
       try have Ef1:=eqn hf.2.1
       try(have Ce0:=(hbx.low.cell (p:=⟨q,3,none⟩) (cZ q)).trans (HBK.out.cell 3);simp only[bN,bO,bP]at Ce0)
       try(refine Hd ?_;go_simp;exact hK _ rfl)
      ·have d1:=(hbx.low.cell (p:=⟨b2,o2+r,none⟩) (gI HB2L.out)).trans cx;go_simp;exact hK _ _ rfl (fun _=>Ae rfl bR)
      ·have d1:=(hbx.low.cell (p:=⟨b2,o2+r,none⟩) (gI HB2L.out)).trans cx;go_simp;exact hK _ _ rfl (fun _=>Ae rfl bR)
      ·go_simp;refine(HRX.out wx (HBW.out.trans (hbx.low.mono HWQ.out))).mono ?_;rintro e w2 ⟨v9,rfl,ho9,hg9⟩;exact hK _ _ (ho9.mono (fU lR hbx.low.size)) (fun _=>Ae rfl hg9)
      ·have o1:Own wx wr.heap.size 5 (a.tmps[71]?.getD undef) (bvs HX):=hf.2.1;obtain⟨v1,hv1⟩:=eX (a.tmps[71]?.getD undef);rw[←hv1]at o1;have e1:=hv1.symm;clear hv1;obtain⟨ua,un,uc,rfl⟩:∃a n c,v1=.slice a n c:=(by obtain⟨a,c,e,-⟩:=o1.rd;exact⟨_,_,_,e⟩);go_simp;exact hK _ _ ⟨_,rfl,o1⟩ (fun _=>Ae rfl bR)
      ·have o0:∃u,(a.tmps[72]?.getD undef)=.agg #[.int .i64 (m:Nat),u]∧Own wx wr.heap.size 5 u (bvs HX):=hf.1;obtain⟨v0,hv0⟩:=eX (a.tmps[72]?.getD undef);rw[←hv0]at o0;have e0:=hv0.symm;clear hv0;obtain⟨u,rfl,hu⟩:=o0;go_simp;exact hK _ _ ⟨_,u,rfl,hbx.low.size,Blk.new _ _ _,hu.alloc _⟩ (fun _=>Ae rfl (bR.alloc lR _))
      ·have o1:∃g u,(a.tmps[73]?.getD undef)=.slice (some ⟨g,0,none⟩) 1 1∧wr.heap.size≤g∧Blk wx g 89 #[.int .i64 (m:Nat),u]∧Own wx wr.heap.size 5 u (bvs HX):=hf.2.1;obtain⟨v1,hv1⟩:=eX (a.tmps[73]?.getD undef);rw[←hv1]at o1;have e1:=hv1.symm;clear hv1;obtain⟨g,u,hv,hg,hblk,hu⟩:=o1;have hok2:=HOK.out.below hbq lR;refine Iw (.tmp 61) (.tmp 73) 23 rfl (q+1) 89 _ 2 32 Zav SV r XS (evs Ef0) hok2 g [.int .i64 (m:Nat),u] (evs (e1.trans hv)) rfl (fun j u2 hu2=>by have:=hblk.range 0 j u2 hu2;simpa using this) (fun z hz=>by
        simp only[List.mem_cons,List.not_mem_nil,or_false]at hz;rcases hz with rfl|rfl
        ·rfl
        ·exact hu.oneCell) (by have:=HNB.out;omega) (by have:=hbx.low.size;have:=HBK.out.lt;omega) ?_
       intro v' w' h2 h3;exact hK _ _ ⟨u,h2,(h3.own hu HVL.out).mono (gH HBK.out.lt)⟩ (fun _=>Cp rfl h3)
      ·have o1:∃u,OwnK wx (q+1) 89 2 (a.tmps[74]?.getD undef) (r+1) (XS++[.int .i64 (m:Nat),u])∧Own wx (q+1) 5 u (bvs HX):=hf.2.1;obtain⟨v1,hv1⟩:=eX (a.tmps[74]?.getD undef);rw[←hv1]at o1;have e1:=hv1.symm;clear hv1;obtain⟨u,o1,hu⟩:=o1;have hblk:=HBK.out.below hbx.low (cZ q);have d1:wx.cell? ⟨q,3,none⟩=some SV:=hblk.cell 3;have d2:=hblk.frozen 3;obtain⟨ga,gc,rfl⟩:=OwnK.sl o1;have hql:q≤wx.heap.size:=fT hblk.lt;have hs2:=hblk.set 3 (.slice ga (r+1) gc);have ho2:=OwnK.onlyQ o1 (Only.set (a:=wx) (B:=q) 3 (.slice ga (r+1) gc)) (cZ q);have hu2:=OwnK.onlyQ (show OwnK wx (q+1) 5 1 u (bvs HX).length (bvs HX)from hu) (Only.set (a:=wx) (B:=q) 3 (.slice ga (r+1) gc)) (cZ q);have hc2:=hbx.put hql 3 (.slice ga (r+1) gc);go_simp;exact hK undef _ ⟨_,u,hs2,ho2,hu2,hc2⟩ (fun h=>absurd rfl h)
     ·rintro f w9 hfin;have S75:∃V2 u,Blk w9 q 25 #[.int .i64 (M:Nat),.int .i64 (i:Nat),V,V2]∧OwnK w9 (q+1) 89 2 V2 (r+1) (XS++[.int .i64 (m:Nat),u])∧Own w9 (q+1) 5 u (bvs HX)∧CutS wr SV q w9:=hfin.2.2.2.2.2.2.2.2.2.2.2.2.2.2.2.2.1;clear hfin;simp only[Al,Au,En,cS,cT,cU,cV,Nat.reduceBEq,Nat.reduceAdd,cW,cX,cond_true,cond_false];obtain⟨V2,u,hb2,ho2,hu2,hc2⟩:=S75;have HBK2:=Hd hb2;have HOK2:=Hd ho2;have HU2:=Hd hu2;have HC2:=Hd hc2;clear hb2 ho2 hu2 hc2;go_wp2_with fail;go_roundg (gk-1);case measure=>have:=HR.out;omega
      case rel=>
       refine⟨r+1,V2,fun j=>if j<r then U j else u,by have:=HR.out;omega,by go_num,HBK2.out,?_,fun j hj=> ?_,?_,HB.out.trans HC2.out.low⟩
       ·rw[Zda (g:=fun j z=>[.int .i64 ((SL.getD j 0:Nat):Int),z]),←HXS.out,←HMM.out];exact HOK2.out
       ·by_cases hjr:j<r
        ·show Own w9 (q+1) 5 (if j<r then U j else u) _;rw[if_pos hjr];exact CutS.ownK (k:=1) HC2.out (HU.out j hjr) (cZ q) (OwnK.apartK (k:=1) (HU.out j hjr) HOK.out (by decide))
        ·obtain rfl:j=r:=(by omega);show Own w9 (q+1) 5 (if j<j then U j else u) _;rw[if_neg hjr,←HMM.out,←HXX.out];exact HU2.out
       ·exact CutS.ownK HC2.out HOV.out (cZ q) (OwnK.apartK HOV.out HOK.out (by decide))
    ·obtain rfl:r=ns:=(by have:=HR.out;omega);have hlt2:decide (r<r)=false:=decide_eq_false hlt;clear hlt;obtain⟨va,vc,rfl⟩:=OwnK.sl HOV.out;obtain⟨sa,sc,rfl⟩:=OwnK.sl HOK.out;have hwq:w.heap.size<q:=(by rw[HQ.out];exact HRB.out.lt);have HRB5:=Hd (HRB.out.below HB.out hwq);go_wp2_with (first|(refine wpList_load_row rfl 25 (.tmp 11) rfl q rfl 25 _ (0,0) _ HBK.out Tryz.underlying25 rfl (by kernel_rfl) ?_)|(refine Ab rfl 25 (.tmp 6) (.tmp 76) rfl w.heap.size #[.int .i64 (M:Nat),.int .i64 (i:Nat),.slice va no vc,.slice sa r sc] rfl rfl 25 _ HRB5.out (by kernel_rfl) rfl rfl ?_));rintro w9 hbk9 hbw hot hsz;have hon:Only w.heap.size wr w9:=Only.storeQ hbw hot;have hb9:Below w.heap.size w w9:=(HB3.out.trans (HB.out.mono (fT hwq))).trans (hbw _ lR);have ho9:=OwnK.onlyQ HOV.out hon (by omega);have hs9:=OwnK.onlyQ HOK.out hon (by omega);have HBK9:=Hd hbk9;have HFIN:=Hd (show SparseR w9 (.agg #[.int .i64 (M:Nat),.int .i64 (i:Nat),.slice va no vc,.slice sa r sc]) (Zg1 t M i OL SL)from by
      refine⟨_,_,rfl,?_,?_⟩
      ·refine Zbe (B:=q+1) (N:=N) (C:=C) (fun m hm=>(HC.out m hm).1) hb9 (fun k hk=>HMO.out k (by rw[HNO.out];exact hk)) ?_;rw[←HNO.out];have e:fc=fun k=> .int .i64 ((OL.getD k 0:Nat):Int)::(C (OL.getD k 0)).toList:=funext HF.out;rw[←e];exact ho9
      ·refine Zbf (B:=q+1) (U:=U) (fun j hj=>OwnK.onlyQ (k:=1) (HU.out j (by rw[HNS.out];exact hj)) hon (by omega)) ?_;rw[←HNS.out];exact hs9)
     have HB9:=Hd hb9;clear hbk9 hbw hot hsz hon hb9 ho9 hs9;go_wp2_with fail;exact bodyPost_ret (v:=.agg #[.int .i64 (M:Nat),.int .i64 (i:Nat),.slice va no vc,.slice sa r sc]) (Ex Tryz.results35 _ _ w.heap.size _ _ _ rfl HBK9.out Tryz.underlying25 rfl (by kernel_rfl)) rfl ⟨_,rfl,HFIN.out,HB9.out⟩
end Go.Proofs.YtfofaiommeckbaaGreat
namespace Go.Proofs.YtfofaiommeckbaaGreat
open Go.RowKit WalkM ShaM WireM
end Go.Proofs.YtfofaiommeckbaaGreat
namespace Go.Proofs.YtfofaiommeckbaaGreat
open Go.RowKit ShaM WireM
open WalkM
theorem Tu (d:NodeD):Cr d d=true:=by simp[Cr,Hp]
end Go.Proofs.YtfofaiommeckbaaGreat
namespace Go.Proofs.YtfofaiommeckbaaGreat
open Go.RowKit WalkM WireM
def Dq (a b:SparseD):Bool:=decide (a.leaves=b.leaves∧a.own=b.own∧a.op.length=b.op.length∧a.sh.length=b.sh.length)&&(aF a.op.length).all (fun i=>decide ((spt a.op i).1=(spt b.op i).1)&&Cr (spt a.op i).2 (spt b.op i).2)&&
 (aF a.sh.length).all fun i=>decide ((stb a.sh i).1=(stb b.sh i).1)&&decide ((stb a.sh i).2=(stb b.sh i).2)
theorem Tv (a:SparseD):Dq a a=true:=by
 unfold Dq;rw[cC,cC,decide_eq_true_iff,bU,bU];exact⟨⟨⟨rfl,rfl,rfl,rfl⟩,fun i _=>by rw[decide_eq_true rfl,Tu];rfl⟩,fun i _=>by rw[decide_eq_true rfl,decide_eq_true rfl];rfl⟩
theorem Zgn {a b:SparseD}(h:¬(a.leaves=b.leaves∧a.own=b.own∧a.op.length=b.op.length∧a.sh.length=b.sh.length)):Dq a b=false:=by rw[Dq,decide_eq_false h];rfl
theorem Zgo {a b:SparseD} {i:Nat}(hi:i<a.op.length)(h:(decide ((spt a.op i).1=(spt b.op i).1)&&Cr (spt a.op i).2 (spt b.op i).2)=false):Dq a b=false:=by
 have:(aF a.op.length).all (fun i=>decide ((spt a.op i).1=(spt b.op i).1)&&Cr (spt a.op i).2 (spt b.op i).2)=false:=List.all_eq_false.2 ⟨i,List.mem_range.2 hi,by rw[h];simp⟩;rw[Dq,this];simp
theorem Zgp {a b:SparseD} {i:Nat}(hi:i<a.sh.length)(h:(decide ((stb a.sh i).1=(stb b.sh i).1)&&decide ((stb a.sh i).2=(stb b.sh i).2))=false):Dq a b=false:=by
 have:((aF a.sh.length).all fun i=>decide ((stb a.sh i).1=(stb b.sh i).1)&&decide ((stb a.sh i).2=(stb b.sh i).2))=false:=List.all_eq_false.2 ⟨i,List.mem_range.2 hi,by rw[h];simp⟩;rw[Dq,this];simp
theorem Zfq {a b:SparseD} (h:a.leaves=b.leaves∧a.own=b.own∧a.op.length=b.op.length∧a.sh.length=b.sh.length) (h1:∀i,i<a.op.length→(decide ((spt a.op i).1=(spt b.op i).1)&&Cr (spt a.op i).2 (spt b.op i).2)=true)
  (h2:∀i,i<a.sh.length→(decide ((stb a.sh i).1=(stb b.sh i).1)&&decide ((stb a.sh i).2=(stb b.sh i).2))=true):Dq a b=true:=by
 unfold Dq;rw[cC,cC,decide_eq_true_iff,bU,bU];exact⟨⟨h,fun i hi=>h1 i (List.mem_range.1 hi)⟩,fun i hi=>h2 i (List.mem_range.1 hi)⟩
theorem Xo (v v':Value)(s t:SparseD)(w:World)(h:SparseR w v s)(h':SparseR w v' t)(hok:SparseOk s)(hok':SparseOk t)(hl1:s.op.length≤1000000)(hl2:s.sh.length≤1000000):
  Calls Tryz.prog 24 #[v,v'] w fun e w'=>e=.returned (.bool (Dq s t))∧Below w.heap.size w w':=by
 obtain⟨o,g,rfl,ho,hg⟩:=h;obtain⟨oa,oc,rfl,hoc,hoc2⟩:=ho.sl;obtain⟨ga,gc,rfl,hgc,hgc2⟩:=hg.sl;obtain⟨o',g',rfl,ho',hg'⟩:=h';obtain⟨oa2,oc2,rfl,hoc',hoc2'⟩:=ho'.sl;obtain⟨ga2,gc2,rfl,hgc',hgc2'⟩:=hg'.sl;have HG1:=Hd fun(i:Nat) (hi:i<s.op.length)=>ho.at hi;have HG2:=Hd fun(i:Nat) (hi:i<s.sh.length)=>hg.at hi;have HK1:=Hd fun(i:Nat) (hi:i<t.op.length)=>ho'.at hi;have HK2:=Hd fun(i:Nat) (hi:i<t.sh.length)=>hg'.at hi;have HN1:=Hd fun(i:Nat) (hi:i<s.op.length)=>(hok.op _ (Dy hi)).2;have HN2:=Hd fun(i:Nat) (hi:i<t.op.length)=>(hok'.op _ (Dy hi)).2;have HM1:=Hd fun(i:Nat) (hi:i<s.sh.length)=>(hok.sh _ (Gs hi)).2;have HM2:=Hd fun(i:Nat) (hi:i<t.sh.length)=>(hok'.sh _ (Gs hi)).2;have HNO:=Hd (Zgn (a:=s) (b:=t));have HNP:=Hd fun i=>Zgo (a:=s) (b:=t) (i:=i);have HNH:=Hd fun i=>Zgp (a:=s) (b:=t) (i:=i);have HYES:=Hd (Zfq (a:=s) (b:=t));obtain⟨RES,hRES⟩:=eX (Dq s t);rw[←hRES]at HNO HNP HNH HYES⊢;obtain⟨lv,hlv⟩:=eX s.leaves;obtain⟨ow,how⟩:=eX s.own;obtain⟨n,hn⟩:=eX s.op.length;obtain⟨m,hm⟩:=eX s.sh.length;obtain⟨lv2,hlv2⟩:=eX t.leaves;obtain⟨ow2,how2⟩:=eX t.own;obtain⟨n2,hn2⟩:=eX t.op.length;obtain⟨m2,hm2⟩:=eX t.sh.length;rw[←hlv,←how,←hlv2,←how2,←hn,←hm,←hn2,←hm2]at HNO HYES;rw[←hlv,←how,←hlv2,←how2,←hn,←hm,←hn2,←hm2];rw[←hn]at HNP HG1 HN1 hoc hl1;rw[←hm]at HNH HG2 HM1 hgc hl2;rw[←hn2]at HK1 HN2 hoc';rw[←hm2]at HK2 HM2 hgc';clear hRES hlv how hn hm hlv2 how2 hn2 hm2 ho hg ho' hg' hok hok';obtain⟨N,hN⟩:=eX w.heap.size;have HH:=Hd hN;obtain⟨w1,hw1⟩:=eX ((w.alloc (.cells #[.int .i64 lv,.int .i64 ow,.slice oa n oc,.slice ga m gc] 25)).alloc (.cells #[.int .i64 lv2,.int .i64 ow2,.slice oa2 n2 oc2,.slice ga2 m2 gc2] 25));have HWE:=Hd hw1;have HB1:=Hd (show Below w.heap.size w w1 by rw[hw1];exact(bR.alloc lR _).alloc (by simp) _);have HBA:=Hd (show Blk w1 N 25 #[.int .i64 lv,.int .i64 ow,.slice oa n oc,.slice ga m gc] by rw[hw1,hN];exact(Blk.new _ _ _).alloc _);have HBB:=Hd (show Blk w1 (N+1) 25 #[.int .i64 lv2,.int .i64 ow2,.slice oa2 n2 oc2,.slice ga2 m2 gc2] by
  rw[hw1,hN];have h1:=Blk.new (w.alloc (.cells #[.int .i64 lv,.int .i64 ow,.slice oa n oc,.slice ga m gc] 25)) 25 #[.int .i64 lv2,.int .i64 ow2,.slice oa2 n2 oc2,.slice ga2 m2 gc2];simpa using h1)
 have c0:=HBA.out.cell 0;have c1:=HBA.out.cell 1;have c2:=HBA.out.cell 2;have c3:=HBA.out.cell 3;have e0:=HBB.out.cell 0;have e1:=HBB.out.cell 1;have e2:=HBB.out.cell 2;have e3:=HBB.out.cell 3;simp only[bN,bO,bP]at c0 c1 c2 c3 e0 e1 e2 e3;clear hw1 hN
 by_cases q1:lv=lv2
 ·subst q1;have q1':(lv !=lv)=false:=by simp
  by_cases q2:ow=ow2
  ·subst q2;have q2':(ow !=ow)=false:=by simp
   by_cases q3:n=n2
   ·subst q3;have q3':((n:Int) !=(n:Int))=false:=by simp
    by_cases q4:m=m2
    ·subst q4;have q4':((m:Int) !=(m:Int))=false:=(by simp);have HY:=Hd (HYES.out ⟨rfl,rfl,rfl,rfl⟩);go_enter Tryz.func24,Tryz.ntmps24;go_wp2_with fail;rw[←HH.out,←HWE.out];go_wp2_with fail;clear q1' q2' q3' q4' c0 c1 c2 c3 e0 e1 e2 e3 HNO HYES
     go_loopg [5] n (fun q iv wr=>∃r:Nat,r+q=n∧iv=.int .i64 (r:Nat)∧(∀i,i<r→(decide ((spt s.op i).1=(spt t.op i).1)&&Cr (spt s.op i).2 (spt t.op i).2)=true)∧Below w1.heap.size w1 wr)
     case atStart=>exact⟨0,by omega,rfl,fun i hi=>by omega,bR⟩
     case round=>
      obtain⟨r,hr,rfl,hall,hb⟩:=hrel;have HR:=Hd hr;have HALL:=Hd hall;have HB:=Hd hb;have HW:=Hd (HB1.out.trans (hb.mono HB1.out.size));have HA1:=Hd (HBA.out.below hb HBA.out.lt);have HC1:=Hd (HBB.out.below hb HBB.out.lt);have c2:=HA1.out.cell 2;have c3:=HA1.out.cell 3;have e2:=HC1.out.cell 2;have e3:=HC1.out.cell 3;simp only[bN,bO,bP]at c2 c3 e2 e3;have hNl:N<wr.heap.size:=HA1.out.lt;have hNl2:N+1<wr.heap.size:=HC1.out.lt;clear hr hall hb
      by_cases hlt:r<n
      ·have hlt':decide (r<n)=true:=decide_eq_true hlt;have hltI:(r:Int)<(n:Int):=(by omega);obtain⟨b1,o1,y,rfl,hb1,hn1,hr1⟩:=HG1.out r hlt;obtain⟨b2,o2,z,rfl,hb2,hn2,hr2⟩:=HK1.out r hlt;have cx1:=(HW.out.cell (p:=⟨b1,o1+r*11,none⟩) hb1).trans (Bf hr1);have cx2:=(HW.out.cell (p:=⟨b2,o2+r*11,none⟩) hb2).trans (Bf hr2);have HRA1:=Hd (Af (Bv hr1) HW.out hb1);have HRA2:=Hd (Af (Bv hr2) HW.out hb2);have HSN:=Hd fun(W:World) (hw:Below w.heap.size w W)=>Ga _ _ y z W (hn1.below hw lR) (hn2.below hw lR) (HN1.out r hlt) (HN2.out r hlt);obtain⟨y0,y1,y2,y3,y4,y5,y6,y7,y8,y9,rfl⟩:=hn1.ten;obtain⟨z0,z1,z2,z3,z4,z5,z6,z7,z8,z9,rfl⟩:=hn2.ten;have hb1:b1<wr.heap.size:=dP hb1 HW.out.size;have hb2:b2<wr.heap.size:=dP hb2 HW.out.size;have HBAD:=Hd (fun hp=>HNP.out r hlt hp);have HGOOD:=Hd (fun(hp:(decide ((spt s.op r).1=(spt t.op r).1)&&Cr (spt s.op r).2 (spt t.op r).2)=true)=>(show∀i,i<r+1→(decide ((spt s.op i).1=(spt t.op i).1)&&Cr (spt s.op i).2 (spt t.op i).2)=true from fun i hi=>by
        by_cases e:i=r
        ·rw[e];exact hp
        ·exact HALL.out i (by omega)))
       obtain⟨x1,hx1⟩:=eX ((spt s.op r).1);obtain⟨x2,hx2⟩:=eX ((spt t.op r).1);obtain⟨sb,hsb⟩:=eX (Cr (spt s.op r).2 (spt t.op r).2);rw[←hx1]at cx1;rw[←hx2]at cx2;rw[←hsb]at HSN;rw[←hx1,←hx2,←hsb]at HBAD HGOOD;clear hx1 hx2 hsb hr1 hr2 hn1 hn2
       by_cases hx:x1=x2
       ·have hx':(x1 !=x2)=false:=(by simp[hx]);have HX:=Hd hx;clear hx;cases sb with
        |true=>
         have HST:=Hd (HGOOD.out (by rw[decide_eq_true HX.out];rfl));clear HGOOD HBAD;go_wp2_with fail;refine Dg [eF (.pointer (some ⟨N,2,none⟩)),eF (.slice (some ⟨b1,o1,none⟩) n oc),eF (.int .i64 (r:Nat)),eF (.pointer (some ⟨b1,o1+r*11,none⟩)),eF (.pointer (some ⟨b1,o1+r*11,none⟩)),eF (.int .i64 x1),eF (.pointer (some ⟨N+1,2,none⟩)),eF (.slice (some ⟨b2,o2,none⟩) n oc2),eF (.int .i64 (r:Nat)),eF (.pointer (some ⟨b2,o2+r*11,none⟩)),eF (.pointer (some ⟨b2,o2+r*11,none⟩)),eF (.int .i64 x2),eF (.bool false),eF (.bool false),eF (.pointer (some ⟨N,2,none⟩)),eF (.slice (some ⟨b1,o1,none⟩) n oc),eF (.int .i64 (r:Nat)),eF (.pointer (some ⟨b1,o1+r*11,none⟩)),eF (.pointer (some ⟨b1,o1+r*11+1,none⟩)),eF (.agg #[y0,y1,y2,y3,y4,y5,y6,y7,y8,y9]),eF (.pointer (some ⟨N+1,2,none⟩)),eF (.slice (some ⟨b2,o2,none⟩) n oc2),eF (.int .i64 (r:Nat)),eF (.pointer (some ⟨b2,o2+r*11,none⟩)),eF (.pointer (some ⟨b2,o2+r*11+1,none⟩)),eF (.agg #[z0,z1,z2,z3,z4,z5,z6,z7,z8,z9]),eF (.bool true),eF (.bool false),eF (.bool false)] (by kernel_rfl) (by kernel_rfl) (by kernel_rfl) (kE (kE (kE (kE (kE (kE (kE (kE (kE (kE (kE (kE (kE (kE (kE (kE (kE (kE (kE (kE (kE (kE (kE (kE (kE (kE (kE (kE (kE Ai))))))))))))))))))))))))))))) ?_ ?_
         ·refine gQ ?_ (gQ ?_ (gQ ?_ (gQ ?_ (gQ ?_ (gB ?_ (gQ ?_ (gB ?_ (gQ ?_ (gQ ?_ (gQ ?_ (gB ?_ (gQ ?_ (gQ ?_ (gQ ?_ (gQ ?_ (gQ ?_ (gQ ?_ (gQ ?_ (gB ?_ (gQ ?_ (gB ?_ (gQ ?_ (gQ ?_ (gQ ?_ (gB ?_ (gB ?_ (gQ ?_ (gQ ?_ .nil))))))))))))))))))))))))))));all_goals
           intro a wx hbx ho hf;refine⟨by first|rfl|exact Ak rfl rfl rfl hf.1|exact Ak rfl rfl rfl hf.2.1|exact Ak rfl rfl rfl hf.2.2.1,?_⟩;intro K hK;try have P2:a.tmps[2]?.getD undef=.pointer (some ⟨N,0,none⟩):=ho 2 (by kernel_rfl)
           try have P3:a.tmps[3]?.getD undef=.pointer (some ⟨N+1,0,none⟩):=ho 3 (by kernel_rfl)
           try have P5:a.tmps[5]?.getD undef=.int .i64 (r:Nat):=ho 5 (by kernel_rfl)
           try have E0:=eqn hf.1
           try have E1:=eqn hf.2.1
           try have D0:=(hbx.cell (p:=⟨N,2,none⟩) hNl).trans c2
           try(refine Hd ?_;go_simp;exact hK _ rfl)
          ·have d1:=(hbx.cell (p:=⟨b1,o1+r*11,none⟩) hb1).trans cx1;go_simp;exact hK _ _ rfl bR
          ·have d1:=(hbx.cell (p:=⟨N+1,2,none⟩) hNl2).trans e2;go_simp;exact hK _ _ rfl bR
          ·have d1:=(hbx.cell (p:=⟨b2,o2+r*11,none⟩) hb2).trans cx2;go_simp;exact hK _ _ rfl bR
          ·exact wp_load_mid 52 (.tmp 62) rfl b1 (o1+r*11+1) (evs E0) _ _ (Af HRA1.out hbx hb1) Tryz.underlying52 rfl (Ba) (hK _ _ rfl bR)
          ·have d1:=(hbx.cell (p:=⟨N+1,2,none⟩) hNl2).trans e2;go_simp;exact hK _ _ rfl bR
          ·exact wp_load_mid 52 (.tmp 68) rfl b2 (o2+r*11+1) (evs E0) _ _ (Af HRA2.out hbx hb2) Tryz.underlying52 rfl (Ba) (hK _ _ rfl bR)
          ·go_simp;refine(HSN.out wx (HW.out.trans (hbx.mono HW.out.size))).mono ?_;rintro e w2 ⟨rfl,hb2⟩;exact hK _ _ rfl hb2
         ·rintro f w9 hb9 hfin;have hb9:Below wr.heap.size wr w9:=hb9;have S72:f 72=.bool false:=hfin.2.2.2.2.2.2.2.2.2.2.2.2.2.2.2.2.2.2.2.2.2.2.2.2.2.2.2.2.1;clear hfin;simp only[Al,Au,En,cS,cT,cU,cV,Nat.reduceBEq,Nat.reduceAdd,cW,cX,cond_true,cond_false];rw[S72];clear S72;have HBN:=Hd (HB.out.trans (hb9.mono HB.out.size));go_wp2_with fail;go_roundg (gk-1);case measure=>have:=HR.out;omega
          case rel=>exact⟨r+1,by have:=HR.out;omega,by go_num,HST.out,HBN.out⟩
        |false=>
         have HE:=Hd (HBAD.out (by simp));clear HGOOD HBAD;go_wp2_with fail;refine Dg [eF (.pointer (some ⟨N,2,none⟩)),eF (.slice (some ⟨b1,o1,none⟩) n oc),eF (.int .i64 (r:Nat)),eF (.pointer (some ⟨b1,o1+r*11,none⟩)),eF (.pointer (some ⟨b1,o1+r*11,none⟩)),eF (.int .i64 x1),eF (.pointer (some ⟨N+1,2,none⟩)),eF (.slice (some ⟨b2,o2,none⟩) n oc2),eF (.int .i64 (r:Nat)),eF (.pointer (some ⟨b2,o2+r*11,none⟩)),eF (.pointer (some ⟨b2,o2+r*11,none⟩)),eF (.int .i64 x2),eF (.bool false),eF (.bool false),eF (.pointer (some ⟨N,2,none⟩)),eF (.slice (some ⟨b1,o1,none⟩) n oc),eF (.int .i64 (r:Nat)),eF (.pointer (some ⟨b1,o1+r*11,none⟩)),eF (.pointer (some ⟨b1,o1+r*11+1,none⟩)),eF (.agg #[y0,y1,y2,y3,y4,y5,y6,y7,y8,y9]),eF (.pointer (some ⟨N+1,2,none⟩)),eF (.slice (some ⟨b2,o2,none⟩) n oc2),eF (.int .i64 (r:Nat)),eF (.pointer (some ⟨b2,o2+r*11,none⟩)),eF (.pointer (some ⟨b2,o2+r*11+1,none⟩)),eF (.agg #[z0,z1,z2,z3,z4,z5,z6,z7,z8,z9]),eF (.bool false),eF (.bool true),eF (.bool true)] (by kernel_rfl) (by kernel_rfl) (by kernel_rfl) (kE (kE (kE (kE (kE (kE (kE (kE (kE (kE (kE (kE (kE (kE (kE (kE (kE (kE (kE (kE (kE (kE (kE (kE (kE (kE (kE (kE (kE Ai))))))))))))))))))))))))))))) ?_ ?_
         ·refine gQ ?_ (gQ ?_ (gQ ?_ (gQ ?_ (gQ ?_ (gB ?_ (gQ ?_ (gB ?_ (gQ ?_ (gQ ?_ (gQ ?_ (gB ?_ (gQ ?_ (gQ ?_ (gQ ?_ (gQ ?_ (gQ ?_ (gQ ?_ (gQ ?_ (gB ?_ (gQ ?_ (gB ?_ (gQ ?_ (gQ ?_ (gQ ?_ (gB ?_ (gB ?_ (gQ ?_ (gQ ?_ .nil))))))))))))))))))))))))))));all_goals
           intro a wx hbx ho hf;refine⟨by first|rfl|exact Ak rfl rfl rfl hf.1|exact Ak rfl rfl rfl hf.2.1|exact Ak rfl rfl rfl hf.2.2.1,?_⟩;intro K hK;try have P2:a.tmps[2]?.getD undef=.pointer (some ⟨N,0,none⟩):=ho 2 (by kernel_rfl)
           try have P3:a.tmps[3]?.getD undef=.pointer (some ⟨N+1,0,none⟩):=ho 3 (by kernel_rfl)
           try have P5:a.tmps[5]?.getD undef=.int .i64 (r:Nat):=ho 5 (by kernel_rfl)
           try have E0:=eqn hf.1
           try have E1:=eqn hf.2.1
           try have D0:=(hbx.cell (p:=⟨N,2,none⟩) hNl).trans c2
           try(refine Hd ?_;go_simp;exact hK _ rfl)
          ·have d1:=(hbx.cell (p:=⟨b1,o1+r*11,none⟩) hb1).trans cx1;go_simp;exact hK _ _ rfl bR
          ·have d1:=(hbx.cell (p:=⟨N+1,2,none⟩) hNl2).trans e2;go_simp;exact hK _ _ rfl bR
          ·have d1:=(hbx.cell (p:=⟨b2,o2+r*11,none⟩) hb2).trans cx2;go_simp;exact hK _ _ rfl bR
          ·exact wp_load_mid 52 (.tmp 62) rfl b1 (o1+r*11+1) (evs E0) _ _ (Af HRA1.out hbx hb1) Tryz.underlying52 rfl (Ba) (hK _ _ rfl bR)
          ·have d1:=(hbx.cell (p:=⟨N+1,2,none⟩) hNl2).trans e2;go_simp;exact hK _ _ rfl bR
          ·exact wp_load_mid 52 (.tmp 68) rfl b2 (o2+r*11+1) (evs E0) _ _ (Af HRA2.out hbx hb2) Tryz.underlying52 rfl (Ba) (hK _ _ rfl bR)
          ·go_simp;refine(HSN.out wx (HW.out.trans (hbx.mono HW.out.size))).mono ?_;rintro e w2 ⟨rfl,hb2⟩;exact hK _ _ rfl hb2
         ·rintro f w9 hb9 hfin;have hb9:Below wr.heap.size wr w9:=hb9;have S72:f 72=.bool true:=hfin.2.2.2.2.2.2.2.2.2.2.2.2.2.2.2.2.2.2.2.2.2.2.2.2.2.2.2.2.1;clear hfin;simp only[Al,Au,En,cS,cT,cU,cV,Nat.reduceBEq,Nat.reduceAdd,cW,cX,cond_true,cond_false];rw[S72];clear S72;have HBN:=Hd (HW.out.trans (hb9.mono HW.out.size));go_wp2_with fail;go_ret;exact⟨Ek HE.out,HBN.out⟩
       ·have hx':(x1 !=x2)=true:=(by simp[hx]);have HE:=Hd (HBAD.out (by rw[decide_eq_false hx];rfl));clear hx HGOOD HBAD;go_wp2_with fail;refine Dg [eF (.pointer (some ⟨N,2,none⟩)),eF (.slice (some ⟨b1,o1,none⟩) n oc),eF (.int .i64 (r:Nat)),eF (.pointer (some ⟨b1,o1+r*11,none⟩)),eF (.pointer (some ⟨b1,o1+r*11,none⟩)),eF (.int .i64 x1),eF (.pointer (some ⟨N+1,2,none⟩)),eF (.slice (some ⟨b2,o2,none⟩) n oc2),eF (.int .i64 (r:Nat)),eF (.pointer (some ⟨b2,o2+r*11,none⟩)),eF (.pointer (some ⟨b2,o2+r*11,none⟩)),eF (.int .i64 x2),eF (.bool true),eF (.bool true),eF undef,eF undef,eF undef,eF undef,eF undef,eF undef,eF undef,eF undef,eF undef,eF undef,eF undef,eF undef,eF undef,eF undef,eF (.bool true)] (by kernel_rfl) (by kernel_rfl) (by kernel_rfl) (kE (kE (kE (kE (kE (kE (kE (kE (kE (kE (kE (kE (kE (kE (kE (kE (kE (kE (kE (kE (kE (kE (kE (kE (kE (kE (kE (kE (kE Ai))))))))))))))))))))))))))))) ?_ ?_
        ·refine gQ ?_ (gQ ?_ (gQ ?_ (gQ ?_ (gQ ?_ (gB ?_ (gQ ?_ (gB ?_ (gQ ?_ (gQ ?_ (gQ ?_ (gB ?_ (gQ ?_ (gQ ?_ (fO rfl rfl rfl rfl rfl rfl (fun _ _ hf=>hf.1) rfl (fO rfl rfl rfl rfl rfl rfl (fun _ _ hf=>hf.2.1) rfl (fO rfl rfl rfl rfl rfl rfl (fun _ _ hf=>hf.1) rfl (fO rfl rfl rfl rfl rfl rfl (fun _ _ hf=>hf.2.2.1) rfl (fO rfl rfl rfl rfl rfl rfl (fun _ _ hf=>hf.2.1) rfl (fO rfl rfl rfl rfl rfl rfl (fun _ _ hf=>hf.2.1) rfl (fO rfl rfl rfl rfl rfl rfl (fun _ _ hf=>hf.1) rfl (fO rfl rfl rfl rfl rfl rfl (fun _ _ hf=>hf.2.1) rfl (fO rfl rfl rfl rfl rfl rfl (fun _ _ hf=>hf.1) rfl (fO rfl rfl rfl rfl rfl rfl (fun _ _ hf=>hf.2.2.1) rfl (fO rfl rfl rfl rfl rfl rfl (fun _ _ hf=>hf.2.1) rfl (fO rfl rfl rfl rfl rfl rfl (fun _ _ hf=>hf.2.1) rfl (fO rfl rfl rfl rfl rfl rfl (fun _ _ hf=>hf.2.2.1) rfl (fO rfl rfl rfl rfl rfl rfl (fun _ _ hf=>hf.2.1) rfl (gQ ?_ .nil))))))))))))))))))))))))))));all_goals
          intro a wx hbx ho hf;refine⟨rfl,?_⟩;intro K hK;try have P2:a.tmps[2]?.getD undef=.pointer (some ⟨N,0,none⟩):=ho 2 (by kernel_rfl)
          try have P3:a.tmps[3]?.getD undef=.pointer (some ⟨N+1,0,none⟩):=ho 3 (by kernel_rfl)
          try have P5:a.tmps[5]?.getD undef=.int .i64 (r:Nat):=ho 5 (by kernel_rfl)
          try have E0:=eqn hf.1
          try have E1:=eqn hf.2.1
          try have D0:=(hbx.cell (p:=⟨N,2,none⟩) hNl).trans c2
          try(refine Hd ?_;go_simp;exact hK _ rfl)
         ·have d1:=(hbx.cell (p:=⟨b1,o1+r*11,none⟩) hb1).trans cx1;go_simp;exact hK _ _ rfl bR
         ·have d1:=(hbx.cell (p:=⟨N+1,2,none⟩) hNl2).trans e2;go_simp;exact hK _ _ rfl bR
         ·have d1:=(hbx.cell (p:=⟨b2,o2+r*11,none⟩) hb2).trans cx2;go_simp;exact hK _ _ rfl bR
        ·rintro f w9 hb9 hfin;have hb9:Below wr.heap.size wr w9:=hb9;have S72:f 72=.bool true:=hfin.2.2.2.2.2.2.2.2.2.2.2.2.2.2.2.2.2.2.2.2.2.2.2.2.2.2.2.2.1;clear hfin;simp only[Al,Au,En,cS,cT,cU,cV,Nat.reduceBEq,Nat.reduceAdd,cW,cX,cond_true,cond_false];rw[S72];clear S72;have HBN:=Hd (HW.out.trans (hb9.mono HW.out.size));go_wp2_with fail;go_ret;exact⟨Ek HE.out,HBN.out⟩
      ·obtain rfl:r=n:=(by have:=HR.out;omega);have hlt':decide (r<r)=false:=decide_eq_false hlt;obtain⟨wo,rfl⟩:∃wo:World,wo=wr:=⟨_,rfl⟩;have HWO:=Hd HW.out;have HAO:=Hd HA1.out;have HCO:=Hd HC1.out;have HALO:=Hd HALL.out;clear hlt;go_wp2_with fail;clear c2 c3 e2 e3 hNl hNl2
       go_loopg [6] m (fun q iv wr=>∃k:Nat,k+q=m∧iv=.int .i64 (k:Nat)∧(∀i,i<k→(decide ((stb s.sh i).1=(stb t.sh i).1)&&decide ((stb s.sh i).2=(stb t.sh i).2))=true)∧Below wo.heap.size wo wr)
       case atStart=>exact⟨0,by omega,rfl,fun i hi=>by omega,bR⟩
       case round=>
        obtain⟨k,hr,rfl,hall,hb⟩:=hrel;have HR:=Hd hr;have HALL:=Hd hall;have HB:=Hd hb;have HW:=Hd (HWO.out.trans (hb.mono HWO.out.size));have HA1:=Hd (HAO.out.below hb HAO.out.lt);have HC1:=Hd (HCO.out.below hb HCO.out.lt);have c3:=HA1.out.cell 3;have e3:=HC1.out.cell 3;simp only[bN,bO,bP]at c3 e3;have hNl:N<wr.heap.size:=HA1.out.lt;have hNl2:N+1<wr.heap.size:=HC1.out.lt;clear hr hall hb
        by_cases hlt:k<m
        ·have hlt':decide (k<m)=true:=decide_eq_true hlt;have hltI:(k:Int)<(m:Int):=(by omega);obtain⟨b1,o1,y,rfl,hb1,hn1,hr1⟩:=HG2.out k hlt;obtain⟨b2,o2,z,rfl,hb2,hn2,hr2⟩:=HK2.out k hlt;have cx1:=(HW.out.cell (p:=⟨b1,o1+k*2,none⟩) hb1).trans (Bf hr1);have cx2:=(HW.out.cell (p:=⟨b2,o2+k*2,none⟩) hb2).trans (Bf hr2);have cu1:=(HW.out.cell (p:=⟨b1,o1+k*2+1,none⟩) hb1).trans (Bf (Bv hr1));have cu2:=(HW.out.cell (p:=⟨b2,o2+k*2+1,none⟩) hb2).trans (Bf (Bv hr2));have HSN:=Hd fun(W:World) (hw:Below w.heap.size w W)=>Kl y z _ _ W (hn1.below hw lR) (hn2.below hw lR) (HM1.out k hlt) (HM2.out k hlt);obtain⟨u1,v1,t1,rfl⟩:∃a n c,y=.slice a n c:=(by obtain⟨a,c,e,_⟩:=hn1;exact⟨_,_,_,e⟩);obtain⟨u2,v2,t2,rfl⟩:∃a n c,z=.slice a n c:=(by obtain⟨a,c,e,_⟩:=hn2;exact⟨_,_,_,e⟩);have hb1:b1<wr.heap.size:=dP hb1 HW.out.size;have hb2:b2<wr.heap.size:=dP hb2 HW.out.size;have HBAD:=Hd (fun hp=>HNH.out k hlt hp);have HGOOD:=Hd (fun(hp:(decide ((stb s.sh k).1=(stb t.sh k).1)&&decide ((stb s.sh k).2=(stb t.sh k).2))=true)=>(show∀i,i<k+1→(decide ((stb s.sh i).1=(stb t.sh i).1)&&decide ((stb s.sh i).2=(stb t.sh i).2))=true from fun i hi=>by
          by_cases e:i=k
          ·rw[e];exact hp
          ·exact HALL.out i (by omega)))
         obtain⟨x1,hx1⟩:=eX ((stb s.sh k).1);obtain⟨x2,hx2⟩:=eX ((stb t.sh k).1);obtain⟨sb,hsb⟩:=eX (decide ((stb s.sh k).2=(stb t.sh k).2));rw[←hx1]at cx1;rw[←hx2]at cx2;rw[←hsb]at HSN;rw[←hx1,←hx2,←hsb]at HBAD HGOOD;clear hx1 hx2 hsb hr1 hr2 hn1 hn2
         by_cases hx:x1=x2
         ·have hx':(x1 !=x2)=false:=(by simp[hx]);have HX:=Hd hx;clear hx;cases sb with
          |true=>
           have HST:=Hd (HGOOD.out (by rw[decide_eq_true HX.out];rfl));clear HGOOD HBAD;go_wp2_with fail;refine Dg [eF (.pointer (some ⟨N,3,none⟩)),eF (.slice (some ⟨b1,o1,none⟩) m gc),eF (.int .i64 (k:Nat)),eF (.pointer (some ⟨b1,o1+k*2,none⟩)),eF (.pointer (some ⟨b1,o1+k*2,none⟩)),eF (.int .i64 x1),eF (.pointer (some ⟨N+1,3,none⟩)),eF (.slice (some ⟨b2,o2,none⟩) m gc2),eF (.int .i64 (k:Nat)),eF (.pointer (some ⟨b2,o2+k*2,none⟩)),eF (.pointer (some ⟨b2,o2+k*2,none⟩)),eF (.int .i64 x2),eF (.bool false),eF (.bool false),eF (.pointer (some ⟨N,3,none⟩)),eF (.slice (some ⟨b1,o1,none⟩) m gc),eF (.int .i64 (k:Nat)),eF (.pointer (some ⟨b1,o1+k*2,none⟩)),eF (.pointer (some ⟨b1,o1+k*2+1,none⟩)),eF (.slice u1 v1 t1),eF (.pointer (some ⟨N+1,3,none⟩)),eF (.slice (some ⟨b2,o2,none⟩) m gc2),eF (.int .i64 (k:Nat)),eF (.pointer (some ⟨b2,o2+k*2,none⟩)),eF (.pointer (some ⟨b2,o2+k*2+1,none⟩)),eF (.slice u2 v2 t2),eF (.bool true),eF (.bool false),eF (.bool false)] (by kernel_rfl) (by kernel_rfl) (by kernel_rfl) (kE (kE (kE (kE (kE (kE (kE (kE (kE (kE (kE (kE (kE (kE (kE (kE (kE (kE (kE (kE (kE (kE (kE (kE (kE (kE (kE (kE (kE Ai))))))))))))))))))))))))))))) ?_ ?_
           ·refine gQ ?_ (gQ ?_ (gQ ?_ (gQ ?_ (gQ ?_ (gB ?_ (gQ ?_ (gB ?_ (gQ ?_ (gQ ?_ (gQ ?_ (gB ?_ (gQ ?_ (gQ ?_ (gQ ?_ (gQ ?_ (gQ ?_ (gQ ?_ (gQ ?_ (gB ?_ (gQ ?_ (gB ?_ (gQ ?_ (gQ ?_ (gQ ?_ (gB ?_ (gB ?_ (gQ ?_ (gQ ?_ .nil))))))))))))))))))))))))))));all_goals
             intro a wx hbx ho hf;refine⟨by first|rfl|exact Ak rfl rfl rfl hf.1|exact Ak rfl rfl rfl hf.2.1|exact Ak rfl rfl rfl hf.2.2.1,?_⟩;intro K hK;try have P2:a.tmps[2]?.getD undef=.pointer (some ⟨N,0,none⟩):=ho 2 (by kernel_rfl)
             try have P3:a.tmps[3]?.getD undef=.pointer (some ⟨N+1,0,none⟩):=ho 3 (by kernel_rfl)
             try have P6:a.tmps[6]?.getD undef=.int .i64 (k:Nat):=ho 6 (by kernel_rfl)
             try have E0:=eqn hf.1
             try have E1:=eqn hf.2.1
             try have D0:=(hbx.cell (p:=⟨N,3,none⟩) hNl).trans c3
             try(refine Hd ?_;go_simp;exact hK _ rfl)
            ·have d1:=(hbx.cell (p:=⟨b1,o1+k*2,none⟩) hb1).trans cx1;go_simp;exact hK _ _ rfl bR
            ·have d1:=(hbx.cell (p:=⟨N+1,3,none⟩) hNl2).trans e3;go_simp;exact hK _ _ rfl bR
            ·have d1:=(hbx.cell (p:=⟨b2,o2+k*2,none⟩) hb2).trans cx2;go_simp;exact hK _ _ rfl bR
            ·have d1:=(hbx.cell (p:=⟨b1,o1+k*2+1,none⟩) hb1).trans cu1;go_simp;exact hK _ _ rfl bR
            ·have d1:=(hbx.cell (p:=⟨N+1,3,none⟩) hNl2).trans e3;go_simp;exact hK _ _ rfl bR
            ·have d1:=(hbx.cell (p:=⟨b2,o2+k*2+1,none⟩) hb2).trans cu2;go_simp;exact hK _ _ rfl bR
            ·go_simp;refine(HSN.out wx (HW.out.trans (hbx.mono HW.out.size))).mono ?_;rintro e w2 ⟨rfl,n9,rfl⟩;exact hK _ _ rfl (Aa bR _)
           ·rintro f w9 hb9 hfin;have hb9:Below wr.heap.size wr w9:=hb9;have S108:f 108=.bool false:=hfin.2.2.2.2.2.2.2.2.2.2.2.2.2.2.2.2.2.2.2.2.2.2.2.2.2.2.2.2.1;clear hfin;simp only[Al,Au,En,cS,cT,cU,cV,Nat.reduceBEq,Nat.reduceAdd,cW,cX,cond_true,cond_false];rw[S108];clear S108;have HBN:=Hd (HB.out.trans (hb9.mono HB.out.size));go_wp2_with fail;go_roundg (gk-1);case measure=>have:=HR.out;omega
            case rel=>exact⟨k+1,by have:=HR.out;omega,by go_num,HST.out,HBN.out⟩
          |false=>
           have HE:=Hd (HBAD.out (by simp));clear HGOOD HBAD;go_wp2_with fail;refine Dg [eF (.pointer (some ⟨N,3,none⟩)),eF (.slice (some ⟨b1,o1,none⟩) m gc),eF (.int .i64 (k:Nat)),eF (.pointer (some ⟨b1,o1+k*2,none⟩)),eF (.pointer (some ⟨b1,o1+k*2,none⟩)),eF (.int .i64 x1),eF (.pointer (some ⟨N+1,3,none⟩)),eF (.slice (some ⟨b2,o2,none⟩) m gc2),eF (.int .i64 (k:Nat)),eF (.pointer (some ⟨b2,o2+k*2,none⟩)),eF (.pointer (some ⟨b2,o2+k*2,none⟩)),eF (.int .i64 x2),eF (.bool false),eF (.bool false),eF (.pointer (some ⟨N,3,none⟩)),eF (.slice (some ⟨b1,o1,none⟩) m gc),eF (.int .i64 (k:Nat)),eF (.pointer (some ⟨b1,o1+k*2,none⟩)),eF (.pointer (some ⟨b1,o1+k*2+1,none⟩)),eF (.slice u1 v1 t1),eF (.pointer (some ⟨N+1,3,none⟩)),eF (.slice (some ⟨b2,o2,none⟩) m gc2),eF (.int .i64 (k:Nat)),eF (.pointer (some ⟨b2,o2+k*2,none⟩)),eF (.pointer (some ⟨b2,o2+k*2+1,none⟩)),eF (.slice u2 v2 t2),eF (.bool false),eF (.bool true),eF (.bool true)] (by kernel_rfl) (by kernel_rfl) (by kernel_rfl) (kE (kE (kE (kE (kE (kE (kE (kE (kE (kE (kE (kE (kE (kE (kE (kE (kE (kE (kE (kE (kE (kE (kE (kE (kE (kE (kE (kE (kE Ai))))))))))))))))))))))))))))) ?_ ?_
           ·refine gQ ?_ (gQ ?_ (gQ ?_ (gQ ?_ (gQ ?_ (gB ?_ (gQ ?_ (gB ?_ (gQ ?_ (gQ ?_ (gQ ?_ (gB ?_ (gQ ?_ (gQ ?_ (gQ ?_ (gQ ?_ (gQ ?_ (gQ ?_ (gQ ?_ (gB ?_ (gQ ?_ (gB ?_ (gQ ?_ (gQ ?_ (gQ ?_ (gB ?_ (gB ?_ (gQ ?_ (gQ ?_ .nil))))))))))))))))))))))))))));all_goals
             intro a wx hbx ho hf;refine⟨by first|rfl|exact Ak rfl rfl rfl hf.1|exact Ak rfl rfl rfl hf.2.1|exact Ak rfl rfl rfl hf.2.2.1,?_⟩;intro K hK;try have P2:a.tmps[2]?.getD undef=.pointer (some ⟨N,0,none⟩):=ho 2 (by kernel_rfl)
             try have P3:a.tmps[3]?.getD undef=.pointer (some ⟨N+1,0,none⟩):=ho 3 (by kernel_rfl)
             try have P6:a.tmps[6]?.getD undef=.int .i64 (k:Nat):=ho 6 (by kernel_rfl)
             try have E0:=eqn hf.1
             try have E1:=eqn hf.2.1
             try have D0:=(hbx.cell (p:=⟨N,3,none⟩) hNl).trans c3
             try(refine Hd ?_;go_simp;exact hK _ rfl)
            ·have d1:=(hbx.cell (p:=⟨b1,o1+k*2,none⟩) hb1).trans cx1;go_simp;exact hK _ _ rfl bR
            ·have d1:=(hbx.cell (p:=⟨N+1,3,none⟩) hNl2).trans e3;go_simp;exact hK _ _ rfl bR
            ·have d1:=(hbx.cell (p:=⟨b2,o2+k*2,none⟩) hb2).trans cx2;go_simp;exact hK _ _ rfl bR
            ·have d1:=(hbx.cell (p:=⟨b1,o1+k*2+1,none⟩) hb1).trans cu1;go_simp;exact hK _ _ rfl bR
            ·have d1:=(hbx.cell (p:=⟨N+1,3,none⟩) hNl2).trans e3;go_simp;exact hK _ _ rfl bR
            ·have d1:=(hbx.cell (p:=⟨b2,o2+k*2+1,none⟩) hb2).trans cu2;go_simp;exact hK _ _ rfl bR
            ·go_simp;refine(HSN.out wx (HW.out.trans (hbx.mono HW.out.size))).mono ?_;rintro e w2 ⟨rfl,n9,rfl⟩;exact hK _ _ rfl (Aa bR _)
           ·rintro f w9 hb9 hfin;have hb9:Below wr.heap.size wr w9:=hb9;have S108:f 108=.bool true:=hfin.2.2.2.2.2.2.2.2.2.2.2.2.2.2.2.2.2.2.2.2.2.2.2.2.2.2.2.2.1;clear hfin;simp only[Al,Au,En,cS,cT,cU,cV,Nat.reduceBEq,Nat.reduceAdd,cW,cX,cond_true,cond_false];rw[S108];clear S108;have HBN:=Hd (HW.out.trans (hb9.mono HW.out.size));go_wp2_with fail;go_ret;exact⟨Ek HE.out,HBN.out⟩
         ·have hx':(x1 !=x2)=true:=(by simp[hx]);have HE:=Hd (HBAD.out (by rw[decide_eq_false hx];rfl));clear hx HGOOD HBAD;go_wp2_with fail;refine Dg [eF (.pointer (some ⟨N,3,none⟩)),eF (.slice (some ⟨b1,o1,none⟩) m gc),eF (.int .i64 (k:Nat)),eF (.pointer (some ⟨b1,o1+k*2,none⟩)),eF (.pointer (some ⟨b1,o1+k*2,none⟩)),eF (.int .i64 x1),eF (.pointer (some ⟨N+1,3,none⟩)),eF (.slice (some ⟨b2,o2,none⟩) m gc2),eF (.int .i64 (k:Nat)),eF (.pointer (some ⟨b2,o2+k*2,none⟩)),eF (.pointer (some ⟨b2,o2+k*2,none⟩)),eF (.int .i64 x2),eF (.bool true),eF (.bool true),eF undef,eF undef,eF undef,eF undef,eF undef,eF undef,eF undef,eF undef,eF undef,eF undef,eF undef,eF undef,eF undef,eF undef,eF (.bool true)] (by kernel_rfl) (by kernel_rfl) (by kernel_rfl) (kE (kE (kE (kE (kE (kE (kE (kE (kE (kE (kE (kE (kE (kE (kE (kE (kE (kE (kE (kE (kE (kE (kE (kE (kE (kE (kE (kE (kE Ai))))))))))))))))))))))))))))) ?_ ?_
          ·refine gQ ?_ (gQ ?_ (gQ ?_ (gQ ?_ (gQ ?_ (gB ?_ (gQ ?_ (gB ?_ (gQ ?_ (gQ ?_ (gQ ?_ (gB ?_ (gQ ?_ (gQ ?_ (fO rfl rfl rfl rfl rfl rfl (fun _ _ hf=>hf.1) rfl (fO rfl rfl rfl rfl rfl rfl (fun _ _ hf=>hf.2.1) rfl (fO rfl rfl rfl rfl rfl rfl (fun _ _ hf=>hf.1) rfl (fO rfl rfl rfl rfl rfl rfl (fun _ _ hf=>hf.2.2.1) rfl (fO rfl rfl rfl rfl rfl rfl (fun _ _ hf=>hf.2.1) rfl (fO rfl rfl rfl rfl rfl rfl (fun _ _ hf=>hf.2.1) rfl (fO rfl rfl rfl rfl rfl rfl (fun _ _ hf=>hf.1) rfl (fO rfl rfl rfl rfl rfl rfl (fun _ _ hf=>hf.2.1) rfl (fO rfl rfl rfl rfl rfl rfl (fun _ _ hf=>hf.1) rfl (fO rfl rfl rfl rfl rfl rfl (fun _ _ hf=>hf.2.2.1) rfl (fO rfl rfl rfl rfl rfl rfl (fun _ _ hf=>hf.2.1) rfl (fO rfl rfl rfl rfl rfl rfl (fun _ _ hf=>hf.2.1) rfl (fO rfl rfl rfl rfl rfl rfl (fun _ _ hf=>hf.2.2.1) rfl (fO rfl rfl rfl rfl rfl rfl (fun _ _ hf=>hf.2.1) rfl (gQ ?_ .nil))))))))))))))))))))))))))));all_goals
            intro a wx hbx ho hf;refine⟨rfl,?_⟩;intro K hK;try have P2:a.tmps[2]?.getD undef=.pointer (some ⟨N,0,none⟩):=ho 2 (by kernel_rfl)
            try have P3:a.tmps[3]?.getD undef=.pointer (some ⟨N+1,0,none⟩):=ho 3 (by kernel_rfl)
            try have P6:a.tmps[6]?.getD undef=.int .i64 (k:Nat):=ho 6 (by kernel_rfl)
            try have E0:=eqn hf.1
            try have E1:=eqn hf.2.1
            try have D0:=(hbx.cell (p:=⟨N,3,none⟩) hNl).trans c3
            try(refine Hd ?_;go_simp;exact hK _ rfl)
           ·have d1:=(hbx.cell (p:=⟨b1,o1+k*2,none⟩) hb1).trans cx1;go_simp;exact hK _ _ rfl bR
           ·have d1:=(hbx.cell (p:=⟨N+1,3,none⟩) hNl2).trans e3;go_simp;exact hK _ _ rfl bR
           ·have d1:=(hbx.cell (p:=⟨b2,o2+k*2,none⟩) hb2).trans cx2;go_simp;exact hK _ _ rfl bR
          ·rintro f w9 hb9 hfin;have hb9:Below wr.heap.size wr w9:=hb9;have S108:f 108=.bool true:=hfin.2.2.2.2.2.2.2.2.2.2.2.2.2.2.2.2.2.2.2.2.2.2.2.2.2.2.2.2.1;clear hfin;simp only[Al,Au,En,cS,cT,cU,cV,Nat.reduceBEq,Nat.reduceAdd,cW,cX,cond_true,cond_false];rw[S108];clear S108;have HBN:=Hd (HW.out.trans (hb9.mono HW.out.size));go_wp2_with fail;go_ret;exact⟨Ek HE.out,HBN.out⟩
        ·obtain rfl:k=m:=(by have:=HR.out;omega);have hlt':decide (k<k)=false:=decide_eq_false hlt;have HE:=Hd (HY.out HALO.out HALL.out);clear hlt;go_wp2_with fail;go_ret;exact⟨Ek HE.out,HW.out⟩
    ·have q4':((m:Int) !=(m2:Int))=true:=(by simp;omega);have HE:=Hd (HNO.out fun h=>q4 h.2.2.2);clear q4;go_enter Tryz.func24,Tryz.ntmps24;go_wp2_with fail;rw[←HH.out,←HWE.out];go_wp2_with fail;go_ret;exact⟨Ek HE.out,by rw[HH.out];exact HB1.out⟩
   ·have q3':((n:Int) !=(n2:Int))=true:=(by simp;omega);have HE:=Hd (HNO.out fun h=>q3 h.2.2.1);clear q3;go_enter Tryz.func24,Tryz.ntmps24;go_wp2_with fail;rw[←HH.out,←HWE.out];go_wp2_with fail;go_ret;exact⟨Ek HE.out,by rw[HH.out];exact HB1.out⟩
  ·have q2':(ow !=ow2)=true:=(by simp[q2]);have HE:=Hd (HNO.out fun h=>q2 h.2.1);clear q2;go_enter Tryz.func24,Tryz.ntmps24;go_wp2_with fail;rw[←HH.out,←HWE.out];go_wp2_with fail;go_ret;exact⟨Ek HE.out,by rw[HH.out];exact HB1.out⟩
 ·have q1':(lv !=lv2)=true:=(by simp[q1]);have HE:=Hd (HNO.out fun h=>q1 h.1);clear q1;go_enter Tryz.func24,Tryz.ntmps24;go_wp2_with fail;rw[←HH.out,←HWE.out];go_wp2_with fail;go_ret;exact⟨Ek HE.out,by rw[HH.out];exact HB1.out⟩
end Go.Proofs.YtfofaiommeckbaaGreat
