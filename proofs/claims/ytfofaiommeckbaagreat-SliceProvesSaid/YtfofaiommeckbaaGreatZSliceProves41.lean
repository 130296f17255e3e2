import Derived.Test.YtfofaiommeckbaaGreatZSliceProves40
open Go.Value renaming slice → q9, int → rA, pointer → rB
open Go.IntKind renaming i64 → rC
open Option renaming none → rF
open Go.Proofs.Tryz
open List renaming map_nil → iD, getD_eq_getElem?_getD → aH, getElem?_eq_getElem → aI, map_append → eI, pairwise_map → iE, take_length → cE, getElem_mem → aJ, replicate → cI, getElem?_toArray → bZ, getElem?_cons_zero → cA, getElem?_cons_succ → cB, filterMap_cons → cX, filterMap_nil → cY, contains_cons → cZ, contains_nil → dA, range → aF, flatMap_def → gJ, map_congr_left → gK
open Int renaming toNat_natCast → dG, toNat → iF
open Nat renaming le_trans → bM, le_refl → eA, lt_of_lt_of_le → dS, le_succ → gG, lt_succ_self → dE, not_lt_zero → iG, succ_le_of_lt → hQ, le_of_lt → dW, zero_le → aA, pow_succ → aN
open Bool renaming or_false → dB, or_true → dC, and_eq_true → cJ
set_option linter.unusedVariables false
set_option maxRecDepth 100000
set_option maxHeartbeats 40000000
namespace Go.Proofs.YtfofaiommeckbaaGreat
open Go.RowKit Go.Maps WalkM WireM
def atT (t:List NodeD)(x:Nat):Option NodeD:=if x<t.length then some (nd t x)else none
def GF (OL:List Nat)(val:Nat→Value)(r:Nat)(y:Int):Option Value:=if y∈(OL.take r).map (fun m:Nat=>(m:Int))then some (val y.toNat)else none
theorem Zft (OL:List Nat)(val:Nat→Value):GF OL val 0=fun _=>none:=by
 funext y;unfold GF;rw[List.take_zero,iD,if_neg (by simp)]
theorem Zfu {a:List Nat} {val:Nat→Value} {r:Nat}(h:r<a.length):(fun y:Int=>if y=((a.getD r 0:Nat):Int)then some (val (a.getD r 0))else GF a val r y)=GF a val (r+1):=by
 have e:a.getD r 0=a[r]:=by rw[aH,aI h];rfl
 funext y
 unfold GF;rw[List.take_succ_eq_append_getElem h,eI,e]
 by_cases hy:y=((a[r]:Nat):Int)
 ·rw[if_pos hy,if_pos (by simp[hy]),hy,dG]
 ·rw[if_neg hy]
  by_cases h2:y∈(a.take r).map (fun m:Nat=>(m:Int))
  ·rw[if_pos h2,if_pos (List.mem_append_left _ h2)]
  ·rw[if_neg h2,if_neg (fun h3=>by
    rw[List.mem_append]at h3;rcases h3 with h3|h3
    ·exact h2 h3
    ·exact hy (by simpa using h3))]
theorem Zfv {OL:List Nat} {val:Nat→Value}(h:OL.Pairwise (· < ·)):Df (GF OL val OL.length) (OL.map fun m:Nat=>(m:Int)):=by
 refine⟨by rw[iE];exact h.imp fun h=>by omega,fun x=> ?_⟩;unfold GF;rw[cE]
 by_cases hx:x∈OL.map (fun m:Nat=>(m:Int))
 ·rw[if_pos hx];simp[hx]
 ·rw[if_neg hx];simp[hx]
theorem Zm1 {OL:List Nat} {val:Nat→Value} {x:Nat}(h:x∈OL):GF OL val OL.length ((x:Nat):Int)=some (val x):=by
 unfold GF;rw[cE,if_pos (List.mem_map.2 ⟨x,h,rfl⟩),dG]
theorem Zi9 {w w':World} {g:Nat} {T:TypeId} {cs:Array Value} {u:Value} {L:List Nat}(h:Rd w u (bvs L))(p:Blk w g T cs)(f:∀z∈cs.toList,∀k:Int,z≠ rA .u8 k)(n:Only g w w'):Rd w' u (bvs L):=by
 obtain⟨a,cap,rfl,h1,h2,h3⟩:=h;refine⟨a,cap,rfl,h1,h2,?_⟩;rcases h3 with h3|⟨b,c,rfl,m⟩
 ·exact .inl h3
 ·cases L with
  |nil=>exact .inr ⟨b,c,rfl,fun j u l=>by simp[bvs]at l⟩
  |cons x L=>
   have d:=m 0 (rA .u8 (x:Nat)) (by simp[bvs]);have o:=World.block_lt_of_cell? w _ d;have i:b≠g:=by
    intro e;subst e;rw[p.cell]at d;exact f _ (Array.mem_toList_iff.2 (Array.mem_of_getElem? d)) x rfl
   refine .inr ⟨b,c,rfl,fun j u l=> ?_⟩;have:=m j u l;have e:=n.block b o (fun e=>i (by cases e;rfl));simp only[World.cell?]at this⊢;rw[e];exact this
theorem Zfw (a:World)(b:Array Value)(M i:Nat)(h0:Nat)(c:h0=a.heap.size):
  MapF ((((a.alloc (.cells b 44)).alloc (.map #[] 0)).alloc (.map #[] 0)).alloc (.cells #[rA rC (M:Nat),rA rC (i:Nat),.map (some (h0+1)),.map (some (h0+1+1))] 101)) (h0+1) 0 (fun _=>none)∧
  MapF ((((a.alloc (.cells b 44)).alloc (.map #[] 0)).alloc (.map #[] 0)).alloc (.cells #[rA rC (M:Nat),rA rC (i:Nat),.map (some (h0+1)),.map (some (h0+1+1))] 101)) (h0+1+1) 0 (fun _=>none)∧
  Blk ((((a.alloc (.cells b 44)).alloc (.map #[] 0)).alloc (.map #[] 0)).alloc (.cells #[rA rC (M:Nat),rA rC (i:Nat),.map (some (h0+1)),.map (some (h0+1+1))] 101)) (h0+1+1+1) 101 #[rA rC (M:Nat),rA rC (i:Nat),.map (some (h0+1)),.map (some (h0+1+1))]∧
  Below h0 a ((((a.alloc (.cells b 44)).alloc (.map #[] 0)).alloc (.map #[] 0)).alloc (.cells #[rA rC (M:Nat),rA rC (i:Nat),.map (some (h0+1)),.map (some (h0+1+1))] 101))∧
  ((((a.alloc (.cells b 44)).alloc (.map #[] 0)).alloc (.map #[] 0)).alloc (.cells #[rA rC (M:Nat),rA rC (i:Nat),.map (some (h0+1)),.map (some (h0+1+1))] 101)).heap.size=h0+1+1+1+1:=by
 subst c;refine⟨?_,?_,?_,?_,by simp⟩
 ·have:=((MapF.made (a.alloc (.cells b 44))).alloc (.map #[] 0)).alloc (.cells #[rA rC (M:Nat),rA rC (i:Nat),.map (some (a.heap.size+1)),.map (some (a.heap.size+1+1))] 101);simpa using this
 ·have:=(MapF.made ((a.alloc (.cells b 44)).alloc (.map #[] 0))).alloc (.cells #[rA rC (M:Nat),rA rC (i:Nat),.map (some (a.heap.size+1)),.map (some (a.heap.size+1+1))] 101);simpa using this
 ·have:=Blk.new (((a.alloc (.cells b 44)).alloc (.map #[] 0)).alloc (.map #[] 0)) 101 #[rA rC (M:Nat),rA rC (i:Nat),.map (some (a.heap.size+1)),.map (some (a.heap.size+1+1))];simpa using this
 ·exact(((bR.alloc lR _).alloc (by simp) _).alloc (by simp;omega) _).alloc (by simp;omega) _
theorem Zfx (v:Value) (t:List NodeD) (hh m d:Nat) (only:Bool) (F A:List Nat) (w:World) (h:TreeR w v t) (hs:Bc t=true) (a5:TreeOk t) (hr:Bi t=true) (aO:t.length=2*hh+1) (dY:Ap t.length=hh+1) (hd:d≤16) (cV:hh+1=2^d) (Q:((m:Nat):Int)∈Dk t (hh+1))
  (eO:(By (atT t) m only d (2^d-1) 0 []).1=F.map fun m:Nat=>(m:Int)) (eS:(By (atT t) m only d (2^d-1) 0 []).2.1=A.map fun m:Nat=>(m:Int)) (dM:F.Pairwise (· < ·)) (dP:A.Pairwise (· < ·))
  (hO:∀x∈F,x<t.length) (hS:∀x∈A,x<t.length) (eB:F.length≤100000) (d5:A.length≤100000):
  Calls prog 74 #[v,rA rC (m:Nat),.bool only] w fun e w'=>∃ob sb G G2,e=.returned (.tuple #[.agg #[rA rC ((2^d:Nat):Int),rA rC (m:Nat),.map (some ob),.map (some sb)],rA .u8 0])∧
   MapF w' ob F.length G∧Df G (F.map fun m:Nat=>(m:Int))∧(∀x∈F,∃c,G ((x:Nat):Int)=some (.agg c)∧NodeC w' (nd t x) c)∧MapF w' sb A.length G2∧Df G2 (A.map fun m:Nat=>(m:Int))∧(∀x∈A,∃u,G2 ((x:Nat):Int)=some u∧Rd w' u (bvs (Cx (nd t) x)))∧Below w.heap.size w w':=by
 have eH:=Bg hs;have e4:=((mem_iff t (hh+1) m).1 Q).1;obtain⟨a,cp,rfl,hc,eG⟩:=h.sl;obtain⟨b,s,-,rfl,b6,-,-⟩:=h.node (i:=0) (by omega);obtain⟨C0,cP⟩:=Fi (n:=t.length) (P:=fun i c=>NodeC w (nd t i) c∧w.rangeAt b (s+i*10) c.toList) fun i Q=>by
  obtain⟨b',off',c,h1,h2,h3,h4⟩:=h.node Q;cases h1;exact⟨c,h3,h4⟩
 obtain⟨C,a3⟩:∃C:Nat→Array Value,C=fun i=>if i<t.length then C0 i else#[rA .u8 0,q9 rF 0 0,q9 rF 0 0,q9 rF 0 0,rA .u8 0,q9 rF 0 0,q9 rF 0 0,q9 rF 0 0,q9 rF 0 0,q9 rF 0 0]:=⟨_,rfl⟩;have hC:∀i,i<t.length→NodeC w (nd t i) (C i)∧w.rangeAt b (s+i*10) (C i).toList:=fun i Q=>(by rw[a3];simp only[if_pos Q];exact cP i Q);have R:∀i,∃c0 c1 c2 c3 c4 c5 c6 c7 c8 c9,C i=#[c0,c1,c2,c3,c4,c5,c6,c7,c8,c9]:=fun i=>by
  by_cases Q:i<t.length
  ·exact(hC i Q).1.ten
  ·rw[a3];simp only[if_neg Q];exact⟨_,_,_,_,_,_,_,_,_,_,rfl⟩
 have aT:∀i,(C i).toList.all (·.oneCell')=true:=fun i=>by
  by_cases Q:i<t.length
  ·exact(hC i Q).1.oneL
  ·rw[a3];simp only[if_neg Q];rfl
 have a9:∀x d,atT t x=some d→x<t.length∧d=nd t x:=fun x d hx=>by
  unfold atT at hx
  split at hx
  ·rename_i hx2;cases hx;exact⟨hx2,rfl⟩
  ·cases hx
 have cQ:=Hd fun(W:World) (hw:Below w.heap.size w W)=>Zam _ t W (h.below hw lR) hs a5 hr;have cS:=Hd fun(W:World) (hw:Below w.heap.size w W)=>Zen _ t hh m W (h.below hw lR) hs a5 hr aO dY Q;have a0:=Hd fun(g:Nat) (W:World) (hw:Below w.heap.size w W) (hg:W.cell? ⟨g,0,rF⟩=some (q9 (some ⟨b,s,rF⟩) t.length cp))=>
  Ut 134 g (fun _ _=>rfl) (atT t) C W ⟨R,fun x d hx=>by
   obtain⟨h1,rfl⟩:=a9 x d hx;exact(hC x h1).1.below hw lR,aT,fun x d hx=>by
   obtain⟨h1,rfl⟩:=a9 x d hx;exact(a5.nd x).kind,fun x d hx=>by
   obtain⟨h1,rfl⟩:=a9 x d hx;have:=Cq hs x;unfold Cd at this;have:=of_decide_eq_true this;refine⟨fun u hu=> ?_,by omega⟩;obtain⟨k,rfl,hk⟩:=Vt hr h1 u hu
   omega⟩ d m only (by omega) hd fun x hx W' cH=>by
   have bU:x<t.length:=(by omega);obtain⟨x0,x1,x2,x3,x4,x5,x6,x7,x8,x9,he⟩:=R x;have cT:=(hC x bU).2;have dO:=aT x;rw[he]at cT dO⊢;rw[show(atT t x).isSome=true from by unfold atT;rw[if_pos bU];rfl];have eT:g<W.heap.size:=World.block_lt_of_cell? W _ hg;exact Zfs g b s t.length cp x x0 x1 x2 x3 x4 x5 x6 x7 x8 x9 W' ((cH.cell (p:=⟨g,0,rF⟩) eT).trans hg) bU (Ao cT (hw.trans (cH.mono hw.size)) b6) dO
 rw[eO,eS]at a0;obtain⟨e6,bK⟩:=eX ((By (atT t) m only d (2^d-1) 0 []).2.2);rw[←bK]at a0;obtain⟨M,hM⟩:=eX (2^d);rw[←hM]at a0 cV⊢;obtain⟨n,hn⟩:=eX t.length;rw[←hn]at cQ cS a0 hC hO hS eH aO⊢;have eZ:Int.tdiv ((n:Int)+1) 2=(M:Int):=(by rw[Int.tdiv_eq_ediv_of_nonneg (by omega)];omega);have e8:IntKind.i64.wrap (M:Int)=(M:Int):=(by rw[IntKind.wrap_i64]<;>omega);have e7:IntKind.i64.wrap ((n:Int)+1)=(n:Int)+1:=(by rw[IntKind.wrap_i64]<;>omega);have HC:=Hd hC;have dG:=Hd R;have HO:=Hd (show∀k,k<F.length→F.getD k 0<n from fun k hk=>hO _ (by rw[aH,aI hk];exact aJ hk));have HS:=Hd (show∀k,k<A.length→A.getD k 0<n from fun k hk=>hS _ (by rw[aH,aI hk];exact aJ hk));have eV:=Hd hO;have eC:=Hd hS;have b9:=Hd (Zfv (val:=fun x=> .agg (C x)) dM);have eR:=Hd dP;obtain⟨N,hN⟩:=eX w.heap.size;have HN:=Hd hN;clear cP a3 hC R aT a9 hO hS dM dP eO eS bK hn h hs a5 hr dY Q aO hc eG hM cV;go_enter func74,ntmps74;go_wp2_with fail;obtain⟨w2,aM⟩:=eX ((w.alloc (.cells #[q9 (some ⟨b,s,rF⟩) n cp] 55)).alloc (.cells #[rA rC 0,rA rC 0,.map none,.map none] 101));have bN:=Hd (show Below w.heap.size w w2 from by rw[aM];exact(bR.alloc lR _).alloc (by simp) _);have aZ:=Hd (show Blk w2 N 55 #[q9 (some ⟨b,s,rF⟩) n cp]from by rw[aM,hN];exact(Blk.new _ _ _).alloc _);have aS:=Hd (show Blk w2 (N+1) 101 #[rA rC 0,rA rC 0,.map none,.map none]from by
  rw[aM,hN];have:=Blk.new (w.alloc (.cells #[q9 (some ⟨b,s,rF⟩) n cp] 55)) 101 #[rA rC 0,rA rC 0,.map none,.map none];simpa using this)
 rw[←aM,←hN];clear aM hN;refine(cQ.out _ bN.out).mono ?_;rintro e w3 ⟨ga,eL,rfl,aL,a7⟩;have a8:=Hd (bN.out.trans (a7.mono bN.out.size));have aC:=Hd (aZ.out.below a7 aZ.out.lt);have bI:=Hd (aS.out.below a7 aS.out.lt);obtain⟨U,hU⟩:=Fi (n:=n) (P:=fun y u=>w3.cell? ⟨ga,y,rF⟩=some u∧Rd w3 u (bvs (Cx (nd t) y))) fun y hy=>by
  obtain⟨u,h1,h2,-⟩:=aL.row hy rfl;exact⟨u,h1,h2⟩
 have dF:=Hd (show ga<w3.heap.size from aL.lt);have HU:=Hd hU;have c0:w3.cell? ⟨N,0,rF⟩=some (q9 (some ⟨b,s,rF⟩) n cp):=aC.out.cell 0;clear a7 eL aL hU aZ aS;go_wp2_with fail;clear c0;refine(cS.out _ a8.out).mono ?_;rintro e w4 ⟨c6,rfl,eM,aP⟩;have cE:=Hd (a8.out.trans (aP.mono a8.out.size));have aX:=Hd aP;have aY:=Hd (aC.out.below aP aC.out.lt);have aA:=Hd (bI.out.below aP bI.out.lt);obtain⟨y1,z1,y2,z2,y3,z3,y4,z4,y5,z5,rfl,-⟩:=eM;have k1:(w4.alloc (.cells #[.slice y1 (nd t (2*m)).leaf.box.length z1,.slice y2 (nd t (2*m)).leaf.sign.length z2,.slice y3 (nd t (2*m)).leaf.ident.length z3,rA .u8 ((nd t (2*m)).leaf.source:Nat),.slice y4 (nd t (2*m)).leaf.par.length z4,.slice y5 (nd t (2*m)).leaf.sig.length z5] 44)).cell? ⟨N,0,rF⟩=some (q9 (some ⟨b,s,rF⟩) n cp):=(aY.out.alloc _).cell 0;have eN:∀w,(Instr.makeMap 98 none).run prog w=.ok (.map (some w.heap.size)) (w.alloc (.map #[] 0)):=fun w=>rfl;have d9:∀w,(Instr.makeMap 99 none).run prog w=.ok (.map (some w.heap.size)) (w.alloc (.map #[] 0)):=fun w=>rfl;clear aP;go_wp2_with fail;obtain⟨h0,H⟩:=eX w4.heap.size;have dR:=Zfw w4 #[.slice y1 (nd t (2*m)).leaf.box.length z1,.slice y2 (nd t (2*m)).leaf.sign.length z2,.slice y3 (nd t (2*m)).leaf.ident.length z3,rA .u8 ((nd t (2*m)).leaf.source:Nat),.slice y4 (nd t (2*m)).leaf.par.length z4,.slice y5 (nd t (2*m)).leaf.sig.length z5] M m h0 H;rw[←H];generalize hw7:((((w4.alloc (.cells #[.slice y1 (nd t (2*m)).leaf.box.length z1,.slice y2 (nd t (2*m)).leaf.sign.length z2,.slice y3 (nd t (2*m)).leaf.ident.length z3,rA .u8 ((nd t (2*m)).leaf.source:Nat),.slice y4 (nd t (2*m)).leaf.par.length z4,.slice y5 (nd t (2*m)).leaf.sig.length z5] 44)).alloc (.map #[] 0)).alloc (.map #[] 0)).alloc (.cells #[rA rC (M:Nat),rA rC (m:Nat),.map (some (h0+1)),.map (some (h0+1+1))] 101))=w7 at dR⊢;obtain⟨m1,m2,m3,m4,m5⟩:=dR;have HH:=Hd H;have a6:=Hd (cE.out.trans (m4.mono (by rw[H];exact cE.out.size)));have S:=Hd (aY.out.below m4 (by rw[H];exact aY.out.lt));have aV:=Hd (aA.out.below m4 (by rw[H];exact aA.out.lt));have dN:=Hd m4;have aW:=Hd m1;have aN:=Hd m2;have O:=Hd m3;have J:=Hd m5;obtain⟨pv,a4⟩:=eX (h0+1+1+1);obtain⟨sb,aU⟩:=eX (h0+1+1);obtain⟨ob,aF⟩:=eX (h0+1);rw[←a4,←aU,←aF]at O;rw[←aU]at aN;rw[←aF]at aW;rw[←a4,←aU,←aF];have HI:=Hd (And.intro a4 (And.intro aU aF));have dL:N+1<w4.heap.size:=aA.out.lt;have bL:=Hd (show N+1<h0 from by rw[H];exact dL);clear hw7 m1 m2 m3 m4 m5 k1 eN d9 H a4 aU aF dL;refine(a0.out N w7 a6.out (S.out.cell 0)).mono ?_;rintro e w8 ⟨vo,vs,rfl,bV,b4,E⟩;obtain⟨a1,c1,rfl,-⟩:=Mb bV.rd;obtain⟨a2,c2,rfl,-⟩:=Mb b4.rd;have T:=Hd bV;have Z:=Hd b4;have bG:=Hd (aW.out.below E lR);have bJ:=Hd (aN.out.below E lR);have aR:=Hd (O.out.below E O.out.lt);have bF:=Hd (S.out.below E S.out.lt);have bH:=Hd (aV.out.below E aV.out.lt);have bX:=Hd (a6.out.trans (E.mono a6.out.size));have cU:=Hd (show Below w3.heap.size w3 w8 from by
  have h1:=aX.out.trans (dN.out.mono (by rw[HH.out];exact aX.out.size));exact h1.trans (E.mono h1.size))
 have bB:=Hd E.size;have H3:=Hd (show w3.heap.size≤h0 from by rw[HH.out];exact aX.out.size);have bY:=Hd (show w.heap.size≤h0 from bM a8.out.size H3.out);obtain⟨no,b5⟩:=eX F.length;obtain⟨X,bT⟩:=eX A.length;rw[←b5]at T HO eB b9⊢;rw[←bT]at Z HS d5⊢;have bA:=Hd b5;have aD:=Hd bT;clear bV b4 E b5 bT O S aV aW aN a6;go_wp2_with fail;obtain⟨val,aE⟩:∃val:Nat→Value,val=fun x=> .agg (C x):=⟨_,rfl⟩;have bC:=Hd (show∀x,val x=.agg (C x)from fun x=>by rw[aE]);rw[←aE]at b9;clear aE
 go_loopg [58] no (fun gk iv wr=>∃(r:Nat),r+gk=no∧iv=rA rC (r:Nat)∧MapF wr ob r (GF F val r)∧Only ob w8 wr)
 case atStart=>exact⟨0,by omega,rfl,by rw[Zft];exact bG.out,Only.refl _ _⟩
 case round=>
  obtain⟨r,hr,rfl,o,j⟩:=hrel;have HR:=Hd hr;have HM:=Hd o;have l:=Hd j;clear hr o j;obtain⟨e1,e2,e3⟩:=HI.out;have h8:=bB.out;rw[J.out]at h8;have aG:=bL.out;have L:=Hd (aR.out.grownR l.out (by omega));have b7:=Hd (bF.out.grownR l.out (by omega));have cG:=Hd (T.out.grown l.out (fun g hg e=>by have:=(T.out.blockLt hg).2;rw[J.out]at this;cases e;omega));have D:=Hd (Only.below l.out (eA ob) (by omega));have dW:=Hd (show b<wr.heap.size from dS b6 (bM bX.out.size D.out.size));have dE:=Hd (show b<ob from by have:=bY.out;omega);clear e1 e2 e3 h8 aG
  by_cases hlt:r<no
  ·have cK:decide (r<no)=true:=decide_eq_true hlt;have cM:(r:Int)<(no:Int):=(by omega);obtain⟨b1,o1,rfl,dK,cx⟩:=Ta cG.out.rd (show r<F.length from by rw[←bA.out];exact hlt);have hx:=HO.out r hlt;have V:=Hd (Zfu (val:=val) (show r<F.length from by rw[←bA.out];exact hlt));obtain⟨x,aB⟩:=eX (F.getD r 0);rw[←aB]at cx hx V;have d7:(x:Int)<(n:Int):=(by omega);obtain⟨eK,bQ⟩:=HC.out x hx;obtain⟨x0,x1,x2,x3,x4,x5,x6,x7,x8,x9,bO⟩:=dG.out x;rw[bC.out,bO]at V;rw[bO]at bQ;have eI:=Hd (Ao (Ao bQ bX.out b6) D.out dE.out);have bW:=Hd (show inI (x:Int)from by unfold inI;omega);have bS:=Hd (show r≤100000 from by omega);clear aB eK bQ bO dK;go_wp2_with fail;refine Au [eF (rB (some ⟨pv,2,rF⟩)),eF (.map (some ob)),eF (rA rC (x:Nat)),eF (q9 (some ⟨b,s,rF⟩) n cp),eF (rA rC (x:Nat)),eF (rB (some ⟨b,s+x*10,rF⟩)),eF (.agg #[x0,x1,x2,x3,x4,x5,x6,x7,x8,x9]),fun v w'=>MapF w' ob (r+1) (fun y=>if y=((x:Nat):Int)then some (.agg #[x0,x1,x2,x3,x4,x5,x6,x7,x8,x9])else GF F val r y)∧Only ob wr w']
    ((cI 8 false).set 7 true) (fun x=>Below wr.heap.size wr x) (fun x y=>Below x.heap.size x y) none 7 (by kernel_rfl) ?_ (⟨rfl,rfl,rfl,lR,fun _ _=>rfl⟩) (fun x y _ h=>h) (fun x y hx hs=>hx.trans (hs.mono hx.size)) (by kernel_rfl) (by kernel_rfl) (by kernel_rfl) ?_ ?_
   ·exact kE (kE (kE (kE (kE (kE (kE (Ai (fun _ _ _ _ _ _=>trivial) (Ah))))))))
   ·refine Na (by kernel_rfl) ?_ rfl (Na (by kernel_rfl) ?_ rfl (Na (by kernel_rfl) ?_ rfl (Na (by kernel_rfl) ?_ rfl (Na (by kernel_rfl) ?_ rfl (Na (by kernel_rfl) ?_ rfl (Md (by kernel_rfl) ?_ (Md (by kernel_rfl) ?_ .nil)))))));all_goals
     intro a wx q d3 ho hf;have q:Below wr.heap.size wr wx:=q;refine⟨rfl,?_⟩;intro K hK;try have e5:a.tmps[3]?.getD undef=rB (some ⟨N,0,rF⟩):=ho 3 (by kernel_rfl)
     try have dD:a.tmps[12]?.getD undef=rB (some ⟨pv,0,rF⟩):=ho 12 (by kernel_rfl)
     try have e0:a.tmps[17]?.getD undef=rA rC (x:Nat):=ho 17 (by kernel_rfl)
     try have dT:=eqn hf.1
     try have eQ:=eqn hf.2.1
     try have eD:=eqn hf.2.2.1
     try(have b8:=(q.cell (p:=⟨pv,2,rF⟩) L.out.lt).trans (L.out.cell 2);simp only[bZ,cA,cB]at b8)
     try(have cF:=(q.cell (p:=⟨N,0,rF⟩) b7.out.lt).trans (b7.out.cell 0);simp only[bZ,cA]at cF)
     try have cD:=HM.out.below q lR
     try(refine Hd ?_;go_simp;exact hK _ rfl)
    ·exact wp_load_mid 52 (.tmp 67) rfl b (s+x*10) (evs dT) _ _ (Ao eI.out q dW.out) underlying52 rfl (Ak) (hK _ _ rfl (fun _=>Af rfl bR))
    ·obtain⟨w',cR,o,cC⟩:=cD.run_put underlying98 bW.out (by have:=bS.out;unfold maxLen;omega) (.agg #[x0,x1,x2,x3,x4,x5,x6,x7,x8,x9]);have j:=(Only.of (B:=ob) q).trans cC;go_simp;exact hK undef _ ⟨o,j⟩ (fun h=>absurd rfl h)
   ·rintro f w9 I;have d2:MapF w9 ob (r+1) (fun y=>if y=((x:Nat):Int)then some (.agg #[x0,x1,x2,x3,x4,x5,x6,x7,x8,x9])else GF F val r y)∧Only ob wr w9:=I.2.2.2.2.2.2.2.1;clear I;simp only[Am,Az,Ex,cX,cY,cZ,dA,Nat.reduceBEq,Nat.reduceAdd,dB,dC,cond_true,cond_false];obtain⟨o,j⟩:=d2;rw[V.out]at o;have b0:=Hd o;have aQ:=Hd (l.out.trans j);clear o j;go_wp2_with fail;go_roundg (gk-1);case measure=>have:=HR.out;omega
    case rel=>exact⟨r+1,by have:=HR.out;omega,by go_num,b0.out,aQ.out⟩
  ·obtain rfl:no=r:=(by have:=HR.out;omega);have cK:decide (no<no)=false:=decide_eq_false hlt;clear hlt;go_wp2_with fail;obtain⟨w5,dZ⟩:=eX wr;rw[←dZ]at HM l D⊢;clear L b7 cG dW dE;obtain⟨e1,e2,e3⟩:=HI.out;have h8:=bB.out;rw[J.out]at h8;have aG:=bL.out;have h3:=H3.out;have b3:=bY.out;have d8:=Hd HM.out;have dI:=Hd (bJ.out.grown l.out (fun e=>by cases e;omega));have dH:=Hd (aR.out.grownR l.out (by omega));have cJ:=Hd (bH.out.grownR l.out (by omega));have bE:=Hd (Z.out.grown l.out (fun g hg e=>by have:=(Z.out.blockLt hg).2;rw[J.out]at this;cases e;omega));have dX:=Hd (cU.out.trans (D.out.mono (by omega)));have dJ:=Hd (bX.out.trans (D.out.mono (by omega)));have eU:=Hd (show pv+1≤w5.heap.size from by have:=D.out.size;omega);clear dZ e1 e2 e3 h8 aG h3 b3 HM l D HR bG bJ aR bF bH T;go_wp2_with fail
   go_loopg [72] X (fun gk iv wr=>∃(r:Nat),r+gk=X∧iv=rA rC (r:Nat)∧MapF wr sb r (GF A U r)∧Only sb w5 wr)
   case atStart=>exact⟨0,by omega,rfl,by rw[Zft];exact dI.out,Only.refl _ _⟩
   case round=>
    obtain⟨r,hr,rfl,o,j⟩:=hrel;have HR:=Hd hr;have HM:=Hd o;have l:=Hd j;clear hr o j;obtain⟨e1,e2,e3⟩:=HI.out;have h5:=eU.out;have aG:=bL.out;have h3:=H3.out;have b3:=bY.out;have h7:w7.heap.size=pv+1:=(by rw[J.out];omega);have L:=Hd (dH.out.grownR l.out (by omega));have cW:=Hd (cJ.out.grownR l.out (by omega));have d4:=Hd (bE.out.grown l.out (fun g hg e=>by have:=(bE.out.blockLt hg).2;cases e;omega));have D:=Hd (Only.below l.out (eA sb) (by omega));have aK:=Hd (dX.out.trans (D.out.mono (by omega)));have dQ:=Hd (dJ.out.trans (D.out.mono (by omega)));have eW:=Hd (show ob≠sb∧ob≠N+1∧sb≠N+1 from by omega);clear e1 e2 e3 h5 aG h3 b3 h7
    by_cases hlt:r<X
    ·have dU:decide (r<X)=true:=decide_eq_true hlt;have cM:(r:Int)<(X:Int):=(by omega);obtain⟨b2,o2,rfl,cL,cx⟩:=Ta d4.out.rd (show r<A.length from by rw[←aD.out];exact hlt);have hx:=HS.out r hlt;have V:=Hd (Zfu (val:=U) (show r<A.length from by rw[←aD.out];exact hlt));obtain⟨x,aB⟩:=eX (A.getD r 0);rw[←aB]at cx hx V;have d7:(x:Int)<(n:Int):=(by omega);have eE:=Hd ((aK.out.cell (p:=⟨ga,x,rF⟩) dF.out).trans (HU.out x hx).1);have eJ:=Hd (show ga<wr.heap.size from dS dF.out aK.out.size);have bW:=Hd (show inI (x:Int)from by unfold inI;omega);have bS:=Hd (show r≤100000 from by omega);clear aB cL;go_wp2_with fail;refine Au [eF (rB (some ⟨pv,3,rF⟩)),eF (.map (some sb)),eF (rA rC (x:Nat)),eF (q9 (some ⟨ga,0,rF⟩) n n),eF (rA rC (x:Nat)),eF (rB (some ⟨ga,x,rF⟩)),eF (U x),fun v w'=>MapF w' sb (r+1) (fun y=>if y=((x:Nat):Int)then some (U x)else GF A U r y)∧Only sb wr w']
      ((cI 8 false).set 7 true) (fun x=>Below wr.heap.size wr x) (fun x y=>Below x.heap.size x y) none 7 (by kernel_rfl) ?_ (⟨rfl,rfl,rfl,lR,fun _ _=>rfl⟩) (fun x y _ h=>h) (fun x y hx hs=>hx.trans (hs.mono hx.size)) (by kernel_rfl) (by kernel_rfl) (by kernel_rfl) ?_ ?_
     ·exact kE (kE (kE (kE (kE (kE (kE (Ai (fun _ _ _ _ _ _=>trivial) (Ah))))))))
     ·refine Na (by kernel_rfl) ?_ rfl (Na (by kernel_rfl) ?_ rfl (Na (by kernel_rfl) ?_ rfl (Na (by kernel_rfl) ?_ rfl (Na (by kernel_rfl) ?_ rfl (Na (by kernel_rfl) ?_ rfl (Na (by kernel_rfl) ?_ rfl (Md (by kernel_rfl) ?_ .nil)))))));all_goals
       intro a wx q d3 ho hf;have q:Below wr.heap.size wr wx:=q;refine⟨rfl,?_⟩;intro K hK;try have e9:a.tmps[8]?.getD undef=q9 (some ⟨ga,0,rF⟩) n n:=ho 8 (by kernel_rfl)
       try have dD:a.tmps[12]?.getD undef=rB (some ⟨pv,0,rF⟩):=ho 12 (by kernel_rfl)
       try have eY:a.tmps[19]?.getD undef=rA rC (x:Nat):=ho 19 (by kernel_rfl)
       try have dT:=eqn hf.1
       try have eQ:=eqn hf.2.1
       try have eD:=eqn hf.2.2.1
       try(have b8:=(q.cell (p:=⟨pv,3,rF⟩) L.out.lt).trans (L.out.cell 3);simp only[bZ,cA,cB]at b8)
       try have cF:=(q.cell (p:=⟨ga,x,rF⟩) eJ.out).trans eE.out
       try have cD:=HM.out.below q lR
       try(refine Hd ?_;go_simp;exact hK _ rfl)
      ·obtain⟨w',cR,o,cC⟩:=cD.run_put underlying99 bW.out (by have:=bS.out;unfold maxLen;omega) (U x);have j:=(Only.of (B:=sb) q).trans cC;go_simp;exact hK undef _ ⟨o,j⟩ (fun h=>absurd rfl h)
     ·rintro f w9 I;have eP:MapF w9 sb (r+1) (fun y=>if y=((x:Nat):Int)then some (U x)else GF A U r y)∧Only sb wr w9:=I.2.2.2.2.2.2.2.1;clear I;simp only[Am,Az,Ex,cX,cY,cZ,dA,Nat.reduceBEq,Nat.reduceAdd,dB,dC,cond_true,cond_false];obtain⟨o,j⟩:=eP;rw[V.out]at o;have b0:=Hd o;have aQ:=Hd (l.out.trans j);clear o j;go_wp2_with fail;go_roundg (gk-1);case measure=>have:=HR.out;omega
      case rel=>exact⟨r+1,by have:=HR.out;omega,by go_num,b0.out,aQ.out⟩
    ·obtain rfl:X=r:=(by have:=HR.out;omega);have dU:decide (X<X)=false:=decide_eq_false hlt;clear hlt;go_wp2_with (first|(refine wpList_load_row rfl 101 (.tmp 12) rfl pv rfl 101 _ (0,0) _ L.out underlying101 rfl (by kernel_rfl) ?_)|(refine Aa rfl 101 (.tmp 6) (.tmp 84) rfl (N+1) #[rA rC (M:Nat),rA rC (m:Nat),.map (some ob),.map (some sb)] rfl rfl 101 _ cW.out (by kernel_rfl) rfl rfl ?_));rintro w9 bD bP d0 d6;have j:Only (N+1) wr w9:=Only.storeQ bP d0;obtain⟨n1,n2,n3⟩:=eW.out;have dV:Below w.heap.size w w9:=dQ.out.trans (bP _ (by rw[←HN.out];exact gG N));have Y:=Hd (show MapF w9 ob no (GF F val no)∧MapF w9 sb X (GF A U X)∧∀x∈A,∃u,GF A U X ((x:Nat):Int)=some u∧Rd w9 u (bvs (Cx (nd t) x))from by
      refine⟨(d8.out.grown l.out (fun e=>by cases e;omega)).grown j (fun e=>by cases e;omega),HM.out.grown j (fun e=>by cases e;omega),fun x hx=>⟨U x,by rw[aD.out];exact Zm1 hx,?_⟩⟩;refine Zi9 ((HU.out x (eC.out x hx)).2.below aK.out lR) cW.out (fun z hz k e=> ?_) j;simp at hz;rcases hz with rfl|rfl<;>cases e)
     have cN:=Hd bD;have cO:=Hd dV;have d1:=Hd (show Df (GF A U X) (A.map fun m:Nat=>(m:Int))from by rw[aD.out];exact Zfv eR.out);clear bD bP d0 d6 j dV n1 n2 n3;go_wp2_with fail;refine bodyPost_ret (v:=.tuple #[.agg #[rA rC (M:Nat),rA rC (m:Nat),.map (some ob),.map (some sb)],rA .u8 0]) (Ad results74 _ _ (N+1) _ _ _ rfl cN.out underlying101 rfl (by kernel_rfl)) rfl ?_;refine⟨ob,sb,GF F val no,GF A U X,rfl,by rw[←bA.out];exact Y.out.1,b9.out,fun x hx=>⟨C x,?_,((HC.out x (eV.out x hx)).1.below cO.out lR)⟩,by rw[←aD.out];exact Y.out.2.1,d1.out,Y.out.2.2,cO.out⟩;rw[bA.out,←bC.out];exact Zm1 hx
theorem Zfy {α:Type} {U:Nat→α} {g:Nat→α→List Value}(r:Nat)(u: α):((aF (r+1)).flatMap fun k=>g k (if k<r then U k else u))=((aF r).flatMap fun k=>g k (U k))++g r u:=by
 rw[Ik,if_neg (Nat.lt_irrefl r)]
 congr 1
 rw[gJ,gJ]
 congr 1
 exact gK fun k hk=>by rw[if_pos (List.mem_range.1 hk)]
theorem Zcb (lv ow:Int) (ob sb n1 n2:Nat) (G G2:Int→Option Value) (R SO:List Nat) (D:Nat→NodeD) (H:Nat→List Nat) (w:World) (hm:MapF w ob n1 G) (bW:MapF w sb n2 G2) (d4:n1≤100000) (d5:n2≤100000)
  (cV:Df G (R.map fun m:Nat=>(m:Int))) (c8:Df G2 (SO.map fun m:Nat=>(m:Int))) (hD:∀m∈R,inI (m:Int)∧Cd (D m)=true∧∃c,G m=some (.agg c)∧NodeC w (D m) c)
  (hH:∀m∈SO,inI (m:Int)∧(H m).length≤1000000∧∃u,G2 m=some u∧Rd w u (bvs (H m))) (dS:R.length≤100000) (dO:SO.length≤100000):
  Calls prog 67 #[.agg #[rA rC lv,rA rC ow,.map (some ob),.map (some sb)]] w fun e w'=>∃v',e=.returned v'∧SparseR w' v' ⟨lv,ow,R.map fun m:Nat=>((m:Int),D m),SO.map fun m:Nat=>((m:Int),H m)⟩∧Below w.heap.size w w'∧∀(g:Nat) (W:World),g<w.heap.size→Only g w' W→SparseR W v' ⟨lv,ow,R.map fun m:Nat=>((m:Int),D m),SO.map fun m:Nat=>((m:Int),H m)⟩:=by
 have cU:∀ {L:List Nat} {k:Nat},k<L.length→L.getD k 0∈L:=fun {L k} hk=>(by rw[aH,aI hk];exact aJ hk);obtain⟨N,hN⟩:=eX w.heap.size;obtain⟨q,hq⟩:=eX (w.heap.size+2);have HN:=Hd hN;have HQ:=Hd hq;have dP:=Hd (show ob<w.heap.size from hm.lt);have dY:=Hd (show sb<w.heap.size from bW.lt);have dD:=Hd hm;have aZ:=Hd bW;have dX:=Hd cV;have dV:=Hd c8;have HD:=Hd hD;have HH:=Hd hH;have c6:=Hd (show∀(L:List Nat) (k:Nat),k<L.length→L.getD k 0∈L from fun L k hk=>cU hk);clear hm bW cV c8 hD hH cU;go_enter func67,ntmps67;go_wp2_with fail;obtain⟨w2,aM⟩:=eX ((((w.alloc (.cells #[rA rC lv,rA rC ow,.map (some ob),.map (some sb)] 101)).alloc (.cells #[rA rC 0,rA rC 0,q9 rF 0 0,q9 rF 0 0] 25)).alloc (.cells #[rA rC lv,rA rC ow,q9 rF 0 0,q9 rF 0 0] 25)));have c0:q=w.heap.size+1+1:=hq;have bP:=Hd (show Blk w2 N 101 #[rA rC lv,rA rC ow,.map (some ob),.map (some sb)]from by rw[aM,hN];exact((Blk.new w 101 #[rA rC lv,rA rC ow,.map (some ob),.map (some sb)]).alloc _).alloc _);have bK:=Hd (show Blk w2 (N+1) 25 #[rA rC 0,rA rC 0,q9 rF 0 0,q9 rF 0 0]from by
  rw[aM,hN];have:=(Blk.new (w.alloc (.cells #[rA rC lv,rA rC ow,.map (some ob),.map (some sb)] 101)) 25 #[rA rC 0,rA rC 0,q9 rF 0 0,q9 rF 0 0]).alloc (.cells #[rA rC lv,rA rC ow,q9 rF 0 0,q9 rF 0 0] 25);simpa using this)
 have cH:=Hd (show Blk w2 q 25 #[rA rC lv,rA rC ow,q9 rF 0 0,q9 rF 0 0]from by
  rw[aM,hq];have:=Blk.new ((w.alloc (.cells #[rA rC lv,rA rC ow,.map (some ob),.map (some sb)] 101)).alloc (.cells #[rA rC 0,rA rC 0,q9 rF 0 0,q9 rF 0 0] 25)) 25 #[rA rC lv,rA rC ow,q9 rF 0 0,q9 rF 0 0];simpa using this)
 have aY:=Hd (show w2.heap.size=q+1 from by rw[aM,hq];simp);have a8:=Hd (show Below w.heap.size w w2 from by
  rw[aM];exact((bR.alloc lR _).alloc (by simp) _).alloc (by simp;omega) _)
 rw[←aM,←c0,←hN];clear aM c0 hq hN;have dQ:=Hd (dD.out.below a8.out lR);have dZ:=Hd (aZ.out.below a8.out lR);have s:=Hd (show N+1<q from by rw[HQ.out,HN.out];omega);refine(Ux (some ob) w2).mono ?_;rintro e w3 ⟨rfl,rfl⟩;have cN:=Hd (On ob n1 w2.heap.size G _ (w2.alloc (.cells #[.map (some ob)] 98)) (dQ.out.alloc _) dX.out (by omega) (by rw[(Blk.new w2 _ _).cell];rfl) (by simp));go_wp2_with fail;refine cN.out.mono ?_;rintro e w4 ⟨VK,rfl,I,c3⟩;obtain⟨a1,c1,rfl,-⟩:=Mb I.rd;have cF:=Hd (show Below (q+1) w2 w4 from by
  have h1:=(Below.refl (q+1) w2).alloc (by rw[aY.out];exact lR) (.cells #[.map (some ob)] 98);exact h1.trans (c3.mono (by simp[aY.out])))
 have bJ:=Hd (I.mono (show q+1≤_ from by simp[aY.out]));clear I c3 cN;obtain⟨no,cC⟩:=eX R.length;obtain⟨ns,b6⟩:=eX SO.length;rw[←cC]at dS bJ⊢;rw[←b6]at dO;have bD:=Hd cC;have aS:=Hd b6;have bN:=Hd (cH.out.below cF.out (dE q));clear cC b6;go_wp2_with fail
 go_loopg [18] no (fun gk iv wr=>∃(r:Nat) (V:Value) (CF:Nat→Array Value),r+gk=no∧iv=rA rC (r:Nat)∧Blk wr q 25 #[rA rC lv,rA rC ow,V,q9 rF 0 0]∧OwnK wr (q+1) 87 11 V r ((aF r).flatMap fun j=> rA rC ((R.getD j 0:Nat):Int)::(CF j).toList)∧(∀j,j<r→NodeO wr (q+1) (D (R.getD j 0)) (CF j))∧Own wr (q+1) 3 (q9 a1 no c1) (ivs .i64 (R.map fun m:Nat=>(m:Int)))∧Below q w2 wr)
 case atStart=>exact⟨0,_,fun _=>#[],by omega,rfl,bN.out,OwnK.nil _ _ _ _,fun j hj=>absurd hj (iG j),bJ.out,cF.out.mono (gG q)⟩
 case round=>
  obtain⟨r,V,CF,hr,rfl,b,Z,aW,I,hb⟩:=hrel;have HR:=Hd hr;have o:=Hd b;have l:=Hd Z;have aE:=Hd aW;have aA:=Hd I;have HB:=Hd hb;clear hr b Z aW I hb bN;have aT:=Hd (bP.out.below HB.out (by have:=s.out;omega));have bA:=Hd (bK.out.below HB.out s.out);have O:=Hd (a8.out.trans (HB.out.mono (show w.heap.size≤q from by have:=s.out;have:=HN.out;omega)));have cT:=Hd (show N<q+1 from by have:=s.out;omega);have bB:=Hd (show w.heap.size≤q+1 from by have:=s.out;have:=HN.out;omega);have cK:=Hd (show ob<q+1 from by have:=dP.out;have:=bB.out;omega);have cG:=Hd (show sb<q+1 from by have:=dY.out;have:=bB.out;omega)
  by_cases hlt:r<no
  ·have cJ:decide (r<no)=true:=decide_eq_true hlt;have cM:(r:Int)<(no:Int):=(by omega);obtain⟨b1,C,rfl,cR,cx⟩:=Ta aA.out.rd (show r<R.length from by rw[←bD.out];exact hlt);obtain⟨aD,aU,c,aQ,aP⟩:=HD.out _ (c6.out R r (by rw[←bD.out];exact hlt));obtain⟨m,aG⟩:=eX (R.getD r 0);rw[←aG]at cx aD aU aQ aP;have aX:=Hd aG;have b5:=Hd aD;have b0:=Hd aQ;have HM:=Hd (dD.out.below O.out lR);have bC:=Hd fun(W:World) (hw:Below w.heap.size w W)=>If (D m) c W (aP.below hw lR) aU;obtain⟨XS,aL⟩:=eX ((aF r).flatMap fun j=> rA rC ((R.getD j 0:Nat):Int)::(CF j).toList);rw[←aL]at l;have b7:=Hd aL;have E:=Hd (show∀g,V.ownBlock=some g→g<wr.heap.size from fun g hg=>(l.out.lt hg).1);have b4:=Hd (show r≤100000 from by omega);clear aG aD aU aQ aP aL cR;go_wp2_with fail;refine Au [eF (rB (some ⟨q,2,rF⟩)),eF V,eF (rA rC (m:Nat)),eF (rB (some ⟨N,2,rF⟩)),eF (.map (some ob)),eF (rA rC (m:Nat)),eF (.agg c),fun v w'=>∃c2,v=.agg c2∧NodeO w' wr.heap.size (D m) c2,fun v w'=>∃x0 x1 x2 x3 x4 x5 x6 x7 x8 x9,v=.agg #[rA rC (m:Nat),x0,x1,x2,x3,x4,x5,x6,x7,x8,x9]∧NodeO w' wr.heap.size (D m) #[x0,x1,x2,x3,x4,x5,x6,x7,x8,x9],fun v w'=>∃g x0 x1 x2 x3 x4 x5 x6 x7 x8 x9,v=q9 (some ⟨g,0,rF⟩) 1 1∧wr.heap.size≤g∧Blk w' g 87 #[rA rC (m:Nat),x0,x1,x2,x3,x4,x5,x6,x7,x8,x9]∧NodeO w' wr.heap.size (D m) #[x0,x1,x2,x3,x4,x5,x6,x7,x8,x9],fun v w'=>∃c2,OwnK w' (q+1) 87 11 v (r+1) (XS++(rA rC (m:Nat)::c2.toList))∧NodeO w' (q+1) (D m) c2,eF (rB (some ⟨q,2,rF⟩)),fun v w'=>∃V2 c2,Blk w' q 25 #[rA rC lv,rA rC ow,V2,q9 rF 0 0]∧OwnK w' (q+1) 87 11 V2 (r+1) (XS++(rA rC (m:Nat)::c2.toList))∧NodeO w' (q+1) (D m) c2∧CutS wr V q w']
    ((cI 13 false).set 12 true) (fun X=>ButO wr V (q+1) X) (fun X Y=>StepO V (q+1) X Y) (some 10) 12 (by kernel_rfl) ?_ (ButO.start wr V (q+1)) (fun X Y hx h=>StepO.of h (bM (hQ o.out.lt) hx.low.size)) (fun X Y hx F=>hx.step F) (by kernel_rfl) (by kernel_rfl) (by kernel_rfl) ?_ ?_
   ·exact kE (kE (kE (kE (kE (kE (kE (Cm (fun v x y h hi F=>let⟨u,e,k⟩:=h;⟨u,e,NodeO.stepQ F k E.out⟩) (Cm (fun v x y h hi F=>let⟨x0,x1,x2,x3,x4,x5,x6,x7,x8,x9,e,k⟩:=h;⟨x0,x1,x2,x3,x4,x5,x6,x7,x8,x9,e,NodeO.stepQ F k E.out⟩) (Cm (fun v x y h hi F=>let⟨g,x0,x1,x2,x3,x4,x5,x6,x7,x8,x9,e,hg,k,k2⟩:=h;⟨g,x0,x1,x2,x3,x4,x5,x6,x7,x8,x9,e,hg,(F.2 g k.lt (fun ee=>absurd (E.out g ee) (by omega))).trans k,NodeO.stepQ F k2 E.out⟩) (Cl (fun v x y h hi F=>let⟨u,k,k2⟩:=h;⟨u,OwnK.below k F lR,NodeO.below k2 F lR⟩) (kE (Ai (fun _ _ _ _ _ _=>trivial) (Ah)))))))))))))
   ·refine gP8 ?_ rfl (Na (by kernel_rfl) ?_ rfl (gP8 ?_ rfl (gP8 ?_ rfl (gP8 ?_ rfl (gP8 ?_ rfl (gO8 ?_ (Md (by kernel_rfl) ?_ (gO8 ?_ (Md (by kernel_rfl) ?_ (Md (by kernel_rfl) ?_ (gP8 ?_ rfl (gO8 ?_ .nil))))))))))));all_goals
     intro a t d bU ho hf;have d:ButO wr V (q+1) t:=d;refine⟨rfl,?_⟩;intro K hK;try have dN:a.tmps[1]?.getD undef=rB (some ⟨N,0,rF⟩):=ho 1 (by kernel_rfl)
     try have dJ:a.tmps[3]?.getD undef=rB (some ⟨q,0,rF⟩):=ho 3 (by kernel_rfl)
     try have d6:a.tmps[5]?.getD undef=rA rC (m:Nat):=ho 5 (by kernel_rfl)
     try have b9:=eqn hf.1
     try have dU:=eqn hf.2.1
     try(have cD:=(d.low.cell (p:=⟨q,2,rF⟩) (dE q)).trans (o.out.cell 2);simp only[bZ,cA,cB]at cD)
     try(have bS:=(d.low.cell (p:=⟨N,2,rF⟩) cT.out).trans (aT.out.cell 2);simp only[bZ,cA,cB]at bS)
     try have a7:=MapF.run_get (T:=98) (HM.out.belowB d.low cK.out) underlying98 (Hb t) b5.out
     try(refine Hd ?_;go_simp;exact hK _ rfl)
    ·rw[b0.out]at a7;simp only[Option.getD_some]at a7;go_simp;exact hK _ _ rfl (fun _=>Af rfl bR)
    ·go_simp;refine(bC.out t (O.out.trans (d.low.mono bB.out))).mono ?_;rintro e w2 ⟨c9,rfl,aR,bV⟩;exact hK _ _ ⟨_,rfl,aR.mono d.low.size⟩ (fun _=>Af rfl bV)
    ·have C:∃c2,(a.tmps[29]?.getD undef)=.agg c2∧NodeO t wr.heap.size (D m) c2:=hf.2.1;obtain⟨v1,i⟩:=eX (a.tmps[29]?.getD undef);rw[←i]at C;have e1:=i.symm;clear i;obtain⟨c2,rfl,ho⟩:=C;obtain⟨x0,x1,x2,x3,x4,x5,x6,x7,x8,x9,rfl⟩:=ho.c.ten;go_simp;exact hK _ _ ⟨x0,x1,x2,x3,x4,x5,x6,x7,x8,x9,rfl,ho⟩ (fun _=>Af rfl bR)
    ·have o0:∃x0 x1 x2 x3 x4 x5 x6 x7 x8 x9,(a.tmps[30]?.getD undef)=.agg #[rA rC (m:Nat),x0,x1,x2,x3,x4,x5,x6,x7,x8,x9]∧NodeO t wr.heap.size (D m) #[x0,x1,x2,x3,x4,x5,x6,x7,x8,x9]:=hf.1;obtain⟨v0,aK⟩:=eX (a.tmps[30]?.getD undef);rw[←aK]at o0;have e0:=aK.symm;clear aK;obtain⟨x0,x1,x2,x3,x4,x5,x6,x7,x8,x9,rfl,S⟩:=o0;go_simp;exact hK _ _ ⟨_,x0,x1,x2,x3,x4,x5,x6,x7,x8,x9,rfl,d.low.size,Blk.new _ _ _,S.below (bR.alloc lR _) lR⟩ (fun _=>Af rfl (bR.alloc lR _))
    ·have C:∃g x0 x1 x2 x3 x4 x5 x6 x7 x8 x9,(a.tmps[31]?.getD undef)=q9 (some ⟨g,0,rF⟩) 1 1∧wr.heap.size≤g∧Blk t g 87 #[rA rC (m:Nat),x0,x1,x2,x3,x4,x5,x6,x7,x8,x9]∧NodeO t wr.heap.size (D m) #[x0,x1,x2,x3,x4,x5,x6,x7,x8,x9]:=hf.2.1;obtain⟨v1,i⟩:=eX (a.tmps[31]?.getD undef);rw[←i]at C;have e1:=i.symm;clear i;obtain⟨g,x0,x1,x2,x3,x4,x5,x6,x7,x8,x9,hv,hg,b,S⟩:=C;have a3:=l.out.below bU lR;have c7:=S.c.oneL;refine Kz (.tmp 23) (.tmp 31) 22 rfl (q+1) 87 _ 11 216 Ze9 V r XS (evs b9) a3 g [rA rC (m:Nat),x0,x1,x2,x3,x4,x5,x6,x7,x8,x9] (evs (e1.trans hv)) rfl (fun j u2 A=>by have:=b.range 0 j u2 A;simpa using this) (by rw[List.all_eq_true.symm];exact c7) (by have:=b4.out;omega) (by have:=d.low.size;have:=o.out.lt;omega) ?_;intro v' w' h2 h3;exact hK _ _ ⟨#[x0,x1,x2,x3,x4,x5,x6,x7,x8,x9],h2,(NodeO.stepQ h3 S E.out).mono (hQ o.out.lt)⟩ (fun _=>Bv rfl h3)
    ·have C:∃c2,OwnK t (q+1) 87 11 (a.tmps[32]?.getD undef) (r+1) (XS++(rA rC (m:Nat)::c2.toList))∧NodeO t (q+1) (D m) c2:=hf.2.1;obtain⟨v1,i⟩:=eX (a.tmps[32]?.getD undef);rw[←i]at C;have e1:=i.symm;clear i;obtain⟨u,C,S⟩:=C;have b:=o.out.below d.low (dE q);have d1:t.cell? ⟨q,2,rF⟩=some V:=b.cell 2;have d2:=b.frozen 2;obtain⟨ga,gc,rfl⟩:=OwnK.sl C;have aN:q≤t.heap.size:=dW b.lt;have bT:=b.set 2 (q9 ga (r+1) gc);have M:=OwnK.onlyQ C (Only.set (a:=t) (B:=q) 2 (q9 ga (r+1) gc)) (dE q);have A:=NodeO.onlyQ S (Only.set (a:=t) (B:=q) 2 (q9 ga (r+1) gc)) (dE q);have J:=d.put aN 2 (q9 ga (r+1) gc);go_simp;exact hK undef _ ⟨_,u,bT,M,A,J⟩ (fun h=>absurd rfl h)
   ·rintro f Q aB;have dI:∃V2 c2,Blk Q q 25 #[rA rC lv,rA rC ow,V2,q9 rF 0 0]∧OwnK Q (q+1) 87 11 V2 (r+1) (XS++(rA rC (m:Nat)::c2.toList))∧NodeO Q (q+1) (D m) c2∧CutS wr V q Q:=aB.2.2.2.2.2.2.2.2.2.2.2.2.1;clear aB;simp only[Am,Az,Ex,cX,cY,cZ,dA,Nat.reduceBEq,Nat.reduceAdd,dB,dC,cond_true,cond_false];obtain⟨V2,c2,a6,M,A,J⟩:=dI;have aO:=Hd a6;have a5:=Hd M;have bX:=Hd A;have P:=Hd J;clear a6 M A J;go_wp2_with fail;go_roundg (gk-1);case measure=>have:=HR.out;omega
    case rel=>
     refine⟨r+1,V2,fun j=>if j<r then CF j else c2,by have:=HR.out;omega,by go_num,aO.out,?_,fun j hj=> ?_,?_,HB.out.trans P.out.low⟩
     ·rw[Zfy (g:=fun j (z:Array Value)=> rA rC ((R.getD j 0:Nat):Int)::z.toList),←b7.out,←aX.out];exact a5.out
     ·by_cases hjr:j<r
      ·show NodeO Q (q+1) _ (if j<r then CF j else c2);rw[if_pos hjr];exact NodeO.cutQ P.out (aE.out j hjr) (dE q) l.out (by decide) (by decide)
      ·obtain rfl:j=r:=(by omega);show NodeO Q (q+1) _ (if j<j then CF j else c2);rw[if_neg hjr,←aX.out];exact bX.out
     ·exact CutS.ownK (k:=1) P.out aA.out (dE q) (OwnK.apartK (k:=1) aA.out l.out (by decide))
  ·obtain rfl:no=r:=(by have:=HR.out;omega);have cJ:decide (no<no)=false:=decide_eq_false hlt;clear hlt;have d3:=aT.out.cell 3;simp only[bZ,cA,cB]at d3;go_wp2_with fail;obtain⟨w5,dF⟩:=eX wr;rw[←dF]at o l HB O aE aT bA d3⊢;clear dF;refine(Uy (some sb) w5).mono ?_;rintro e w6 ⟨rfl,rfl⟩;have bE:=Hd (Oo sb n2 w5.heap.size G2 _ (w5.alloc (.cells #[.map (some sb)] 99)) ((aZ.out.below O.out lR).alloc _) dV.out (by omega) (by rw[(Blk.new w5 _ _).cell];rfl) (by simp));clear d3;go_wp2_with fail;refine bE.out.mono ?_;rintro e w7 ⟨VS,rfl,b8,cO⟩;obtain⟨a2,c2,rfl,-⟩:=Mb b8.rd;have aN:=o.out.lt;have aC:Below w5.heap.size w5 w7:=(bR.alloc lR (.cells #[.map (some sb)] 99)).trans (cO.mono (by simp));have a0:=Hd (b8.mono (show q+1≤_ from by simp;omega));have bL:=Hd (o.out.below aC aN);have bG:=Hd (l.out.below aC lR);have bO:=Hd (show∀j,j<no→NodeO w7 (q+1) (D (R.getD j 0)) (CF j)from fun j hj=>(aE.out j hj).below aC lR);have cS:=Hd (HB.out.trans (aC.mono (dW aN)));rw[←aS.out]at a0;have bF:=aS.out;rw[←bF];clear b8 cO aC bF bE o l HB O aE aT bA aA aN HR;go_wp2_with fail
   go_loopg [40] ns (fun gk iv wr=>∃(r:Nat) (SV:Value) (U:Nat→Value),r+gk=ns∧iv=rA rC (r:Nat)∧Blk wr q 25 #[rA rC lv,rA rC ow,V,SV]∧OwnK wr (q+1) 89 2 SV r ((aF r).flatMap fun j=>[rA rC ((SO.getD j 0:Nat):Int),U j])∧(∀j,j<r→Own wr (q+1) 5 (U j) (bvs (H (SO.getD j 0))))∧OwnK wr (q+1) 87 11 V no ((aF no).flatMap fun j=> rA rC ((R.getD j 0:Nat):Int)::(CF j).toList)∧(∀j,j<no→NodeO wr (q+1) (D (R.getD j 0)) (CF j))∧Own wr (q+1) 3 (q9 a2 ns c2) (ivs .i64 (SO.map fun m:Nat=>(m:Int)))∧Below q w2 wr)
   case atStart=>exact⟨0,_,fun _=> q9 rF 0 0,by omega,rfl,bL.out,OwnK.nil _ _ _ _,fun j hj=>absurd hj (iG j),bG.out,bO.out,a0.out,cS.out⟩
   case round=>
    obtain⟨r,SV,U,hr,rfl,b,Z,S,cW,aW,I,hb⟩:=hrel;have HR:=Hd hr;have o:=Hd b;have l:=Hd Z;have HU:=Hd S;have a9:=Hd cW;have aE:=Hd aW;have aA:=Hd I;have HB:=Hd hb;clear hr b Z S cW aW I hb bL bG bO a0 cS;have aT:=Hd (bP.out.below HB.out (by have:=s.out;omega));have bA:=Hd (bK.out.below HB.out s.out);have O:=Hd (a8.out.trans (HB.out.mono (show w.heap.size≤q from by have:=s.out;have:=HN.out;omega)))
    by_cases hlt:r<ns
    ·have c4:decide (r<ns)=true:=decide_eq_true hlt;have cM:(r:Int)<(ns:Int):=(by omega);obtain⟨b2,o2,rfl,cL,cx⟩:=Ta aA.out.rd (show r<SO.length from by rw[←aS.out];exact hlt);obtain⟨aD,aU,UV,aQ,aP⟩:=HH.out _ (c6.out SO r (by rw[←aS.out];exact hlt));obtain⟨m,aG⟩:=eX (SO.getD r 0);rw[←aG]at cx aD aU aQ aP;have aX:=Hd aG;have b5:=Hd aD;have b0:=Hd aQ;have dR:=Hd (aZ.out.below O.out lR);have bC:=Hd fun(W:World) (hw:Below w.heap.size w W)=>Cu UV (H m) W (aP.below hw lR) (by omega);obtain⟨HX,b3⟩:=eX (H m);rw[←b3]at bC;have dT:=Hd b3;obtain⟨XS,aL⟩:=eX ((aF r).flatMap fun j=>[rA rC ((SO.getD j 0:Nat):Int),U j]);rw[←aL]at l;have b7:=Hd aL;have E:=Hd (show∀g,SV.ownBlock=some g→g<wr.heap.size from fun g hg=>(l.out.lt hg).1);have b4:=Hd (show r≤100000 from by omega);clear aG aD aU aQ aP aL cL b3;go_wp2_with fail;refine Au [eF (rB (some ⟨q,3,rF⟩)),eF SV,eF (rA rC (m:Nat)),eF (rB (some ⟨N,3,rF⟩)),eF (.map (some sb)),eF (rA rC (m:Nat)),eF UV,fun v w'=>Own w' wr.heap.size 5 v (bvs HX),fun v w'=>∃u,v=.agg #[rA rC (m:Nat),u]∧Own w' wr.heap.size 5 u (bvs HX),fun v w'=>∃g u,v=q9 (some ⟨g,0,rF⟩) 1 1∧wr.heap.size≤g∧Blk w' g 89 #[rA rC (m:Nat),u]∧Own w' wr.heap.size 5 u (bvs HX),fun v w'=>∃u,OwnK w' (q+1) 89 2 v (r+1) (XS++[rA rC (m:Nat),u])∧Own w' (q+1) 5 u (bvs HX),eF (rB (some ⟨q,3,rF⟩)),fun v w'=>∃V2 u,Blk w' q 25 #[rA rC lv,rA rC ow,V,V2]∧OwnK w' (q+1) 89 2 V2 (r+1) (XS++[rA rC (m:Nat),u])∧Own w' (q+1) 5 u (bvs HX)∧CutS wr SV q w']
      ((cI 13 false).set 12 true) (fun X=>ButO wr SV (q+1) X) (fun X Y=>StepO SV (q+1) X Y) (some 10) 12 (by kernel_rfl) ?_ (ButO.start wr SV (q+1)) (fun X Y hx h=>StepO.of h (bM (hQ o.out.lt) hx.low.size)) (fun X Y hx F=>hx.step F) (by kernel_rfl) (by kernel_rfl) (by kernel_rfl) ?_ ?_
     ·exact kE (kE (kE (kE (kE (kE (kE (Cm (fun v x y h hi F=>StepO.own F h E.out) (Cm (fun v x y h hi F=>let⟨u,e,k⟩:=h;⟨u,e,StepO.own F k E.out⟩) (Cm (fun v x y h hi F=>let⟨g,u,e,hg,k,k2⟩:=h;⟨g,u,e,hg,(F.2 g k.lt (fun ee=>absurd (E.out g ee) (by omega))).trans k,StepO.own F k2 E.out⟩) (Cl (fun v x y h hi F=>let⟨u,k,k2⟩:=h;⟨u,OwnK.below k F lR,Own.below k2 F lR⟩) (kE (Ai (fun _ _ _ _ _ _=>trivial) (Ah)))))))))))))
     ·refine gP8 ?_ rfl (Na (by kernel_rfl) ?_ rfl (gP8 ?_ rfl (gP8 ?_ rfl (gP8 ?_ rfl (gP8 ?_ rfl (gO8 ?_ (Md (by kernel_rfl) ?_ (gO8 ?_ (Md (by kernel_rfl) ?_ (Md (by kernel_rfl) ?_ (gP8 ?_ rfl (gO8 ?_ .nil))))))))))));all_goals
       intro a t d bU ho hf;have d:ButO wr SV (q+1) t:=d;refine⟨rfl,?_⟩;intro K hK;try have dN:a.tmps[1]?.getD undef=rB (some ⟨N,0,rF⟩):=ho 1 (by kernel_rfl)
       try have dJ:a.tmps[3]?.getD undef=rB (some ⟨q,0,rF⟩):=ho 3 (by kernel_rfl)
       try have d0:a.tmps[7]?.getD undef=rA rC (m:Nat):=ho 7 (by kernel_rfl)
       try have b9:=eqn hf.1
       try have dU:=eqn hf.2.1
       try(have cD:=(d.low.cell (p:=⟨q,3,rF⟩) (dE q)).trans (o.out.cell 3);simp only[bZ,cA,cB]at cD)
       try(have bS:=(d.low.cell (p:=⟨N,3,rF⟩) cT.out).trans (aT.out.cell 3);simp only[bZ,cA,cB]at bS)
       try have a7:=MapF.run_get (T:=99) (dR.out.belowB d.low cG.out) underlying99 (zeroValue28 t) b5.out
       try(refine Hd ?_;go_simp;exact hK _ rfl)
      ·rw[b0.out]at a7;simp only[Option.getD_some]at a7;go_simp;exact hK _ _ rfl (fun _=>Af rfl bR)
      ·go_simp;refine(bC.out t (O.out.trans (d.low.mono bB.out))).mono ?_;rintro e w2 ⟨v9,rfl,aR,bV⟩;exact hK _ _ (aR.mono d.low.size) (fun _=>Af rfl bV)
      ·have C:Own t wr.heap.size 5 (a.tmps[51]?.getD undef) (bvs HX):=hf.2.1;obtain⟨v1,i⟩:=eX (a.tmps[51]?.getD undef);rw[←i]at C;have e1:=i.symm;clear i;obtain⟨ua,un,uc,rfl⟩:∃a n c,v1=.slice a n c:=(by obtain⟨a,c,e,-⟩:=C.rd;exact⟨_,_,_,e⟩);go_simp;exact hK _ _ ⟨_,rfl,C⟩ (fun _=>Af rfl bR)
      ·have o0:∃u,(a.tmps[52]?.getD undef)=.agg #[rA rC (m:Nat),u]∧Own t wr.heap.size 5 u (bvs HX):=hf.1;obtain⟨v0,aK⟩:=eX (a.tmps[52]?.getD undef);rw[←aK]at o0;have e0:=aK.symm;clear aK;obtain⟨u,rfl,S⟩:=o0;go_simp;exact hK _ _ ⟨_,u,rfl,d.low.size,Blk.new _ _ _,S.alloc _⟩ (fun _=>Af rfl (bR.alloc lR _))
      ·have C:∃g u,(a.tmps[53]?.getD undef)=q9 (some ⟨g,0,rF⟩) 1 1∧wr.heap.size≤g∧Blk t g 89 #[rA rC (m:Nat),u]∧Own t wr.heap.size 5 u (bvs HX):=hf.2.1;obtain⟨v1,i⟩:=eX (a.tmps[53]?.getD undef);rw[←i]at C;have e1:=i.symm;clear i;obtain⟨g,u,hv,hg,b,S⟩:=C;have a3:=l.out.below bU lR;refine Kz (.tmp 45) (.tmp 53) 23 rfl (q+1) 89 _ 2 32 Zke SV r XS (evs b9) a3 g [rA rC (m:Nat),u] (evs (e1.trans hv)) rfl (fun j u2 A=>by have:=b.range 0 j u2 A;simpa using this) (fun z hz=>by
        simp only[List.mem_cons,List.not_mem_nil,or_false]at hz;rcases hz with rfl|rfl
        ·rfl
        ·exact S.oneCell) (by have:=b4.out;omega) (by have:=d.low.size;have:=o.out.lt;omega) ?_
       intro v' w' h2 h3;exact hK _ _ ⟨u,h2,(h3.own S E.out).mono (hQ o.out.lt)⟩ (fun _=>Bv rfl h3)
      ·have C:∃u,OwnK t (q+1) 89 2 (a.tmps[54]?.getD undef) (r+1) (XS++[rA rC (m:Nat),u])∧Own t (q+1) 5 u (bvs HX):=hf.2.1;obtain⟨v1,i⟩:=eX (a.tmps[54]?.getD undef);rw[←i]at C;have e1:=i.symm;clear i;obtain⟨u,C,S⟩:=C;have b:=o.out.below d.low (dE q);have d1:t.cell? ⟨q,3,rF⟩=some SV:=b.cell 3;have d2:=b.frozen 3;obtain⟨ga,gc,rfl⟩:=OwnK.sl C;have aN:q≤t.heap.size:=dW b.lt;have bT:=b.set 3 (q9 ga (r+1) gc);have M:=OwnK.onlyQ C (Only.set (a:=t) (B:=q) 3 (q9 ga (r+1) gc)) (dE q);have A:=OwnK.onlyQ (show OwnK t (q+1) 5 1 u (bvs HX).length (bvs HX)from S) (Only.set (a:=t) (B:=q) 3 (q9 ga (r+1) gc)) (dE q);have J:=d.put aN 3 (q9 ga (r+1) gc);go_simp;exact hK undef _ ⟨_,u,bT,M,A,J⟩ (fun h=>absurd rfl h)
     ·rintro f Q aB;have dL:∃V2 u,Blk Q q 25 #[rA rC lv,rA rC ow,V,V2]∧OwnK Q (q+1) 89 2 V2 (r+1) (XS++[rA rC (m:Nat),u])∧Own Q (q+1) 5 u (bvs HX)∧CutS wr SV q Q:=aB.2.2.2.2.2.2.2.2.2.2.2.2.1;clear aB;simp only[Am,Az,Ex,cX,cY,cZ,dA,Nat.reduceBEq,Nat.reduceAdd,dB,dC,cond_true,cond_false];obtain⟨V2,u,a6,M,A,J⟩:=dL;have aO:=Hd a6;have a5:=Hd M;have bX:=Hd A;have P:=Hd J;clear a6 M A J;go_wp2_with fail;go_roundg (gk-1);case measure=>have:=HR.out;omega
      case rel=>
       refine⟨r+1,V2,fun j=>if j<r then U j else u,by have:=HR.out;omega,by go_num,aO.out,?_,fun j hj=> ?_,?_,fun j hj=> ?_,?_,HB.out.trans P.out.low⟩
       ·rw[Zab (g:=fun j z=>[rA rC ((SO.getD j 0:Nat):Int),z]),←b7.out,←aX.out];exact a5.out
       ·by_cases hjr:j<r
        ·show Own Q (q+1) 5 (if j<r then U j else u) _;rw[if_pos hjr];exact CutS.ownK (k:=1) P.out (HU.out j hjr) (dE q) (OwnK.apartK (k:=1) (HU.out j hjr) l.out (by decide))
        ·obtain rfl:j=r:=(by omega);show Own Q (q+1) 5 (if j<j then U j else u) _;rw[if_neg hjr,←aX.out,←dT.out];exact bX.out
       ·exact CutS.ownK P.out a9.out (dE q) (OwnK.apartK a9.out l.out (by decide))
       ·exact NodeO.cutQ P.out (aE.out j hj) (dE q) l.out (by decide) (by decide)
       ·exact CutS.ownK (k:=1) P.out aA.out (dE q) (OwnK.apartK (k:=1) aA.out l.out (by decide))
    ·obtain rfl:r=ns:=(by have:=HR.out;omega);have c4:decide (r<r)=false:=decide_eq_false hlt;clear hlt;obtain⟨va,vc,rfl⟩:=OwnK.sl a9.out;obtain⟨sa,sc,rfl⟩:=OwnK.sl l.out;go_wp2_with (first|(refine wpList_load_row rfl 25 (.tmp 3) rfl q rfl 25 _ (0,0) _ o.out underlying25 rfl (by kernel_rfl) ?_)|(refine Aa rfl 25 (.tmp 2) (.tmp 57) rfl (N+1) #[rA rC lv,rA rC ow,q9 va no vc,q9 sa r sc] rfl rfl 25 _ bA.out (by kernel_rfl) rfl rfl ?_));rintro Q aV bY dG dM;have a4:Only (N+1) wr Q:=Only.storeQ bY dG;have dH:=s.out;have c5:Below w.heap.size w Q:=O.out.trans (bY _ (by rw[←HN.out];exact gG N));have aR:=OwnK.onlyQ a9.out a4 (by omega);have cQ:=OwnK.onlyQ l.out a4 (by omega);have bI:=Hd aV;have bH:=fun k hk=>NodeO.onlyQ (aE.out k hk) a4 (by omega);have cP:=fun j hj=>OwnK.onlyQ (k:=1) (HU.out j hj) a4 (by omega);have mk:∀W:World,(∀ {e:TypeId} {k n:Nat} {v:Value} {xs:List Value},OwnK Q (q+1) e k v n xs→OwnK W (q+1) e k v n xs)→SparseR W (.agg #[rA rC lv,rA rC ow,q9 va no vc,q9 sa r sc]) ⟨lv,ow,R.map fun m:Nat=>((m:Int),D m),SO.map fun m:Nat=>((m:Int),H m)⟩:=fun W hW=>by
      refine⟨_,_,rfl,?_,?_⟩
      ·refine Zb9 (B:=q+1) (CF:=CF) (fun k hk=>((bH k (by rw[bD.out];exact hk)).keep2 fun e v xs _ S=>hW (k:=1) S).c) ?_;rw[←bD.out];exact hW aR
      ·refine Zca (B:=q+1) (U:=U) (fun j hj=>hW (k:=1) (cP j (by rw[aS.out];exact hj))) ?_;rw[←aS.out];exact hW cQ
     have cE:=Hd (mk Q fun h=>h);have bQ:=Hd fun(g:Nat) (W:World) (hg:g<w.heap.size) (ho:Only g Q W)=>mk W fun h=>OwnK.onlyQ h ho (by have:=HN.out;omega);have bI:=Hd aV;have dK:=Hd c5;clear aV bY dG dM a4 c5 aR cQ dH bH cP mk;go_wp2_with fail;exact bodyPost_ret (v:=.agg #[rA rC lv,rA rC ow,q9 va no vc,q9 sa r sc]) (Fz results67 _ _ (N+1) _ _ _ rfl bI.out underlying25 rfl (by kernel_rfl)) rfl ⟨_,rfl,cE.out,dK.out,bQ.out⟩
theorem Zfz (v:Value) (t:List NodeD) (T m d:Nat) (i j:List Nat) (w:World) (h:TreeR w v t) (hs:Bc t=true) (S:TreeOk t) (hr:Bi t=true) (A:t.length=2*T+1) (aA:Ap t.length=T+1) (hd:d≤16) (R:T+1=2^d) (hi:((m:Nat):Int)∈Dk t (T+1))
  (eO:(By (atT t) m false d (2^d-1) 0 []).1=i.map fun m:Nat=>(m:Int)) (eS:(By (atT t) m false d (2^d-1) 0 []).2.1=j.map fun m:Nat=>(m:Int)) (U:i.Pairwise (· < ·)) (V:j.Pairwise (· < ·))
  (hO:∀x∈i,x<t.length) (hS:∀x∈j,x<t.length) (p:i.length≤100000) (l:j.length≤100000) (aB:∀x,(Cx (nd t) x).length≤1000000):
  Calls prog 41 #[v,rA rC (m:Nat)] w fun e w'=>∃v',e=.returned (.tuple #[v',rA .u8 0])∧SparseR w' v' (Ed t (2^d) m i j)∧Below w.heap.size w w':=by
 have aJ:=Bg hs;have X:=Hd fun(W:World) (hw:Below w.heap.size w W)=>Zfx v t T m d false i j W (h.below hw lR) hs S hr A aA hd R hi eO eS U V hO hS p l;have Z:=Hd fun(W:World) (ob sb:Nat) (G K:Int→Option Value) (hm:MapF W ob i.length G) (hk:Df G (i.map fun m:Nat=>(m:Int))) (hn:∀x∈i,∃c,G ((x:Nat):Int)=some (.agg c)∧NodeC W (nd t x) c) (aD:MapF W sb j.length K) (aM:Df K (j.map fun m:Nat=>(m:Int))) (hu:∀x∈j,∃u,K ((x:Nat):Int)=some u∧Rd W u (bvs (Cx (nd t) x)))=>
  Zcb ((2^d:Nat):Int) (m:Nat) ob sb i.length j.length G K i j (nd t) (Cx (nd t)) W hm aD p l hk aM (fun x hx=>⟨by unfold inI;have:=hO x hx;omega,Cq hs x,hn x hx⟩) (fun x hx=>⟨by unfold inI;have:=hS x hx;omega,aB x,hu x hx⟩) p l
 obtain⟨M,hM⟩:=eX (2^d);rw[←hM]at X Z⊢;obtain⟨RS,J⟩:=eX (Ed t M m i j);have aG:=Hd J;rw[←J];obtain⟨a,n,c,rfl⟩:∃a n c,v=.slice a n c:=(by obtain⟨a,c,e,_⟩:=h.sl;exact⟨_,_,_,e⟩);clear h hs S hr A aA hd R hi eO eS U V hO hS p l aB aJ hM J;obtain⟨N,hN⟩:=eX w.heap.size;have HN:=Hd hN;go_enter func41,ntmps41;go_wp2_with fail;obtain⟨w2,q⟩:=eX (w.alloc (.cells #[rA rC 0,rA rC 0,q9 rF 0 0,q9 rF 0 0] 25));have E:=Hd (show Below w.heap.size w w2 from by rw[q];exact bR.alloc lR _);have B:=Hd (show Blk w2 N 25 #[rA rC 0,rA rC 0,q9 rF 0 0,q9 rF 0 0]from by rw[q,hN];exact Blk.new _ _ _);rw[←q,←hN];clear q hN;refine(X.out _ E.out).mono ?_;rintro e O ⟨ob,sb,G,K,rfl,m1,m2,m3,m4,m5,m6,I⟩;have Y:=Hd (E.out.trans (I.mono E.out.size));have z:=Hd (B.out.below I B.out.lt);obtain⟨w4,r⟩:=eX (O.alloc (.cells #[rA rC (M:Nat),rA rC (m:Nat),.map (some ob),.map (some sb)] 101));have b:Below O.heap.size O w4:=(by rw[r];exact bR.alloc lR _);have HX:=Hd (Z.out w4 ob sb G K (m1.below b lR) m2 (fun x hx=>by obtain⟨c,h1,h2⟩:=m3 x hx;exact⟨c,h1,h2.below b lR⟩) (m4.below b lR) m5 (fun x hx=>by obtain⟨u,h1,h2⟩:=m6 x hx;exact⟨u,h1,h2.below b lR⟩));have D:=Hd (Y.out.trans (b.mono Y.out.size));have f:=Hd (z.out.below b z.out.lt);have Q:=Hd (show Blk w4 O.heap.size 101 #[rA rC (M:Nat),rA rC (m:Nat),.map (some ob),.map (some sb)]from by rw[r];exact Blk.new _ _ _);rw[r]at HX D f Q;clear I m1 m2 m3 m4 m5 m6 b r;go_wp2_with (refine wpList_load_row rfl 101 (.tmp 6) rfl O.heap.size rfl 101 _ (0,0) _ Q.out underlying101 rfl (by kernel_rfl) ?_);refine HX.out.mono ?_;rintro e w5 ⟨vr,rfl,aF,H,C⟩;obtain⟨o,g,rfl,ho,hg⟩:=aF;obtain⟨a1,c1,rfl,aI⟩:=ho;obtain⟨a2,c2,rfl,aK⟩:=hg;have P:=Hd C;have L:=Hd (f.out.below H f.out.lt);have aL:=Hd (D.out.trans (H.mono D.out.size));have aC:=Hd f.out.lt;clear H C aI aK;simp only[List.length_map]at P⊢;go_wp2_with (refine Aa rfl 25 (.tmp 4) (.tmp 19) rfl N #[rA rC (M:Nat),rA rC (m:Nat),.slice a1 i.length c1,.slice a2 j.length c2] rfl rfl 25 #[rA rC 0,rA rC 0,q9 rF 0 0,q9 rF 0 0] L.out (by kernel_rfl) rfl rfl ?_);rintro w9 y k s F;have HK:=Hd y;have aE:=Hd (aL.out.trans (k w.heap.size (by rw[←HN.out];exact eA N)));have aH:=Hd (P.out N w9 aC.out (Only.storeQ k s));clear y k s F;go_wp2_with fail;refine bodyPost_ret (v:=.tuple #[.agg #[rA rC (M:Nat),rA rC (m:Nat),.slice a1 i.length c1,.slice a2 j.length c2],rA .u8 0]) (Ad results41 _ _ N _ _ _ rfl HK.out underlying25 rfl (by kernel_rfl)) rfl ⟨_,rfl,?_,aE.out⟩;rw[aG.out];exact aH.out
end Go.Proofs.YtfofaiommeckbaaGreat
namespace Go.Proofs.YtfofaiommeckbaaGreat
open Go.RowKit WalkM WireM
theorem Zf0 (l l':List (Int×NodeD))(x:Int):Ag (l++l') x=(Ag l x).or (Ag l' x):=by
 induction l with
 |nil=>simp[Ag]
 |cons p l ih=>
  rw[List.cons_append,Ag,Ag]
  by_cases e:p.1=x
  ·rw[if_pos e,if_pos e];rfl
  ·rw[if_neg e,if_neg e];exact ih
theorem Xw (D:Nat→NodeD)(n:Nat):∀k,Ag ((aF k).map fun i=>(((i:Nat):Int),D i)) ((n:Nat):Int)=if n<k then some (D n)else none:=by
 intro k
 induction k with
 |zero=>rfl
 |succ k ih=>
  rw[List.range_succ,eI,Zf0,ih]
  by_cases h:n<k
  ·rw[if_pos h,if_pos (by omega)];rfl
  ·rw[if_neg h,Option.none_or];simp only[List.map_cons,iD,Ag]
   by_cases e:n=k
   ·subst e;rw[if_pos rfl,if_pos (by omega)]
   ·rw[if_neg (by omega),if_neg (by omega)]
theorem Zja (t:List NodeD)(n:Nat):atT t n=Ag (Ec t) ((n:Nat):Int):=by
 rw[Ec,Xw];rfl
theorem Zf1 {t:List NodeD}(hr:Bi t=true):Cw (atT t):=by
 intro x D hx u hu;unfold atT at hx
 split at hx
 ·rename_i hlt
  cases hx;rw[Bi,cJ,cJ,cJ]at hr;obtain⟨h1,hp,_,hl⟩:=hr;obtain⟨h2,m,rfl,hm⟩:=Hs hp hlt hu;exact⟨m,rfl,hm,(Iw (Iy hl x hlt) _ hu).2.1⟩
 ·cases hx
theorem Xx {F:Nat→Option NodeD} {i:Nat} {only:Bool}:∀(k x how:Nat) (late:List Int),IsLev x k→x+2^k≤131071→(∀y,inR k x y→(F y).isSome=true)→(By F i only k x how late).2.2=true:=by
 intro k
 induction k with
 |zero=>
  intro x how late l hx h;obtain⟨d,g⟩:=Option.isSome_iff_exists.1 (h x (Ea _ _));rw[De g]
 |succ k ih=>
  intro x how late l hx h;obtain⟨d,g⟩:=Option.isSome_iff_exists.1 (h x (Ea _ _));obtain⟨m,n,h0,h1,h2,-,-⟩:=Ep l hx lR;have f:∀c,IsLev c k→c+2^k≤131071→(∀y,inR k c y→(F y).isSome=true)→∀a,(Fr (By F i only k) i only c how d a).2.2=true:=fun c j e b a=>by
   unfold Fr
   split
   ·exact ih _ _ _ j e b
   ·split
    ·rfl
    ·split
     ·exact ih _ _ _ j e b
     ·split
      ·exact ih _ _ _ j e b
      ·rfl
  rw[Cr g];show(_&&_)=true;rw[f _ m h1 (fun y b=>h y ((Bd h0).2 (.inr (.inl b)))),f _ n h2 (fun y b=>h y ((Bd h0).2 (.inr (.inr b))))]
  rfl
theorem Zcc:∀(L:List Nat) (b n:Nat),b≤n→L.Pairwise (· < ·)→(∀x∈L,b≤x∧x<n)→L.length≤n-b:=by
 intro L
 induction L with
 |nil=>intro b n _ _ _;simp
 |cons a L ih=>
  intro b n e c d;rw[List.pairwise_cons]at c;have f:=d a (by simp);have:=ih (a+1) n (by omega) c.2 fun x hx=>⟨c.1 x hx,(d x (by simp[hx])).2⟩;rw[List.length_cons];omega
theorem Zf2 {L:List Int} {k x n:Nat}(h:So k x L)(g:L.Pairwise (· < ·))(i:∀m,inR k x m→m<n)(l:n≤100000):∃OL:List Nat,L=OL.map (fun m:Nat=>(m:Int))∧OL.Pairwise (· < ·)∧(∀m∈OL,m<n)∧OL.length≤100000:=by
 have e:L=(L.map iF).map (fun m:Nat=>(m:Int)):=by
  rw[List.map_map]
  conv=>lhs;rw[←List.map_id L]
  refine gK fun y f=> ?_;obtain⟨m,rfl,-⟩:=h y f;simp
 have c:(L.map iF).Pairwise (· < ·):=by
  rw[iE];refine g.imp_of_mem fun {a b} ha hb2 hab=> ?_;obtain⟨m,rfl,-⟩:=h a ha;obtain⟨j,rfl,-⟩:=h b hb2;simp only[dG];omega
 have d:∀m∈L.map iF,m<n:=fun m d=>by
  obtain⟨y,f,rfl⟩:=List.mem_map.1 d;obtain⟨m,rfl,h2⟩:=h y f;simpa using i m h2
 refine⟨_,e,c,d,?_⟩;have:=Zcc _ 0 n (aA _) c fun x hx=>⟨aA _,d x hx⟩;omega
theorem Zly {t:List NodeD}(z:Bc t=true)(C:Bi t=true) {j m d:Nat}(only:Bool)(k:t.length=2*j+1)(r:d≤16)(E:j+1=2^d)(G:2*m<t.length):∃c b:List Nat,
  (By (atT t) m only d (2^d-1) 0 []).1=c.map (fun m:Nat=>(m:Int))∧(By (atT t) m only d (2^d-1) 0 []).2.1=b.map (fun m:Nat=>(m:Int))∧
  Fd (Ac (Ag (Ec t)) d m only d)=c.map (fun m:Nat=>(m:Int))∧Fd (Dq (Ac (Ag (Ec t)) d m only d))=b.map (fun m:Nat=>(m:Int))∧
  c.Pairwise (· < ·)∧b.Pairwise (· < ·)∧(∀x∈c,x<t.length)∧(∀x∈b,x<t.length)∧c.length≤100000∧b.length≤100000:=by
 have p:=Bg z;have H:=Nat.two_pow_pos d;have e2:2^(d+1)=2*2^d:=(by rw[aN];omega);have a:IsLev (2^d-1) d:=by
  unfold IsLev;rw[aN];exact Nat.mod_eq_of_lt (by omega)
 have e:∀y,inR d (2^d-1) y→y<t.length:=fun y g=>(by unfold inR at g;omega);have h:=Xx (F:=atT t) (i:=m) (only:=only) d (2^d-1) 0 [] a (by omega) fun y g=>(by unfold atT;rw[if_pos (e y g)];rfl);obtain⟨q,s⟩:=Vf r (fun n=>Zja t n) (Zf1 C) (by omega) h;have f:=Cs (F:=atT t) (i:=m) (only:=only) d (2^d-1) 0 [] a (by omega);obtain⟨c,l,v,B,D⟩:=Zf2 f.op f.opr e (by omega);obtain⟨b,o,w,u,A⟩:=Zf2 f.sh f.shr e (by omega);exact⟨c,b,l,o,q.trans l,s.trans o,v,w,B,u,D,A⟩
end Go.Proofs.YtfofaiommeckbaaGreat
