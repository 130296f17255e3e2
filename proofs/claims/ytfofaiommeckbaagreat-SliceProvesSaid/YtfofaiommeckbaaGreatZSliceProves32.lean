import Derived.Test.YtfofaiommeckbaaGreatZSliceProves30
import Derived.Test.YtfofaiommeckbaaGreatZSliceProves31
open Go.Value renaming slice → q9, int → rA
open Go.IntKind renaming i64 → rC, u8 → rD
open Option renaming none → rF
open Go.Proofs.Tryz
open List renaming foldl_append → gC, take_length → cE, flatMap_append → gD, length_cons → bY, length_map → gE, length_append → aG, length_take → cD, length_nil → bT, getElem?_toArray → bZ, getElem?_cons_zero → cA, getElem?_cons_succ → cB, getD_eq_getElem?_getD → aH, getElem?_eq_getElem → aI, getElem_mem → aJ, range_succ → eG
open Nat renaming pow_le_pow_right → aY, lt_succ_self → dE, lt_of_lt_of_le → dS, pow_succ → aN, two_pow_pos → fB, sub_zero → dJ
open Bool renaming true_and → dI, false_and → dH
open Int renaming tmod → fC, tmod_eq_emod_of_nonneg → fD
set_option linter.unusedVariables false
set_option maxRecDepth 100000
set_option maxHeartbeats 40000000
namespace Go.Proofs.YtfofaiommeckbaaGreat
open Go.RowKit WalkM WireM
section
def SW (FI:Int→Option NodeD)(d:Nat)(x:Int)(late:List Int)(r:Nat):List Int×Bool:=Op FI x ([x],true) ((late.take r).flatMap (upL d))
def SI (FI:Int→Option NodeD)(d:Nat)(x:Int)(late:List Int)(r k:Nat):List Int×Bool:=Op FI x (SW FI d x late r) ((upL d (late.getD r 0)).take k)
section
variable {FI:Int→Option NodeD} {d:Nat} {x:Int} {late:List Int}
theorem Su (r:Nat):SI FI d x late r 0=SW FI d x late r:=by simp[SI,Op]
theorem Ze2 {r k:Nat}(hk:k<(upL d (late.getD r 0)).length):SI FI d x late r (k+1)=Zcr FI x (SI FI d x late r k) ((upL d (late.getD r 0)).getD k 0):=by
 unfold SI Op;rw[←Fh hk,gC];rfl
theorem Zka {r:Nat}(hr:r<late.length):SI FI d x late r (upL d (late.getD r 0)).length=SW FI d x late (r+1):=by
 unfold SI SW Op;rw[cE,←Fh hr,gD,gC];simp
theorem Ze3:SW FI d x late late.length=Ih FI d x late:=by rw[SW,cE];rfl
theorem Zis (s:List Int×Bool)(y:Int):(Zcr FI x s y).1.length≤s.1.length+1:=by
 unfold Zcr
 split
 ·simp
 ·omega
theorem Vg:∀(ys:List Int) (s:List Int×Bool),(Op FI x s ys).1.length≤s.1.length+ys.length:=by
 intro ys
 induction ys with
 |nil=>intro s;simp[Op]
 |cons y ys ih=>
  intro s;have h1:=ih (Zcr FI x s y);have h2:=Zis (FI:=FI) (x:=x) s y;show(Op FI x (Zcr FI x s y) ys).1.length≤_;rw[bY];omega
theorem Ka (hd:d≤16)(u:Int):(upL d u).length≤17:=by
 unfold upL Pi;rw[bY,gE]
 split
 ·rw[Rv,Int.toNat_natCast,Nat.log2_two_pow];omega
 ·simp
theorem Zkb (b:d≤16):∀r,(SW FI d x late r).1.length≤1+17*r:=by
 intro r;have h:=Vg (FI:=FI) (x:=x) ((late.take r).flatMap (upL d)) ([x],true);have h2:((late.take r).flatMap (upL d)).length≤17*r:=by
  have:∀L:List Int,(L.flatMap (upL d)).length≤17*L.length:=by
   intro L
   induction L with
   |nil=>simp
   |cons a L ih=>rw[List.flatMap_cons,aG,bY];have:=Ka b a;omega
  have h3:=this (late.take r);rw[cD]at h3;omega
 unfold SW;simp only[bY,bT]at h;omega
theorem Zkc (hd:d≤16)(r k:Nat):(SI FI d x late r k).1.length≤18+17*r:=by
 have h:=Vg (FI:=FI) (x:=x) ((upL d (late.getD r 0)).take k) (SW FI d x late r);have h2:=Zkb (FI:=FI) (d:=d) (x:=x) (late:=late) hd r;have h3:=Ka hd (late.getD r 0);rw[cD]at h;unfold SI;omega
theorem Zv {s:List Int×Bool} {y:Int}(h1:y≠x)(h2:Bx y x=true)(h3:y∉s.1):Zcr FI x s y=(s.1++[y],s.2&&(FI y).isSome):=by rw[Zcr,if_pos ⟨h1,h2,h3⟩]
theorem Lx {s:List Int×Bool} {y:Int}(h:¬(y≠x∧Bx y x=true∧y∉s.1)):Zcr FI x s y=s:=by rw[Zcr,if_neg h]
end
def Mk (l:List (Int×NodeD)):Prop:=∀p∈l,p.2.kind<256∧p.2.par.late.length≤1000∧∀u∈p.2.par.late,0≤u∧u<65536
def Zkd (l:List (Int×NodeD))(d k:Nat):Prop:=∀(x:Nat) (v:Value) (w:World),SpotsR w v l→IsLev x k→x+2^k≤2*2^d-1→
 Calls prog 137 #[v,rA rC (x:Nat),rA rC ((2^d:Nat):Int)] w fun e w'=>∃vo,e=.returned (.tuple #[vo,.bool (Be (Ag l) d k x).2])∧Own w' w.heap.size 3 vo (ivs .i64 (Be (Ag l) d k x).1)∧Below w.heap.size w w'
theorem NodeC.frame {w:World} {d:NodeD} {c:Array Value}(h:NodeC w d c):∃x1 x2 x3 x4 x5 x6 x7 x8 b e,c=#[rA rD (d.kind:Nat),x1,x2,x3,x4,x5,x6,x7,x8,.slice b d.par.late.length e]∧Rd w (.slice b d.par.late.length e) (ivs .i64 d.par.late):=by
 obtain⟨n,c1,g,c2,j,c3,l,c4,o,c5,m,e1,r,e2,p,e3,rfl,h1,h2,h3,k,i,f,q,a⟩:=h;exact⟨_,_,_,_,_,_,_,_,_,_,rfl,a⟩
theorem Qq (l:List (Int×NodeD))(d k x:Nat)(v:Value)(w:World)(h:SpotsR w v l)(s:Ag l (x:Int)=none):
  Calls prog 137 #[v,rA rC (x:Nat),rA rC ((2^d:Nat):Int)] w fun e w'=>∃vo,e=.returned (.tuple #[vo,.bool (Be (Ag l) d k x).2])∧Own w' w.heap.size 3 vo (ivs .i64 (Be (Ag l) d k x).1)∧Below w.heap.size w w':=by
 rw[Ft s];have u:=fun(W:World) (C:Below w.heap.size w W)=>Fg v l x W (h.below C lR);rw[s]at u;obtain⟨n,B⟩:=eX (2^d);rw[←B];have r:=Hd u;obtain⟨a,E,rfl,-,-⟩:=h.sl;clear u h s B;go_enter func137,ntmps137;go_wp2_with fail;refine(r.out w bR).mono ?_;rintro e t ⟨c,rfl,f,p⟩;have j:=Hd f.oneL;obtain⟨x0,x1,x2,x3,x4,x5,x6,x7,x8,x9,rfl⟩:=f.ten;have g:=Hd p;clear f p;obtain⟨q,A⟩:=eX t.heap.size;have D:=Hd A;have y:=Hd (show Blk (t.alloc (.cells #[rA rD 0,q9 rF 0 0,q9 rF 0 0,q9 rF 0 0,rA rD 0,q9 rF 0 0,q9 rF 0 0,q9 rF 0 0,q9 rF 0 0,q9 rF 0 0] 52)) q 52 #[rA rD 0,q9 rF 0 0,q9 rF 0 0,q9 rF 0 0,rA rD 0,q9 rF 0 0,q9 rF 0 0,q9 rF 0 0,q9 rF 0 0,q9 rF 0 0] by rw[A];exact Blk.new _ _ _);clear A;go_wp2_with (refine Aa rfl 52 (.tmp 8) (.tmp 27) rfl t.heap.size #[x0,x1,x2,x3,x4,x5,x6,x7,x8,x9] rfl rfl 52 #[rA rD 0,q9 rF 0 0,q9 rF 0 0,q9 rF 0 0,rA rD 0,q9 rF 0 0,q9 rF 0 0,q9 rF 0 0,q9 rF 0 0,q9 rF 0 0] (D.out▸y.out) (by kernel_rfl) rfl j.out ?_);rintro F m o i b;have z:=Hd ((g.out.alloc g.out.size (.cells #[rA rD 0,q9 rF 0 0,q9 rF 0 0,q9 rF 0 0,rA rD 0,q9 rF 0 0,q9 rF 0 0,q9 rF 0 0,q9 rF 0 0,q9 rF 0 0] 52)).trans (o w.heap.size g.out.size));clear m o i b;go_wp2_with fail;go_ret2;exact⟨_,rfl,Own.nil _ _ _,z.out⟩
theorem Ot (l:List (Int×NodeD))(d x:Nat)(v:Value)(w:World)(hd:d≤16)(h:SpotsR w v l)(hK:Mk l)(D:NodeD)(hF:Ag l (x:Int)=some D)(hx:x≤131070)(b6:D.kind≠0):
  Calls prog 137 #[v,rA rC (x:Nat),rA rC ((2^d:Nat):Int)] w fun e w'=>∃vo,e=.returned (.tuple #[vo,.bool (Ih (Ag l) d x D.par.late).2])∧Own w' w.heap.size 3 vo (ivs .i64 (Ih (Ag l) d x D.par.late).1)∧Below w.heap.size w w':=by
 obtain⟨E,V,z⟩:=hK _ (Br hF);have E:D.kind<256:=E;have V:D.par.late.length≤1000:=V;have z:∀u∈D.par.late,0≤u∧u<65536:=z;have N:=fun(y:Int) (W:World) (hw:Below w.heap.size w W)=>Fg v l y W (h.below hw lR);have FD:=fun(W:World) (hw:Below w.heap.size w W)=>N x W hw;rw[hF]at FD;have dA:(2^d:Nat)≤2^16:=aY (by omega) hd;have cV:(2:Nat)^16=65536:=rfl;have UN:=fun(y:Int) (W:World)=>Ds y (x:Int) W;have UL:=fun(u:Int)=>Ka hd u;have aK:=fun(r k:Nat)=>Zkc (FI:=Ag l) (d:=d) (x:=(x:Int)) (late:=D.par.late) hd r k;have aO:=fun(r k:Nat) (hr:r<D.par.late.length)=>(show(SI (Ag l) d (x:Int) D.par.late r k).1.length≤20000 from by have:=aK r k;omega);clear hK;obtain⟨FI,bA⟩:=eX (Ag l);rw[←bA]at aK aO⊢;simp only[←bA]at N;have a7:=Hd N;have cM:=Hd FD;obtain⟨n,hn⟩:=eX (2^d);rw[←hn];have HN:=Hd hn;have aT:=fun(y:Int) (W:World)=>Of y (n:Int) W (by omega) (by omega);obtain⟨a,cp,rfl,-,-⟩:=h.sl;obtain⟨kd,bD⟩:=eX D.kind;obtain⟨L,hL⟩:=eX D.par.late;rw[←hL]at V z aK aO⊢;rw[←bD]at E b6;have cS:=Hd bD;have cK:=Hd hL;have c8:=Hd z;have bB:=Hd aT;have cW:=Hd UN;have cI:=Hd UL;have bL:=Hd aK;have dC:=Hd aO;have c7:=Hd V;have dR:((kd:Int)==0)=false:=(by rw[beq_eq_false_iff_ne];omega);clear N FD cV dA aT UN UL aK aO bA hn bD hL z V hF h b6;go_enter func137,ntmps137;go_wp2_with fail;refine(cM.out w bR).mono ?_;rintro e w2 ⟨c,rfl,bC,cJ⟩;have aF:=Hd bC.oneL;obtain⟨x1,x2,x3,x4,x5,x6,x7,x8,b3,e3,rfl,aS⟩:=bC.frame;have S:(some D).getD Aq=D:=rfl;rw[S,←cS.out,←cK.out]at aF⊢;rw[S,←cK.out]at aS;obtain⟨l8,aL⟩:=eX L.length;rw[←aL]at aF aS⊢;have C:=Hd cJ;have b1:=Hd aS;have aN:=Hd aL;have dK:l8≤1000:=(by rw[aL];exact c7.out);clear bC cJ S aS aL;obtain⟨q,hq⟩:=eX w2.heap.size;have HQ:=Hd hq;have c5:=Hd (show Blk (w2.alloc (.cells #[rA rD 0,q9 rF 0 0,q9 rF 0 0,q9 rF 0 0,rA rD 0,q9 rF 0 0,q9 rF 0 0,q9 rF 0 0,q9 rF 0 0,q9 rF 0 0] 52)) q 52 #[rA rD 0,q9 rF 0 0,q9 rF 0 0,q9 rF 0 0,rA rD 0,q9 rF 0 0,q9 rF 0 0,q9 rF 0 0,q9 rF 0 0,q9 rF 0 0] by rw[hq];exact Blk.new _ _ _);clear hq;go_wp2_with (refine Aa rfl 52 (.tmp 8) (.tmp 27) rfl w2.heap.size #[rA rD (kd:Nat),x1,x2,x3,x4,x5,x6,x7,x8,q9 b3 l8 e3] rfl rfl 52 #[rA rD 0,q9 rF 0 0,q9 rF 0 0,q9 rF 0 0,rA rD 0,q9 rF 0 0,q9 rF 0 0,q9 rF 0 0,q9 rF 0 0,q9 rF 0 0] (HQ.out▸c5.out) (by kernel_rfl) rfl aF.out ?_);rintro w3 i I aC f;rw[←HQ.out]at i⊢;have bG:=Hd ((C.out.alloc C.out.size (.cells #[rA rD 0,q9 rF 0 0,q9 rF 0 0,q9 rF 0 0,rA rD 0,q9 rF 0 0,q9 rF 0 0,q9 rF 0 0,q9 rF 0 0,q9 rF 0 0] 52)).trans (I w.heap.size C.out.size));have A:=Hd (show w3.heap.size=q+1 from by rw[f];simp[HQ.out]);have c4:=Hd i;have cC:=Hd (b1.out.below (((Below.refl w2.heap.size w2).alloc lR (.cells #[rA rD 0,q9 rF 0 0,q9 rF 0 0,q9 rF 0 0,rA rD 0,q9 rF 0 0,q9 rF 0 0,q9 rF 0 0,q9 rF 0 0,q9 rF 0 0] 52)).trans (I w2.heap.size lR)) lR);have c0:=i.cell 0;have c9:=i.cell 9;simp only[bZ,cA,cB]at c0 c9;have cE:q<w3.heap.size:=(by rw[f];simp[HQ.out]);clear i I aC f;go_wp2_with fail;have b0:=Hd (show Own (w3.alloc (.cells #[rA rC (x:Nat)] 3)) (q+1) 3 (q9 (some ⟨w3.heap.size,0,rF⟩) 1 1) (ivs .i64 [(x:Int)])from Own.full (B:=q+1) (cs:=#[rA rC (x:Nat)]) rfl (by rw[A.out];exact lR) (by unfold maxLen;simp) rfl);have a0:=Hd (show Below (q+1) w3 (w3.alloc (.cells #[rA rC (x:Nat)] 3))from bR.alloc (by rw[A.out];exact lR) _);generalize hw4:w3.alloc (.cells #[rA rC (x:Nat)] 3)=w4 at b0 a0⊢;obtain⟨dO,cG⟩:=eX (Value.slice (some ⟨w3.heap.size,0,rF⟩) 1 1);clear hw4 c0 c9 cG cE
 go_loopg [9,10,17] l8 (fun q0 kv ov iv wr=>∃r:Nat,r+q0=l8∧iv=rA rC (r:Nat)∧kv=.bool (SW FI d x L r).2∧Own wr (q+1) 3 ov (ivs .i64 (SW FI d x L r).1)∧Below (q+1) w3 wr)
 case atStart=>exact⟨0,by omega,rfl,rfl,b0.out,a0.out⟩
 case round=>
  obtain⟨r,hr,rfl,rfl,s,hb⟩:=hrel;have HR:=Hd hr;have HO:=Hd s;have HB:=Hd hb;have bN:=Hd (c4.out.below hb (dE _));have c9:=bN.out.cell 9;simp only[bZ,cA,cB]at c9;have U:=Hd (bG.out.trans (hb.mono (by have:=C.out.size;have:=HQ.out;omega)));clear hr s hb
  by_cases hlt:r<l8
  ·have bP:decide (r<l8)=true:=decide_eq_true hlt;have dB:(r:Int)<(l8:Int):=(by omega);obtain⟨bl,ol,rfl,I,cu⟩:=(cC.out.below HB.out (by rw[A.out];exact lR)).at3 (Cp (show r<L.length by rw[←aN.out];exact hlt));have z:=c8.out (L.getD r 0) (by rw[aH,aI (show r<L.length by rw[←aN.out];exact hlt)];exact aJ _);obtain⟨u,hu⟩:=eX (L.getD r 0);rw[←hu]at cu z;have HU:=Hd hu;obtain⟨dQ,dL⟩:=z;have hw:wrap64 (2*u)=2*u:=(by unfold wrap64;omega);obtain⟨g1,rfl⟩:=eX gk;obtain⟨O,rfl⟩:∃O:World,O=wr:=⟨_,rfl⟩;obtain⟨b8,j⟩:=eX ((SW FI d x L r).2);rw[←j];have Y:=Hd j;obtain⟨p1,p2,p3,rfl⟩:=Dg HO.out;clear hu j;go_wp2_with fail;have cL:=Hd (bB.out (2*u) (O.alloc (.cells #[rA rC (2*u)] 3)));have cZ:=Hd (show Own (O.alloc (.cells #[rA rC (2*u)] 3)) O.heap.size 3 (q9 (some ⟨O.heap.size,0,rF⟩) 1 1) [rA rC (2*u)]from Own.full (B:=O.heap.size) (cs:=#[rA rC (2*u)]) rfl lR (by unfold maxLen;simp) rfl);have bT:=Hd ((Below.refl O.heap.size O).alloc lR (.cells #[rA rC (2*u)] 3));refine cL.out.mono ?_;rintro e w5 ⟨pv,rfl,bH,bE⟩;have cQ:=Hd bH.rd;have bW:=Hd (cZ.out.below bE lR);have cD:=Hd (bT.out.trans (bE.mono bT.out.size));obtain⟨s1,s2,s3,rfl⟩:=Dg bH;clear bH bE;go_wp2_with (at_builtin;refine Aj rfl (.tmp 85) (.tmp 88) 48 rfl O.heap.size 3 _ 8 Cn _ [rA rC (2*u)] rfl bW.out _ _ rfl cQ.out ?d1 ?d2 ?d3 ?_);case d1=>exact Eo _
   case d2=>have:=cI.out u;rw[upL,bY,gE,←HN.out]at this;rw[Ln];simp;omega
   case d3=>exact cD.out.size
   rintro uv w6 G-bX;have t:=Hd (show Own w6 O.heap.size 3 uv (ivs .i64 (upL d u))from by
    have e:Value.int .i64 (2*u)::nvs (Pi (2*u) ((2^d:Nat):Int))=ivs .i64 (upL d u):=(by simp[upL,nvs,ivs]);rw[HN.out,e]at G;exact G)
   have bK:=Hd (cD.out.trans bX);have cX:=Hd (HO.out.below bK.out lR);have F:=Hd (show Hw (q9 p1 p2 p3) uv from fun g e1 e2=>by have:=(HO.out.blockLt e1).1;have:=(t.out.blockLt e2).2;omega);have b5:=Hd (HB.out.trans (bK.out.mono (show q+1≤O.heap.size by have:=HB.out.size;have:=A.out;omega)));clear G bX;obtain⟨ul,aR⟩:=eX ((upL d u).length);have K:=Hd aR;have cY:ul≤17:=(by rw[aR];exact cI.out u);obtain⟨v1,v2,rfl⟩:=Qm t.out aR.symm;clear aR;go_wp2_with fail
   go_loopg [9,10,20] ul (fun q0 kv ov iv wr=>∃k:Nat,k+q0=ul∧iv=rA rC (k:Nat)∧kv=.bool (SI FI d x L r k).2∧Own wr (q+1) 3 ov (ivs .i64 (SI FI d x L r k).1)∧Own wr O.heap.size 3 (q9 v1 ul v2) (ivs .i64 (upL d u))∧Hw ov (q9 v1 ul v2)∧Below (q+1) w3 wr)
   case atStart=>exact⟨0,by omega,rfl,by rw[Su,Y.out],by rw[Su];exact cX.out,t.out,F.out,b5.out⟩
   case round=>
    obtain⟨k,hk,rfl,rfl,s,bU,cH,hb⟩:=hrel;have HK:=Hd hk;have HO:=Hd s;have t:=Hd bU;have F:=Hd cH;have HB:=Hd hb;have U:=Hd (bG.out.trans (hb.mono (by have:=C.out.size;have:=HQ.out;omega)));have cF:q+1≤wr.heap.size:=(by have:=hb.size;have:=A.out;omega);have cO:w.heap.size≤wr.heap.size:=U.out.size;have bM:=Hd cF;obtain⟨bS,T⟩:=eX ((SI FI d x L r k).2);rw[←T];have o:=Hd T;clear hk s bU cH hb T cF cO
    by_cases hku:k<ul
    ·have bV:decide (k<ul)=true:=decide_eq_true hku;have dD:(k:Int)<(ul:Int):=(by omega);obtain⟨bu,ou,rfl,bF,cy⟩:=t.out.rd.at3 (Cp (show k<(upL d u).length by rw[←K.out];exact hku));have Q:=Hd (Ze2 (FI:=FI) (d:=d) (x:=x) (late:=L) (r:=r) (k:=k) (by rw[←HU.out,←K.out];exact hku));rw[←HU.out]at Q;obtain⟨y,hy⟩:=eX ((upL d u).getD k 0);rw[←hy]at cy Q;have cP:=Hd hy;clear hy;obtain⟨p1,p2,p3,rfl⟩:=Dg HO.out
     by_cases c1:y=x
     ·have cT:(y !=x)=false:=(by simp[c1]);have R:=Hd (show SI FI d x L r (k+1)=SI FI d x L r k from by rw[Q.out];exact Lx fun h=>h.1 c1);clear c1;go_wp2_with fail;go_roundg (gk-1);case measure=>have:=HK.out;omega
      case rel=>exact⟨k+1,by have:=HK.out;omega,by go_num,by rw[R.out,o.out],by rw[R.out];exact HO.out,t.out,F.out,HB.out⟩
     ·have cT:(y !=x)=true:=(by simp[c1]);have cN:=Hd c1;clear c1;have UN:=cW.out y wr;obtain⟨bb,a9⟩:=eX (Bx y x);rw[←a9]at UN;have aX:=Hd UN;have aD:=Hd a9;clear UN a9;cases bb with
      |false=>
       have R:=Hd (show SI FI d x L r (k+1)=SI FI d x L r k from by rw[Q.out];exact Lx fun h=>by rw[←aD.out]at h;cases h.2.1);clear aD;go_wp2_with fail;refine aX.out.mono ?_;rintro e w7 ⟨rfl,b⟩;have aP:=Hd b;clear b;go_wp2_with fail;go_roundg (gk-1);case measure=>have:=HK.out;omega
       case rel=>exact⟨k+1,by have:=HK.out;omega,by go_num,by rw[R.out,o.out],by rw[R.out];exact HO.out.below aP.out lR,t.out.below aP.out lR,F.out,HB.out.trans (aP.out.mono bM.out)⟩
      |true=>
       go_wp2_with fail;refine aX.out.mono ?_;rintro e w7 ⟨rfl,b⟩;have aP:=Hd b;have bI:=Hd (HO.out.below b lR);have aA:=Hd (t.out.below b lR);have J:=Hd (HB.out.trans (b.mono bM.out));have dF:=Hd (U.out.trans (b.mono U.out.size));have cR:=(b.cell (p:=⟨bu,ou+k,rF⟩) bF).trans cy;have dG:=Hd (show bu<w7.heap.size from dS bF b.size);have HA:=Cb _ (SI FI d x L r k).1 y w7 bI.out.rd;obtain⟨hh,a6⟩:=eX (decide (y∈(SI FI d x L r k).1));rw[←a6]at HA;have aZ:=Hd HA;have aM:=Hd a6;clear HA a6 b cy bF;cases hh with
       |true=>
        have R:=Hd (show SI FI d x L r (k+1)=SI FI d x L r k from by rw[Q.out];exact Lx fun h=>absurd (of_decide_eq_true aM.out.symm) h.2.2);clear aM aD;go_wp2_with fail;refine aZ.out.mono ?_;rintro e w8 ⟨rfl,rfl⟩;go_wp2_with fail;go_roundg (gk-1);case measure=>have:=HK.out;omega
        case rel=>exact⟨k+1,by have:=HK.out;omega,by go_num,by rw[R.out,o.out],by rw[R.out];exact bI.out,aA.out,F.out,J.out⟩
       |false=>
        have R:=Hd (show SI FI d x L r (k+1)=((SI FI d x L r k).1++[y],(SI FI d x L r k).2&&(FI y).isSome)from by rw[Q.out];exact Zv cN.out aD.out.symm (of_decide_eq_false aM.out.symm));clear aM aD;go_wp2_with fail;refine aZ.out.mono ?_;rintro e w8 ⟨rfl,rfl⟩;go_wp2_with (at_builtin;refine Ck rfl (.tmp 119) (.tmp 124) 48 rfl (q+1) 3 _ 8 Cn _ _ rfl (bI.out.alloc _) _ (rA rC y) rfl ?c1 rfl ?c2 ?c3 ?_);case c1=>exact Ar rfl
        case c2=>have:=bL.out r k;simp[ivs];omega
        case c3=>have:=J.out.size;have:=A.out;simp;omega
        rintro dM w9 aE bO b7 Z;have a4:=Hd aE;have X:=Hd (show Own w9 O.heap.size 3 _ _ from(aA.out.alloc (.cells #[rA rC y] 3)).grown bO fun g e1 e2=>F.out g e2 e1);have a2:=Hd (Gy Z F.out (aA.out.alloc (.cells #[rA rC y] 3)));have M:=Hd ((J.out.alloc (by have:=J.out.size;have:=A.out;omega) (.cells #[rA rC y] 3)).trans b7);have bJ:=Hd (bG.out.trans (M.out.mono (by have:=C.out.size;have:=HQ.out;omega)));obtain⟨b9,o9,e9,b4,a1⟩:=X.out.rd.at3 (Cp (show k<(upL d u).length by rw[←K.out];exact hku));cases e9;have dJ:w9.cell? ⟨bu,ou+k,rF⟩=some (rA rC y):=a1.trans (by rw[cP.out]);have cU:=Hd (a7.out y w9 bJ.out);clear aE bO b7 Z cR b4 a1;obtain⟨o1,o2,o3,rfl⟩:=Dg a4.out;go_wp2_with fail;refine cU.out.mono ?_;rintro e P ⟨dN,rfl,H,aV⟩;obtain⟨fk,a8⟩:=eX ((FI y).isSome);rw[←a8];have bQ:=Hd a8;have aQ:=Hd H.oneL;obtain⟨y0,y1,y2,y3,y4,y5,y6,y7,y8,y9,rfl⟩:=H.ten;have aW:=Hd aV;clear H aV a8;obtain⟨c6,aB⟩:=eX P.heap.size;have b2:=Hd aB;have a5:=Hd (show Blk (P.alloc (.cells #[rA rD 0,q9 rF 0 0,q9 rF 0 0,q9 rF 0 0,rA rD 0,q9 rF 0 0,q9 rF 0 0,q9 rF 0 0,q9 rF 0 0,q9 rF 0 0] 52)) c6 52 #[rA rD 0,q9 rF 0 0,q9 rF 0 0,q9 rF 0 0,rA rD 0,q9 rF 0 0,q9 rF 0 0,q9 rF 0 0,q9 rF 0 0,q9 rF 0 0] by rw[aB];exact Blk.new _ _ _);clear aB;go_wp2_with (refine Aa rfl 52 (.tmp 21) (.tmp 133) rfl P.heap.size #[y0,y1,y2,y3,y4,y5,y6,y7,y8,y9] rfl rfl 52 #[rA rD 0,q9 rF 0 0,q9 rF 0 0,q9 rF 0 0,rA rD 0,q9 rF 0 0,q9 rF 0 0,q9 rF 0 0,q9 rF 0 0,q9 rF 0 0] (b2.out▸a5.out) (by kernel_rfl) rfl aQ.out ?_);rintro dP i I aC f;have m:=Hd (aW.out.trans (((Below.refl P.heap.size P).alloc lR (.cells #[rA rD 0,q9 rF 0 0,q9 rF 0 0,q9 rF 0 0,rA rD 0,q9 rF 0 0,q9 rF 0 0,q9 rF 0 0,q9 rF 0 0,q9 rF 0 0] 52)).trans (I P.heap.size lR)|>.mono aW.out.size));clear i I aC f;have a3:=Hd (show(SI FI d x L r (k+1)).2=(bS&&fk)from by rw[R.out,o.out,bQ.out]);have aG:=Hd (show(SI FI d x L r (k+1)).1=(SI FI d x L r k).1++[y]from by rw[R.out]);have aU:=Hd (show q+1≤w9.heap.size from by have:=M.out.size;have:=A.out;omega);clear bQ o R;cases bS with
        |true=>
         go_wp2_with fail;go_roundg (gk-1);case measure=>have:=HK.out;omega
         case rel=>
          refine⟨k+1,by have:=HK.out;omega,by go_num,by rw[a3.out,dI],?_,X.out.below m.out lR,a2.out,M.out.trans (m.out.mono aU.out)⟩;have:=a4.out.below m.out lR;rw[aG.out];simpa [ivs]using this
        |false=>
         go_wp2_with fail;go_roundg (gk-1);case measure=>have:=HK.out;omega
         case rel=>
          refine⟨k+1,by have:=HK.out;omega,by go_num,by rw[a3.out,dH],?_,X.out.below m.out lR,a2.out,M.out.trans (m.out.mono aU.out)⟩;have:=a4.out.below m.out lR;rw[aG.out];simpa [ivs]using this
    ·obtain rfl:k=ul:=(by have:=HK.out;omega);have bV:decide (k<k)=false:=decide_eq_false hku;have HE:=Hd (show SI FI d x L r k=SW FI d x L (r+1)from by
      rw[K.out,HU.out];exact Zka (by rw[←aN.out];exact hlt))
     clear hku;go_wp2_with fail;go_roundg (g1-1);case measure=>have:=HR.out;omega
     case rel=>exact⟨r+1,by have:=HR.out;omega,by go_num,by rw[←HE.out,o.out],by rw[←HE.out];exact HO.out,HB.out⟩
  ·obtain rfl:r=l8:=(by have:=HR.out;omega);have bP:decide (r<r)=false:=decide_eq_false hlt;have HE:=Hd (show SW FI d x L r=Ih FI d x L from by rw[aN.out];exact Ze3);obtain⟨b8,j⟩:=eX ((SW FI d x L r).2);rw[←j];have Y:=Hd j;clear hlt j;go_wp2_with fail;go_ret2;obtain rfl:b8=(Ih FI d x L).2:=(by rw[Y.out,HE.out]);refine⟨_,rfl,?_,U.out⟩;rw[←HE.out];exact HO.out.mono (by have:=C.out.size;have:=HQ.out;omega)
theorem Xl (l:List (Int×NodeD))(d x:Nat)(v:Value)(w:World)(hd:d≤16)(h:SpotsR w v l)(hK:Mk l)(D:NodeD)(hF:Ag l (x:Int)=some D)(hx:x≤131070)(aQ:D.kind=0∧x%2=0):
  Calls prog 137 #[v,rA rC (x:Nat),rA rC ((2^d:Nat):Int)] w fun e w'=>∃vo,e=.returned (.tuple #[vo,.bool (Ih (Ag l) d x D.par.late).2])∧Own w' w.heap.size 3 vo (ivs .i64 (Ih (Ag l) d x D.par.late).1)∧Below w.heap.size w w':=by
 obtain⟨E,V,z⟩:=hK _ (Br hF);have E:D.kind<256:=E;have V:D.par.late.length≤1000:=V;have z:∀u∈D.par.late,0≤u∧u<65536:=z;have N:=fun(y:Int) (W:World) (hw:Below w.heap.size w W)=>Fg v l y W (h.below hw lR);have FD:=fun(W:World) (hw:Below w.heap.size w W)=>N x W hw;rw[hF]at FD;have dB:(2^d:Nat)≤2^16:=aY (by omega) hd;have cW:(2:Nat)^16=65536:=rfl;have UN:=fun(y:Int) (W:World)=>Ds y (x:Int) W;have UL:=fun(u:Int)=>Ka hd u;have aK:=fun(r k:Nat)=>Zkc (FI:=Ag l) (d:=d) (x:=(x:Int)) (late:=D.par.late) hd r k;have aO:=fun(r k:Nat) (hr:r<D.par.late.length)=>(show(SI (Ag l) d (x:Int) D.par.late r k).1.length≤20000 from by have:=aK r k;omega);clear hK;obtain⟨FI,bB⟩:=eX (Ag l);rw[←bB]at aK aO⊢;simp only[←bB]at N;have a8:=Hd N;have cN:=Hd FD;obtain⟨n,hn⟩:=eX (2^d);rw[←hn];have HN:=Hd hn;have aU:=fun(y:Int) (W:World)=>Of y (n:Int) W (by omega) (by omega);obtain⟨a,cp,rfl,-,-⟩:=h.sl;obtain⟨kd,bE⟩:=eX D.kind;obtain⟨L,hL⟩:=eX D.par.late;rw[←hL]at V z aK aO⊢;rw[←bE]at E aQ;have cT:=Hd bE;have cK:=Hd hL;have dA:=Hd z;have bC:=Hd aU;have cX:=Hd UN;have cJ:=Hd UL;have bN:=Hd aK;have dF:=Hd aO;have c8:=Hd V;have cM:=aQ.1;have dC:=aQ.2;have dV:((kd:Int)==0)=true:=(by rw[beq_iff_eq];omega);have dT:(((x:Nat):Int)%2==1)=false:=(by rw[beq_eq_false_iff_ne];omega);have bK:(fC (x:Int) 2==1)=false:=(by rw[fD (by omega),beq_eq_false_iff_ne];omega);clear N FD cW dB aU UN UL aK aO bB hn bE hL z V hF h aQ cM dC;go_enter func137,ntmps137;go_wp2_with fail;refine(cN.out w bR).mono ?_;rintro e w2 ⟨c,rfl,bD,bK⟩;have aF:=Hd bD.oneL;obtain⟨x1,x2,x3,x4,x5,x6,x7,x8,b3,e3,rfl,aT⟩:=bD.frame;have S:(some D).getD Aq=D:=rfl;rw[S,←cT.out,←cK.out]at aF⊢;rw[S,←cK.out]at aT;obtain⟨l8,aL⟩:=eX L.length;rw[←aL]at aF aT⊢;have C:=Hd bK;have b4:=Hd aT;have aN:=Hd aL;have dM:l8≤1000:=(by rw[aL];exact c8.out);clear bD bK S aT aL;obtain⟨q,hq⟩:=eX w2.heap.size;have HQ:=Hd hq;have c6:=Hd (show Blk (w2.alloc (.cells #[rA rD 0,q9 rF 0 0,q9 rF 0 0,q9 rF 0 0,rA rD 0,q9 rF 0 0,q9 rF 0 0,q9 rF 0 0,q9 rF 0 0,q9 rF 0 0] 52)) q 52 #[rA rD 0,q9 rF 0 0,q9 rF 0 0,q9 rF 0 0,rA rD 0,q9 rF 0 0,q9 rF 0 0,q9 rF 0 0,q9 rF 0 0,q9 rF 0 0] by rw[hq];exact Blk.new _ _ _);clear hq;go_wp2_with (refine Aa rfl 52 (.tmp 8) (.tmp 27) rfl w2.heap.size #[rA rD (kd:Nat),x1,x2,x3,x4,x5,x6,x7,x8,q9 b3 l8 e3] rfl rfl 52 #[rA rD 0,q9 rF 0 0,q9 rF 0 0,q9 rF 0 0,rA rD 0,q9 rF 0 0,q9 rF 0 0,q9 rF 0 0,q9 rF 0 0,q9 rF 0 0] (HQ.out▸c6.out) (by kernel_rfl) rfl aF.out ?_);rintro w3 i I aC f;rw[←HQ.out]at i⊢;have bH:=Hd ((C.out.alloc C.out.size (.cells #[rA rD 0,q9 rF 0 0,q9 rF 0 0,q9 rF 0 0,rA rD 0,q9 rF 0 0,q9 rF 0 0,q9 rF 0 0,q9 rF 0 0,q9 rF 0 0] 52)).trans (I w.heap.size C.out.size));have A:=Hd (show w3.heap.size=q+1 from by rw[f];simp[HQ.out]);have c5:=Hd i;have cD:=Hd (b4.out.below (((Below.refl w2.heap.size w2).alloc lR (.cells #[rA rD 0,q9 rF 0 0,q9 rF 0 0,q9 rF 0 0,rA rD 0,q9 rF 0 0,q9 rF 0 0,q9 rF 0 0,q9 rF 0 0,q9 rF 0 0] 52)).trans (I w2.heap.size lR)) lR);have c0:=i.cell 0;have c9:=i.cell 9;simp only[bZ,cA,cB]at c0 c9;have cF:q<w3.heap.size:=(by rw[f];simp[HQ.out]);clear i I aC f;go_wp2_with fail;have b2:=Hd (show Own (w3.alloc (.cells #[rA rC (x:Nat)] 3)) (q+1) 3 (q9 (some ⟨w3.heap.size,0,rF⟩) 1 1) (ivs .i64 [(x:Int)])from Own.full (B:=q+1) (cs:=#[rA rC (x:Nat)]) rfl (by rw[A.out];exact lR) (by unfold maxLen;simp) rfl);have a1:=Hd (show Below (q+1) w3 (w3.alloc (.cells #[rA rC (x:Nat)] 3))from bR.alloc (by rw[A.out];exact lR) _);generalize hw4:w3.alloc (.cells #[rA rC (x:Nat)] 3)=w4 at b2 a1⊢;obtain⟨dQ,cH⟩:=eX (Value.slice (some ⟨w3.heap.size,0,rF⟩) 1 1);clear hw4 c0 c9 cH cF
 go_loopg [9,10,17] l8 (fun q0 kv ov iv wr=>∃r:Nat,r+q0=l8∧iv=rA rC (r:Nat)∧kv=.bool (SW FI d x L r).2∧Own wr (q+1) 3 ov (ivs .i64 (SW FI d x L r).1)∧Below (q+1) w3 wr)
 case atStart=>exact⟨0,by omega,rfl,rfl,b2.out,a1.out⟩
 case round=>
  obtain⟨r,hr,rfl,rfl,s,hb⟩:=hrel;have HR:=Hd hr;have HO:=Hd s;have HB:=Hd hb;have bP:=Hd (c5.out.below hb (dE _));have c9:=bP.out.cell 9;simp only[bZ,cA,cB]at c9;have U:=Hd (bH.out.trans (hb.mono (by have:=C.out.size;have:=HQ.out;omega)));clear hr s hb
  by_cases hlt:r<l8
  ·have bS:decide (r<l8)=true:=decide_eq_true hlt;have dD:(r:Int)<(l8:Int):=(by omega);obtain⟨bl,ol,rfl,I,cu⟩:=(cD.out.below HB.out (by rw[A.out];exact lR)).at3 (Cp (show r<L.length by rw[←aN.out];exact hlt));have z:=dA.out (L.getD r 0) (by rw[aH,aI (show r<L.length by rw[←aN.out];exact hlt)];exact aJ _);obtain⟨u,hu⟩:=eX (L.getD r 0);rw[←hu]at cu z;have HU:=Hd hu;obtain⟨dU,dN⟩:=z;have hw:wrap64 (2*u)=2*u:=(by unfold wrap64;omega);obtain⟨g1,rfl⟩:=eX gk;obtain⟨O,rfl⟩:∃O:World,O=wr:=⟨_,rfl⟩;obtain⟨cC,j⟩:=eX ((SW FI d x L r).2);rw[←j];have Y:=Hd j;obtain⟨p1,p2,p3,rfl⟩:=Dg HO.out;clear hu j;go_wp2_with fail;have cL:=Hd (bC.out (2*u) (O.alloc (.cells #[rA rC (2*u)] 3)));have c4:=Hd (show Own (O.alloc (.cells #[rA rC (2*u)] 3)) O.heap.size 3 (q9 (some ⟨O.heap.size,0,rF⟩) 1 1) [rA rC (2*u)]from Own.full (B:=O.heap.size) (cs:=#[rA rC (2*u)]) rfl lR (by unfold maxLen;simp) rfl);have bV:=Hd ((Below.refl O.heap.size O).alloc lR (.cells #[rA rC (2*u)] 3));refine cL.out.mono ?_;rintro e w5 ⟨pv,rfl,bI,bF⟩;have cR:=Hd bI.rd;have b0:=Hd (c4.out.below bF lR);have cE:=Hd (bV.out.trans (bF.mono bV.out.size));obtain⟨s1,s2,s3,rfl⟩:=Dg bI;clear bI bF;go_wp2_with (at_builtin;refine Aj rfl (.tmp 85) (.tmp 88) 48 rfl O.heap.size 3 _ 8 Cn _ [rA rC (2*u)] rfl b0.out _ _ rfl cR.out ?d1 ?d2 ?d3 ?_);case d1=>exact Eo _
   case d2=>have:=cJ.out u;rw[upL,bY,gE,←HN.out]at this;rw[Ln];simp;omega
   case d3=>exact cE.out.size
   rintro uv w6 G-b1;have t:=Hd (show Own w6 O.heap.size 3 uv (ivs .i64 (upL d u))from by
    have e:Value.int .i64 (2*u)::nvs (Pi (2*u) ((2^d:Nat):Int))=ivs .i64 (upL d u):=(by simp[upL,nvs,ivs]);rw[HN.out,e]at G;exact G)
   have bM:=Hd (cE.out.trans b1);have cY:=Hd (HO.out.below bM.out lR);have F:=Hd (show Hw (q9 p1 p2 p3) uv from fun g e1 e2=>by have:=(HO.out.blockLt e1).1;have:=(t.out.blockLt e2).2;omega);have b7:=Hd (HB.out.trans (bM.out.mono (show q+1≤O.heap.size by have:=HB.out.size;have:=A.out;omega)));clear G b1;obtain⟨ul,aS⟩:=eX ((upL d u).length);have K:=Hd aS;have cZ:ul≤17:=(by rw[aS];exact cJ.out u);obtain⟨v1,v2,rfl⟩:=Qm t.out aS.symm;clear aS;go_wp2_with fail
   go_loopg [9,10,20] ul (fun q0 kv ov iv wr=>∃k:Nat,k+q0=ul∧iv=rA rC (k:Nat)∧kv=.bool (SI FI d x L r k).2∧Own wr (q+1) 3 ov (ivs .i64 (SI FI d x L r k).1)∧Own wr O.heap.size 3 (q9 v1 ul v2) (ivs .i64 (upL d u))∧Hw ov (q9 v1 ul v2)∧Below (q+1) w3 wr)
   case atStart=>exact⟨0,by omega,rfl,by rw[Su,Y.out],by rw[Su];exact cY.out,t.out,F.out,b7.out⟩
   case round=>
    obtain⟨k,hk,rfl,rfl,s,bW,cI,hb⟩:=hrel;have HK:=Hd hk;have HO:=Hd s;have t:=Hd bW;have F:=Hd cI;have HB:=Hd hb;have U:=Hd (bH.out.trans (hb.mono (by have:=C.out.size;have:=HQ.out;omega)));have cG:q+1≤wr.heap.size:=(by have:=hb.size;have:=A.out;omega);have cP:w.heap.size≤wr.heap.size:=U.out.size;have bO:=Hd cG;obtain⟨bU,T⟩:=eX ((SI FI d x L r k).2);rw[←T];have o:=Hd T;clear hk s bW cI hb T cG cP
    by_cases hku:k<ul
    ·have bX:decide (k<ul)=true:=decide_eq_true hku;have dG:(k:Int)<(ul:Int):=(by omega);obtain⟨bu,ou,rfl,bG,cy⟩:=t.out.rd.at3 (Cp (show k<(upL d u).length by rw[←K.out];exact hku));have Q:=Hd (Ze2 (FI:=FI) (d:=d) (x:=x) (late:=L) (r:=r) (k:=k) (by rw[←HU.out,←K.out];exact hku));rw[←HU.out]at Q;obtain⟨y,hy⟩:=eX ((upL d u).getD k 0);rw[←hy]at cy Q;have cQ:=Hd hy;clear hy;obtain⟨p1,p2,p3,rfl⟩:=Dg HO.out
     by_cases c1:y=x
     ·have cU:(y !=x)=false:=(by simp[c1]);have R:=Hd (show SI FI d x L r (k+1)=SI FI d x L r k from by rw[Q.out];exact Lx fun h=>h.1 c1);clear c1;go_wp2_with fail;go_roundg (gk-1);case measure=>have:=HK.out;omega
      case rel=>exact⟨k+1,by have:=HK.out;omega,by go_num,by rw[R.out,o.out],by rw[R.out];exact HO.out,t.out,F.out,HB.out⟩
     ·have cU:(y !=x)=true:=(by simp[c1]);have cO:=Hd c1;clear c1;have UN:=cX.out y wr;obtain⟨bb,bA⟩:=eX (Bx y x);rw[←bA]at UN;have aZ:=Hd UN;have aD:=Hd bA;clear UN bA;cases bb with
      |false=>
       have R:=Hd (show SI FI d x L r (k+1)=SI FI d x L r k from by rw[Q.out];exact Lx fun h=>by rw[←aD.out]at h;cases h.2.1);clear aD;go_wp2_with fail;refine aZ.out.mono ?_;rintro e w7 ⟨rfl,b⟩;have aP:=Hd b;clear b;go_wp2_with fail;go_roundg (gk-1);case measure=>have:=HK.out;omega
       case rel=>exact⟨k+1,by have:=HK.out;omega,by go_num,by rw[R.out,o.out],by rw[R.out];exact HO.out.below aP.out lR,t.out.below aP.out lR,F.out,HB.out.trans (aP.out.mono bO.out)⟩
      |true=>
       go_wp2_with fail;refine aZ.out.mono ?_;rintro e w7 ⟨rfl,b⟩;have aP:=Hd b;have bJ:=Hd (HO.out.below b lR);have aA:=Hd (t.out.below b lR);have J:=Hd (HB.out.trans (b.mono bO.out));have dJ:=Hd (U.out.trans (b.mono U.out.size));have cS:=(b.cell (p:=⟨bu,ou+k,rF⟩) bG).trans cy;have dK:=Hd (show bu<w7.heap.size from dS bG b.size);have HA:=Cb _ (SI FI d x L r k).1 y w7 bJ.out.rd;obtain⟨hh,a7⟩:=eX (decide (y∈(SI FI d x L r k).1));rw[←a7]at HA;have a0:=Hd HA;have aM:=Hd a7;clear HA a7 b cy bG;cases hh with
       |true=>
        have R:=Hd (show SI FI d x L r (k+1)=SI FI d x L r k from by rw[Q.out];exact Lx fun h=>absurd (of_decide_eq_true aM.out.symm) h.2.2);clear aM aD;go_wp2_with fail;refine a0.out.mono ?_;rintro e w8 ⟨rfl,rfl⟩;go_wp2_with fail;go_roundg (gk-1);case measure=>have:=HK.out;omega
        case rel=>exact⟨k+1,by have:=HK.out;omega,by go_num,by rw[R.out,o.out],by rw[R.out];exact bJ.out,aA.out,F.out,J.out⟩
       |false=>
        have R:=Hd (show SI FI d x L r (k+1)=((SI FI d x L r k).1++[y],(SI FI d x L r k).2&&(FI y).isSome)from by rw[Q.out];exact Zv cO.out aD.out.symm (of_decide_eq_false aM.out.symm));clear aM aD;go_wp2_with fail;refine a0.out.mono ?_;rintro e w8 ⟨rfl,rfl⟩;go_wp2_with (at_builtin;refine Ck rfl (.tmp 119) (.tmp 124) 48 rfl (q+1) 3 _ 8 Cn _ _ rfl (bJ.out.alloc _) _ (rA rC y) rfl ?c1 rfl ?c2 ?c3 ?_);case c1=>exact Ar rfl
        case c2=>have:=bN.out r k;simp[ivs];omega
        case c3=>have:=J.out.size;have:=A.out;simp;omega
        rintro dO w9 aE bQ b8 Z;have a5:=Hd aE;have X:=Hd (show Own w9 O.heap.size 3 _ _ from(aA.out.alloc (.cells #[rA rC y] 3)).grown bQ fun g e1 e2=>F.out g e2 e1);have a3:=Hd (Gy Z F.out (aA.out.alloc (.cells #[rA rC y] 3)));have M:=Hd ((J.out.alloc (by have:=J.out.size;have:=A.out;omega) (.cells #[rA rC y] 3)).trans b8);have bL:=Hd (bH.out.trans (M.out.mono (by have:=C.out.size;have:=HQ.out;omega)));obtain⟨b9,o9,e9,b6,a2⟩:=X.out.rd.at3 (Cp (show k<(upL d u).length by rw[←K.out];exact hku));cases e9;have dL:w9.cell? ⟨bu,ou+k,rF⟩=some (rA rC y):=a2.trans (by rw[cQ.out]);have cV:=Hd (a8.out y w9 bL.out);clear aE bQ b8 Z cS b6 a2;obtain⟨o1,o2,o3,rfl⟩:=Dg a5.out;go_wp2_with fail;refine cV.out.mono ?_;rintro e P ⟨dP,rfl,H,aW⟩;obtain⟨fk,a9⟩:=eX ((FI y).isSome);rw[←a9];have bT:=Hd a9;have aR:=Hd H.oneL;obtain⟨y0,y1,y2,y3,y4,y5,y6,y7,y8,y9,rfl⟩:=H.ten;have aX:=Hd aW;clear H aW a9;obtain⟨c7,aB⟩:=eX P.heap.size;have b5:=Hd aB;have a6:=Hd (show Blk (P.alloc (.cells #[rA rD 0,q9 rF 0 0,q9 rF 0 0,q9 rF 0 0,rA rD 0,q9 rF 0 0,q9 rF 0 0,q9 rF 0 0,q9 rF 0 0,q9 rF 0 0] 52)) c7 52 #[rA rD 0,q9 rF 0 0,q9 rF 0 0,q9 rF 0 0,rA rD 0,q9 rF 0 0,q9 rF 0 0,q9 rF 0 0,q9 rF 0 0,q9 rF 0 0] by rw[aB];exact Blk.new _ _ _);clear aB;go_wp2_with (refine Aa rfl 52 (.tmp 21) (.tmp 133) rfl P.heap.size #[y0,y1,y2,y3,y4,y5,y6,y7,y8,y9] rfl rfl 52 #[rA rD 0,q9 rF 0 0,q9 rF 0 0,q9 rF 0 0,rA rD 0,q9 rF 0 0,q9 rF 0 0,q9 rF 0 0,q9 rF 0 0,q9 rF 0 0] (b5.out▸a6.out) (by kernel_rfl) rfl aR.out ?_);rintro dR i I aC f;have m:=Hd (aX.out.trans (((Below.refl P.heap.size P).alloc lR (.cells #[rA rD 0,q9 rF 0 0,q9 rF 0 0,q9 rF 0 0,rA rD 0,q9 rF 0 0,q9 rF 0 0,q9 rF 0 0,q9 rF 0 0,q9 rF 0 0] 52)).trans (I P.heap.size lR)|>.mono aX.out.size));clear i I aC f;have a4:=Hd (show(SI FI d x L r (k+1)).2=(bU&&fk)from by rw[R.out,o.out,bT.out]);have aG:=Hd (show(SI FI d x L r (k+1)).1=(SI FI d x L r k).1++[y]from by rw[R.out]);have aV:=Hd (show q+1≤w9.heap.size from by have:=M.out.size;have:=A.out;omega);clear bT o R;cases bU with
        |true=>
         go_wp2_with fail;go_roundg (gk-1);case measure=>have:=HK.out;omega
         case rel=>
          refine⟨k+1,by have:=HK.out;omega,by go_num,by rw[a4.out,dI],?_,X.out.below m.out lR,a3.out,M.out.trans (m.out.mono aV.out)⟩;have:=a5.out.below m.out lR;rw[aG.out];simpa [ivs]using this
        |false=>
         go_wp2_with fail;go_roundg (gk-1);case measure=>have:=HK.out;omega
         case rel=>
          refine⟨k+1,by have:=HK.out;omega,by go_num,by rw[a4.out,dH],?_,X.out.below m.out lR,a3.out,M.out.trans (m.out.mono aV.out)⟩;have:=a5.out.below m.out lR;rw[aG.out];simpa [ivs]using this
    ·obtain rfl:k=ul:=(by have:=HK.out;omega);have bX:decide (k<k)=false:=decide_eq_false hku;have HE:=Hd (show SI FI d x L r k=SW FI d x L (r+1)from by
      rw[K.out,HU.out];exact Zka (by rw[←aN.out];exact hlt))
     clear hku;go_wp2_with fail;go_roundg (g1-1);case measure=>have:=HR.out;omega
     case rel=>exact⟨r+1,by have:=HR.out;omega,by go_num,by rw[←HE.out,o.out],by rw[←HE.out];exact HO.out,HB.out⟩
  ·obtain rfl:r=l8:=(by have:=HR.out;omega);have bS:decide (r<r)=false:=decide_eq_false hlt;have HE:=Hd (show SW FI d x L r=Ih FI d x L from by rw[aN.out];exact Ze3);obtain⟨cC,j⟩:=eX ((SW FI d x L r).2);rw[←j];have Y:=Hd j;clear hlt j;go_wp2_with fail;go_ret2;obtain rfl:cC=(Ih FI d x L).2:=(by rw[Y.out,HE.out]);refine⟨_,rfl,?_,U.out⟩;rw[←HE.out];exact HO.out.mono (by have:=C.out.size;have:=HQ.out;omega)
end
theorem Vh {FI:Int→Option NodeD} {d:Nat} {x:Int} {late:List Int}(hd:d≤16)(h:late.length≤1000):(Ih FI d x late).1.length≤17001:=by
 have:=Zkb (FI:=FI) (d:=d) (x:=x) (late:=late) hd late.length;rw[Ze3]at this;omega
theorem Jd {l:List (Int×NodeD)} {d:Nat}(a:d≤16)(b:Mk l):∀k x,(Be (Ag l) d k x).1.length+20000≤20000*2^(k+1):=by
 intro k
 induction k with
 |zero=>
  intro x;cases hF:Ag l (x:Int)with
  |none=>rw[Ft hF];simp
  |some D=>
   rw[Hv hF];have:=Vh (FI:=Ag l) (x:=(x:Int)) (late:=D.par.late) a (b _ (Br hF)).2.1;have e:2^(0+1)=2:=rfl;omega
 |succ k ih=>
  intro x;have e:2^(k+1+1)=2*2^(k+1):=(by rw[aN];omega);have c:=fB (k+1);cases hF:Ag l (x:Int)with
  |none=>rw[Ft hF];simp;omega
  |some D=>
   by_cases hk:D.kind=0
   ·rw[Ii hF hk];have h1:=ih (x-2^k);have h2:=ih (x+2^k);simp only[aG,bY,bT];omega
   ·rw[Jx hF hk];have:=Vh (FI:=Ag l) (x:=(x:Int)) (late:=D.par.late) a (b _ (Br hF)).2.1;omega
theorem Ze4 (l:List (Int×NodeD))(d k x:Nat)(v:Value)(w:World)(hd:d≤16)(h:SpotsR w v l)(hK:Mk l)(D:NodeD)(hF:Ag l (x:Int)=some D)(Y:IsLev x (k+1))(hx:x+2^(k+1)≤2*2^d-1)(X:D.kind=0)(IH:Zkd l d k):
  Calls prog 137 #[v,rA rC (x:Nat),rA rC ((2^d:Nat):Int)] w fun e w'=>∃vo,e=.returned (.tuple #[vo,.bool (Be (Ag l) d (k+1) x).2])∧Own w' w.heap.size 3 vo (ivs .i64 (Be (Ag l) d (k+1) x).1)∧Below w.heap.size w w':=by
 obtain⟨hM,e2⟩:=Dp hd;obtain⟨l1,l2,aU,j,f,kl,kr⟩:=Ep Y hx hM;have aQ:=Fb Y;have aV:=fB k;have aK:=fB (k+1);have aZ:k≤16:=by
  rcases Nat.lt_or_ge 16 k with h|h
  ·have:=aY (show 0<2 by omega) (show 17≤k from h);have aP:(2:Nat)^17=131072:=rfl;omega
  ·exact h
 have aM:2^(k+1)≤2^17:=aY (by omega) (by omega);have aP:(2:Nat)^17=131072:=rfl;have O:=fun(y:Int) (W:World) (hw:Below w.heap.size w W)=>Fg v l y W (h.below hw lR);have FD:=fun(W:World) (hw:Below w.heap.size w W)=>O x W hw;rw[hF]at FD;have KD:=fun(W:World)=>Hr (x:Int) W;rw[kl,kr]at KD;have R1:=fun(W:World) (hw:Below w.heap.size w W)=>IH (x-2^k) v W (h.below hw lR) l1 j;have R2:=fun(W:World) (hw:Below w.heap.size w W)=>IH (x+2^k) v W (h.below hw lR) l2 f;have n1:=Jd hd hK k (x-2^k);have n2:=Jd hd hK k (x+2^k);rw[Ii hF X];obtain⟨W1,aC⟩:=eX (Be (Ag l) d k (x-2^k));obtain⟨W2,aD⟩:=eX (Be (Ag l) d k (x+2^k));rw[←aC]at R1 n1⊢;rw[←aD]at R2 n2⊢;have aG:W1.1.length≤3000000000:=(by omega);have aI:W2.1.length≤3000000000:=(by omega);obtain⟨n,hn⟩:=eX (2^d);rw[←hn]at R1 R2⊢;obtain⟨xl,aL⟩:=eX (x-2^k);obtain⟨xr,aO⟩:=eX (x+2^k);rw[←aL]at KD R1;rw[←aO]at KD R2;have aS:=Hd FD;have aW:=Hd KD;have aT:=Hd R1;have a4:=Hd R2;have J:=Hd aG;have aE:=Hd aI;have a9:x≤131070:=(by omega);obtain⟨a,cp,rfl,-,-⟩:=h.sl;obtain⟨kd,F⟩:=eX D.kind;obtain⟨L,hL⟩:=eX D.par.late;rw[←F]at X;have aX:=Hd F;have aR:=Hd hL;have a2:=Hd (show L.length≤1000 by rw[hL];exact(hK _ (Br hF)).2.1);have bE:((kd:Int)==0)=true:=(by rw[beq_iff_eq];omega);have bB:(((x:Nat):Int)%2==1)=true:=(by rw[beq_iff_eq];omega);have bF:(fC (x:Int) 2==1)=true:=(by rw[fD (by omega),beq_iff_eq];omega);clear O FD KD R1 R2 n1 n2 aG aI aC aD hn aL aO kl kr l1 l2 j f aU aV aK aM aP aZ hM e2 aQ Y hx X F hL hK IH h hF;go_enter func137,ntmps137;go_wp2_with fail;refine(aS.out w bR).mono ?_;rintro e w2 ⟨c,rfl,U,f⟩;have E:=Hd U.oneL;obtain⟨x1,x2,x3,x4,x5,x6,x7,x8,b3,e3,rfl,M⟩:=U.frame;have t:(some D).getD Aq=D:=rfl;rw[t,←aX.out,←aR.out]at E⊢;rw[t,←aR.out]at M;obtain⟨l8,I⟩:=eX L.length;rw[←I]at E M⊢;have Q:=Hd f;have aF:=Hd M;have bA:=Hd I;have a6:l8≤1000:=(by rw[I];exact a2.out);clear U f t M I;obtain⟨q,hq⟩:=eX w2.heap.size;have HQ:=Hd hq;have a0:=Hd (show Blk (w2.alloc (.cells #[rA rD 0,q9 rF 0 0,q9 rF 0 0,q9 rF 0 0,rA rD 0,q9 rF 0 0,q9 rF 0 0,q9 rF 0 0,q9 rF 0 0,q9 rF 0 0] 52)) q 52 #[rA rD 0,q9 rF 0 0,q9 rF 0 0,q9 rF 0 0,rA rD 0,q9 rF 0 0,q9 rF 0 0,q9 rF 0 0,q9 rF 0 0,q9 rF 0 0] by rw[hq];exact Blk.new _ _ _);clear hq;go_wp2_with (refine Aa rfl 52 (.tmp 8) (.tmp 27) rfl w2.heap.size #[rA rD (kd:Nat),x1,x2,x3,x4,x5,x6,x7,x8,q9 b3 l8 e3] rfl rfl 52 #[rA rD 0,q9 rF 0 0,q9 rF 0 0,q9 rF 0 0,rA rD 0,q9 rF 0 0,q9 rF 0 0,q9 rF 0 0,q9 rF 0 0,q9 rF 0 0] (HQ.out▸a0.out) (by kernel_rfl) rfl E.out ?_);rintro w3 p aA aH r;rw[←HQ.out]at p⊢;have Z:=Hd ((Q.out.alloc Q.out.size (.cells #[rA rD 0,q9 rF 0 0,q9 rF 0 0,q9 rF 0 0,rA rD 0,q9 rF 0 0,q9 rF 0 0,q9 rF 0 0,q9 rF 0 0,q9 rF 0 0] 52)).trans (aA w.heap.size Q.out.size));have bG:=Hd (show w3.heap.size=q+1 from by rw[r];simp[HQ.out]);have bD:=Hd p;have a5:=Hd (aF.out.below (((Below.refl w2.heap.size w2).alloc lR (.cells #[rA rD 0,q9 rF 0 0,q9 rF 0 0,q9 rF 0 0,rA rD 0,q9 rF 0 0,q9 rF 0 0,q9 rF 0 0,q9 rF 0 0,q9 rF 0 0] 52)).trans (aA w2.heap.size lR)) lR);have c0:=p.cell 0;have c9:=p.cell 9;simp only[bZ,cA,cB]at c0 c9;have a7:q<w3.heap.size:=(by rw[r];simp[HQ.out]);clear p aA aH r;clear c9;go_wp2_with fail;refine(aW.out _).mono ?_;rintro e w5 ⟨rfl,V⟩;have aJ:=Hd (Z.out.alloc Z.out.size (.cells #[rA rC (x:Nat)] 3));have aB:=Hd (aJ.out.trans (V.mono aJ.out.size));have a3:=Hd ((show Own (w3.alloc (.cells #[rA rC (x:Nat)] 3)) w.heap.size 3 (q9 (some ⟨w3.heap.size,0,rF⟩) 1 1) [rA rC (x:Nat)]from Own.full (B:=w.heap.size) (cs:=#[rA rC (x:Nat)]) rfl Z.out.size (by unfold maxLen;simp) rfl).below V lR);clear V;go_wp2_with fail;refine(aT.out _ aB.out).mono ?_;rintro e w6 ⟨v1,rfl,s,j⟩;have a1:=Hd s.rd;have H:=Hd (aB.out.trans (j.mono aB.out.size));have S:=Hd (a3.out.below j lR);obtain⟨p1,p2,p3,rfl⟩:=Dg s;clear s j;go_wp2_with fail;refine(a4.out _ H.out).mono ?_;rintro e w7 ⟨v2,rfl,m,f⟩;have a8:=Hd m.rd;have N:=Hd (a1.out.below f lR);have K:=Hd (H.out.trans (f.mono H.out.size));have aN:=Hd (S.out.below f lR);have o:=Hd m;have bC:=Hd H.out.size;obtain⟨q1,q2,q3,rfl⟩:=Dg m;clear m f;obtain⟨b1,j⟩:=eX W1.2;obtain⟨b2,f⟩:=eX W2.2;have HE:=Hd (show(W1.2&&W2.2)=(b1&&b2) by rw[j,f]);rw[←j,←f];clear j f;cases b1
 ·go_wp2_with (at_builtin;refine Aj rfl (.tmp 60) (.tmp 61) 48 rfl w.heap.size 3 _ 8 Cn _ _ rfl aN.out _ _ rfl N.out ?d1 ?d2 ?d3 ?_);case d1=>exact Eo _
  case d2=>have:=J.out;simp[ivs];omega
  case d3=>exact K.out.size
  rintro v8 w8 b A u;have T:=Hd b;have G:=Hd (show Rd w8 _ _ from(o.out.grown A fun g e1 e2=>by
   have h1:=(o.out.blockLt e1).2;have h2:=(S.out.blockLt e2).1
   omega).rd)
  have z:=Hd (K.out.trans u);obtain⟨r1,r2,r3,rfl⟩:=Dg b;clear b A u;go_wp2_with (at_builtin;refine Aj rfl (.tmp 62) (.tmp 63) 48 rfl w.heap.size 3 _ 8 Cn _ _ rfl T.out _ _ rfl G.out ?e1 ?e2 ?e3 ?_);case e1=>exact Eo _
  case e2=>have:=J.out;have:=aE.out;simp[ivs];omega
  case e3=>exact z.out.size
  rintro v9 w9 i-C;have P:=Hd i;have R:=Hd (z.out.trans C);clear i C;go_wp2_with fail;go_ret2;rw[HE.out];refine⟨_,rfl,?_,R.out⟩;have:=P.out;simpa [ivs]using this
 ·go_wp2_with (at_builtin;refine Aj rfl (.tmp 60) (.tmp 61) 48 rfl w.heap.size 3 _ 8 Cn _ _ rfl aN.out _ _ rfl N.out ?d1 ?d2 ?d3 ?_);case d1=>exact Eo _
  case d2=>have:=J.out;simp[ivs];omega
  case d3=>exact K.out.size
  rintro v8 w8 b A u;have T:=Hd b;have G:=Hd (show Rd w8 _ _ from(o.out.grown A fun g e1 e2=>by
   have h1:=(o.out.blockLt e1).2;have h2:=(S.out.blockLt e2).1
   omega).rd)
  have z:=Hd (K.out.trans u);obtain⟨r1,r2,r3,rfl⟩:=Dg b;clear b A u;go_wp2_with (at_builtin;refine Aj rfl (.tmp 62) (.tmp 63) 48 rfl w.heap.size 3 _ 8 Cn _ _ rfl T.out _ _ rfl G.out ?e1 ?e2 ?e3 ?_);case e1=>exact Eo _
  case e2=>have:=J.out;have:=aE.out;simp[ivs];omega
  case e3=>exact z.out.size
  rintro v9 w9 i-C;have P:=Hd i;have R:=Hd (z.out.trans C);clear i C;go_wp2_with fail;go_ret2;rw[HE.out];refine⟨_,rfl,?_,R.out⟩;have:=P.out;simpa [ivs]using this
theorem Ze5 (l:List (Int×NodeD))(d:Nat)(b:d≤16)(c:Mk l):∀k,Zkd l d k:=by
 obtain⟨f,e2⟩:=Dp b;intro k
 induction k with
 |zero=>
  intro x v w h a hx;cases hF:Ag l (x:Int)with
  |none=>exact Qq l d 0 x v w h hF
  |some D=>
   rw[Hv hF];have e:=fB 0
   by_cases hk:D.kind=0
   ·exact Xl l d x v w b h c D hF (by omega) ⟨hk,Gf a⟩
   ·exact Ot l d x v w b h c D hF (by omega) hk
 |succ k ih=>
  intro x v w h a hx;cases hF:Ag l (x:Int)with
  |none=>exact Qq l d (k+1) x v w h hF
  |some D=>
   have e:=fB (k+1)
   by_cases hk:D.kind=0
   ·exact Ze4 l d k x v w b h c D hF a hx hk ih
   ·rw[Jx hF hk];exact Ot l d x v w b h c D hF (by omega) hk
section
theorem Ou {P:Program} {w:World} {ops:Array Oper} {rest:List Oper} {o:Oper} {a:Act} {Q:Exit→Act→World→Prop} (i:o.guard=none) (s x:Operand) (t:TypeId)
  (q:o.op=.call {callee:=.builtin .append,args:=#[s,x],argTypes:=#[t,t]})
  (B:Nat) (e:TypeId) (z:Value) (b:Nat) (F:Elem P t e z b)
  (v:Value) (xs:List Value) (m:a.eval s=v) (f:Own w B e v xs)
  (r:Value) (c:List Value) (hx:a.eval x=r) (y:Rd w r c) (h1:∀u∈c,u.oneCell'=true)
  (A:xs.length+c.length<1099511627776) (k:B≤w.heap.size)
  (h:∀d w',Own w' B e d (xs++c)→w.grownBy w' v.ownBlock→Below B w w'→Si w v d→wpList P ops Q rest (a.put o.dst d) w'):wpList P ops Q (o::rest) a w:=by
 refine wpList_plain i fun C g=> ?_;exact Sj s x t q B e z b F v xs m f r c hx y h1 A k fun d w' p j l n=>g _ _ (h d w' p j l n)
theorem Zmu {d z j:Nat}(a:d≤16)(b:z+1<2^(d+1))(c:j<d):Zj3 ((anc z j:Nat):Int) ((2^d:Nat):Int)=((Jz z j:Nat):Int):=by
 obtain⟨e,e2⟩:=Dp a;have g:=Zmt a b (j:=j+1) (by omega);have k:=fB (j+1);obtain⟨-,-,h0,-,-,i,f⟩:=Ep (anc_lev z (j+1)) g e;rw[Zj3,Yy a b (by omega),nxt,if_pos c,if_neg (by omega),i,f];unfold Jz
 by_cases h:anc z j<anc z (j+1)
 ·rw[if_pos (by omega),if_pos h]
 ·rw[if_neg (by omega),if_neg h]
theorem Zlf {d i r:Nat}(a:d≤16)(c:2*i+1<2^(d+1))(b:r<d):(Zh3 (2*(i:Int)) ((2^d:Nat):Int)).getD r 0=((Jz (2*i) r:Nat):Int):=by
 obtain⟨f,e2⟩:=Dp a;have e:=Ix (q:=2*i) (by omega) (by omega);rw[show 2*(i:Int)=((2*i:Nat):Int) by omega,Wz a c,e,dJ,aH];unfold Zh2;rw[List.getElem?_map,List.getElem?_range b];show Zj3 ((anc (2*i) (0+r):Nat):Int) _=_;rw[Nat.zero_add,Zmu a c b]
theorem Zlg {d i:Nat}(hd:d≤16)(hi:2*i+1<2^(d+1)):(Zh3 (2*(i:Int)) ((2^d:Nat):Int)).length=d:=by
 obtain⟨hM,e2⟩:=Dp hd;have hl:=Ix (q:=2*i) (by omega) (by omega);rw[show 2*(i:Int)=((2*i:Nat):Int) by omega,Wz hd hi,Zf,hl,dJ]
def okA (FI:Int→Option NodeD)(L:List Int)(r:Nat):Bool:=(L.take r).all fun y=>(FI y).isSome
theorem Zit {FI:Int→Option NodeD} {L:List Int} {r:Nat}(hr:r<L.length):okA FI L (r+1)=(okA FI L r&&(FI (L.getD r 0)).isSome):=by
 unfold okA;rw[←Fh hr,List.all_append];simp
theorem Zlh {FI:Int→Option NodeD} {L:List Int}:okA FI L L.length=L.all fun y=>(FI y).isSome:=by rw[okA,cE]
section
variable {FI:Int→Option NodeD} {d i:Nat}
theorem Zw:Ac FI d i false 0=upL d (i:Int):=by simp[Ac]
theorem Sv (r:Nat):Ac FI d i true r=upL d (i:Int):=by simp[Ac]
theorem Zx (r:Nat):Ac FI d i false (r+1)=Ac FI d i false r++(Be FI d r (Jz (2*i) r)).1:=by
 simp[Ac,eG]
theorem Ziu (only:Bool):Cg FI d i only 0=(upL d (i:Int)).all fun y=>(FI y).isSome:=by simp[Cg]
theorem Ziv (r:Nat):Cg FI d i true r=(upL d (i:Int)).all fun y=>(FI y).isSome:=by simp[Cg]
theorem Ziw (r:Nat):Cg FI d i false (r+1)=(Cg FI d i false r&&(Be FI d r (Jz (2*i) r)).2):=by
 simp[Cg,eG,Bool.and_assoc]
end
theorem Zli {l:List (Int×NodeD)} {d i:Nat}(hd:d≤16)(hK:Mk l):∀r,(Ac (Ag l) d i false r).length≤17+20000*2^(r+1):=by
 intro r
 induction r with
 |zero=>rw[Zw];have:=Ka hd (i:Int);omega
 |succ r ih=>
  rw[Zx,aG];have:=Jd hd hK r (Jz (2*i) r);have e:2^(r+1+1)=2*2^(r+1):=(by rw[aN];omega);omega
def Zcs (out:List Int)(a:Int):List Int:=if 0≤a∧a∉out then [a]else []
theorem Zb1 (out:List Int)(z:Int):Jr out z=Zcs out (Eb z)++Zcs out (Ce z):=rfl
theorem Dm {out:List Int} {a:Int}(h:¬0≤a):Zcs out a=[]:=by rw[Zcs,if_neg fun h2=>h h2.1]
theorem Ez {out:List Int} {a:Int}(h:true=decide (a∈out)):Zcs out a=[]:=by rw[Zcs,if_neg fun h2=>h2.2 (of_decide_eq_true h.symm)]
theorem Dn {out:List Int} {a:Int}(h0:0≤a)(h:false=decide (a∈out)):Zcs out a=[a]:=by rw[Zcs,if_pos ⟨h0,of_decide_eq_false h.symm⟩]
def Jl (out:List Int)(r:Nat):List Int:=(out.take r).flatMap (Jr out)
theorem Je {out:List Int} {r:Nat}(hr:r<out.length):Jl out (r+1)=Jl out r++(Zcs out (Eb (out.getD r 0))++Zcs out (Ce (out.getD r 0))):=by
 unfold Jl;rw[←Fh hr,gD,←Zb1];simp
theorem Ov {out:List Int}:Jl out out.length=Dq out:=by rw[Jl,cE];rfl
theorem Zy (out:List Int)(a:Int):(Zcs out a).length≤1:=by unfold Zcs;split<;>simp
theorem Ow {out:List Int}:∀r,r≤out.length→(Jl out r).length≤2*r:=by
 intro r
 induction r with
 |zero=>intro _;simp[Jl]
 |succ r ih=>
  intro hr;rw[Je (by omega),aG,aG];have:=ih (by omega);have h1:=Zy out (Eb (out.getD r 0));have h2:=Zy out (Ce (out.getD r 0));omega
theorem Xm (l:List (Int×NodeD))(d i:Nat)(only:Bool)(v:Value)(w:World)(hd:d≤16)(hi:2*i+1<2^(d+1))(h:SpotsR w v l)(hK:Mk l):
  Calls prog 79 #[v,rA rC ((2^d:Nat):Int),rA rC (i:Nat),.bool only] w fun e w'=>∃v1 v2,e=.returned (.tuple #[v1,v2,.bool (Cg (Ag l) d i only d)])∧Own w' w.heap.size 3 v1 (ivs .i64 (Fd (Ac (Ag l) d i only d)))∧Own w' w.heap.size 3 v2 (ivs .i64 (Fd (Dq (Ac (Ag l) d i only d))))∧Below w.heap.size w w':=by
 obtain⟨hM,e2⟩:=Dp hd;have bK:=fun(y:Int) (W:World) (Y:Below w.heap.size w W)=>Fg v l y W (h.below Y lR);have WH:=fun(r:Nat) (hr:r<d) (W:World) (Y:Below w.heap.size w W)=>Ze5 l d hd hK r (Jz (2*i) r) v W (h.below Y lR) (Oq hd hi hr).1 (Oq hd hi hr).2;have a6:=fun(r:Nat) (hr:r<d)=>(show(Be (Ag l) d r (Jz (2*i) r)).1.length≤3000000000 from by
  have:=Jd hd hK r (Jz (2*i) r);have dU:2^(r+1)≤2^17:=aY (by omega) (by omega);have c4:(2:Nat)^17=131072:=rfl
  omega)
 have bD:=fun(r:Nat) (hr:r≤d)=>(show(Ac (Ag l) d i only r).length≤6000000000 from by
  cases only with
  |true=>rw[Sv];have:=Ka hd (i:Int);omega
  |false=>
   have:=Zli (i:=i) hd hK r;have dU:2^(r+1)≤2^17:=aY (by omega) (by omega);have c4:(2:Nat)^17=131072:=rfl
   omega)
 have UL:=Ka hd (i:Int);have CL:=Zlg hd hi;have CG:=fun(r:Nat) (hr:r<d)=>Zlf hd hi hr;have d5:i≤131072:=(by omega);have dM:2^d≤131072:=(by omega);clear hK;obtain⟨FI,cV⟩:=eX (Ag l);simp only[←cV]at bK WH a6 bD⊢;obtain⟨n,hn⟩:=eX (2^d);rw[←hn]at dM CL CG⊢;simp only[←hn]at WH;have bZ:=fun(y:Int) (W:World)=>Of y (n:Int) W (by omega) (by omega);have cG:=fun(y:Int) (W:World)=>Xa y (n:Int) W (by omega) (by omega);have HN:=Hd hn;have bF:=Hd bK;have dK:=Hd WH;have b5:=Hd a6;have aW:=Hd bD;have dD:=Hd UL;have cL:=Hd CL;have dR:=Hd CG;have cA:=Hd bZ;have c9:=Hd cG;have d4:wrap64 (2*(i:Int))=2*(i:Int):=(by unfold wrap64;omega);obtain⟨a,cp,rfl,-,-⟩:=h.sl;clear bK WH a6 bD UL CL CG bZ cG cV hn h hi hM e2;go_enter func79,ntmps79;go_wp2_with fail;have dP:=Hd (show Own (w.alloc (.cells #[rA rC (2*(i:Int))] 3)) w.heap.size 3 (q9 (some ⟨w.heap.size,0,rF⟩) 1 1) [rA rC (2*(i:Int))]from Own.full (B:=w.heap.size) (cs:=#[rA rC (2*(i:Int))]) rfl lR (by unfold maxLen;simp) rfl);have cP:=Hd ((Below.refl w.heap.size w).alloc lR (.cells #[rA rC (2*(i:Int))] 3));refine(cA.out (2*(i:Int)) _).mono ?_;rintro e w5 ⟨pv,rfl,cF,U⟩;have dJ:=Hd cF.rd;have cT:=Hd (dP.out.below U lR);have c8:=Hd (cP.out.trans (U.mono cP.out.size));obtain⟨s1,s2,s3,rfl⟩:=Dg cF;clear cF U;go_wp2_with (at_builtin;refine Aj rfl (.tmp 26) (.tmp 30) 48 rfl w.heap.size 3 _ 8 Cn _ [rA rC (2*(i:Int))] rfl cT.out _ _ rfl dJ.out ?d1 ?d2 ?d3 ?_);case d1=>exact Eo _
 case d2=>have:=dD.out;rw[upL,bY,gE,←HN.out]at this;rw[Ln];simp;omega
 case d3=>exact c8.out.size
 rintro uv w6 aU-cU;have cD:=Hd (show Own w6 w.heap.size 3 uv (ivs .i64 (upL d (i:Int)))from by
  have e:Value.int .i64 (2*(i:Int))::nvs (Pi (2*(i:Int)) ((2^d:Nat):Int))=ivs .i64 (upL d (i:Int)):=(by simp[upL,nvs,ivs]);rw[HN.out,e]at aU;exact aU)
 have b4:=Hd (c8.out.trans cU);clear aU cU;obtain⟨ul,bX⟩:=eX ((upL d (i:Int)).length);have a4:=Hd bX;have dN:ul≤17:=(by rw[bX];exact dD.out);obtain⟨v1,v2,rfl⟩:=Qm cD.out bX.symm;clear bX;go_wp2_with fail;refine(c9.out (2*(i:Int)) _).mono ?_;rintro e w7 ⟨av,rfl,bU,bQ⟩;have bS:=Hd bU;have cX:=Hd (b4.out.trans (bQ.mono b4.out.size));have cQ:=Hd (cD.out.below bQ lR);have bT:=Hd (show Hw (q9 v1 ul v2) av from fun g e1 e2=>by have:=(cD.out.blockLt e1).1;have:=(bU.blockLt e2).2;omega);have d0:=Hd (show w.heap.size≤w6.heap.size from b4.out.size);have c5:=Hd (show w6.heap.size≤w7.heap.size from bQ.size);obtain⟨z1,z2,rfl⟩:=Qm bU cL.out;have dV:d≤16:=hd;clear bU bQ;go_wp2_with fail
 go_loopg [13,14] ul (fun q kv iv wr=>∃r:Nat,r+q=ul∧iv=rA rC (r:Nat)∧kv=.bool (okA FI (upL d (i:Int)) r)∧Below w7.heap.size w7 wr)
 case atStart=>exact⟨0,by omega,rfl,rfl,bR⟩
 case round=>
  obtain⟨r,hr,rfl,rfl,hb⟩:=hrel;have HR:=Hd hr;have HB:=Hd hb;have bP:=Hd (cX.out.trans (hb.mono cX.out.size));have bL:=Hd (cQ.out.below hb lR);have cS:=Hd (bS.out.below hb lR);obtain⟨bN,bO⟩:=eX (okA FI (upL d (i:Int)) r);rw[←bO];have a0:=Hd bO;clear hr hb bO
  by_cases hlt:r<ul
  ·have aA:decide (r<ul)=true:=decide_eq_true hlt;have bC:(r:Int)<(ul:Int):=(by omega);obtain⟨bu,ou,rfl,dO,cy⟩:=bL.out.rd.at3 (Cp (show r<(upL d (i:Int)).length by rw[←a4.out];exact hlt));have HS:=Hd (Zit (FI:=FI) (L:=upL d (i:Int)) (r:=r) (by rw[←a4.out];exact hlt));obtain⟨y,hy⟩:=eX ((upL d (i:Int)).getD r 0);rw[←hy]at cy HS;clear hy;have dL:=Hd (bF.out y wr bP.out);go_wp2_with fail;refine dL.out.mono ?_;rintro e aF ⟨dX,rfl,aZ,aI⟩;obtain⟨fk,bG⟩:=eX ((FI y).isSome);rw[←bG]at HS⊢;have bW:=Hd aZ.oneL;obtain⟨y0,y1,y2,y3,y4,y5,y6,y7,y8,y9,rfl⟩:=aZ.ten;have aJ:=Hd aI;clear aZ aI bG;obtain⟨dT,bH⟩:=eX aF.heap.size;have cW:=Hd bH;have b6:=Hd (show Blk (aF.alloc (.cells #[rA rD 0,q9 rF 0 0,q9 rF 0 0,q9 rF 0 0,rA rD 0,q9 rF 0 0,q9 rF 0 0,q9 rF 0 0,q9 rF 0 0,q9 rF 0 0] 52)) dT 52 #[rA rD 0,q9 rF 0 0,q9 rF 0 0,q9 rF 0 0,rA rD 0,q9 rF 0 0,q9 rF 0 0,q9 rF 0 0,q9 rF 0 0,q9 rF 0 0] by rw[bH];exact Blk.new _ _ _);clear bH;go_wp2_with (refine Aa rfl 52 (.tmp 15) (.tmp 49) rfl aF.heap.size #[y0,y1,y2,y3,y4,y5,y6,y7,y8,y9] rfl rfl 52 #[rA rD 0,q9 rF 0 0,q9 rF 0 0,q9 rF 0 0,rA rD 0,q9 rF 0 0,q9 rF 0 0,q9 rF 0 0,q9 rF 0 0,q9 rF 0 0] (cW.out▸b6.out) (by kernel_rfl) rfl bW.out ?_);rintro dY cZ c7 cY cB;have cN:=Hd (aJ.out.trans (((Below.refl aF.heap.size aF).alloc lR (.cells #[rA rD 0,q9 rF 0 0,q9 rF 0 0,q9 rF 0 0,rA rD 0,q9 rF 0 0,q9 rF 0 0,q9 rF 0 0,q9 rF 0 0,q9 rF 0 0] 52)).trans (c7 aF.heap.size lR)|>.mono aJ.out.size));have cK:=Hd (HB.out.trans (cN.out.mono HB.out.size));clear cZ c7 cY cB;have cM:=Hd (show okA FI (upL d (i:Int)) (r+1)=(bN&&fk)from by rw[HS.out,a0.out]);clear HS a0;cases bN
   ·go_wp2_with fail;go_roundg (gk-1);case measure=>have:=HR.out;omega
    case rel=>exact⟨r+1,by have:=HR.out;omega,by go_num,by rw[cM.out,dH],cK.out⟩
   ·go_wp2_with fail;go_roundg (gk-1);case measure=>have:=HR.out;omega
    case rel=>exact⟨r+1,by have:=HR.out;omega,by go_num,by rw[cM.out,dI],cK.out⟩
  ·obtain rfl:r=ul:=(by have:=HR.out;omega);have aA:decide (r<r)=false:=decide_eq_false hlt;have aE:=Hd (show bN=(upL d (i:Int)).all fun y=>(FI y).isSome from by rw[a0.out,a4.out];exact Zlh);have dZ:=Hd (show w6.heap.size≤wr.heap.size from Nat.le_trans c5.out HB.out.size);clear hlt a0 bF;cases only with
   |true=>
    go_wp2_with fail
    go_loopg [11,13,17] 0 (fun q ov kv iv w2=>ov=.slice v1 r v2∧kv=.bool bN∧iv=rA rC 0∧w2=wr)
    case atStart=>exact⟨rfl,rfl,rfl,rfl⟩
    case round=>
     obtain⟨rfl,rfl,rfl,rfl⟩:=hrel;have a5:=Hd (show bN=Cg FI d i true d from by rw[aE.out,Ziv]);have a1:=Hd (show Own wr w.heap.size 3 (q9 v1 r v2) (ivs .i64 (Ac FI d i true d))from by rw[Sv];exact bL.out);have aV:=Hd (aW.out d lR);have T:=Hd (show r=(Ac FI d i true d).length from by rw[Sv];exact a4.out)
     by_cases hd0:0<d
     ·have cI:decide (0<d)=true:=decide_eq_true hd0;have dE:decide ((0:Int)<(d:Int))=true:=decide_eq_true (by omega);go_wp2_with fail;obtain⟨X,rfl⟩:∃X:World,X=wr:=⟨_,rfl⟩;have aR:=Hd bP.out;have C:=Hd a1.out;have cJ:r≤6000000000:=by rw[T.out];exact aV.out
      go_loopg [20,21] r (fun q ov iv wr=>∃s:Nat,s+q=r∧iv=rA rC (s:Nat)∧Own wr X.heap.size 3 ov (ivs .i64 (Jl (Ac FI d i true d) s))∧Below X.heap.size X wr)
      case atStart=>exact⟨0,by omega,rfl,Own.nil _ _ _,bR⟩
      case round=>
       obtain⟨s,hs,rfl,I,hb⟩:=hrel;have m:=Hd hs;have aQ:=Hd I;have aC:=Hd hb;have aG:=Hd (C.out.below hb lR);have S:=Hd (Ow (out:=(Ac FI d i true d)) s (by rw[←T.out];omega));obtain⟨j1,j2,j3,rfl⟩:=Dg I;clear hs I hb
       by_cases hlt:s<r
       ·have aA:decide (s<r)=true:=decide_eq_true hlt;have bC:(s:Int)<(r:Int):=(by omega);obtain⟨bo,oo,rfl,bI,co⟩:=aG.out.rd.at3 (Cp (show s<((Ac FI d i true d)).length by rw[←T.out];exact hlt));have A:=Hd (Je (out:=(Ac FI d i true d)) (r:=s) (by rw[←T.out];exact hlt));obtain⟨z,hz⟩:=eX (((Ac FI d i true d)).getD s 0);rw[←hz]at co A;have aL:=Hd (Hr z wr);obtain⟨Z,aO⟩:=eX (Eb z);obtain⟨b,aT⟩:=eX (Ce z);rw[←aO,←aT]at aL A;clear hz aO aT;go_wp2_with fail;refine aL.out.mono ?_;rintro e w5 ⟨rfl,U⟩;have c:=Hd (aC.out.trans (U.mono aC.out.size));have H:=Hd (aQ.out.below U lR);clear U co bI
        by_cases ha0:0≤Z
        ·have aS:decide (Z≥0)=true:=decide_eq_true ha0;have N:=Hd (fun W Y=>Cb (q9 (some ⟨bo,oo,rF⟩) r v2) (Ac FI d i true d) Z W Y);obtain⟨ba,M⟩:=eX (decide (Z∈(Ac FI d i true d)));rw[←M]at N;have aK:=Hd N.out;have J:=Hd M;have bJ:=Hd ha0;clear M ha0 N;cases ba with
         |true=>
          have u:=Hd (Ez J.out);clear J;go_wp2_with fail;refine(aK.out _ (C.out.rd.below c.out lR)).mono ?_;rintro e wx ⟨rfl,rfl⟩
          by_cases hb0:0≤b
          ·have F:decide (b≥0)=true:=decide_eq_true hb0;have o:=Hd (fun W Y=>Cb (q9 (some ⟨bo,oo,rF⟩) r v2) (Ac FI d i true d) b W Y);obtain⟨bb,j⟩:=eX (decide (b∈(Ac FI d i true d)));rw[←j]at o;have D:=Hd o.out;have f:=Hd j;have R:=Hd hb0;clear j hb0 o;cases bb with
           |true=>
            have p:=Hd (Ez f.out);clear f;go_wp2_with fail;refine(D.out _ (C.out.rd.below c.out lR)).mono ?_;rintro e wx ⟨rfl,rfl⟩;go_wp2_with fail;go_roundg (gk-1);case measure=>have:=m.out;omega
            case rel=>
             refine⟨s+1,by have:=m.out;omega,by go_num,?_,c.out⟩;rw[A.out,u.out,p.out];have:=H.out;simpa [ivs]using this
           |false=>
            have p:=Hd (Dn R.out f.out);clear f;go_wp2_with fail;refine(D.out _ (C.out.rd.below c.out lR)).mono ?_;rintro e wx ⟨rfl,rfl⟩;go_wp2_with (at_builtin;refine An rfl (.tmp 116) (.tmp 118) 48 rfl X.heap.size 3 _ 8 Cn _ _ rfl (H.out.alloc _) _ (rA rC b) rfl ?c1 rfl ?c2 ?c3 ?_);case c1=>exact Ar rfl
            case c2=>have:=S.out;have:=hlt;simp[ivs];omega
            case c3=>have:=c.out.size;simp;omega
            rintro vb wb t-j;have G:=Hd t;have E:=Hd ((c.out.alloc c.out.size (.cells #[rA rC b] 3)).trans j);clear t j;go_wp2_with fail;go_roundg (gk-1);case measure=>have:=m.out;omega
            case rel=>
             refine⟨s+1,by have:=m.out;omega,by go_num,?_,E.out⟩;rw[A.out,u.out,p.out];have:=G.out;simpa [ivs]using this
          ·have F:decide (b≥0)=false:=decide_eq_false hb0;have p:=Hd (Dm (out:=(Ac FI d i true d)) hb0);clear hb0;go_wp2_with fail;go_roundg (gk-1);case measure=>have:=m.out;omega
           case rel=>
            refine⟨s+1,by have:=m.out;omega,by go_num,?_,c.out⟩;rw[A.out,u.out,p.out];have:=H.out;simpa [ivs]using this
         |false=>
          have u:=Hd (Dn bJ.out J.out);clear J;go_wp2_with fail;refine(aK.out _ (C.out.rd.below c.out lR)).mono ?_;rintro e wx ⟨rfl,rfl⟩;go_wp2_with (at_builtin;refine An rfl (.tmp 104) (.tmp 106) 48 rfl X.heap.size 3 _ 8 Cn _ _ rfl (H.out.alloc _) _ (rA rC Z) rfl ?c1 rfl ?c2 ?c3 ?_);case c1=>exact Ar rfl
          case c2=>have:=S.out;have:=hlt;simp[ivs];omega
          case c3=>have:=c.out.size;simp;omega
          rintro va wa Q-M;have V:=Hd Q;have x:=Hd ((c.out.alloc c.out.size (.cells #[rA rC Z] 3)).trans M);clear Q M;obtain⟨k1,k2,k3,rfl⟩:=Dg V.out
          by_cases hb0:0≤b
          ·have F:decide (b≥0)=true:=decide_eq_true hb0;have o:=Hd (fun W Y=>Cb (q9 (some ⟨bo,oo,rF⟩) r v2) (Ac FI d i true d) b W Y);obtain⟨bb,j⟩:=eX (decide (b∈(Ac FI d i true d)));rw[←j]at o;have D:=Hd o.out;have f:=Hd j;have R:=Hd hb0;clear j hb0 o;cases bb with
           |true=>
            have p:=Hd (Ez f.out);clear f;go_wp2_with fail;refine(D.out _ (C.out.rd.below x.out lR)).mono ?_;rintro e wx ⟨rfl,rfl⟩;go_wp2_with fail;go_roundg (gk-1);case measure=>have:=m.out;omega
            case rel=>
             refine⟨s+1,by have:=m.out;omega,by go_num,?_,x.out⟩;rw[A.out,u.out,p.out];have:=V.out;simpa [ivs]using this
           |false=>
            have p:=Hd (Dn R.out f.out);clear f;go_wp2_with fail;refine(D.out _ (C.out.rd.below x.out lR)).mono ?_;rintro e wx ⟨rfl,rfl⟩;go_wp2_with (at_builtin;refine An rfl (.tmp 116) (.tmp 118) 48 rfl X.heap.size 3 _ 8 Cn _ _ rfl (V.out.alloc _) _ (rA rC b) rfl ?c1 rfl ?c2 ?c3 ?_);case c1=>exact Ar rfl
            case c2=>have:=S.out;have:=hlt;simp[ivs];omega
            case c3=>have:=x.out.size;simp;omega
            rintro vb wb t-j;have G:=Hd t;have E:=Hd ((x.out.alloc x.out.size (.cells #[rA rC b] 3)).trans j);clear t j;go_wp2_with fail;go_roundg (gk-1);case measure=>have:=m.out;omega
            case rel=>
             refine⟨s+1,by have:=m.out;omega,by go_num,?_,E.out⟩;rw[A.out,u.out,p.out];have:=G.out;simpa [ivs]using this
          ·have F:decide (b≥0)=false:=decide_eq_false hb0;have p:=Hd (Dm (out:=(Ac FI d i true d)) hb0);clear hb0;go_wp2_with fail;go_roundg (gk-1);case measure=>have:=m.out;omega
           case rel=>
            refine⟨s+1,by have:=m.out;omega,by go_num,?_,x.out⟩;rw[A.out,u.out,p.out];have:=V.out;simpa [ivs]using this
        ·have aS:decide (Z≥0)=false:=decide_eq_false ha0;have u:=Hd (Dm (out:=(Ac FI d i true d)) ha0);clear ha0
         by_cases hb0:0≤b
         ·have F:decide (b≥0)=true:=decide_eq_true hb0;have o:=Hd (fun W Y=>Cb (q9 (some ⟨bo,oo,rF⟩) r v2) (Ac FI d i true d) b W Y);obtain⟨bb,j⟩:=eX (decide (b∈(Ac FI d i true d)));rw[←j]at o;have D:=Hd o.out;have f:=Hd j;have R:=Hd hb0;clear j hb0 o;cases bb with
          |true=>
           have p:=Hd (Ez f.out);clear f;go_wp2_with fail;refine(D.out _ (C.out.rd.below c.out lR)).mono ?_;rintro e wx ⟨rfl,rfl⟩;go_wp2_with fail;go_roundg (gk-1);case measure=>have:=m.out;omega
           case rel=>
            refine⟨s+1,by have:=m.out;omega,by go_num,?_,c.out⟩;rw[A.out,u.out,p.out];have:=H.out;simpa [ivs]using this
          |false=>
           have p:=Hd (Dn R.out f.out);clear f;go_wp2_with fail;refine(D.out _ (C.out.rd.below c.out lR)).mono ?_;rintro e wx ⟨rfl,rfl⟩;go_wp2_with (at_builtin;refine An rfl (.tmp 116) (.tmp 118) 48 rfl X.heap.size 3 _ 8 Cn _ _ rfl (H.out.alloc _) _ (rA rC b) rfl ?c1 rfl ?c2 ?c3 ?_);case c1=>exact Ar rfl
           case c2=>have:=S.out;have:=hlt;simp[ivs];omega
           case c3=>have:=c.out.size;simp;omega
           rintro vb wb t-j;have G:=Hd t;have E:=Hd ((c.out.alloc c.out.size (.cells #[rA rC b] 3)).trans j);clear t j;go_wp2_with fail;go_roundg (gk-1);case measure=>have:=m.out;omega
           case rel=>
            refine⟨s+1,by have:=m.out;omega,by go_num,?_,E.out⟩;rw[A.out,u.out,p.out];have:=G.out;simpa [ivs]using this
         ·have F:decide (b≥0)=false:=decide_eq_false hb0;have p:=Hd (Dm (out:=(Ac FI d i true d)) hb0);clear hb0;go_wp2_with fail;go_roundg (gk-1);case measure=>have:=m.out;omega
          case rel=>
           refine⟨s+1,by have:=m.out;omega,by go_num,?_,c.out⟩;rw[A.out,u.out,p.out];have:=H.out;simpa [ivs]using this
       ·obtain rfl:s=r:=(by have:=m.out;omega);have aA:decide (s<s)=false:=decide_eq_false hlt;have HE:=Hd (show Jl (Ac FI d i true d) s=Dq (Ac FI d i true d)from by rw[T.out];exact Ov);clear hlt;go_wp2_with fail;refine(Dt _ (Ac FI d i true d) _ aG.out.rd (by have:=aV.out;omega)).mono ?_;rintro e dC ⟨vo,rfl,aN,K⟩;have a7:=Hd aN;have b3:=Hd K;have aH:=Hd (aQ.out.below K lR);have aD:=Hd (aR.out.trans (aC.out.mono aR.out.size));have O:=Hd (aD.out.trans (K.mono aD.out.size));clear aN K;go_wp2_with fail;refine(Dt _ (Jl (Ac FI d i true d) s) _ aH.out.rd (by have:=S.out;omega)).mono ?_;rintro e c0 ⟨vs,rfl,aP,P⟩;have bB:=Hd aP;have aB:=Hd (a7.out.below P lR);have aM:=Hd (O.out.trans (P.mono O.out.size));clear aP P;go_wp2_with fail
        go_ret3
        rw[←a5.out];refine⟨_,_,rfl,aB.out.mono aD.out.size,?_,aM.out⟩;rw[←HE.out];exact bB.out.mono O.out.size
     ·have cI:decide (0<d)=false:=decide_eq_false hd0;have dE:decide ((0:Int)<(d:Int))=false:=decide_eq_false (by omega);go_wp2_with fail;obtain⟨X,rfl⟩:∃X:World,X=wr:=⟨_,rfl⟩;have aR:=Hd bP.out;have C:=Hd a1.out;have cJ:r≤6000000000:=by rw[T.out];exact aV.out
      go_loopg [20,21] r (fun q ov iv wr=>∃s:Nat,s+q=r∧iv=rA rC (s:Nat)∧Own wr X.heap.size 3 ov (ivs .i64 (Jl (Ac FI d i true d) s))∧Below X.heap.size X wr)
      case atStart=>exact⟨0,by omega,rfl,Own.nil _ _ _,bR⟩
      case round=>
       obtain⟨s,hs,rfl,I,hb⟩:=hrel;have m:=Hd hs;have aQ:=Hd I;have aC:=Hd hb;have aG:=Hd (C.out.below hb lR);have S:=Hd (Ow (out:=(Ac FI d i true d)) s (by rw[←T.out];omega));obtain⟨j1,j2,j3,rfl⟩:=Dg I;clear hs I hb
       by_cases hlt:s<r
       ·have aA:decide (s<r)=true:=decide_eq_true hlt;have bC:(s:Int)<(r:Int):=(by omega);obtain⟨bo,oo,rfl,bI,co⟩:=aG.out.rd.at3 (Cp (show s<((Ac FI d i true d)).length by rw[←T.out];exact hlt));have A:=Hd (Je (out:=(Ac FI d i true d)) (r:=s) (by rw[←T.out];exact hlt));obtain⟨z,hz⟩:=eX (((Ac FI d i true d)).getD s 0);rw[←hz]at co A;have aL:=Hd (Hr z wr);obtain⟨Z,aO⟩:=eX (Eb z);obtain⟨b,aT⟩:=eX (Ce z);rw[←aO,←aT]at aL A;clear hz aO aT;go_wp2_with fail;refine aL.out.mono ?_;rintro e w5 ⟨rfl,U⟩;have c:=Hd (aC.out.trans (U.mono aC.out.size));have H:=Hd (aQ.out.below U lR);clear U co bI
        by_cases ha0:0≤Z
        ·have aS:decide (Z≥0)=true:=decide_eq_true ha0;have N:=Hd (fun W Y=>Cb (q9 (some ⟨bo,oo,rF⟩) r v2) (Ac FI d i true d) Z W Y);obtain⟨ba,M⟩:=eX (decide (Z∈(Ac FI d i true d)));rw[←M]at N;have aK:=Hd N.out;have J:=Hd M;have bJ:=Hd ha0;clear M ha0 N;cases ba with
         |true=>
          have u:=Hd (Ez J.out);clear J;go_wp2_with fail;refine(aK.out _ (C.out.rd.below c.out lR)).mono ?_;rintro e wx ⟨rfl,rfl⟩
          by_cases hb0:0≤b
          ·have F:decide (b≥0)=true:=decide_eq_true hb0;have o:=Hd (fun W Y=>Cb (q9 (some ⟨bo,oo,rF⟩) r v2) (Ac FI d i true d) b W Y);obtain⟨bb,j⟩:=eX (decide (b∈(Ac FI d i true d)));rw[←j]at o;have D:=Hd o.out;have f:=Hd j;have R:=Hd hb0;clear j hb0 o;cases bb with
           |true=>
            have p:=Hd (Ez f.out);clear f;go_wp2_with fail;refine(D.out _ (C.out.rd.below c.out lR)).mono ?_;rintro e wx ⟨rfl,rfl⟩;go_wp2_with fail;go_roundg (gk-1);case measure=>have:=m.out;omega
            case rel=>
             refine⟨s+1,by have:=m.out;omega,by go_num,?_,c.out⟩;rw[A.out,u.out,p.out];have:=H.out;simpa [ivs]using this
           |false=>
            have p:=Hd (Dn R.out f.out);clear f;go_wp2_with fail;refine(D.out _ (C.out.rd.below c.out lR)).mono ?_;rintro e wx ⟨rfl,rfl⟩;go_wp2_with (at_builtin;refine An rfl (.tmp 116) (.tmp 118) 48 rfl X.heap.size 3 _ 8 Cn _ _ rfl (H.out.alloc _) _ (rA rC b) rfl ?c1 rfl ?c2 ?c3 ?_);case c1=>exact Ar rfl
            case c2=>have:=S.out;have:=hlt;simp[ivs];omega
            case c3=>have:=c.out.size;simp;omega
            rintro vb wb t-j;have G:=Hd t;have E:=Hd ((c.out.alloc c.out.size (.cells #[rA rC b] 3)).trans j);clear t j;go_wp2_with fail;go_roundg (gk-1);case measure=>have:=m.out;omega
            case rel=>
             refine⟨s+1,by have:=m.out;omega,by go_num,?_,E.out⟩;rw[A.out,u.out,p.out];have:=G.out;simpa [ivs]using this
          ·have F:decide (b≥0)=false:=decide_eq_false hb0;have p:=Hd (Dm (out:=(Ac FI d i true d)) hb0);clear hb0;go_wp2_with fail;go_roundg (gk-1);case measure=>have:=m.out;omega
           case rel=>
            refine⟨s+1,by have:=m.out;omega,by go_num,?_,c.out⟩;rw[A.out,u.out,p.out];have:=H.out;simpa [ivs]using this
         |false=>
          have u:=Hd (Dn bJ.out J.out);clear J;go_wp2_with fail;refine(aK.out _ (C.out.rd.below c.out lR)).mono ?_;rintro e wx ⟨rfl,rfl⟩;go_wp2_with (at_builtin;refine An rfl (.tmp 104) (.tmp 106) 48 rfl X.heap.size 3 _ 8 Cn _ _ rfl (H.out.alloc _) _ (rA rC Z) rfl ?c1 rfl ?c2 ?c3 ?_);case c1=>exact Ar rfl
          case c2=>have:=S.out;have:=hlt;simp[ivs];omega
          case c3=>have:=c.out.size;simp;omega
          rintro va wa Q-M;have V:=Hd Q;have x:=Hd ((c.out.alloc c.out.size (.cells #[rA rC Z] 3)).trans M);clear Q M;obtain⟨k1,k2,k3,rfl⟩:=Dg V.out
          by_cases hb0:0≤b
          ·have F:decide (b≥0)=true:=decide_eq_true hb0;have o:=Hd (fun W Y=>Cb (q9 (some ⟨bo,oo,rF⟩) r v2) (Ac FI d i true d) b W Y);obtain⟨bb,j⟩:=eX (decide (b∈(Ac FI d i true d)));rw[←j]at o;have D:=Hd o.out;have f:=Hd j;have R:=Hd hb0;clear j hb0 o;cases bb with
           |true=>
            have p:=Hd (Ez f.out);clear f;go_wp2_with fail;refine(D.out _ (C.out.rd.below x.out lR)).mono ?_;rintro e wx ⟨rfl,rfl⟩;go_wp2_with fail;go_roundg (gk-1);case measure=>have:=m.out;omega
            case rel=>
             refine⟨s+1,by have:=m.out;omega,by go_num,?_,x.out⟩;rw[A.out,u.out,p.out];have:=V.out;simpa [ivs]using this
           |false=>
            have p:=Hd (Dn R.out f.out);clear f;go_wp2_with fail;refine(D.out _ (C.out.rd.below x.out lR)).mono ?_;rintro e wx ⟨rfl,rfl⟩;go_wp2_with (at_builtin;refine An rfl (.tmp 116) (.tmp 118) 48 rfl X.heap.size 3 _ 8 Cn _ _ rfl (V.out.alloc _) _ (rA rC b) rfl ?c1 rfl ?c2 ?c3 ?_);case c1=>exact Ar rfl
            case c2=>have:=S.out;have:=hlt;simp[ivs];omega
            case c3=>have:=x.out.size;simp;omega
            rintro vb wb t-j;have G:=Hd t;have E:=Hd ((x.out.alloc x.out.size (.cells #[rA rC b] 3)).trans j);clear t j;go_wp2_with fail;go_roundg (gk-1);case measure=>have:=m.out;omega
            case rel=>
             refine⟨s+1,by have:=m.out;omega,by go_num,?_,E.out⟩;rw[A.out,u.out,p.out];have:=G.out;simpa [ivs]using this
          ·have F:decide (b≥0)=false:=decide_eq_false hb0;have p:=Hd (Dm (out:=(Ac FI d i true d)) hb0);clear hb0;go_wp2_with fail;go_roundg (gk-1);case measure=>have:=m.out;omega
           case rel=>
            refine⟨s+1,by have:=m.out;omega,by go_num,?_,x.out⟩;rw[A.out,u.out,p.out];have:=V.out;simpa [ivs]using this
        ·have aS:decide (Z≥0)=false:=decide_eq_false ha0;have u:=Hd (Dm (out:=(Ac FI d i true d)) ha0);clear ha0
         by_cases hb0:0≤b
         ·have F:decide (b≥0)=true:=decide_eq_true hb0;have o:=Hd (fun W Y=>Cb (q9 (some ⟨bo,oo,rF⟩) r v2) (Ac FI d i true d) b W Y);obtain⟨bb,j⟩:=eX (decide (b∈(Ac FI d i true d)));rw[←j]at o;have D:=Hd o.out;have f:=Hd j;have R:=Hd hb0;clear j hb0 o;cases bb with
          |true=>
           have p:=Hd (Ez f.out);clear f;go_wp2_with fail;refine(D.out _ (C.out.rd.below c.out lR)).mono ?_;rintro e wx ⟨rfl,rfl⟩;go_wp2_with fail;go_roundg (gk-1);case measure=>have:=m.out;omega
           case rel=>
            refine⟨s+1,by have:=m.out;omega,by go_num,?_,c.out⟩;rw[A.out,u.out,p.out];have:=H.out;simpa [ivs]using this
          |false=>
           have p:=Hd (Dn R.out f.out);clear f;go_wp2_with fail;refine(D.out _ (C.out.rd.below c.out lR)).mono ?_;rintro e wx ⟨rfl,rfl⟩;go_wp2_with (at_builtin;refine An rfl (.tmp 116) (.tmp 118) 48 rfl X.heap.size 3 _ 8 Cn _ _ rfl (H.out.alloc _) _ (rA rC b) rfl ?c1 rfl ?c2 ?c3 ?_);case c1=>exact Ar rfl
           case c2=>have:=S.out;have:=hlt;simp[ivs];omega
           case c3=>have:=c.out.size;simp;omega
           rintro vb wb t-j;have G:=Hd t;have E:=Hd ((c.out.alloc c.out.size (.cells #[rA rC b] 3)).trans j);clear t j;go_wp2_with fail;go_roundg (gk-1);case measure=>have:=m.out;omega
           case rel=>
            refine⟨s+1,by have:=m.out;omega,by go_num,?_,E.out⟩;rw[A.out,u.out,p.out];have:=G.out;simpa [ivs]using this
         ·have F:decide (b≥0)=false:=decide_eq_false hb0;have p:=Hd (Dm (out:=(Ac FI d i true d)) hb0);clear hb0;go_wp2_with fail;go_roundg (gk-1);case measure=>have:=m.out;omega
          case rel=>
           refine⟨s+1,by have:=m.out;omega,by go_num,?_,c.out⟩;rw[A.out,u.out,p.out];have:=H.out;simpa [ivs]using this
       ·obtain rfl:s=r:=(by have:=m.out;omega);have aA:decide (s<s)=false:=decide_eq_false hlt;have HE:=Hd (show Jl (Ac FI d i true d) s=Dq (Ac FI d i true d)from by rw[T.out];exact Ov);clear hlt;go_wp2_with fail;refine(Dt _ (Ac FI d i true d) _ aG.out.rd (by have:=aV.out;omega)).mono ?_;rintro e dC ⟨vo,rfl,aN,K⟩;have a7:=Hd aN;have b3:=Hd K;have aH:=Hd (aQ.out.below K lR);have aD:=Hd (aR.out.trans (aC.out.mono aR.out.size));have O:=Hd (aD.out.trans (K.mono aD.out.size));clear aN K;go_wp2_with fail;refine(Dt _ (Jl (Ac FI d i true d) s) _ aH.out.rd (by have:=S.out;omega)).mono ?_;rintro e c0 ⟨vs,rfl,aP,P⟩;have bB:=Hd aP;have aB:=Hd (a7.out.below P lR);have aM:=Hd (O.out.trans (P.mono O.out.size));clear aP P;go_wp2_with fail
        go_ret3
        rw[←a5.out];refine⟨_,_,rfl,aB.out.mono aD.out.size,?_,aM.out⟩;rw[←HE.out];exact bB.out.mono O.out.size
   |false=>
    go_wp2_with fail;obtain⟨w8,rfl⟩:∃w8:World,w8=wr:=⟨_,rfl⟩
    go_loopg [11,13,17] d (fun q ov kv iv wr=>∃k:Nat,k+q=d∧iv=rA rC (k:Nat)∧kv=.bool (Cg FI d i false k)∧Own wr w.heap.size 3 ov (ivs .i64 (Ac FI d i false k))∧Own wr w6.heap.size 3 (q9 z1 d z2) (ivs .i64 (Zh3 (2*(i:Int)) (n:Int)))∧Hw ov (q9 z1 d z2)∧Below w.heap.size w wr)
    case atStart=>exact⟨0,by omega,rfl,by rw[Ziu,aE.out],by rw[Zw];exact bL.out,cS.out,bT.out,bP.out⟩
    case round=>
     obtain⟨k,hk,rfl,rfl,I,dA,dB,hb⟩:=hrel;have HK:=Hd hk;have HO:=Hd I;have bS:=Hd dA;have bT:=Hd dB;have HB:=Hd hb;obtain⟨b7,a9⟩:=eX (Cg FI d i false k);rw[←a9];have aE:=Hd a9;clear hk I dA dB hb a9
     by_cases hkd:k<d
     ·have dF:decide (k<d)=true:=decide_eq_true hkd;have dW:(k:Int)<(d:Int):=(by omega);obtain⟨bu,ou,rfl,dO,cy⟩:=bS.out.rd.at3 (Cp (show k<(Zh3 (2*(i:Int)) (n:Int)).length by rw[cL.out];exact hkd));rw[dR.out k hkd]at cy;have b9:=Hd (dK.out k hkd wr HB.out);have cE:=Hd (b5.out k hkd);have cR:=Hd (aW.out k (by omega));have cC:=Hd (Zx (FI:=FI) (d:=d) (i:=i) k);have a8:=Hd (show Cg FI d i false (k+1)=(b7&&(Be FI d k (Jz (2*i) k)).2)from by rw[Ziw,aE.out]);obtain⟨sb,c6⟩:=eX (Jz (2*i) k);rw[←c6]at cy b9 cE cC a8;obtain⟨W1,cH⟩:=eX (Be FI d k sb);rw[←cH]at b9 cE cC a8;obtain⟨p1,p2,p3,rfl⟩:=Dg HO.out;clear c6 cH aE;go_wp2_with fail;refine b9.out.mono ?_;rintro e w9 ⟨v9,rfl,aX,bV⟩;have dG:=Hd aX.rd;have cO:=Hd (HB.out.trans (bV.mono HB.out.size));have dS:=Hd (HO.out.below bV lR);have b0:=Hd (bS.out.below bV lR);obtain⟨fk,bG⟩:=eX W1.2;rw[←bG]at a8⊢;obtain⟨t1,t2,t3,rfl⟩:=Dg aX;clear aX bV bG;go_wp2_with (at_builtin;refine Ou rfl (.tmp 75) (.tmp 76) 48 rfl w.heap.size 3 _ 8 Cn _ _ rfl dS.out _ _ rfl dG.out ?d1 ?d2 ?d3 ?_);case d1=>exact Eo _
      case d2=>have:=cR.out;have:=cE.out;simp[ivs];omega
      case d3=>exact cO.out.size
      rintro dQ aF a3 b2 aI bE;have b1:=Hd (show Own aF w.heap.size 3 dQ (ivs .i64 (Ac FI d i false (k+1)))from by
       rw[cC.out];simpa [ivs]using a3)
      have bM:=Hd (show Own aF w6.heap.size 3 _ _ from b0.out.grown b2 fun g e1 e2=>bT.out g e2 e1);have bA:=Hd (Gy bE bT.out b0.out);have aJ:=Hd (cO.out.trans aI);clear a3 b2 aI bE;cases b7
      ·go_wp2_with fail;go_roundg (gk-1);case measure=>have:=HK.out;omega
       case rel=>exact⟨k+1,by have:=HK.out;omega,by go_num,by rw[a8.out,dH],b1.out,bM.out,bA.out,aJ.out⟩
      ·go_wp2_with fail;go_roundg (gk-1);case measure=>have:=HK.out;omega
       case rel=>exact⟨k+1,by have:=HK.out;omega,by go_num,by rw[a8.out,dI],b1.out,bM.out,bA.out,aJ.out⟩
     ·obtain rfl:k=d:=(by have:=HK.out;omega);have dF:decide (k<k)=false:=decide_eq_false hkd;have a5:=Hd (show b7=Cg FI k i false k from aE.out);have aV:=Hd (aW.out k lR);obtain⟨r2,b8⟩:=eX ((Ac FI k i false k).length);have T:=Hd b8;obtain⟨p1,p2,rfl⟩:=Qm HO.out b8.symm;have a1:=Hd HO.out;clear hkd b8;go_wp2_with fail;obtain⟨X,rfl⟩:∃X:World,X=wr:=⟨_,rfl⟩;have aR:=Hd HB.out;have C:=Hd a1.out;have cJ:r2≤6000000000:=by rw[T.out];exact aV.out
      go_loopg [20,21] r2 (fun q ov iv wr=>∃s:Nat,s+q=r2∧iv=rA rC (s:Nat)∧Own wr X.heap.size 3 ov (ivs .i64 (Jl (Ac FI k i false k) s))∧Below X.heap.size X wr)
      case atStart=>exact⟨0,by omega,rfl,Own.nil _ _ _,bR⟩
      case round=>
       obtain⟨s,hs,rfl,I,hb⟩:=hrel;have m:=Hd hs;have aQ:=Hd I;have aC:=Hd hb;have aG:=Hd (C.out.below hb lR);have S:=Hd (Ow (out:=(Ac FI k i false k)) s (by rw[←T.out];omega));obtain⟨j1,j2,j3,rfl⟩:=Dg I;clear hs I hb
       by_cases hlt:s<r2
       ·have aA:decide (s<r2)=true:=decide_eq_true hlt;have bC:(s:Int)<(r2:Int):=(by omega);obtain⟨bo,oo,rfl,bI,co⟩:=aG.out.rd.at3 (Cp (show s<((Ac FI k i false k)).length by rw[←T.out];exact hlt));have A:=Hd (Je (out:=(Ac FI k i false k)) (r:=s) (by rw[←T.out];exact hlt));obtain⟨z,hz⟩:=eX (((Ac FI k i false k)).getD s 0);rw[←hz]at co A;have aL:=Hd (Hr z wr);obtain⟨Z,aO⟩:=eX (Eb z);obtain⟨b,aT⟩:=eX (Ce z);rw[←aO,←aT]at aL A;clear hz aO aT;go_wp2_with fail;refine aL.out.mono ?_;rintro e w5 ⟨rfl,U⟩;have c:=Hd (aC.out.trans (U.mono aC.out.size));have H:=Hd (aQ.out.below U lR);clear U co bI
        by_cases ha0:0≤Z
        ·have aS:decide (Z≥0)=true:=decide_eq_true ha0;have N:=Hd (fun W Y=>Cb (q9 (some ⟨bo,oo,rF⟩) r2 p2) (Ac FI k i false k) Z W Y);obtain⟨ba,M⟩:=eX (decide (Z∈(Ac FI k i false k)));rw[←M]at N;have aK:=Hd N.out;have J:=Hd M;have bJ:=Hd ha0;clear M ha0 N;cases ba with
         |true=>
          have u:=Hd (Ez J.out);clear J;go_wp2_with fail;refine(aK.out _ (C.out.rd.below c.out lR)).mono ?_;rintro e wx ⟨rfl,rfl⟩
          by_cases hb0:0≤b
          ·have F:decide (b≥0)=true:=decide_eq_true hb0;have o:=Hd (fun W Y=>Cb (q9 (some ⟨bo,oo,rF⟩) r2 p2) (Ac FI k i false k) b W Y);obtain⟨bb,j⟩:=eX (decide (b∈(Ac FI k i false k)));rw[←j]at o;have D:=Hd o.out;have f:=Hd j;have R:=Hd hb0;clear j hb0 o;cases bb with
           |true=>
            have p:=Hd (Ez f.out);clear f;go_wp2_with fail;refine(D.out _ (C.out.rd.below c.out lR)).mono ?_;rintro e wx ⟨rfl,rfl⟩;go_wp2_with fail;go_roundg (gk-1);case measure=>have:=m.out;omega
            case rel=>
             refine⟨s+1,by have:=m.out;omega,by go_num,?_,c.out⟩;rw[A.out,u.out,p.out];have:=H.out;simpa [ivs]using this
           |false=>
            have p:=Hd (Dn R.out f.out);clear f;go_wp2_with fail;refine(D.out _ (C.out.rd.below c.out lR)).mono ?_;rintro e wx ⟨rfl,rfl⟩;go_wp2_with (at_builtin;refine An rfl (.tmp 116) (.tmp 118) 48 rfl X.heap.size 3 _ 8 Cn _ _ rfl (H.out.alloc _) _ (rA rC b) rfl ?c1 rfl ?c2 ?c3 ?_);case c1=>exact Ar rfl
            case c2=>have:=S.out;have:=hlt;simp[ivs];omega
            case c3=>have:=c.out.size;simp;omega
            rintro vb wb t-j;have G:=Hd t;have E:=Hd ((c.out.alloc c.out.size (.cells #[rA rC b] 3)).trans j);clear t j;go_wp2_with fail;go_roundg (gk-1);case measure=>have:=m.out;omega
            case rel=>
             refine⟨s+1,by have:=m.out;omega,by go_num,?_,E.out⟩;rw[A.out,u.out,p.out];have:=G.out;simpa [ivs]using this
          ·have F:decide (b≥0)=false:=decide_eq_false hb0;have p:=Hd (Dm (out:=(Ac FI k i false k)) hb0);clear hb0;go_wp2_with fail;go_roundg (gk-1);case measure=>have:=m.out;omega
           case rel=>
            refine⟨s+1,by have:=m.out;omega,by go_num,?_,c.out⟩;rw[A.out,u.out,p.out];have:=H.out;simpa [ivs]using this
         |false=>
          have u:=Hd (Dn bJ.out J.out);clear J;go_wp2_with fail;refine(aK.out _ (C.out.rd.below c.out lR)).mono ?_;rintro e wx ⟨rfl,rfl⟩;go_wp2_with (at_builtin;refine An rfl (.tmp 104) (.tmp 106) 48 rfl X.heap.size 3 _ 8 Cn _ _ rfl (H.out.alloc _) _ (rA rC Z) rfl ?c1 rfl ?c2 ?c3 ?_);case c1=>exact Ar rfl
          case c2=>have:=S.out;have:=hlt;simp[ivs];omega
          case c3=>have:=c.out.size;simp;omega
          rintro va wa Q-M;have V:=Hd Q;have x:=Hd ((c.out.alloc c.out.size (.cells #[rA rC Z] 3)).trans M);clear Q M;obtain⟨k1,k2,k3,rfl⟩:=Dg V.out
          by_cases hb0:0≤b
          ·have F:decide (b≥0)=true:=decide_eq_true hb0;have o:=Hd (fun W Y=>Cb (q9 (some ⟨bo,oo,rF⟩) r2 p2) (Ac FI k i false k) b W Y);obtain⟨bb,j⟩:=eX (decide (b∈(Ac FI k i false k)));rw[←j]at o;have D:=Hd o.out;have f:=Hd j;have R:=Hd hb0;clear j hb0 o;cases bb with
           |true=>
            have p:=Hd (Ez f.out);clear f;go_wp2_with fail;refine(D.out _ (C.out.rd.below x.out lR)).mono ?_;rintro e wx ⟨rfl,rfl⟩;go_wp2_with fail;go_roundg (gk-1);case measure=>have:=m.out;omega
            case rel=>
             refine⟨s+1,by have:=m.out;omega,by go_num,?_,x.out⟩;rw[A.out,u.out,p.out];have:=V.out;simpa [ivs]using this
           |false=>
            have p:=Hd (Dn R.out f.out);clear f;go_wp2_with fail;refine(D.out _ (C.out.rd.below x.out lR)).mono ?_;rintro e wx ⟨rfl,rfl⟩;go_wp2_with (at_builtin;refine An rfl (.tmp 116) (.tmp 118) 48 rfl X.heap.size 3 _ 8 Cn _ _ rfl (V.out.alloc _) _ (rA rC b) rfl ?c1 rfl ?c2 ?c3 ?_);case c1=>exact Ar rfl
            case c2=>have:=S.out;have:=hlt;simp[ivs];omega
            case c3=>have:=x.out.size;simp;omega
            rintro vb wb t-j;have G:=Hd t;have E:=Hd ((x.out.alloc x.out.size (.cells #[rA rC b] 3)).trans j);clear t j;go_wp2_with fail;go_roundg (gk-1);case measure=>have:=m.out;omega
            case rel=>
             refine⟨s+1,by have:=m.out;omega,by go_num,?_,E.out⟩;rw[A.out,u.out,p.out];have:=G.out;simpa [ivs]using this
          ·have F:decide (b≥0)=false:=decide_eq_false hb0;have p:=Hd (Dm (out:=(Ac FI k i false k)) hb0);clear hb0;go_wp2_with fail;go_roundg (gk-1);case measure=>have:=m.out;omega
           case rel=>
            refine⟨s+1,by have:=m.out;omega,by go_num,?_,x.out⟩;rw[A.out,u.out,p.out];have:=V.out;simpa [ivs]using this
        ·have aS:decide (Z≥0)=false:=decide_eq_false ha0;have u:=Hd (Dm (out:=(Ac FI k i false k)) ha0);clear ha0
         by_cases hb0:0≤b
         ·have F:decide (b≥0)=true:=decide_eq_true hb0;have o:=Hd (fun W Y=>Cb (q9 (some ⟨bo,oo,rF⟩) r2 p2) (Ac FI k i false k) b W Y);obtain⟨bb,j⟩:=eX (decide (b∈(Ac FI k i false k)));rw[←j]at o;have D:=Hd o.out;have f:=Hd j;have R:=Hd hb0;clear j hb0 o;cases bb with
          |true=>
           have p:=Hd (Ez f.out);clear f;go_wp2_with fail;refine(D.out _ (C.out.rd.below c.out lR)).mono ?_;rintro e wx ⟨rfl,rfl⟩;go_wp2_with fail;go_roundg (gk-1);case measure=>have:=m.out;omega
           case rel=>
            refine⟨s+1,by have:=m.out;omega,by go_num,?_,c.out⟩;rw[A.out,u.out,p.out];have:=H.out;simpa [ivs]using this
          |false=>
           have p:=Hd (Dn R.out f.out);clear f;go_wp2_with fail;refine(D.out _ (C.out.rd.below c.out lR)).mono ?_;rintro e wx ⟨rfl,rfl⟩;go_wp2_with (at_builtin;refine An rfl (.tmp 116) (.tmp 118) 48 rfl X.heap.size 3 _ 8 Cn _ _ rfl (H.out.alloc _) _ (rA rC b) rfl ?c1 rfl ?c2 ?c3 ?_);case c1=>exact Ar rfl
           case c2=>have:=S.out;have:=hlt;simp[ivs];omega
           case c3=>have:=c.out.size;simp;omega
           rintro vb wb t-j;have G:=Hd t;have E:=Hd ((c.out.alloc c.out.size (.cells #[rA rC b] 3)).trans j);clear t j;go_wp2_with fail;go_roundg (gk-1);case measure=>have:=m.out;omega
           case rel=>
            refine⟨s+1,by have:=m.out;omega,by go_num,?_,E.out⟩;rw[A.out,u.out,p.out];have:=G.out;simpa [ivs]using this
         ·have F:decide (b≥0)=false:=decide_eq_false hb0;have p:=Hd (Dm (out:=(Ac FI k i false k)) hb0);clear hb0;go_wp2_with fail;go_roundg (gk-1);case measure=>have:=m.out;omega
          case rel=>
           refine⟨s+1,by have:=m.out;omega,by go_num,?_,c.out⟩;rw[A.out,u.out,p.out];have:=H.out;simpa [ivs]using this
       ·obtain rfl:s=r2:=(by have:=m.out;omega);have aA:decide (s<s)=false:=decide_eq_false hlt;have HE:=Hd (show Jl (Ac FI k i false k) s=Dq (Ac FI k i false k)from by rw[T.out];exact Ov);clear hlt;go_wp2_with fail;refine(Dt _ (Ac FI k i false k) _ aG.out.rd (by have:=aV.out;omega)).mono ?_;rintro e dC ⟨vo,rfl,aN,K⟩;have a7:=Hd aN;have b3:=Hd K;have aH:=Hd (aQ.out.below K lR);have aD:=Hd (aR.out.trans (aC.out.mono aR.out.size));have O:=Hd (aD.out.trans (K.mono aD.out.size));clear aN K;go_wp2_with fail;refine(Dt _ (Jl (Ac FI k i false k) s) _ aH.out.rd (by have:=S.out;omega)).mono ?_;rintro e c0 ⟨vs,rfl,aP,P⟩;have bB:=Hd aP;have aB:=Hd (a7.out.below P lR);have aM:=Hd (O.out.trans (P.mono O.out.size));clear aP P;go_wp2_with fail
        go_ret3
        rw[←a5.out];refine⟨_,_,rfl,aB.out.mono aD.out.size,?_,aM.out⟩;rw[←HE.out];exact bB.out.mono O.out.size
end
end Go.Proofs.YtfofaiommeckbaaGreat
