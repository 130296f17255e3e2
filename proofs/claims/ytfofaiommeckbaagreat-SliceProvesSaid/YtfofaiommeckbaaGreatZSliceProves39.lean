import Derived.Laws.MakeOwn
import Derived.Test.YtfofaiommeckbaaGreatZSliceProves35
import Derived.Test.YtfofaiommeckbaaGreatZSliceProves36
import Derived.Test.YtfofaiommeckbaaGreatZSliceProves38
open Go.Value renaming slice → q9, int → rA, pointer → rB
open Go.IntKind renaming i64 → rC
open Option renaming none → rF
open Go.Proofs.Tryz
open Bool renaming and_eq_true → cJ, or_false → dB, or_true → dC
open Nat renaming pow_succ → aN, le_trans → bM, succ_le_of_lt → hQ, lt_succ_self → dE, lt_succ_of_lt → iC, le_of_lt → dW
open List renaming getD_eq_getElem?_getD → aH, range → aF, flatMap_def → gJ, map_congr_left → gK, getElem?_eq_getElem → aI, getElem_mem → aJ, replicate → cI, getElem?_toArray → bZ, getElem?_cons_zero → cA, getElem?_cons_succ → cB, filterMap_cons → cX, filterMap_nil → cY, contains_cons → cZ, contains_nil → dA
set_option linter.unusedVariables false
set_option maxRecDepth 100000
set_option maxHeartbeats 40000000
namespace Go.Proofs.YtfofaiommeckbaaGreat
open Go.RowKit WalkM ShaM WireM
def Cx (T:Nat→NodeD)(y:Nat):List Nat:=Fq T (lev y) y
theorem Oz (T:Nat→NodeD)(y:Nat):(Cx T y).length=32:=Dy _ _ _
theorem Zal (T:Nat→NodeD)(y:Nat):∀x∈Cx T y,x<256:=Sg _ _ _
theorem Zi6 (t:List NodeD)(hs:Bc t=true)(hok:TreeOk t)(hp:Bh t=true):∀k,Zil t k:=by
 intro k
 induction k with
 |zero=>exact Zef t hs hok hp
 |succ k ih=>exact Zeg t hs hok hp k ih
theorem AllR.congr {w:World} {g n:Nat} {F F':Nat→Option (List Nat)}(h:AllR w g n F)(e:∀y,y<n→F' y=F y):AllR w g n F':=by
 obtain⟨cs,h1,h2,h3⟩:=h;refine⟨cs,h1,h2,fun y hy=> ?_⟩;obtain⟨u,k1,k2⟩:=h3 y hy;exact⟨u,k1,fun L hL=>k2 L (by rw[←e y hy];exact hL)⟩
theorem Zfn {n:Nat}(f:n≤4000000):∀w:World,(Instr.makeSlice 64 (rA rC (n:Nat)) (rA rC (n:Nat))).run prog w=.ok (q9 (some ⟨w.heap.size,0,rF⟩) n n) (w.alloc (.cells (madeCells (Value.slice none 0 0).cells (n*1)) 28)):=by
 intro w;obtain⟨i,e,d,b,a⟩:∃i,prog.info? 28=some i∧i.zero=some (q9 rF 0 0)∧i.size=1∧i.bytes=24:=info_parts (by kernel_rfl);have c:=run_make (P:=prog) w 64 28 i (q9 rF 0 0) underlying64 e d .i64 .i64 n n (by omega) (by omega) (by rw[a];omega) (by omega);simp only[Int.toNat_natCast,b]at c;exact c
theorem Zfo (w:World)(n:Nat):AllR (w.alloc (.cells (madeCells (Value.slice none 0 0).cells (n*1)) 28)) w.heap.size n (fun _=>none):=by
 refine⟨_,Blk.new w _ _,by simp[madeCells],fun y hy=> ?_⟩;exact⟨_,Array.getElem?_eq_getElem (by simpa [madeCells]using hy),fun L hL=>by cases hL⟩
theorem Zlv (v:Value)(t:List NodeD)(w:World)(h:TreeR w v t)(f:Bc t=true)(b:TreeOk t)(g:Bi t=false):
  Calls prog 131 #[v] w fun e w'=>e=.returned (.tuple #[q9 rF 0 0,rA .u8 12])∧Below w.heap.size w w':=by
 have d:=Qe v t w h f b;rw[g]at d;have i:=Hd d;obtain⟨a,n,c,rfl⟩:∃a n c,v=.slice a n c:=(by obtain⟨a,c,e,_⟩:=h.sl;exact⟨_,_,_,e⟩);clear d h f b g;go_enter func131,ntmps131;go_wp2_with fail;refine(i.out).mono ?_;rintro e k ⟨rfl,j⟩;go_wp2_with fail;go_ret2;exact⟨rfl,j⟩
theorem Zam (v:Value)(t:List NodeD)(w:World)(h:TreeR w v t)(q:Bc t=true)(f:TreeOk t)(j:Bi t=true):
  Calls prog 131 #[v] w fun e w'=>∃g,w.heap.size≤g∧e=.returned (.tuple #[q9 (some ⟨g,0,rF⟩) t.length t.length,rA .u8 0])∧AllR w' g t.length (fun y=>some (Cx (nd t) y))∧Below w.heap.size w w':=by
 have E:=Qe v t w h q f;rw[j]at E;have L:=Hd E;obtain⟨k,M⟩:Ap t.length≠0∧Bh t=true:=by
  rw[Bi,cJ,cJ]at j;exact⟨of_decide_eq_true j.1,j.2.1⟩
 obtain⟨d,X,P,K⟩:=Dc k;have m:=Bg q;have B:0<2^d:=Nat.pos_of_ne_zero (by simp);have o:IsLev (2^d-1) d:=by
  unfold IsLev;exact Nat.mod_eq_of_lt (by have:2^(d+1)=2*2^d:=(by rw[aN];omega);omega)
 have r:=fun(W:World) (g:Nat) (O:Below w.heap.size w W) (U:w.heap.size≤g) (z:AllR W g t.length (fun _=>none))=>Zi6 t q f M d (2^d-1) g v W _ (h.g O U) z o (by omega);have s:=fun(W:World) (g:Nat) (z:AllR W g t.length (Lu (nd t) (fun _=>none) d (2^d-1)))=>z.congr (F':=fun y=>some (Cx (nd t) y)) (fun y V=>by
  unfold Lu Cx;rw[if_pos ⟨by omega,by omega⟩])
 obtain⟨a,c,rfl,S,T⟩:=h.sl;obtain⟨n,N⟩:=eX t.length;rw[←N]at K m S r s L⊢;obtain⟨x,hx⟩:=eX (2^d-1);rw[←hx]at r s;have hq:(n:Int)/2=(x:Int):=(by omega);have A:=Zfn (n:=n) (by omega);have l:=Hd (fun(W:World)=>Zfo W n);obtain⟨Z,J⟩:=eX (madeCells (Value.slice none 0 0).cells (n*1));rw[←J]at A l;have G:=Hd r;have F:=Hd s;clear hx J E h q f j k M P K o r s N B;go_enter func131,ntmps131;go_wp2_with fail;refine(L.out).mono ?_;rintro e R ⟨rfl,H⟩;have u:=Hd H;have i:=H.size;clear H;go_wp2_with fail;refine(G.out _ _ (u.out.alloc u.out.size _) i (l.out R)).mono ?_;rintro e Y ⟨v2,rfl,I,D,b,p⟩;have Q:=Hd (F.out _ _ b);have C:=Hd ((u.out.alloc u.out.size (.cells Z 28)).trans (p.1.mono i));clear I D b p;go_wp2_with fail;go_ret2;exact⟨_,i,rfl,Q.out,C.out⟩
end Go.Proofs.YtfofaiommeckbaaGreat
namespace Go.Proofs.YtfofaiommeckbaaGreat
open Go.RowKit ShaM WireM
theorem Zb8 (v:Value)(L:List Nat)(w:World)(h:Rd w v (bvs L))(i:∀x∈L,x<256)(k:L.length≤1000000):
  Calls prog 85 #[v] w fun e w'=>∃v',e=.returned v'∧Own w' w.heap.size 5 v' (bvs (shaF L))∧Below w.heap.size w w':=by
 have o:=Hd (Zc6 w);have RS:=Hd (fun(W:World) (m:Below w.heap.size w W) (j g:Value) (p:Rd W j (qvs HL0)) (hk:Rd W g (qvs KL))=>Zi4 v j g L W (h.below m lR) p hk i k);clear h i k;go_enter func85,ntmps85;go_wp2_with fail;refine(o.out).mono ?_;rintro e n ⟨q,r,rfl,h1,h2,f⟩;have C:=Hd (RS.out n f q r h1 h2);have d:=Hd f;clear h1 h2 f;go_wp2_with fail;refine(C.out).mono ?_;rintro e t ⟨s,rfl,a,b⟩;have l:=Hd a;have c:=Hd (d.out.trans (b.mono d.out.size));clear a b;go_wp2_with fail;go_ret;exact⟨_,rfl,l.out.mono d.out.size,c.out⟩
open WalkM
theorem Zan (t:List NodeD)(g:List Int)(s:Bc t=true)(n:TreeOk t)(k:Nat)(y:Zj t g k):Zeb t g k:=by
 intro x v D w h l f hx;have C:=Hd (y x v D w h l f hx);have u:=Oh (Oi s g) k x;have i:=Oj (woD t g) (Zmp n g) (Oi s g) k x;have r:=Hd (Ht (woD t g) k x);obtain⟨z,j⟩:=eX (Lt (woD t g) k x);rw[←j]at C u i r;rw[r.out];have F:=Hd (show z.length≤1000000 by omega);have o:=Hd i;obtain⟨J,G,I,rfl⟩:∃a b c,v=.slice a b c:=(by obtain⟨a,c,e,_⟩:=h.sl;exact⟨_,_,_,e⟩);clear u i j h l f hx y;go_enter func76,ntmps76;go_wp2_with fail;refine(C.out).mono ?_;rintro e B ⟨K,rfl,d,m⟩;have E:=Hd d.rd;have q:=Hd m;clear d m;go_wp2_with fail;refine(Zb8 _ z B E.out o.out F.out).mono ?_;rintro e H ⟨L,rfl,d,m⟩;have A:=Hd (d.mono q.out.size);have p:=Hd (q.out.trans (m.mono q.out.size));clear d m;go_wp2_with fail;go_ret;exact⟨_,rfl,A.out,p.out⟩
theorem Zfp (t:List NodeD)(ps:List Int)(hs:Bc t=true)(hok:TreeOk t)(hp:Bh t=true):∀k,Zj t ps k∧Zeb t ps k:=by
 intro k
 induction k with
 |zero=>have h:=Zbr t ps hs hok hp;exact⟨h,Zan t ps hs hok 0 h⟩
 |succ k ih=>have h:=Zbs t ps hs hok hp k ih.2;exact⟨h,Zan t ps hs hok (k+1) h⟩
theorem Zlw (t:List NodeD):woD t []=nd t:=funext fun x=>Zea t x
theorem Ra (t:List NodeD)(j:Bc t=true)(b:TreeOk t)(i:Bi t=true)(x:Nat)(hx:x<t.length)(v c:Value)(a:List Int)(w:World)(h:TreeR w v t)(m:Rd w c (ivs .i64 a)):
  Calls prog 76 #[v,rA rC (x:Nat),c] w fun e w'=>∃v',e=.returned v'∧Own w' w.heap.size 5 v' (bvs (Cx (woD t a) x))∧Below w.heap.size w w':=by
 obtain⟨g,f⟩:Ap t.length≠0∧Bh t=true:=by
  rw[Bi,cJ,cJ]at i;exact⟨of_decide_eq_true i.1,i.2.1⟩
 obtain⟨d,l,n,o⟩:=Dc g;have k:=Bg j;have e:2^(d+1)=2*2^d:=(by rw[aN];omega);exact(Zfp t a j b f (lev x)).2 x v c w h m (lev_is (by omega)) (by have:=Rz (x:=x) (d:=d) (by omega) l;omega)
end Go.Proofs.YtfofaiommeckbaaGreat
namespace Go.Proofs.YtfofaiommeckbaaGreat
open Go.RowKit WalkM WireM ShaM
theorem Vt {t:List NodeD}(c:Bi t=true) {x:Nat}(hx:x<t.length):∀u∈(nd t x).par.late,∃m:Nat,u=(m:Int)∧2*m<t.length:=by
 rw[Bi,cJ,cJ,cJ]at c;obtain⟨h1,h,_,g⟩:=c;obtain⟨d,i,e,a⟩:=Dc (of_decide_eq_true h1);intro u b;obtain⟨h2,m,rfl,j⟩:=Hs h hx b;have f:=Iw (Iy g x hx) _ b;refine⟨m,rfl,?_⟩;have:=f.1;rw[e]at this;omega
theorem Zlx {t:List NodeD}(c:Bc t=true)(a:TreeOk t)(g:Bi t=true):Mk (Ec t):=by
 have e:=Bg c;intro p d;unfold Ec at d;obtain⟨i,b,rfl⟩:=List.mem_map.1 d;have b:=List.mem_range.1 b;refine⟨(a.nd i).kind,?_,fun u f=> ?_⟩
 ·have:=Cq c i;unfold Cd at this;have:=of_decide_eq_true this;show(nd t i).par.late.length≤1000;omega
 ·obtain⟨m,rfl,h1⟩:=Vt g b u f;omega
theorem Mb {w:World} {v:Value} {d:List Nat}(h:Rd w v (ivs .i64 (d.map fun m:Nat=>(m:Int)))):∃a c,v=.slice a d.length c∧∀r,r<d.length→∃b o,a=some ⟨b,o,rF⟩∧b<w.heap.size∧w.cell? ⟨b,o+r,rF⟩=some (rA rC ((d.getD r 0:Nat):Int)):=by
 obtain⟨a,n,c,rfl⟩:∃a n c,v=.slice a n c:=(by obtain⟨a,c,e,-⟩:=h;exact⟨_,_,_,e⟩);obtain rfl:n=d.length:=by
  obtain⟨g,i,e,-⟩:=h;cases e;simp[ivs]
 refine⟨a,c,rfl,fun r f=>h.at3 ?_⟩;rw[Cp (by simpa using f)]
 congr 3
 simp[aH,f]
theorem Zfq {w W:World} {B N:Nat} {V:Value} {t:List NodeD} {a:List Nat} {C:Nat→Array Value} (g:∀m,m<N→NodeC w (nd t m) (C m)) (j:Below w.heap.size w W) (d:∀k,k<a.length→a.getD k 0<N)
  (h:OwnK W B 87 11 V a.length ((aF a.length).flatMap fun k=> rA rC ((a.getD k 0:Nat):Int)::(C (a.getD k 0)).toList)):SpotsR W V (a.map fun m:Nat=>((m:Int),nd t m)):=by
 have f:(a.map fun m:Nat=>((m:Int),nd t m)).length=a.length:=(by simp);have c:∀i,i<a.length→spt (a.map fun m:Nat=>((m:Int),nd t m)) i=(((a.getD i 0:Nat):Int),nd t (a.getD i 0)):=fun i b=>(by simp[spt,aH,b]);refine Sy (B:=B) (C:=fun i=>if i<a.length then C (a.getD i 0)else#[rA .u8 0,q9 rF 0 0,q9 rF 0 0,q9 rF 0 0,rA .u8 0,q9 rF 0 0,q9 rF 0 0,q9 rF 0 0,q9 rF 0 0,q9 rF 0 0]) (fun i=> ?_) (fun i b=> ?_) ?_
 ·split
  ·rename_i b;exact(g _ (d i b)).size
  ·rfl
 ·rw[f]at b;rw[c i b,if_pos b];exact(g _ (d i b)).below j lR
 ·rw[f];have e:(aF a.length).flatMap (Dl (a.map fun m:Nat=>((m:Int),nd t m)) fun i=>if i<a.length then C (a.getD i 0)else#[rA .u8 0,q9 rF 0 0,q9 rF 0 0,q9 rF 0 0,rA .u8 0,q9 rF 0 0,q9 rF 0 0,q9 rF 0 0,q9 rF 0 0,q9 rF 0 0])=(aF a.length).flatMap fun k=> rA rC ((a.getD k 0:Nat):Int)::(C (a.getD k 0)).toList:=by
   rw[gJ,gJ]
   congr 1
   refine gK fun i b=> ?_;have b:=List.mem_range.1 b;rw[Dl,c i b,if_pos b]
  rw[e];exact h
theorem Zfr {W:World} {B:Nat} {V:Value} {t:List NodeD} {a:List Nat} {U:Nat→Value} (g:∀j,j<a.length→Own W B 5 (U j) (bvs (Cx (nd t) (a.getD j 0))))
  (f:OwnK W B 89 2 V a.length ((aF a.length).flatMap fun j=>[rA rC ((a.getD j 0:Nat):Int),U j])):StubsR W V (a.map fun m:Nat=>((m:Int),Cx (nd t) m)):=by
 have d:(a.map fun m:Nat=>((m:Int),Cx (nd t) m)).length=a.length:=(by simp);have c:∀i,i<a.length→stb (a.map fun m:Nat=>((m:Int),Cx (nd t) m)) i=(((a.getD i 0:Nat):Int),Cx (nd t) (a.getD i 0)):=fun i b=>(by simp[stb,aH,b]);refine Zaa (B:=B) (U:=U) (fun i b=> ?_) ?_
 ·rw[d]at b;rw[c i b];exact(g i b).rd
 ·rw[d];have e:(aF a.length).flatMap (Gz (a.map fun m:Nat=>((m:Int),Cx (nd t) m)) U)=(aF a.length).flatMap fun j=>[rA rC ((a.getD j 0:Nat):Int),U j]:=by
   rw[gJ,gJ]
   congr 1
   refine gK fun i b=> ?_;have b:=List.mem_range.1 b;rw[Gz,c i b]
  rw[e];exact f
def Ed (t:List NodeD)(M i:Nat)(OL SL:List Nat):SparseD:=⟨(M:Int),(i:Int),OL.map fun m:Nat=>((m:Int),nd t m),SL.map fun m:Nat=>((m:Int),Cx (nd t) m)⟩
theorem Zi7 (t:List NodeD) (F:Bc t=true) (bD:TreeOk t) (hr:Bi t=true) (d i:Nat) (only:Bool) (T SL:List Nat) (hd:d≤16) (aY:t.length+1=2*2^d) (hi:2*i+1<2^(d+1))
  (eO:Fd (Ac (Ag (Ec t)) d i only d)=T.map fun m:Nat=>(m:Int)) (eS:Fd (Dq (Ac (Ag (Ec t)) d i only d))=SL.map fun m:Nat=>(m:Int))
  (hO:∀m∈T,m<t.length) (hS:∀m∈SL,m<t.length) (c9:T.length≤100000) (c6:SL.length≤100000) (v:Value) (w:World) (h:TreeR w v t):
  Calls prog 35 #[v,rA rC (i:Nat),.bool only] w fun e w'=>∃v',e=.returned v'∧SparseR w' v' (Ed t (2^d) i T SL)∧Below w.heap.size w w':=by
 have dG:=Bg F;have HK:=Zlx F bD hr;have hp:=Nat.two_pow_pos d;obtain⟨a,cp,rfl,hc,G⟩:=h.sl;obtain⟨b,S,-,rfl,cP,-,-⟩:=h.node (i:=0) (by omega);obtain⟨C,hC⟩:=Fi (n:=t.length) (P:=fun i c=>NodeC w (nd t i) c∧w.rangeAt b (S+i*10) c.toList) fun i hi=>by
  obtain⟨b',off',c,h1,h2,h3,h4⟩:=h.node hi;cases h1;exact⟨c,h3,h4⟩
 have cO:=Hd fun(W:World) (hw:Below w.heap.size w W)=>Xr _ t W (h.below hw lR) (by omega);have aV:=Hd fun(W:World) (vs:Value) (F:SpotsR W vs (Ec t))=>Xm (Ec t) d i only vs W hd hi F HK;have a5:=Hd fun(W:World) (hw:Below w.heap.size w W) (x:Nat) (hx:x<t.length)=>Ra t F bD hr x hx _ (q9 rF 0 0) [] W (h.below hw lR) (Rt W);rw[Zlw]at a5;rw[eO,eS]at aV;obtain⟨OK,b6⟩:=eX (Cg (Ag (Ec t)) d i only d);rw[←b6]at aV;have dP:i<41:=by
  have:2^(d+1)=2*2^d:=(by rw[aN];omega);omega
 obtain⟨M,hM⟩:=eX (2^d);rw[←hM]at aV aY⊢;obtain⟨N,hN⟩:=eX t.length;rw[←hN]at dG hO hS aY hC a5 cO h hc⊢;have dO:Int.tdiv ((N:Int)+1) 2=(M:Int):=(by rw[Int.tdiv_eq_ediv_of_nonneg (by omega)];omega);have dS:IntKind.i64.wrap (M:Int)=(M:Int):=(by rw[IntKind.wrap_i64]<;>omega);have dR:IntKind.i64.wrap ((N:Int)+1)=(N:Int)+1:=(by rw[IntKind.wrap_i64]<;>omega);have HC:=Hd hC;have HO:=Hd hO;have HS:=Hd hS;clear hC hO hS HK eO eS b6 hN hM bD hr F h hi;go_enter func35,ntmps35;go_wp2_with fail;refine(cO.out _ ((Below.refl w.heap.size w).alloc lR _)).mono ?_;rintro e w1 ⟨v1,rfl,cC,bO⟩;have bG:=(Below.refl w.heap.size w).alloc lR (.cells #[rA rC 0,rA rC 0,q9 rF 0 0,q9 rF 0 0] 25);have bL:=Blk.new w 25 #[rA rC 0,rA rC 0,q9 rF 0 0,q9 rF 0 0];have cF:=bL.below bO bL.lt;have cT:=Hd (bG.trans (bO.mono bG.size));have aE:=Hd cF;clear bO bG bL cF;go_wp2_with fail;refine(aV.out _ _ cC).mono ?_;rintro e w3 ⟨VO,VS,rfl,b9,cH,bJ⟩;have b7:=Hd (aE.out.below bJ aE.out.lt);have aC:=Hd (cT.out.trans (bJ.mono cT.out.size));clear bJ cC aE;obtain⟨a1,c1,rfl,bQ⟩:=Mb b9.rd;obtain⟨a2,c2,rfl,bI⟩:=Mb cH.rd;obtain⟨fc,Z⟩:∃fc:Nat→List Value,fc=fun k=> rA rC ((T.getD k 0:Nat):Int)::(C (T.getD k 0)).toList:=⟨_,rfl⟩;have HF:=Hd (show∀k,fc k=rA rC ((T.getD k 0:Nat):Int)::(C (T.getD k 0)).toList from fun k=>by rw[Z]);have bE:=Hd (show∀k,k<T.length→T.getD k 0<N from fun k hk=>HO.out _ (by rw[aH,aI hk];exact aJ hk));have cN:=Hd (show∀k,k<SL.length→SL.getD k 0<N from fun k hk=>HS.out _ (by rw[aH,aI hk];exact aJ hk));obtain⟨O,bS⟩:=eX T.length;obtain⟨ns,bB⟩:=eX SL.length;rw[←bS]at bQ bE c9⊢;rw[←bB]at bI cN c6⊢;have cU:=Hd bS;have b3:=Hd bB;have dF:=Hd bQ;have dK:=Hd bI;clear b9 cH bQ bI bS bB Z HO HS;go_wp2_with fail;obtain⟨q,hq⟩:=eX w3.heap.size;have aM:=Hd (show Blk (w3.alloc (.cells #[rA rC (M:Nat),rA rC (i:Nat),q9 rF 0 0,q9 rF 0 0] 25)) q 25 #[rA rC (M:Nat),rA rC (i:Nat),q9 rF 0 0,q9 rF 0 0]from hq▸Blk.new _ _ _);have a3:=Hd (show Below q w3 (w3.alloc (.cells #[rA rC (M:Nat),rA rC (i:Nat),q9 rF 0 0,q9 rF 0 0] 25))from hq▸bR.alloc lR _);rw[←hq];have HQ:=Hd hq;clear hq;obtain⟨w4,cK⟩:=eX (w3.alloc (.cells #[rA rC (M:Nat),rA rC (i:Nat),q9 rF 0 0,q9 rF 0 0] 25));rw[←cK]at aM a3⊢;clear cK
 go_loopg [12] O (fun gk iv wr=>∃(r:Nat) (V:Value),r+gk=O∧iv=rA rC (r:Nat)∧Blk wr q 25 #[rA rC (M:Nat),rA rC (i:Nat),V,q9 rF 0 0]∧OwnK wr (q+1) 87 11 V r ((aF r).flatMap fc)∧Below q w3 wr)
 case atStart=>exact⟨0,_,by omega,rfl,aM.out,OwnK.nil _ _ _ _,a3.out⟩
 case round=>
  obtain⟨r,V,hr,rfl,l,J,hb⟩:=hrel;have HR:=Hd hr;have A:=Hd l;have E:=Hd J;have HB:=Hd hb;clear hr l J hb
  by_cases hlt:r<O
  ·have bV:decide (r<O)=true:=decide_eq_true hlt;have bW:(r:Int)<(O:Int):=(by omega);obtain⟨b1,D,rfl,aL,aK⟩:=dF.out r hlt;have cx:=(HB.out.cell (p:=⟨b1,D+r,rF⟩) (by rw[HQ.out];exact aL)).trans aK;have a0:=Hd (show b1<q from by rw[HQ.out];exact aL);have hm:=bE.out r hlt;have bK:=Hd (HF.out r);obtain⟨m,aA⟩:=eX (T.getD r 0);rw[←aA]at cx hm bK;obtain⟨bH,b5⟩:=HC.out m hm;have cM:=Hd (show b<q from by rw[HQ.out];exact Nat.lt_of_lt_of_le cP aC.out.size);have cD:=Hd (Ao (Ao b5 aC.out cP) HB.out cM.out);have aZ:=Hd bH.oneL;obtain⟨x0,x1,x2,x3,x4,x5,x6,x7,x8,x9,bX⟩:=bH.ten;rw[bX]at cD aZ bK;have R:=Hd (show∀g,V.ownBlock=some g→g<wr.heap.size from fun g hg=>(E.out.lt hg).1);have a9:=Hd (show r≤100000 from by omega);have dQ:(m:Int)<(N:Int):=(by omega);clear aK bH b5 bX aA aL;go_wp2_with fail;refine Au [eF (rB (some ⟨q,2,rF⟩)),eF V,eF (q9 (some ⟨b1,D,rF⟩) O c1),eF (rA rC (r:Nat)),eF (rB (some ⟨b1,D+r,rF⟩)),eF (rA rC (m:Nat)),eF (q9 (some ⟨b,S,rF⟩) N cp),eF (q9 (some ⟨b1,D,rF⟩) O c1),eF (rA rC (r:Nat)),eF (rB (some ⟨b1,D+r,rF⟩)),eF (rA rC (m:Nat)),eF (rB (some ⟨b,S+m*10,rF⟩)),eF (.agg #[x0,x1,x2,x3,x4,x5,x6,x7,x8,x9]),eF (.agg #[rA rC (m:Nat),x0,x1,x2,x3,x4,x5,x6,x7,x8,x9]),fun v w'=>∃g,v=q9 (some ⟨g,0,rF⟩) 1 1∧wr.heap.size≤g∧Blk w' g 87 #[rA rC (m:Nat),x0,x1,x2,x3,x4,x5,x6,x7,x8,x9],fun v w'=>OwnK w' (q+1) 87 11 v (r+1) ((aF (r+1)).flatMap fc),eF (rB (some ⟨q,2,rF⟩)),fun v w'=>∃V2,Blk w' q 25 #[rA rC (M:Nat),rA rC (i:Nat),V2,q9 rF 0 0]∧OwnK w' (q+1) 87 11 V2 (r+1) ((aF (r+1)).flatMap fc)∧CutS wr V q w']
    ((cI 18 false).set 17 true) (fun X=>ButO wr V (q+1) X) (fun X Y=>StepO V (q+1) X Y) (some 15) 17 (by kernel_rfl) ?_ (ButO.start wr V (q+1)) (fun X Y hx h=>StepO.of h (bM (hQ A.out.lt) hx.low.size)) (fun X Y hx F=>hx.step F) (by kernel_rfl) (by kernel_rfl) (by kernel_rfl) ?_ ?_
   ·exact kE (kE (kE (kE (kE (kE (kE (kE (kE (kE (kE (kE (kE (kE (Cm (fun v x y h hi F=>let⟨g,e,hg,k⟩:=h;⟨g,e,hg,(F.2 g k.lt (fun ee=>absurd (R.out g ee) (by omega))).trans k⟩) (Cl (fun v x y h hi F=>OwnK.below h F lR) (kE (Ai (fun _ _ _ _ _ _=>trivial) (Ah))))))))))))))))))
   ·refine gP8 ?_ rfl (Na (by kernel_rfl) ?_ rfl (gP8 ?_ rfl (gP8 ?_ rfl (gP8 ?_ rfl (gO8 ?_ (gP8 ?_ rfl (gP8 ?_ rfl (gP8 ?_ rfl (gP8 ?_ rfl (gO8 ?_ (gP8 ?_ rfl (gO8 ?_ (gP8 ?_ rfl (Md (by kernel_rfl) ?_ (Md (by kernel_rfl) ?_ (gP8 ?_ rfl (gO8 ?_ .nil)))))))))))))))));all_goals
     intro a H o a6 ho Z;have o:ButO wr V (q+1) H:=o;refine⟨rfl,?_⟩;intro K Q;try have cV:a.tmps[0]?.getD undef=q9 (some ⟨b,S,rF⟩) N cp:=ho 0 (by kernel_rfl)
     try have dT:a.tmps[8]?.getD undef=q9 (some ⟨b1,D,rF⟩) O c1:=ho 8 (by kernel_rfl)
     try have b4:a.tmps[11]?.getD undef=rB (some ⟨q,0,rF⟩):=ho 11 (by kernel_rfl)
     try have dN:a.tmps[12]?.getD undef=rA rC (r:Nat):=ho 12 (by kernel_rfl)
     try have aT:=eqn Z.1
     try have dL:=eqn Z.2.1
     try(have bT:=(o.low.cell (p:=⟨q,2,rF⟩) (dE q)).trans (A.out.cell 2);simp only[bZ,cA,cB]at bT)
     try(refine Hd ?_;go_simp;exact Q _ rfl)
    ·have d1:=(o.low.cell (p:=⟨b1,D+r,rF⟩) (iC a0.out)).trans cx;go_simp;exact Q _ _ rfl (fun _=>Af rfl bR)
    ·have d1:=(o.low.cell (p:=⟨b1,D+r,rF⟩) (iC a0.out)).trans cx;go_simp;exact Q _ _ rfl (fun _=>Af rfl bR)
    ·exact wp_load_mid 52 (.tmp 48) rfl b (S+m*10) (evs aT) _ _ (Ao cD.out o.low (by have:=cM.out;omega)) underlying52 rfl (Ak) (Q _ _ rfl (fun _=>Af rfl bR))
    ·go_simp;exact Q _ _ ⟨_,rfl,o.low.size,Blk.new _ _ _⟩ (fun _=>Af rfl (bR.alloc lR _))
    ·have D:∃g,(a.tmps[51]?.getD undef)=q9 (some ⟨g,0,rF⟩) 1 1∧wr.heap.size≤g∧Blk H g 87 #[rA rC (m:Nat),x0,x1,x2,x3,x4,x5,x6,x7,x8,x9]:=Z.2.1;obtain⟨v1,s⟩:=eX (a.tmps[51]?.getD undef);rw[←s]at D;have e1:=s.symm;clear s;obtain⟨g,hv,hg,l⟩:=D;have aO:=E.out.below a6 lR;refine Kz (.tmp 38) (.tmp 51) 22 rfl (q+1) 87 _ 11 216 Ze9 V r _ (evs aT) aO g [rA rC (m:Nat),x0,x1,x2,x3,x4,x5,x6,x7,x8,x9] (evs (e1.trans hv)) rfl (fun j u hu=>by have:=l.range 0 j u hu;simpa using this) (by rw[List.all_eq_true.symm];exact aZ.out) (by have:=a9.out;omega) (by have:=o.low.size;have:=A.out.lt;omega) ?_;intro v' w' h2 h3;refine Q _ _ ?_ (fun _=>Bv rfl h3);rw[Ik,bK.out];exact h2
    ·have D:OwnK H (q+1) 87 11 (a.tmps[52]?.getD undef) (r+1) ((aF (r+1)).flatMap fc):=Z.2.1;obtain⟨v1,s⟩:=eX (a.tmps[52]?.getD undef);rw[←s]at D;have e1:=s.symm;clear s;have l:=A.out.below o.low (dE q);have d1:H.cell? ⟨q,2,rF⟩=some V:=l.cell 2;have d2:=l.frozen 2;obtain⟨ga,gc,rfl⟩:=OwnK.sl D;have bF:q≤H.heap.size:=dW l.lt;have a4:=l.set 2 (q9 ga (r+1) gc);have I:=OwnK.onlyQ D (Only.set (a:=H) (B:=q) 2 (q9 ga (r+1) gc)) (dE q);have G:=o.put bF 2 (q9 ga (r+1) gc);go_simp;exact Q undef _ ⟨_,a4,I,G⟩ (fun h=>absurd rfl h)
   ·rintro f w9 L;have c4:∃V2,Blk w9 q 25 #[rA rC (M:Nat),rA rC (i:Nat),V2,q9 rF 0 0]∧OwnK w9 (q+1) 87 11 V2 (r+1) ((aF (r+1)).flatMap fc)∧CutS wr V q w9:=L.2.2.2.2.2.2.2.2.2.2.2.2.2.2.2.2.2.1;clear L;simp only[Am,Az,Ex,cX,cY,cZ,dA,Nat.reduceBEq,Nat.reduceAdd,dB,dC,cond_true,cond_false];obtain⟨V2,aQ,I,G⟩:=c4;have aD:=Hd aQ;have aP:=Hd I;have c3:=Hd (HB.out.trans G.low);clear aQ I G;go_wp2_with fail;go_roundg (gk-1);case measure=>have:=HR.out;omega
    case rel=>exact⟨r+1,_,by have:=HR.out;omega,by go_num,aD.out,aP.out,c3.out⟩
  ·obtain rfl:O=r:=(by have:=HR.out;omega);have bV:decide (O<O)=false:=decide_eq_false hlt;clear hlt;obtain⟨w5,cR⟩:=eX wr;rw[←cR]at A E HB⊢;clear cR;go_wp2_with fail
   go_loopg [13] ns (fun gk iv wr=>∃(r:Nat) (SV:Value) (U:Nat→Value),r+gk=ns∧iv=rA rC (r:Nat)∧Blk wr q 25 #[rA rC (M:Nat),rA rC (i:Nat),V,SV]∧OwnK wr (q+1) 89 2 SV r ((aF r).flatMap fun j=>[rA rC ((SL.getD j 0:Nat):Int),U j])∧(∀j,j<r→Own wr (q+1) 5 (U j) (bvs (Cx (nd t) (SL.getD j 0))))∧OwnK wr (q+1) 87 11 V O ((aF O).flatMap fc)∧Below q w3 wr)
   case atStart=>exact⟨0,_,fun _=> q9 rF 0 0,by omega,rfl,A.out,OwnK.nil _ _ _ _,fun j hj=>absurd hj (Nat.not_lt_zero j),E.out,HB.out⟩
   case round=>
    obtain⟨r,SV,U,hk,rfl,l,J,hu,cJ,hb⟩:=hrel;clear A E HB HR aM a3;have HR:=Hd hk;have A:=Hd l;have E:=Hd J;have HU:=Hd hu;have aS:=Hd cJ;have HB:=Hd hb;clear hk l J hu cJ hb
    by_cases hlt:r<ns
    ·have cL:decide (r<ns)=true:=decide_eq_true hlt;have bW:(r:Int)<(ns:Int):=(by omega);obtain⟨b2,o2,rfl,aG,aK⟩:=dK.out r hlt;have cx:=(HB.out.cell (p:=⟨b2,o2+r,rF⟩) (by rw[HQ.out];exact aG)).trans aK;have aX:=Hd (show b2<q from by rw[HQ.out];exact aG);have hm:=cN.out r hlt;obtain⟨m,aA⟩:=eX (SL.getD r 0);rw[←aA]at cx hm;have b0:=Hd aA;have dD:=Hd (show w.heap.size≤q+1 from by rw[HQ.out];exact Nat.le_succ_of_le aC.out.size);have dJ:=Hd (aC.out.trans (HB.out.mono (by rw[HQ.out];exact aC.out.size)));have cE:=Hd fun(W:World) (hw:Below w.heap.size w W)=>a5.out W hw m hm;obtain⟨HX,a8⟩:=eX (Cx (nd t) m);rw[←a8]at cE;have dI:=Hd a8;obtain⟨XS,bC⟩:=eX ((aF r).flatMap fun j=>[rA rC ((SL.getD j 0:Nat):Int),U j]);rw[←bC]at E;have dH:=Hd bC;have R:=Hd (show∀g,SV.ownBlock=some g→g<wr.heap.size from fun g hg=>(E.out.lt hg).1);have a9:=Hd (show r≤100000 from by omega);clear aK aA aG bC a8 hm;go_wp2_with fail;refine Au [eF (rB (some ⟨q,3,rF⟩)),eF SV,eF (q9 (some ⟨b2,o2,rF⟩) ns c2),eF (rA rC (r:Nat)),eF (rB (some ⟨b2,o2+r,rF⟩)),eF (rA rC (m:Nat)),eF (q9 (some ⟨b,S,rF⟩) N cp),eF (q9 (some ⟨b2,o2,rF⟩) ns c2),eF (rA rC (r:Nat)),eF (rB (some ⟨b2,o2+r,rF⟩)),eF (rA rC (m:Nat)),fun v w'=>Own w' wr.heap.size 5 v (bvs HX),fun v w'=>∃u,v=.agg #[rA rC (m:Nat),u]∧Own w' wr.heap.size 5 u (bvs HX),fun v w'=>∃g u,v=q9 (some ⟨g,0,rF⟩) 1 1∧wr.heap.size≤g∧Blk w' g 89 #[rA rC (m:Nat),u]∧Own w' wr.heap.size 5 u (bvs HX),fun v w'=>∃u,OwnK w' (q+1) 89 2 v (r+1) (XS++[rA rC (m:Nat),u])∧Own w' (q+1) 5 u (bvs HX),eF (rB (some ⟨q,3,rF⟩)),fun v w'=>∃V2 u,Blk w' q 25 #[rA rC (M:Nat),rA rC (i:Nat),V,V2]∧OwnK w' (q+1) 89 2 V2 (r+1) (XS++[rA rC (m:Nat),u])∧Own w' (q+1) 5 u (bvs HX)∧CutS wr SV q w']
      ((cI 17 false).set 16 true) (fun X=>ButO wr SV (q+1) X) (fun X Y=>StepO SV (q+1) X Y) (some 14) 16 (by kernel_rfl) ?_ (ButO.start wr SV (q+1)) (fun X Y hx h=>StepO.of h (bM (hQ A.out.lt) hx.low.size)) (fun X Y hx F=>hx.step F) (by kernel_rfl) (by kernel_rfl) (by kernel_rfl) ?_ ?_
     ·exact kE (kE (kE (kE (kE (kE (kE (kE (kE (kE (kE (Cm (fun v x y h hi F=>StepO.own F h R.out) (Cm (fun v x y h hi F=>let⟨u,e,k⟩:=h;⟨u,e,StepO.own F k R.out⟩) (Cm (fun v x y h hi F=>let⟨g,u,e,hg,k,k2⟩:=h;⟨g,u,e,hg,(F.2 g k.lt (fun ee=>absurd (R.out g ee) (by omega))).trans k,StepO.own F k2 R.out⟩) (Cl (fun v x y h hi F=>let⟨u,k,k2⟩:=h;⟨u,OwnK.below k F lR,Own.below k2 F lR⟩) (kE (Ai (fun _ _ _ _ _ _=>trivial) (Ah)))))))))))))))))
     ·refine gP8 ?_ rfl (Na (by kernel_rfl) ?_ rfl (gP8 ?_ rfl (gP8 ?_ rfl (gP8 ?_ rfl (gO8 ?_ (gP8 ?_ rfl (gP8 ?_ rfl (gP8 ?_ rfl (gP8 ?_ rfl (gO8 ?_ (Md (by kernel_rfl) ?_ (gO8 ?_ (Md (by kernel_rfl) ?_ (Md (by kernel_rfl) ?_ (gP8 ?_ rfl (gO8 ?_ .nil))))))))))))))));all_goals
       intro a H o a6 ho Z;have o:ButO wr SV (q+1) H:=o;refine⟨rfl,?_⟩;intro K Q;try have cV:a.tmps[0]?.getD undef=q9 (some ⟨b,S,rF⟩) N cp:=ho 0 (by kernel_rfl)
       try have dU:a.tmps[9]?.getD undef=q9 (some ⟨b2,o2,rF⟩) ns c2:=ho 9 (by kernel_rfl)
       try have b4:a.tmps[11]?.getD undef=rB (some ⟨q,0,rF⟩):=ho 11 (by kernel_rfl)
       try have dM:a.tmps[13]?.getD undef=rA rC (r:Nat):=ho 13 (by kernel_rfl)
       try have aT:=eqn Z.1
       try have dL:=eqn Z.2.1
       try(have bT:=(o.low.cell (p:=⟨q,3,rF⟩) (dE q)).trans (A.out.cell 3);simp only[bZ,cA,cB]at bT)
       try(refine Hd ?_;go_simp;exact Q _ rfl)
      ·have d1:=(o.low.cell (p:=⟨b2,o2+r,rF⟩) (iC aX.out)).trans cx;go_simp;exact Q _ _ rfl (fun _=>Af rfl bR)
      ·have d1:=(o.low.cell (p:=⟨b2,o2+r,rF⟩) (iC aX.out)).trans cx;go_simp;exact Q _ _ rfl (fun _=>Af rfl bR)
      ·go_simp;refine(cE.out H (dJ.out.trans (o.low.mono dD.out))).mono ?_;rintro e w2 ⟨v9,rfl,aR,cW⟩;exact Q _ _ (aR.mono (bM lR o.low.size)) (fun _=>Af rfl cW)
      ·have D:Own H wr.heap.size 5 (a.tmps[71]?.getD undef) (bvs HX):=Z.2.1;obtain⟨v1,s⟩:=eX (a.tmps[71]?.getD undef);rw[←s]at D;have e1:=s.symm;clear s;obtain⟨ua,un,uc,rfl⟩:∃a n c,v1=.slice a n c:=(by obtain⟨a,c,e,-⟩:=D.rd;exact⟨_,_,_,e⟩);go_simp;exact Q _ _ ⟨_,rfl,D⟩ (fun _=>Af rfl bR)
      ·have o0:∃u,(a.tmps[72]?.getD undef)=.agg #[rA rC (m:Nat),u]∧Own H wr.heap.size 5 u (bvs HX):=Z.1;obtain⟨v0,bA⟩:=eX (a.tmps[72]?.getD undef);rw[←bA]at o0;have e0:=bA.symm;clear bA;obtain⟨u,rfl,hu⟩:=o0;go_simp;exact Q _ _ ⟨_,u,rfl,o.low.size,Blk.new _ _ _,hu.alloc _⟩ (fun _=>Af rfl (bR.alloc lR _))
      ·have D:∃g u,(a.tmps[73]?.getD undef)=q9 (some ⟨g,0,rF⟩) 1 1∧wr.heap.size≤g∧Blk H g 89 #[rA rC (m:Nat),u]∧Own H wr.heap.size 5 u (bvs HX):=Z.2.1;obtain⟨v1,s⟩:=eX (a.tmps[73]?.getD undef);rw[←s]at D;have e1:=s.symm;clear s;obtain⟨g,u,hv,hg,l,hu⟩:=D;have aO:=E.out.below a6 lR;refine Kz (.tmp 61) (.tmp 73) 23 rfl (q+1) 89 _ 2 32 Zke SV r XS (evs aT) aO g [rA rC (m:Nat),u] (evs (e1.trans hv)) rfl (fun j u2 aB=>by have:=l.range 0 j u2 aB;simpa using this) (fun z hz=>by
        simp only[List.mem_cons,List.not_mem_nil,or_false]at hz;rcases hz with rfl|rfl
        ·rfl
        ·exact hu.oneCell) (by have:=a9.out;omega) (by have:=o.low.size;have:=A.out.lt;omega) ?_
       intro v' w' h2 h3;exact Q _ _ ⟨u,h2,(h3.own hu R.out).mono (hQ A.out.lt)⟩ (fun _=>Bv rfl h3)
      ·have D:∃u,OwnK H (q+1) 89 2 (a.tmps[74]?.getD undef) (r+1) (XS++[rA rC (m:Nat),u])∧Own H (q+1) 5 u (bvs HX):=Z.2.1;obtain⟨v1,s⟩:=eX (a.tmps[74]?.getD undef);rw[←s]at D;have e1:=s.symm;clear s;obtain⟨u,D,hu⟩:=D;have l:=A.out.below o.low (dE q);have d1:H.cell? ⟨q,3,rF⟩=some SV:=l.cell 3;have d2:=l.frozen 3;obtain⟨ga,gc,rfl⟩:=OwnK.sl D;have bF:q≤H.heap.size:=dW l.lt;have a4:=l.set 3 (q9 ga (r+1) gc);have I:=OwnK.onlyQ D (Only.set (a:=H) (B:=q) 3 (q9 ga (r+1) gc)) (dE q);have aB:=OwnK.onlyQ (show OwnK H (q+1) 5 1 u (bvs HX).length (bvs HX)from hu) (Only.set (a:=H) (B:=q) 3 (q9 ga (r+1) gc)) (dE q);have G:=o.put bF 3 (q9 ga (r+1) gc);go_simp;exact Q undef _ ⟨_,u,a4,I,aB,G⟩ (fun h=>absurd rfl h)
     ·rintro f w9 L;have c8:∃V2 u,Blk w9 q 25 #[rA rC (M:Nat),rA rC (i:Nat),V,V2]∧OwnK w9 (q+1) 89 2 V2 (r+1) (XS++[rA rC (m:Nat),u])∧Own w9 (q+1) 5 u (bvs HX)∧CutS wr SV q w9:=L.2.2.2.2.2.2.2.2.2.2.2.2.2.2.2.2.1;clear L;simp only[Am,Az,Ex,cX,cY,cZ,dA,Nat.reduceBEq,Nat.reduceAdd,dB,dC,cond_true,cond_false];obtain⟨V2,u,aQ,I,aB,G⟩:=c8;have aD:=Hd aQ;have aP:=Hd I;have c0:=Hd aB;have bP:=Hd G;clear aQ I aB G;go_wp2_with fail;go_roundg (gk-1);case measure=>have:=HR.out;omega
      case rel=>
       refine⟨r+1,V2,fun j=>if j<r then U j else u,by have:=HR.out;omega,by go_num,aD.out,?_,fun j hj=> ?_,?_,HB.out.trans bP.out.low⟩
       ·rw[Zab (g:=fun j z=>[rA rC ((SL.getD j 0:Nat):Int),z]),←dH.out,←b0.out];exact aP.out
       ·by_cases hjr:j<r
        ·show Own w9 (q+1) 5 (if j<r then U j else u) _;rw[if_pos hjr];exact CutS.ownK (k:=1) bP.out (HU.out j hjr) (dE q) (OwnK.apartK (k:=1) (HU.out j hjr) E.out (by decide))
        ·obtain rfl:j=r:=(by omega);show Own w9 (q+1) 5 (if j<j then U j else u) _;rw[if_neg hjr,←b0.out,←dI.out];exact c0.out
       ·exact CutS.ownK bP.out aS.out (dE q) (OwnK.apartK aS.out E.out (by decide))
    ·obtain rfl:r=ns:=(by have:=HR.out;omega);have cL:decide (r<r)=false:=decide_eq_false hlt;clear hlt;obtain⟨va,vc,rfl⟩:=OwnK.sl aS.out;obtain⟨sa,sc,rfl⟩:=OwnK.sl E.out;have cQ:w.heap.size<q:=(by rw[HQ.out];exact b7.out.lt);have cG:=Hd (b7.out.below HB.out cQ);go_wp2_with (first|(refine wpList_load_row rfl 25 (.tmp 11) rfl q rfl 25 _ (0,0) _ A.out underlying25 rfl (by kernel_rfl) ?_)|(refine Aa rfl 25 (.tmp 6) (.tmp 76) rfl w.heap.size #[rA rC (M:Nat),rA rC (i:Nat),q9 va O vc,q9 sa r sc] rfl rfl 25 _ cG.out (by kernel_rfl) rfl rfl ?_));rintro w9 aW a7 cS c7;have aU:Only w.heap.size wr w9:=Only.storeQ a7 cS;have bN:Below w.heap.size w w9:=(aC.out.trans (HB.out.mono (dW cQ))).trans (a7 _ lR);have aR:=OwnK.onlyQ aS.out aU (by omega);have b8:=OwnK.onlyQ E.out aU (by omega);have bY:=Hd aW;have bU:=Hd (show SparseR w9 (.agg #[rA rC (M:Nat),rA rC (i:Nat),q9 va O vc,q9 sa r sc]) (Ed t M i T SL)from by
      refine⟨_,_,rfl,?_,?_⟩
      ·refine Zfq (B:=q+1) (N:=N) (C:=C) (fun m hm=>(HC.out m hm).1) bN (fun k hk=>bE.out k (by rw[cU.out];exact hk)) ?_;rw[←cU.out];have e:fc=fun k=> rA rC ((T.getD k 0:Nat):Int)::(C (T.getD k 0)).toList:=funext HF.out;rw[←e];exact aR
      ·refine Zfr (B:=q+1) (U:=U) (fun j hj=>OwnK.onlyQ (k:=1) (HU.out j (by rw[b3.out];exact hj)) aU (by omega)) ?_;rw[←b3.out];exact b8)
     have c5:=Hd bN;clear aW a7 cS c7 aU bN aR b8;go_wp2_with fail;exact bodyPost_ret (v:=.agg #[rA rC (M:Nat),rA rC (i:Nat),q9 va O vc,q9 sa r sc]) (Fz results35 _ _ w.heap.size _ _ _ rfl bY.out underlying25 rfl (by kernel_rfl)) rfl ⟨_,rfl,bU.out,c5.out⟩
end Go.Proofs.YtfofaiommeckbaaGreat
namespace Go.Proofs.YtfofaiommeckbaaGreat
open Go.RowKit WalkM WireM
theorem NodeO.keep2 {w w':World} {B:Nat} {d:NodeD} {c:Array Value}(h:NodeO w B d c)(hk:∀e v xs,e=5∨e=3→Own w B e v xs→Own w' B e v xs):NodeO w' B d c:=by
 obtain⟨x0,x1,x2,x3,x4,u0,u1,u2,rfl,h0,h1,h2,h3,f,b,a,g⟩:=h;exact⟨x0,x1,x2,x3,x4,u0,u1,u2,rfl,hk _ _ _ (.inl rfl) h0,hk _ _ _ (.inl rfl) h1,hk _ _ _ (.inl rfl) h2,hk _ _ _ (.inl rfl) h3,hk _ _ _ (.inl rfl) f,hk _ _ _ (.inl rfl) b,hk _ _ _ (.inl rfl) a,hk _ _ _ (.inr rfl) g⟩
theorem NodeO.stepQ {V:Value} {B B':Nat} {X Y:World} {d:NodeD} {c:Array Value}(hs:StepO V B X Y)(k:NodeO X B' d c)(hV:∀g,V.ownBlock=some g→g<B'):NodeO Y B' d c:=k.keep2 fun _ _ _ _ hu=>hs.own hu hV
theorem NodeO.onlyQ {w w':World} {B C:Nat} {d:NodeD} {c:Array Value}(k:NodeO w B d c)(hb:Only C w w')(hC:C<B):NodeO w' B d c:=k.keep2 fun e v xs _ hu=>OwnK.onlyQ (show OwnK w B e 1 v xs.length xs from hu) hb hC
theorem NodeO.cutQ {w X:World} {V:Value} {q B B' k n:Nat} {T:TypeId} {f:List Value} {d:NodeD} {c:Array Value}(h:CutS w V q X)(o:NodeO w B d c)(b:q<B)(i:OwnK w B' T k V n f)(h1:5≠T)(h2:3≠T):NodeO X B d c:=
 o.keep2 fun e v xs g a=>CutS.ownK (k:=1) h a b (OwnK.apartK (k:=1) a i (by rcases g with rfl|rfl<;>assumption))
theorem Ta {w:World} {a:Option Addr} {n c:Nat} {d:List Nat}(h:Rd w (q9 a n c) (ivs .i64 (d.map fun m:Nat=>(m:Int)))) {r:Nat}(e:r<d.length):∃b o,a=some ⟨b,o,rF⟩∧b<w.heap.size∧w.cell? ⟨b,o+r,rF⟩=some (rA rC ((d.getD r 0:Nat):Int)):=by
 refine h.at3 ?_;rw[Cp (by simpa using e)]
 congr 3
 simp[aH,e]
theorem Zb9 {W:World} {B:Nat} {V:Value} {D:Nat→NodeD} {a:List Nat} {CF:Nat→Array Value} (f:∀k,k<a.length→NodeC W (D (a.getD k 0)) (CF k))
  (g:OwnK W B 87 11 V a.length ((aF a.length).flatMap fun k=> rA rC ((a.getD k 0:Nat):Int)::(CF k).toList)):SpotsR W V (a.map fun m:Nat=>((m:Int),D m)):=by
 have d:(a.map fun m:Nat=>((m:Int),D m)).length=a.length:=(by simp);have c:∀i,i<a.length→spt (a.map fun m:Nat=>((m:Int),D m)) i=(((a.getD i 0:Nat):Int),D (a.getD i 0)):=fun i b=>(by simp[spt,aH,b]);refine Sy (B:=B) (C:=fun i=>if i<a.length then CF i else#[rA .u8 0,q9 rF 0 0,q9 rF 0 0,q9 rF 0 0,rA .u8 0,q9 rF 0 0,q9 rF 0 0,q9 rF 0 0,q9 rF 0 0,q9 rF 0 0]) (fun i=> ?_) (fun i b=> ?_) ?_
 ·split
  ·rename_i b;exact(f _ b).size
  ·rfl
 ·rw[d]at b;rw[c i b,if_pos b];exact f i b
 ·rw[d];have e:(aF a.length).flatMap (Dl (a.map fun m:Nat=>((m:Int),D m)) fun i=>if i<a.length then CF i else#[rA .u8 0,q9 rF 0 0,q9 rF 0 0,q9 rF 0 0,rA .u8 0,q9 rF 0 0,q9 rF 0 0,q9 rF 0 0,q9 rF 0 0,q9 rF 0 0])=(aF a.length).flatMap fun k=> rA rC ((a.getD k 0:Nat):Int)::(CF k).toList:=by
   rw[gJ,gJ]
   congr 1
   refine gK fun i b=> ?_;have b:=List.mem_range.1 b;rw[Dl,c i b,if_pos b]
  rw[e];exact g
theorem Zca {W:World} {B:Nat} {V:Value} {H:Nat→List Nat} {a:List Nat} {U:Nat→Value} (g:∀j,j<a.length→Own W B 5 (U j) (bvs (H (a.getD j 0))))
  (f:OwnK W B 89 2 V a.length ((aF a.length).flatMap fun j=>[rA rC ((a.getD j 0:Nat):Int),U j])):StubsR W V (a.map fun m:Nat=>((m:Int),H m)):=by
 have d:(a.map fun m:Nat=>((m:Int),H m)).length=a.length:=(by simp);have c:∀i,i<a.length→stb (a.map fun m:Nat=>((m:Int),H m)) i=(((a.getD i 0:Nat):Int),H (a.getD i 0)):=fun i b=>(by simp[stb,aH,b]);refine Zaa (B:=B) (U:=U) (fun i b=> ?_) ?_
 ·rw[d]at b;rw[c i b];exact(g i b).rd
 ·rw[d];have e:(aF a.length).flatMap (Gz (a.map fun m:Nat=>((m:Int),H m)) U)=(aF a.length).flatMap fun j=>[rA rC ((a.getD j 0:Nat):Int),U j]:=by
   rw[gJ,gJ]
   congr 1
   refine gK fun i b=> ?_;have b:=List.mem_range.1 b;rw[Gz,c i b]
  rw[e];exact f
open ShaM
end Go.Proofs.YtfofaiommeckbaaGreat
namespace Go.Proofs.YtfofaiommeckbaaGreat
open Go.RowKit ShaM WireM
open WalkM
end Go.Proofs.YtfofaiommeckbaaGreat
namespace Go.Proofs.YtfofaiommeckbaaGreat
open Go.RowKit WalkM WireM
theorem Xv (v:Value)(t:List NodeD)(i:Int)(w:World)(h:TreeR w v t)(d:Bc t=true)(b:TreeOk t)(f:Bi t=false):
  Calls prog 32 #[v,rA rC i] w fun e w'=>e=.returned (rA rC 12)∧Below w.heap.size w w':=by
 have R:=Oy v t w h d b;rw[f]at R;have j:=Hd R;obtain⟨a,c,rfl,-,-⟩:=h.sl;clear R h d b f;go_enter func32,ntmps32;go_wp2_with fail;refine j.out.mono ?_;rintro e k ⟨rfl,g⟩;go_wp2_with fail;go_ret;exact⟨rfl,g⟩
theorem Vu (v:Value)(t:List NodeD)(k:Nat)(i:Int)(w:World)(h:TreeR w v t)(m:Bc t=true)(g:TreeOk t)(o:Bi t=true)(f:t.length=2*k+1):
  Calls prog 32 #[v,rA rC i] w fun e w'=>e=.returned (rA rC (if i∈Dk t (k+1)then 0 else 7))∧Below w.heap.size w w':=by
 have R:=Oy v t w h m g;rw[o]at R;have p:=Hd R;have l:=Hd fun(W:World) (q:Below w.heap.size w W)=>Zkz v t k i W (h.below q lR) g f (by have:=Bg m;omega);obtain⟨a,c,rfl,-,-⟩:=h.sl;obtain⟨b,d⟩:=eX (decide (i∈Dk t (k+1)));rw[←d]at l;have n:=Hd (show(if i∈Dk t (k+1)then(0:Int)else 7)=if b=true then 0 else 7 by rw[d];simp);rw[n.out];clear R h m g o f d n;cases b with
 |true=>
  go_enter func32,ntmps32;go_wp2_with fail;refine p.out.mono ?_;rintro e r ⟨rfl,d⟩;go_wp2_with fail;refine(l.out _ d).mono ?_;rintro e s ⟨rfl,j⟩;go_wp2_with fail;go_ret;exact⟨rfl,d.trans (j.mono d.size)⟩
 |false=>
  go_enter func32,ntmps32;go_wp2_with fail;refine p.out.mono ?_;rintro e r ⟨rfl,d⟩;go_wp2_with fail;refine(l.out _ d).mono ?_;rintro e s ⟨rfl,j⟩;go_wp2_with fail;go_ret;exact⟨rfl,d.trans (j.mono d.size)⟩
end Go.Proofs.YtfofaiommeckbaaGreat
