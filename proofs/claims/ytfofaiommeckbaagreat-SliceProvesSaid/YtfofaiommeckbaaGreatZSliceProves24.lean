import Derived.Test.YtfofaiommeckbaaGreatZSliceProves19
import Derived.Test.YtfofaiommeckbaaGreatZSliceProves23
open Go.Value renaming slice → q9, int → rA, pointer → rB
open Go.IntKind renaming i64 → rC, u8 → rD
open Option renaming none → rF
open Go.Proofs.Tryz
open List renaming length_append → aG, length_cons → bY, length_nil → bT, length_filter_le → eT, getD_eq_getElem?_getD → aH, getElem?_eq_getElem → aI, filterMap_cons → cX, filterMap_nil → cY, contains_cons → cZ, contains_nil → dA
open Int renaming tdiv → eU, tdiv_eq_ediv_of_nonneg → eV
set_option linter.unusedVariables false
set_option maxRecDepth 100000
set_option maxHeartbeats 40000000
namespace Go.Proofs.YtfofaiommeckbaaGreat
open Go.RowKit WalkM ShaM WireM
mutual
def Lt (t:Nat→NodeD):Nat→Nat→List Nat
 |0,x=>([1]++beN 4 (x/2))++Bm (t x)
 |k+1,x=>([2]++Bm (t x))++(Bf (Fq t k (x-2^k))++Bf (Fq t k (x+2^k)))
def Fq (t:Nat→NodeD):Nat→Nat→List Nat
 |0,x=>shaF (([1]++beN 4 (x/2))++Bm (t x))
 |k+1,x=>shaF (([2]++Bm (t x))++(Bf (Fq t k (x-2^k))++Bf (Fq t k (x+2^k))))
end
theorem Ht (t:Nat→NodeD)(k x:Nat):Fq t k x=shaF (Lt t k x):=by cases k<;>simp only[Fq,Lt]
theorem Gw (t:Nat→NodeD)(x:Nat):Lt t 0 x=([1]++beN 4 (x/2))++Bm (t x):=by simp only[Lt]
theorem Gx (t:Nat→NodeD)(k x:Nat):Lt t (k+1) x=([2]++Bm (t x))++(Bf (Fq t k (x-2^k))++Bf (Fq t k (x+2^k))):=by simp only[Lt]
theorem Dy (t:Nat→NodeD)(k x:Nat):(Fq t k x).length=32:=by rw[Ht];exact Ja _
theorem Zd9 (b:List Nat):∀x∈shaF b,x<256:=by
 intro x hx;unfold shaF at hx;rw[List.mem_flatten]at hx;obtain⟨l,hl,hx⟩:=hx;obtain⟨y,_,rfl⟩:=List.mem_map.1 hl;exact beN_lt _ _ x hx
theorem Sg (t:Nat→NodeD)(k x:Nat):∀y∈Fq t k x,y<256:=by rw[Ht];exact Zd9 _
theorem Qf {L:List Nat}(h:L.length=32):(Bf L).length≤36:=by have:=Bk L (by omega);omega
theorem Oh {t:Nat→NodeD}(hs:∀x,Cd (t x)=true)(k x:Nat):(Lt t k x).length≤8000:=by
 have h:=Da (hs x);cases k with
 |zero=>
  rw[Gw];simp only[aG,bY,bT,beN_len];omega
 |succ k=>
  have h1:=Qf (Dy t k (x-2^k));have h2:=Qf (Dy t k (x+2^k));rw[Gx];simp only[aG,bY,bT];omega
def woD (t:List NodeD)(ps:List Int)(x:Nat):NodeD:=
 if x%2=0 then(if((x/2:Nat):Int)∈ps then Aq else nd t x)
 else⟨(nd t x).kind,(nd t x).leaf,⟨(nd t x).par.box,(nd t x).par.hash,(nd t x).par.late.filter fun u=>decide (u∉ps)⟩⟩
theorem Zea (t:List NodeD)(x:Nat):woD t [] x=nd t x:=by
 unfold woD
 split
 ·rw[if_neg (by simp)]
 ·have:((nd t x).par.late.filter fun u=>decide (u∉([]:List Int)))=(nd t x).par.late:=List.filter_eq_self.2 (by simp);rw[this]
theorem Zih {t:List NodeD} {ps:List Int} {x:Nat}(h:x%2=0):woD t ps x=if((x/2:Nat):Int)∈ps then Aq else nd t x:=by rw[woD,if_pos h]
theorem Xf {t:List NodeD} {ps:List Int} {x:Nat}(h:x%2=1):woD t ps x=⟨(nd t x).kind,(nd t x).leaf,⟨(nd t x).par.box,(nd t x).par.hash,(nd t x).par.late.filter fun u=>decide (u∉ps)⟩⟩:=by rw[woD,if_neg (by omega)]
theorem Oi {t:List NodeD}(h:Bc t=true)(b:List Int)(x:Nat):Cd (woD t b x)=true:=by
 have a:=Cq h x;unfold woD
 split
 ·split
  ·exact Ob
  ·exact a
 ·have h1:=of_decide_eq_true a;have h2:=eT (fun u=>decide (u∉b)) (nd t x).par.late;exact decide_eq_true ⟨h1.1,h1.2.1,h1.2.2.1,h1.2.2.2.1,h1.2.2.2.2.1,h1.2.2.2.2.2.1,h1.2.2.2.2.2.2.1,by have:=h1.2.2.2.2.2.2.2;simp only;omega⟩
theorem rdS {w:World} {v:Value} {xs:List Value}(h:Rd w v xs):∃a n c,v=.slice a n c:=by
 obtain⟨a,c,e,_⟩:=h;exact⟨_,_,_,e⟩
theorem Ei (x y:Value)(A B:List Nat)(w:World)(hx:Rd w x (bvs A))(i:Rd w y (bvs B))(q:A.length+B.length<1000000000):
  Calls prog 146 #[x,y] w fun e w'=>∃v',e=.returned v'∧Own w' w.heap.size 5 v' (bvs (A++B))∧Below w.heap.size w w':=by
 have m:=Hd hx;have l:=Hd i;clear hx i;go_enter func146,ntmps146;go_wp2_with (at_builtin;refine Aj rfl (.tmp 5) (.tmp 6) 28 rfl w.heap.size 5 _ 1 Bz _ [] rfl (Own.lit0 rfl lR) _ (bvs A) rfl (m.out.alloc _) (Bu _) ?c2 ?c3 ?_);case c2=>rw[bvs_len];simp;omega
 case c3=>simp
 rintro r o a-d;have b:=((Below.refl w.heap.size w).alloc lR (.cells #[] 5)).trans d;have k:=Hd a;have j:=Hd b;have h:=Hd (l.out.below b lR);clear a d b;go_wp2_with (at_builtin;refine Aj rfl (.tmp 7) (.tmp 8) 28 rfl w.heap.size 5 _ 1 Bz _ _ rfl k.out _ (bvs B) rfl h.out (Bu _) ?c4 ?c5 ?_);case c4=>simp only[bvs_len];omega
 case c5=>exact j.out.size
 rintro n p a-c;have f:=Hd a;have g:=Hd (j.out.trans c);clear a c;go_wp2_with fail;go_ret;refine⟨_,rfl,?_,g.out⟩;rw[Cf];exact f.out
theorem Us (v:Value)(L:List Int)(x:Int)(w:World)(h:Rd w v (ivs .i64 L)):
  Calls prog 145 #[v,rA rC x] w fun e w'=>e=.returned (.bool (decide (x∈L)))∧w'=w:=by
 have O:∃a c,v=.slice a L.length c∧c≤maxLen∧L.length≤c:=(by obtain⟨a,c,e,h1,h2,_⟩:=h;exact⟨a,c,by rw[e];simp[ivs],h2,by simpa [ivs]using h1⟩);obtain⟨a,c,rfl,l,B⟩:=O;have G:=fun(i:Nat) (f:i<L.length)=>h.at3 (u:=rA rC (L.getD i 0)) (r:=i) (by simp[ivs,aH,f]);have p:=fun(i:Nat) (f:i<L.length) (e:L.getD i 0=x)=>(show decide (x∈L)=true from decide_eq_true (by
  rw[aH,aI f]at e;have:L[i]=x:=e;rw[←this];exact List.getElem_mem f))
 have o:=fun(d:∀i,i<L.length→L.getD i 0≠x)=>(show decide (x∈L)=false from decide_eq_false (fun K=>by
  obtain⟨i,f,e⟩:=List.getElem_of_mem K;exact d i f (by rw[aH,aI f];exact e)))
 obtain⟨n,H⟩:=eX L.length;obtain⟨R,E⟩:=eX (decide (x∈L));rw[←H]at G p o B⊢;rw[←E]at p o⊢;have J:n≤9223372036854775807:=(by unfold maxLen at l;omega);have N:=Hd G;have A:=Hd p;have t:=Hd o;clear G p o h H E l;go_enter func145,ntmps145;go_wp2_with fail
 go_loopg [5] n (fun q iv wr=>∃r:Nat,r+q=n∧iv=rA rC (r:Nat)∧(∀i,i<r→L.getD i 0≠x)∧wr=w)
 case atStart=>exact⟨0,by omega,rfl,fun k hk=>by omega,rfl⟩
 case round=>
  obtain⟨r,F,rfl,d,rfl⟩:=hrel;have C:=Hd F;have m:=Hd d;clear F d
  by_cases hlt:r<n
  ·have j:decide (r<n)=true:=decide_eq_true hlt;obtain⟨b,M,rfl,I,g⟩:=N.out r hlt;obtain⟨y,s⟩:=eX (L.getD r 0);rw[←s]at g;have D:=Hd s;clear s
   by_cases he:y=x
   ·have P:(y==x)=true:=(by rw[beq_iff_eq];exact he);have z:=Hd he;clear he;go_wp2_with fail;go_ret;exact⟨Et (A.out r hlt (by rw[←D.out];exact z.out)),rfl⟩
   ·have P:(y==x)=false:=(by rw[beq_eq_false_iff_ne];exact he);have z:=Hd he;clear he;go_wp2_with fail;go_roundg (gk-1);case measure=>have:=C.out;omega
    case rel=>
     refine⟨r+1,by have:=C.out;omega,by go_num,fun i f=> ?_,rfl⟩
     by_cases e:i=r
     ·rw[e,←D.out];exact z.out
     ·exact m.out i (by omega)
  ·obtain rfl:r=n:=(by have:=C.out;omega);have j:decide (r<r)=false:=decide_eq_false hlt;go_wp2_with fail;go_ret;exact⟨Et (t.out m.out),rfl⟩
def Zj (t:List NodeD)(ps:List Int)(k:Nat):Prop:=∀(x:Nat) (v vp:Value) (w:World),TreeR w v t→Rd w vp (ivs .i64 ps)→IsLev x k→x+2^k≤t.length→
 Calls prog 86 #[v,rA rC (x:Nat),vp] w fun e w'=>∃v',e=.returned v'∧Own w' w.heap.size 5 v' (bvs (Lt (woD t ps) k x))∧Below w.heap.size w w'
def Zeb (t:List NodeD)(ps:List Int)(k:Nat):Prop:=∀(x:Nat) (v vp:Value) (w:World),TreeR w v t→Rd w vp (ivs .i64 ps)→IsLev x k→x+2^k≤t.length→
 Calls prog 76 #[v,rA rC (x:Nat),vp] w fun e w'=>∃v',e=.returned v'∧Own w' w.heap.size 5 v' (bvs (Fq (woD t ps) k x))∧Below w.heap.size w w'
theorem NodeC.alloc {w:World} {d:NodeD} {c:Array Value}(h:NodeC w d c)(o:Obj):NodeC (w.alloc o) d c:=h.below ((Below.refl w.heap.size w).alloc lR o) lR
theorem Zbr (t:List NodeD)(Z:List Int)(p:Bc t=true)(aR:TreeOk t)(hp:Bh t=true):Zj t Z 0:=by
 intro x v vp w h aK Y hx;have a8:=Gf Y;have hx:x<t.length:=(by have:(2:Nat)^0=1:=rfl;omega);obtain⟨a,c,rfl,hc,bK⟩:=h.sl;obtain⟨b,aP,cs,rfl,bL,aJ,aE⟩:=h.node hx;have bB:=Hd (show(nd t x).kind≠2 by have:=(Dj hp hx).1;rwa [Eg a8]at this);have aW:=Bg p;obtain⟨n,hn⟩:=eX t.length;rw[←hn]at hx hc aW⊢;obtain⟨m,aF⟩:=eX (x/2);have hq:(x:Int)/2=(m:Int):=(by omega);have hm:(x:Int)%2=0:=(by omega);have aC:=Hd (fun(W:World) (X:Below w.heap.size w W)=>Us vp Z (m:Int) W (aK.below X lR));have HT:=Hd (show Lt (woD t Z) 0 x=([1]++beN 4 m)++Bm (if(m:Int)∈Z then Aq else nd t x) by rw[Gw,Zih a8,aF]);have bF:=Hd (show NodeOk (nd t x)from aR.nd x);have aZ:=Hd (Cq p x);obtain⟨a1,c1,a2,c2,a3,c3,a4,c4,a5,c5,b1,e1,b2,e2,b3,e3,aM,-⟩:=id aJ;obtain⟨kd,aU⟩:=eX ((nd t x).kind);obtain⟨l1,aV⟩:=eX ((nd t x).leaf.box.length);obtain⟨l2,aQ⟩:=eX ((nd t x).leaf.sign.length);obtain⟨l3,a6⟩:=eX ((nd t x).leaf.ident.length);obtain⟨l4,bA⟩:=eX ((nd t x).leaf.par.length);obtain⟨l5,aS⟩:=eX ((nd t x).leaf.sig.length);obtain⟨l6,aY⟩:=eX ((nd t x).par.box.length);obtain⟨l7,a7⟩:=eX ((nd t x).par.hash.length);obtain⟨l8,aO⟩:=eX ((nd t x).par.late.length);obtain⟨s,aA⟩:=eX ((nd t x).leaf.source);rw[←aU,←aV,←aQ,←a6,←bA,←aS,←aY,←a7,←aO,←aA]at aM;have a0:=Hd aJ;rw[aM]at aE a0;have aT:=Hd aE;have bI:x<40:=(by omega);have aB:=Hd (fun(W:World)=>(show Calls prog 64 #[rA rC 4,rA .u64 (m:Nat)] W fun e w'=>∃v,e=.returned v∧Own w' W.heap.size 5 v (bvs (beN 4 m))∧Below W.heap.size W w' from Rl 4 m W (by omega) (by omega)));have bJ:=Hd aF;have bG:∃a c,vp=.slice a Z.length c:=(by obtain⟨a,c,e,_⟩:=aK;exact⟨a,c,by rw[e];simp[ivs]⟩);obtain⟨pa,pc,rfl⟩:=bG;obtain⟨pn,a9⟩:=eX Z.length;rw[←a9]at aC⊢;clear aJ aE aM aU aV aQ a6 bA aS aY a7 aO aA aR hp p h aK aF hn Y a9;rw[HT.out];obtain⟨D,hD⟩:=eX ((if(m:Int)∈Z then Aq else nd t x));have aX:=Hd hD;rw[←hD];clear hD;have bC:∀(j:World) (U:Array Value),Blk j w.heap.size 52 U→NodeC j D U→Below w.heap.size w j→NodeOk D→Cd D=true→D.kind≠2→True:=fun _ _ _ _ _ _ _ _=>trivial;clear bC;cases hmem:decide ((m:Int)∈Z)with
 |true=>
  have HA:=Hd (fun(W:World) (X:Below w.heap.size w W)=>by have:=aC.out W X;rw[hmem]at this;exact this);have T:D=Aq:=(by rw[aX.out,if_pos (of_decide_eq_true hmem)]);have q:=Hd T;clear hmem T;go_enter func86,ntmps86;go_wp2_with (refine wpList_load_mid rfl 52 (.tmp 14) rfl b (aP+x*10) rfl [rA rD (kd:Nat),q9 a1 l1 c1,q9 a2 l2 c2,q9 a3 l3 c3,rA rD (s:Nat),q9 a4 l4 c4,q9 a5 l5 c5,q9 b1 l6 e1,q9 b2 l7 e2,q9 b3 l8 e3] _ aT.out underlying52 rfl Ak ?_);refine(HA.out _ (bR.alloc lR _)).mono ?_;rintro e w1 ⟨rfl,rfl⟩;go_wp2_with fail;have M:=Hd (show NodeC (w.alloc (.cells #[rA rD 0,q9 rF 0 0,q9 rF 0 0,q9 rF 0 0,rA rD 0,q9 rF 0 0,q9 rF 0 0,q9 rF 0 0,q9 rF 0 0,q9 rF 0 0] 52)) D #[rA rD 0,q9 rF 0 0,q9 rF 0 0,q9 rF 0 0,rA rD 0,q9 rF 0 0,q9 rF 0 0,q9 rF 0 0,q9 rF 0 0,q9 rF 0 0]from by rw[q.out];exact Kn _);obtain⟨j,A⟩:=eX (w.alloc (.cells #[rA rD 0,q9 rF 0 0,q9 rF 0 0,q9 rF 0 0,rA rD 0,q9 rF 0 0,q9 rF 0 0,q9 rF 0 0,q9 rF 0 0,q9 rF 0 0] 52));have I:=Hd (show Blk j w.heap.size 52 #[rA rD 0,q9 rF 0 0,q9 rF 0 0,q9 rF 0 0,rA rD 0,q9 rF 0 0,q9 rF 0 0,q9 rF 0 0,q9 rF 0 0,q9 rF 0 0] by rw[A];exact Blk.new w _ _);have J:=Hd (show Below w.heap.size w j by rw[A];exact bR.alloc lR _);rw[←A]at M⊢;obtain⟨U,H⟩:=eX ((#[rA rD 0,q9 rF 0 0,q9 rF 0 0,q9 rF 0 0,rA rD 0,q9 rF 0 0,q9 rF 0 0,q9 rF 0 0,q9 rF 0 0,q9 rF 0 0]:Array Value));rw[←H]at M I;have aL:=Hd (show(prog.info? 52).map (·.size)=some U.size by rw[H];exact Ak);have P:=Hd (fun(W:World) (X:Below j.heap.size j W)=>Iu D U W (M.out.below X lR) (by rw[q.out];exact Gt) (by rw[q.out];exact Ob) (fun e=>absurd e (by rw[q.out];decide)));have E:=Da (d:=D) (by rw[q.out];exact Ob);obtain⟨C,L⟩:=eX (Bm D);rw[←L]at P E;have aN:=Hd L;have Q:=Hd (show([1]++beN 4 m).length+C.length<1000000000 by rw[aG,beN_len];simp only[bY,bT];omega);clear A H E L;refine Dv [fun v w'=>Own w' j.heap.size 5 v (bvs [1]),eF (rA rC (x:Nat)),eF (rA rC (m:Nat)),eF (rA .u64 (m:Nat)),fun v w'=>Own w' j.heap.size 5 v (bvs (beN 4 m)),fun v w'=>Own w' j.heap.size 5 v (bvs ([1]++beN 4 m)),eF (.agg U),fun v w'=>Own w' j.heap.size 5 v (bvs C),fun v w'=>Own w' j.heap.size 5 v (bvs (([1]++beN 4 m)++C)),fun v w'=>Own w' j.heap.size 5 v (bvs (([1]++beN 4 m)++C))] (by kernel_rfl) (by kernel_rfl) (by kernel_rfl) (Ai (fun v x y h _ p=>Own.below h p lR) (kE (kE (kE (Ai (fun v x y h _ p=>Own.below h p lR) (Ai (fun v x y h _ p=>Own.below h p lR) (kE (Ai (fun v x y h _ p=>Own.below h p lR) (Ai (fun v x y h _ p=>Own.below h p lR) (Ai (fun v x y h _ p=>Own.below h p lR) (Ah))))))))))) ?_ ?_
  ·refine gB ?_ (gQ ?_ (gB ?_ (gQ ?_ (gB ?_ (gB ?_ (gB ?_ (gB ?_ (gB ?_ (gB ?_ .nil)))))))));all_goals
    intro a r k ho N;refine⟨rfl,?_⟩;intro K u;try have P1:a.tmps[1]?.getD undef=rA rC (x:Nat):=ho 1 (by kernel_rfl)
    try have P7:a.tmps[7]?.getD undef=rB (some ⟨w.heap.size,0,rF⟩):=ho 7 (by kernel_rfl)
    try have E0:=eqn N.1
    try have D0:IntKind.u64.wrap ((m:Int))=(m:Int):=by rw[IntKind.wrap_u64];omega
    try(refine Hd ?_;go_simp;exact u _ rfl)
   ·
    go_simp;exact u _ _ (Own.full (B:=j.heap.size) (cs:=#[rA rD 1]) rfl (k.size) (by unfold maxLen;simp) rfl) (bR.alloc lR _)
   ·have bH:(x:Int)/2=(m:Int):=hq;have R:IntKind.i64.wrap ((m:Int))=(m:Int):=(by rw[IntKind.wrap_i64];omega);have aH:(x:Int)/2=(m:Int):=(by omega);have bE:IntKind.i64.wrap ((x:Int)/2)=(m:Int):=(by rw[aH];exact R);have aI:eU ((x:Int)) 2=(m:Int):=(by rw[eV (by omega)];omega);have bD:IntKind.i64.wrap (eU ((x:Int)) 2)=(m:Int):=(by rw[aI];exact R);go_simp;exact u _ _ rfl bR
   ·go_simp;refine(aB.out r).mono ?_;rintro e w2 ⟨v9,rfl,g,o⟩;exact u _ _ (g.mono k.size) o
   ·have G:Own r j.heap.size 5 (a.tmps[24]?.getD undef) (bvs [1]):=N.1;obtain⟨V,i⟩:=eX (a.tmps[24]?.getD undef);rw[←i]at G;have e0:=i.symm;clear i;have S:Own r j.heap.size 5 (a.tmps[28]?.getD undef) (bvs (beN 4 m)):=N.2.1;obtain⟨v1,l⟩:=eX (a.tmps[28]?.getD undef);rw[←l]at S;have e1:=l.symm;clear l;go_simp;refine(Ei V v1 [1] (beN 4 m) r G.rd S.rd (by rw[beN_len];simp)).mono ?_;rintro e w2 ⟨v9,rfl,g,o⟩;exact u _ _ (g.mono k.size) o
   ·exact wp_load_row 52 (.tmp 7) rfl _ (evs P7) _ _ (0,0) _ (I.out.below k I.out.lt) underlying52 rfl (aL.out) (u _ _ rfl bR)
   ·go_simp;refine(P.out r k).mono ?_;rintro e w2 ⟨v9,rfl,g,o⟩;exact u _ _ (g.mono k.size) o
   ·have G:Own r j.heap.size 5 (a.tmps[29]?.getD undef) (bvs ([1]++beN 4 m)):=N.1;obtain⟨V,i⟩:=eX (a.tmps[29]?.getD undef);rw[←i]at G;have e0:=i.symm;clear i;have S:Own r j.heap.size 5 (a.tmps[31]?.getD undef) (bvs C):=N.2.1;obtain⟨v1,l⟩:=eX (a.tmps[31]?.getD undef);rw[←l]at S;have e1:=l.symm;clear l;go_simp;refine(Ei V v1 ([1]++beN 4 m) C r G.rd S.rd Q.out).mono ?_;rintro e w2 ⟨v9,rfl,g,o⟩;exact u _ _ (g.mono k.size) o
   ·have G:Own r j.heap.size 5 (a.tmps[32]?.getD undef) (bvs (([1]++beN 4 m)++C)):=N.1;obtain⟨V,i⟩:=eX (a.tmps[32]?.getD undef);rw[←i]at G;have e0:=i.symm;clear i;go_simp;exact u _ _ G bR
  ·rintro f w9 z F;have z:Below j.heap.size j w9:=z;have S6:Own w9 j.heap.size 5 (f 6) (bvs (([1]++beN 4 m)++C)):=F.2.2.2.2.2.2.2.2.2.1;clear F;simp only[Am,Az,Ex,cX,cY,cZ,dA,Nat.reduceBEq,Nat.reduceAdd,Bool.or_false,Bool.or_true,cond_true,cond_false];obtain⟨u6,O⟩:=eX (f 6);rw[←O]at S6⊢;clear O;have HO:=Hd S6;have aD:=Hd z;clear S6 z;go_wp2_with fail;go_ret;exact⟨_,rfl,by have:=HO.out.mono J.out.size;rw[aN.out]at this;exact this,J.out.trans (aD.out.mono J.out.size)⟩
 |false=>
  have HA:=Hd (fun(W:World) (X:Below w.heap.size w W)=>by have:=aC.out W X;rw[hmem]at this;exact this);have T:D=nd t x:=(by rw[aX.out,if_neg (of_decide_eq_false hmem)]);have q:=Hd T;clear hmem T;go_enter func86,ntmps86;go_wp2_with (refine wpList_load_mid rfl 52 (.tmp 14) rfl b (aP+x*10) rfl [rA rD (kd:Nat),q9 a1 l1 c1,q9 a2 l2 c2,q9 a3 l3 c3,rA rD (s:Nat),q9 a4 l4 c4,q9 a5 l5 c5,q9 b1 l6 e1,q9 b2 l7 e2,q9 b3 l8 e3] _ aT.out underlying52 rfl Ak ?_);refine(HA.out _ (bR.alloc lR _)).mono ?_;rintro e w1 ⟨rfl,rfl⟩;go_wp2_with fail;have M:=Hd (show NodeC (w.alloc (.cells #[rA rD (kd:Nat),q9 a1 l1 c1,q9 a2 l2 c2,q9 a3 l3 c3,rA rD (s:Nat),q9 a4 l4 c4,q9 a5 l5 c5,q9 b1 l6 e1,q9 b2 l7 e2,q9 b3 l8 e3] 52)) D #[rA rD (kd:Nat),q9 a1 l1 c1,q9 a2 l2 c2,q9 a3 l3 c3,rA rD (s:Nat),q9 a4 l4 c4,q9 a5 l5 c5,q9 b1 l6 e1,q9 b2 l7 e2,q9 b3 l8 e3]from by rw[q.out];exact a0.out.alloc _);obtain⟨j,A⟩:=eX (w.alloc (.cells #[rA rD (kd:Nat),q9 a1 l1 c1,q9 a2 l2 c2,q9 a3 l3 c3,rA rD (s:Nat),q9 a4 l4 c4,q9 a5 l5 c5,q9 b1 l6 e1,q9 b2 l7 e2,q9 b3 l8 e3] 52));have I:=Hd (show Blk j w.heap.size 52 #[rA rD (kd:Nat),q9 a1 l1 c1,q9 a2 l2 c2,q9 a3 l3 c3,rA rD (s:Nat),q9 a4 l4 c4,q9 a5 l5 c5,q9 b1 l6 e1,q9 b2 l7 e2,q9 b3 l8 e3] by rw[A];exact Blk.new w _ _);have J:=Hd (show Below w.heap.size w j by rw[A];exact bR.alloc lR _);rw[←A]at M⊢;obtain⟨U,H⟩:=eX ((#[rA rD (kd:Nat),q9 a1 l1 c1,q9 a2 l2 c2,q9 a3 l3 c3,rA rD (s:Nat),q9 a4 l4 c4,q9 a5 l5 c5,q9 b1 l6 e1,q9 b2 l7 e2,q9 b3 l8 e3]:Array Value));rw[←H]at M I;have aL:=Hd (show(prog.info? 52).map (·.size)=some U.size by rw[H];exact Ak);have P:=Hd (fun(W:World) (X:Below j.heap.size j W)=>Iu D U W (M.out.below X lR) (by rw[q.out];exact bF.out) (by rw[q.out];exact aZ.out) (fun e=>absurd e (by rw[q.out];exact bB.out)));have E:=Da (d:=D) (by rw[q.out];exact aZ.out);obtain⟨C,L⟩:=eX (Bm D);rw[←L]at P E;have aN:=Hd L;have Q:=Hd (show([1]++beN 4 m).length+C.length<1000000000 by rw[aG,beN_len];simp only[bY,bT];omega);clear A H E L;refine Dv [fun v w'=>Own w' j.heap.size 5 v (bvs [1]),eF (rA rC (x:Nat)),eF (rA rC (m:Nat)),eF (rA .u64 (m:Nat)),fun v w'=>Own w' j.heap.size 5 v (bvs (beN 4 m)),fun v w'=>Own w' j.heap.size 5 v (bvs ([1]++beN 4 m)),eF (.agg U),fun v w'=>Own w' j.heap.size 5 v (bvs C),fun v w'=>Own w' j.heap.size 5 v (bvs (([1]++beN 4 m)++C)),fun v w'=>Own w' j.heap.size 5 v (bvs (([1]++beN 4 m)++C))] (by kernel_rfl) (by kernel_rfl) (by kernel_rfl) (Ai (fun v x y h _ p=>Own.below h p lR) (kE (kE (kE (Ai (fun v x y h _ p=>Own.below h p lR) (Ai (fun v x y h _ p=>Own.below h p lR) (kE (Ai (fun v x y h _ p=>Own.below h p lR) (Ai (fun v x y h _ p=>Own.below h p lR) (Ai (fun v x y h _ p=>Own.below h p lR) (Ah))))))))))) ?_ ?_
  ·refine gB ?_ (gQ ?_ (gB ?_ (gQ ?_ (gB ?_ (gB ?_ (gB ?_ (gB ?_ (gB ?_ (gB ?_ .nil)))))))));all_goals
    intro a r k ho N;refine⟨rfl,?_⟩;intro K u;try have P1:a.tmps[1]?.getD undef=rA rC (x:Nat):=ho 1 (by kernel_rfl)
    try have P7:a.tmps[7]?.getD undef=rB (some ⟨w.heap.size,0,rF⟩):=ho 7 (by kernel_rfl)
    try have E0:=eqn N.1
    try have D0:IntKind.u64.wrap ((m:Int))=(m:Int):=by rw[IntKind.wrap_u64];omega
    try(refine Hd ?_;go_simp;exact u _ rfl)
   ·
    go_simp;exact u _ _ (Own.full (B:=j.heap.size) (cs:=#[rA rD 1]) rfl (k.size) (by unfold maxLen;simp) rfl) (bR.alloc lR _)
   ·have bH:(x:Int)/2=(m:Int):=hq;have R:IntKind.i64.wrap ((m:Int))=(m:Int):=(by rw[IntKind.wrap_i64];omega);have aH:(x:Int)/2=(m:Int):=(by omega);have bE:IntKind.i64.wrap ((x:Int)/2)=(m:Int):=(by rw[aH];exact R);have aI:eU ((x:Int)) 2=(m:Int):=(by rw[eV (by omega)];omega);have bD:IntKind.i64.wrap (eU ((x:Int)) 2)=(m:Int):=(by rw[aI];exact R);go_simp;exact u _ _ rfl bR
   ·go_simp;refine(aB.out r).mono ?_;rintro e w2 ⟨v9,rfl,g,o⟩;exact u _ _ (g.mono k.size) o
   ·have G:Own r j.heap.size 5 (a.tmps[24]?.getD undef) (bvs [1]):=N.1;obtain⟨V,i⟩:=eX (a.tmps[24]?.getD undef);rw[←i]at G;have e0:=i.symm;clear i;have S:Own r j.heap.size 5 (a.tmps[28]?.getD undef) (bvs (beN 4 m)):=N.2.1;obtain⟨v1,l⟩:=eX (a.tmps[28]?.getD undef);rw[←l]at S;have e1:=l.symm;clear l;go_simp;refine(Ei V v1 [1] (beN 4 m) r G.rd S.rd (by rw[beN_len];simp)).mono ?_;rintro e w2 ⟨v9,rfl,g,o⟩;exact u _ _ (g.mono k.size) o
   ·exact wp_load_row 52 (.tmp 7) rfl _ (evs P7) _ _ (0,0) _ (I.out.below k I.out.lt) underlying52 rfl (aL.out) (u _ _ rfl bR)
   ·go_simp;refine(P.out r k).mono ?_;rintro e w2 ⟨v9,rfl,g,o⟩;exact u _ _ (g.mono k.size) o
   ·have G:Own r j.heap.size 5 (a.tmps[29]?.getD undef) (bvs ([1]++beN 4 m)):=N.1;obtain⟨V,i⟩:=eX (a.tmps[29]?.getD undef);rw[←i]at G;have e0:=i.symm;clear i;have S:Own r j.heap.size 5 (a.tmps[31]?.getD undef) (bvs C):=N.2.1;obtain⟨v1,l⟩:=eX (a.tmps[31]?.getD undef);rw[←l]at S;have e1:=l.symm;clear l;go_simp;refine(Ei V v1 ([1]++beN 4 m) C r G.rd S.rd Q.out).mono ?_;rintro e w2 ⟨v9,rfl,g,o⟩;exact u _ _ (g.mono k.size) o
   ·have G:Own r j.heap.size 5 (a.tmps[32]?.getD undef) (bvs (([1]++beN 4 m)++C)):=N.1;obtain⟨V,i⟩:=eX (a.tmps[32]?.getD undef);rw[←i]at G;have e0:=i.symm;clear i;go_simp;exact u _ _ G bR
  ·rintro f w9 z F;have z:Below j.heap.size j w9:=z;have S6:Own w9 j.heap.size 5 (f 6) (bvs (([1]++beN 4 m)++C)):=F.2.2.2.2.2.2.2.2.2.1;clear F;simp only[Am,Az,Ex,cX,cY,cZ,dA,Nat.reduceBEq,Nat.reduceAdd,Bool.or_false,Bool.or_true,cond_true,cond_false];obtain⟨u6,O⟩:=eX (f 6);rw[←O]at S6⊢;clear O;have HO:=Hd S6;have aD:=Hd z;clear S6 z;go_wp2_with fail;go_ret;exact⟨_,rfl,by have:=HO.out.mono J.out.size;rw[aN.out]at this;exact this,J.out.trans (aD.out.mono J.out.size)⟩
def Sh (ps:List Int)(u:Int):Bool:=decide (u∉ps)
theorem Zec {ps:List Int} {u:Int}(h:u∉ps):Sh ps u=true:=decide_eq_true h
theorem Zii {ps:List Int} {u:Int}(h:u∈ps):¬Sh ps u=true:=by unfold Sh;simp[h]
theorem Mt (L:List Int)(p:Int→Bool) {i:Nat}(h:i<L.length):(L.take (i+1)).filter p=(L.take i).filter p++(if p (L.getD i 0)=true then [L.getD i 0]else []):=by
 rw[List.take_succ_eq_append_getElem h,List.filter_append]
 congr 1
 rw[aH,aI h,List.filter_cons];simp
theorem Zbs (t:List NodeD)(f:List Int)(hs:Bc t=true)(bV:TreeOk t)(hp:Bh t=true)(k:Nat)(IH:Zeb t f k):Zj t f (k+1):=by
 intro x v vp w h E B hx;have K:=Fb B;have cA:=Bg hs;have dF:2^(k+1)=2*2^k:=(by rw[Nat.pow_succ];omega);have cS:0<2^k:=Nat.pos_of_ne_zero (by simp);have bU:x<t.length:=(by omega);obtain⟨bL,bK,aE,aF,cZ⟩:=kids_lev (by omega) B;have KD:=fun(W:World)=>Hr (x:Int) W;rw[bL,bK]at KD;obtain⟨a,c,rfl,hc,dO⟩:=h.sl;obtain⟨b,cQ,cs,rfl,dP,b6,aP⟩:=h.node bU;have HL:=Hd (fun(W:World) (g:Below w.heap.size w W)=>IH (x-2^k) _ vp W (h.below g lR) (E.below g lR) aE (by omega));have HR:=Hd (fun(W:World) (g:Below w.heap.size w W)=>IH (x+2^k) _ vp W (h.below g lR) (E.below g lR) aF (by omega));obtain⟨n,hn⟩:=eX t.length;rw[←hn]at HL HR hc cA bU⊢;have cH:(nd t x).kind≠1:=(by have:=(Dj hp (x:=x) (by omega)).1;rwa [Gu K]at this);have cF:=(Dj hp (x:=x) (by omega)).2;have aK:∀u∈(woD t f x).par.late,0≤u∧u<65536:=by
  rw[Xf K];intro u hu;exact Hn (Eh cF) u (List.mem_filter.1 hu).1
 have bE:NodeOk (woD t f x):=by
  have:=bV.nd x;rw[Xf K];exact⟨this.kind,this.source,this.box,this.sign,this.ident,this.par,this.sig,this.pbox,this.hash,fun u hu=>this.late u (List.mem_filter.1 hu).1⟩
 have aA:=Oi hs f x;have HT:=Hd (Gx (woD t f) k x);obtain⟨H1,P⟩:=eX (Fq (woD t f) k (x-2^k));obtain⟨H2,R⟩:=eX (Fq (woD t f) k (x+2^k));have aB:H1.length=32:=(by rw[P];exact Dy _ _ _);have aC:H2.length=32:=(by rw[R];exact Dy _ _ _);rw[←P,←R]at HT;rw[←P]at HL;rw[←R]at HR;obtain⟨xl,cE⟩:=eX (x-2^k);obtain⟨xr,cJ⟩:=eX (x+2^k);rw[←cE]at HL KD;rw[←cJ]at HR KD;have cR:=Hd KD;obtain⟨D,hD⟩:=eX (woD t f x);have a7:D=⟨(nd t x).kind,(nd t x).leaf,⟨(nd t x).par.box,(nd t x).par.hash,(nd t x).par.late.filter (Sh f)⟩⟩:=(by rw[hD,Xf K];rfl);rw[←hD]at HT aK bE aA;rw[HT.out];have C:=Da aA;have hm:(x:Int)%2=1:=(by omega);obtain⟨a1,c1,a2,c2,a3,c3,a4,c4,a5,c5,b1,e1,b2,e2,b3,e3,Y,h1,h2,h3,h4,h5,h6,h7,h8⟩:=id b6
 -- the late ones
 obtain⟨o,T⟩:=eX ((nd t x).par.late);have bS:o.length≤60:=(by have:=of_decide_eq_true (Ie hs x);rw[T];omega);rw[←T]at h8 a7
 -- behind the loop the node's cells are those of D
 have bB:=fun(W:World) (z1:Option Addr) (z2 z3:Nat) (g:Below w.heap.size w W) (hz:Rd W (q9 z1 z2 z3) (ivs .i64 (o.filter (Sh f))))=>
  (show NodeC W D #[rA rD ((nd t x).kind:Nat),.slice a1 (nd t x).leaf.box.length c1,.slice a2 (nd t x).leaf.sign.length c2,.slice a3 (nd t x).leaf.ident.length c3,rA rD ((nd t x).leaf.source:Nat),.slice a4 (nd t x).leaf.par.length c4,.slice a5 (nd t x).leaf.sig.length c5,.slice b1 (nd t x).par.box.length e1,.slice b2 (nd t x).par.hash.length e2,q9 z1 z2 z3] by
   have dA:z2=(o.filter (Sh f)).length:=by
    obtain⟨_,_,e,_⟩:=hz;simp only[Value.slice.injEq]at e;rw[e.2.1];simp[ivs]
   subst dA;rw[a7];exact⟨a1,c1,a2,c2,a3,c3,a4,c4,a5,c5,b1,e1,b2,e2,z1,z3,rfl,h1.below g lR,h2.below g lR,h3.below g lR,h4.below g lR,h5.below g lR,h6.below g lR,h7.below g lR,hz⟩)
 obtain⟨kd,aY⟩:=eX ((nd t x).kind);obtain⟨l1,a6⟩:=eX ((nd t x).leaf.box.length);obtain⟨l2,aM⟩:=eX ((nd t x).leaf.sign.length);obtain⟨l3,bC⟩:=eX ((nd t x).leaf.ident.length);obtain⟨l4,bG⟩:=eX ((nd t x).leaf.par.length);obtain⟨l5,aT⟩:=eX ((nd t x).leaf.sig.length);obtain⟨l6,a9⟩:=eX ((nd t x).par.box.length);obtain⟨l7,bF⟩:=eX ((nd t x).par.hash.length);obtain⟨m,N⟩:=eX o.length;obtain⟨s,G⟩:=eX ((nd t x).leaf.source);rw[←T]at Y;rw[←N]at h8;rw[←aY,←a6,←aM,←bC,←bG,←aT,←a9,←bF,←N,←G]at Y;rw[←aY,←a6,←aM,←bC,←bG,←aT,←a9,←bF,←G]at bB;have bI:=Hd bB;have dJ:m≤60:=(by omega);rw[Y]at aP;have cX:=Hd aP;have cO:=Hd (fun(u:Int) (W:World) (g:Below w.heap.size w W)=>Us vp f u W (E.below g lR));have cP:=Hd h8;have aN:=Hd N;have bQ:=Hd (fun(CS:Array Value) (W:World) (g:NodeC W D CS)=>Iu D CS W g bE aA (fun _=>aK));obtain⟨NB,cD⟩:=eX (Bm D);rw[←cD]at bQ C⊢;have aD:=Hd C;have aO:=Hd aB;have aS:=Hd aC;obtain⟨dN,bW⟩:∃l,l≤e3∧l=m:=⟨m,by have:=(Gn h8).1;exact this,rfl⟩;have dL:m≤e3:=(Gn h8).1;have dQ:e3≤9223372036854775807:=(Gn h8).2;obtain⟨pa,pn,pc,rfl⟩:∃a n c,vp=.slice a n c:=(by obtain⟨a,c,e,_⟩:=E;exact⟨_,_,_,e⟩);clear bW bB b6 h1 h2 h3 h4 h5 h6 h7 h8 Y aP aY a6 aM bC bG aT a9 bF N G T a7 hD cD C P R aB aC cE cJ KD E h bV hs hp hn IH B hx dF cS bL bK aE aF cZ cH cF aK bE aA K bS;go_enter func86,ntmps86;go_wp2_with (refine wpList_load_mid rfl 52 (.tmp 14) rfl b (cQ+x*10) rfl [rA rD (kd:Nat),q9 a1 l1 c1,q9 a2 l2 c2,q9 a3 l3 c3,rA rD (s:Nat),q9 a4 l4 c4,q9 a5 l5 c5,q9 b1 l6 e1,q9 b2 l7 e2,q9 b3 m e3] _ cX.out underlying52 rfl Ak ?_);obtain⟨wz,X⟩:=eX (w.alloc (.cells #[rA rD (kd:Nat),q9 a1 l1 c1,q9 a2 l2 c2,q9 a3 l3 c3,rA rD (s:Nat),q9 a4 l4 c4,q9 a5 l5 c5,q9 b1 l6 e1,q9 b2 l7 e2,q9 b3 m e3] 52));have U:=Hd (show Blk wz w.heap.size 52 #[rA rD (kd:Nat),q9 a1 l1 c1,q9 a2 l2 c2,q9 a3 l3 c3,rA rD (s:Nat),q9 a4 l4 c4,q9 a5 l5 c5,q9 b1 l6 e1,q9 b2 l7 e2,q9 b3 m e3] by rw[X];exact Blk.new w _ _);have cB:=Hd (show Below w.heap.size w wz by rw[X];exact bR.alloc lR _);have L:w.heap.size<wz.heap.size:=U.out.lt;rw[←X];clear X
 go_loopg [8,9] m (fun q lv iv wr=>∃i:Nat,i+q=m∧iv=rA rC (i:Nat)∧Own wr wz.heap.size 3 lv (ivs .i64 ((o.take i).filter (Sh f)))∧Below wz.heap.size wz wr)
 case atStart=>exact⟨0,by omega,rfl,Own.nil _ _ _,bR⟩
 case round=>
  obtain⟨i,hi,rfl,d,hb⟩:=hrel;have HI:=Hd hi;have HO:=Hd d;have HB:=Hd hb;have aX:=Hd (cB.out.trans (hb.mono cB.out.size));obtain⟨v1,v2,v3,rfl⟩:=Dg d;have k9:wr.cell? ⟨w.heap.size,9,rF⟩=some (q9 b3 m e3):=(U.out.below hb L).cell 9;have dE:w.heap.size<wr.heap.size:=Nat.lt_of_lt_of_le L hb.size
  by_cases hlt:i<m
  ·have bP:decide (i<m)=true:=decide_eq_true hlt;have dM:(i:Int)<(m:Int):=(by omega);obtain⟨lb,lo,c0,dK,bD⟩:=(cP.out.below aX.out lR).at3 (r:=i) (u:=rA rC (o.getD i 0)) (by simp[ivs,aH,show i<o.length by have:=aN.out;omega]);have aW:=Hd (Mt o (Sh f) (show i<o.length by have:=aN.out;omega));obtain⟨u,hu⟩:=eX (o.getD i 0);rw[←hu]at bD aW;subst c0;have HA:=cO.out u wr aX.out;cases hmem:decide (u∈f)with
   |true=>
    rw[hmem]at HA;have aV:=Hd HA;have HM:=Hd (of_decide_eq_true hmem);clear hi d hb hu HA hmem;go_wp2_with fail;refine(aV.out).mono ?_;rintro e w1 ⟨rfl,rfl⟩;go_wp2_with fail;go_roundg (gk-1);case measure=>have:=HI.out;omega
    case rel=>
     refine⟨i+1,by have:=HI.out;omega,by go_num,?_,HB.out⟩;rw[aW.out,if_neg (Zii HM.out),List.append_nil];exact HO.out
   |false=>
    rw[hmem]at HA;have aV:=Hd HA;have HM:=Hd (of_decide_eq_false hmem);clear hi d hb hu HA hmem;go_wp2_with fail;refine(aV.out).mono ?_;rintro e w1 ⟨rfl,rfl⟩;go_wp2_with (at_builtin;refine An rfl (.tmp 50) (.tmp 57) 48 rfl wz.heap.size 3 _ 8 Cn _ _ rfl (HO.out.alloc _) ⟨w1.heap.size,0,rF⟩ (rA rC u) rfl ?c1 rfl ?c2 ?c3 ?_);case c1=>exact Ar rfl
    case c2=>have:=eT (Sh f) (o.take i);have h2:=List.length_take_le i o;rw[Zdv];omega
    case c3=>have:=HB.out.size;simp;omega
    rintro v' w2 j cV cC;clear cV;have c8:=Hd j;have dG:=Hd ((HB.out.alloc HB.out.size (.cells #[rA rC u] 3)).trans cC);obtain⟨y1,y2,y3,rfl⟩:=Dg j;clear j cC;go_wp2_with fail;go_roundg (gk-1);case measure=>have:=HI.out;omega
    case rel=>
     refine⟨i+1,by have:=HI.out;omega,by go_num,?_,dG.out⟩;rw[aW.out,if_pos (Zec HM.out),Ng];exact c8.out
  ·obtain rfl:i=m:=(by omega);have bP:decide (i<i)=false:=decide_eq_false hlt;have bM:o.take i=o:=List.take_of_length_le (by have:=aN.out;omega);rw[bM]at HO;have kf:wr.frozen? ⟨w.heap.size,9,rF⟩=false:=(U.out.below hb L).frozen 9;have O:=Hd ((U.out.below hb L).set 9 (q9 v1 v2 v3));clear hi d hb hlt bM;have S:=Hd (show Below w.heap.size w (wr.setCell ⟨w.heap.size,9,rF⟩ (q9 v1 v2 v3))from aX.out.setCell (p:=⟨w.heap.size,9,rF⟩) lR _);have aZ:=Hd (HO.out.setLow (p:=⟨w.heap.size,9,rF⟩) L (q9 v1 v2 v3));obtain⟨ws,bA⟩:=eX (wr.setCell ⟨w.heap.size,9,rF⟩ (q9 v1 v2 v3));rw[←bA]at O S aZ;have aI:=Hd (show Blk ws w.heap.size 52 #[rA rD (kd:Nat),q9 a1 l1 c1,q9 a2 l2 c2,q9 a3 l3 c3,rA rD (s:Nat),q9 a4 l4 c4,q9 a5 l5 c5,q9 b1 l6 e1,q9 b2 l7 e2,q9 v1 v2 v3]from O.out);have cL:w.heap.size<ws.heap.size:=O.out.lt;clear O HO;go_wp2_with fail;rw[←bA];clear bA k9 kf dE;refine(cR.out _).mono ?_;rintro e w2 ⟨rfl,Z⟩;have c7:=Hd (aI.out.below Z cL);have bX:=Hd (S.out.trans (Z.mono S.out.size));have cN:=Hd ((aZ.out.below Z lR).rd);have cU:=Hd (show Rd (w2.alloc (.cells #[rA rD 2] 5)) (q9 (some ⟨w2.heap.size,0,rF⟩) 1 1) (bvs [2])from Rd.lit _ _ _ _ _ rfl rfl (by unfold maxLen;simp));have bH:=Hd (bX.out.alloc bX.out.size (.cells #[rA rD 2] 5));have cW:=Hd (bI.out (w2.alloc (.cells #[rA rD 2] 5)) v1 v2 v3 bH.out (cN.out.alloc _));clear Z aZ aI S;go_wp2_with (refine wpList_load_row rfl 52 (.tmp 7) rfl w.heap.size rfl 52 #[rA rD (kd:Nat),q9 a1 l1 c1,q9 a2 l2 c2,q9 a3 l3 c3,rA rD (s:Nat),q9 a4 l4 c4,q9 a5 l5 c5,q9 b1 l6 e1,q9 b2 l7 e2,q9 v1 v2 v3] (0,0) _ (c7.out.alloc _) underlying52 rfl Ak ?_);refine(bQ.out _ _ cW.out).mono ?_;rintro e w4 ⟨u4,rfl,J,a8⟩;have bZ:=Hd (bH.out.trans (a8.mono bH.out.size));have b4:=Hd J.rd;have c9:=Hd (cU.out.below a8 lR);clear J a8;obtain⟨x1,x2,x3,rfl⟩:=rdS b4.out;go_wp2_with fail;refine(Ei _ _ [2] NB w4 c9.out b4.out (by have:=aD.out;simp only[bY,bT];omega)).mono ?_;rintro e w5 ⟨u5,rfl,H,b7⟩;have aU:=Hd (bZ.out.trans (b7.mono bZ.out.size));have cG:=Hd H.rd;clear H b7;obtain⟨x4,x5,x6,rfl⟩:=rdS cG.out;go_wp2_with fail;refine(HL.out w5 aU.out).mono ?_;rintro e w6 ⟨u6,rfl,A,aR⟩;have b8:=Hd (aU.out.trans (aR.mono aU.out.size));have b0:=Hd A.rd;have dC:=Hd (cG.out.below aR lR);clear A aR;obtain⟨x7,x8,x9,rfl⟩:=rdS b0.out;go_wp2_with fail;refine(Em _ H1 w6 b0.out (by have:=aO.out;omega)).mono ?_;rintro e w7 ⟨u7,rfl,F,aQ⟩;have a0:=Hd (b8.out.trans (aQ.mono b8.out.size));have cI:=Hd F.rd;have dB:=Hd (dC.out.below aQ lR);clear F aQ;obtain⟨y1,y2,y3,rfl⟩:=rdS cI.out;go_wp2_with fail;refine(HR.out w7 a0.out).mono ?_;rintro e w8 ⟨u8,rfl,y,Q⟩;have b9:=Hd (a0.out.trans (Q.mono a0.out.size));have b5:=Hd y.rd;have dI:=Hd (cI.out.below Q lR);have dH:=Hd (dB.out.below Q lR);clear y Q;obtain⟨y4,y5,y6,rfl⟩:=rdS b5.out;go_wp2_with fail;refine(Em _ H2 w8 b5.out (by have:=aS.out;omega)).mono ?_;rintro e w9 ⟨u9,rfl,I,V⟩;have bN:=Hd (b9.out.trans (V.mono b9.out.size));have bJ:=Hd I.rd;have cT:=Hd (dI.out.below V lR);have c6:=Hd (dH.out.below V lR);clear I V;obtain⟨y7,y8,y9,rfl⟩:=rdS bJ.out;go_wp2_with fail;refine(Ei _ _ (Bf H1) (Bf H2) w9 cT.out bJ.out (by have:=Qf aO.out;have:=Qf aS.out;omega)).mono ?_;rintro e wA ⟨uA,rfl,z,aJ⟩;have aL:=Hd (bN.out.trans (aJ.mono bN.out.size));have cK:=Hd z.rd;have cM:=Hd (c6.out.below aJ lR);clear z aJ;obtain⟨z1,z2,z3,rfl⟩:=rdS cK.out;go_wp2_with fail;refine(Ei _ _ ([2]++NB) (Bf H1++Bf H2) wA cM.out cK.out (by have:=Qf aO.out;have:=Qf aS.out;have:=aD.out;simp only[aG,bY,bT];omega)).mono ?_;rintro e wB ⟨uB,rfl,M,bO⟩;have dD:=Hd (aL.out.trans (bO.mono aL.out.size));have cY:=Hd (M.mono aL.out.size);clear M bO;go_wp2_with fail;go_ret;exact⟨_,rfl,cY.out,dD.out⟩
end Go.Proofs.YtfofaiommeckbaaGreat
