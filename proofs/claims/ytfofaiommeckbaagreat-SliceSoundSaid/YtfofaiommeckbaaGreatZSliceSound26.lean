/- Plain: the hashes of a tree's nodes, without some leaves. -/
import Derived.Test.YtfofaiommeckbaaGreatZSliceSoundB
import Derived.Test.YtfofaiommeckbaaGreatZSliceSound20
import Derived.Test.YtfofaiommeckbaaGreatZSliceSound25
open List renaming length_append → aI, length_cons → cB, length_nil → bW, length_filter_le → fD, getD_eq_getElem?_getD → aJ, getElem?_eq_getElem → aK, filterMap_cons → cZ, filterMap_nil → dA, contains_cons → dB, contains_nil → dC
open Int renaming tdiv → fE, tdiv_eq_ediv_of_nonneg → fF
set_option linter.unusedVariables false
set_option maxRecDepth 100000
set_option maxHeartbeats 40000000
namespace Go.Proofs.YtfofaiommeckbaaGreat
open Go.RowKit WalkM ShaM WireM
mutual
def Dx (t:Nat→NodeD):Nat→Nat→List Nat
 |0,x=>([1]++beN 4 (x/2))++Bc (t x)
 |k+1,x=>([2]++Bc (t x))++(Av (Cj t k (x-2^k))++Av (Cj t k (x+2^k)))
def Cj (t:Nat→NodeD):Nat→Nat→List Nat
 |0,x=>shaF (([1]++beN 4 (x/2))++Bc (t x))
 |k+1,x=>shaF (([2]++Bc (t x))++(Av (Cj t k (x-2^k))++Av (Cj t k (x+2^k))))
end
theorem Ek (t:Nat→NodeD)(k x:Nat):Cj t k x=shaF (Dx t k x):=by cases k<;>simp only[Cj,Dx]
theorem Cs (t:Nat→NodeD)(x:Nat):Dx t 0 x=([1]++beN 4 (x/2))++Bc (t x):=by simp only[Dx]
theorem Ct (t:Nat→NodeD)(k x:Nat):Dx t (k+1) x=([2]++Bc (t x))++(Av (Cj t k (x-2^k))++Av (Cj t k (x+2^k))):=by simp only[Dx]
theorem Bs (t:Nat→NodeD)(k x:Nat):(Cj t k x).length=32:=by rw[Ek];exact Ik _
theorem Zdo (b:List Nat):∀x∈shaF b,x<256:=by
 intro x hx;unfold shaF at hx;rw[List.mem_flatten]at hx;obtain⟨l,hl,hx⟩:=hx;obtain⟨y,_,rfl⟩:=List.mem_map.1 hl;exact beN_lt _ _ x hx
theorem Rh (t:Nat→NodeD)(k x:Nat):∀y∈Cj t k x,y<256:=by rw[Ek];exact Zdo _
theorem Pk {L:List Nat}(h:L.length=32):(Av L).length≤36:=by have:=Bd L (by omega);omega
theorem Kc {t:Nat→NodeD}(hs:∀x,Bm (t x)=true)(k x:Nat):(Dx t k x).length≤8000:=by
 have h:=Cx (hs x);cases k with
 |zero=>
  rw[Cs];simp only[aI,cB,bW,beN_len];omega
 |succ k=>
  have h1:=Pk (Bs t k (x-2^k));have h2:=Pk (Bs t k (x+2^k));rw[Ct];simp only[aI,cB,bW];omega
def woD (t:List NodeD)(ps:List Int)(x:Nat):NodeD:=
 if x%2=0 then(if((x/2:Nat):Int)∈ps then An else nd t x)
 else⟨(nd t x).kind,(nd t x).leaf,⟨(nd t x).par.box,(nd t x).par.hash,(nd t x).par.late.filter fun u=>decide (u∉ps)⟩⟩
theorem Zdp (t:List NodeD)(x:Nat):woD t [] x=nd t x:=by
 unfold woD
 split
 ·rw[if_neg (by simp)]
 ·have:((nd t x).par.late.filter fun u=>decide (u∉([]:List Int)))=(nd t x).par.late:=List.filter_eq_self.2 (by simp);rw[this]
theorem Zhp {t:List NodeD} {ps:List Int} {x:Nat}(h:x%2=0):woD t ps x=if((x/2:Nat):Int)∈ps then An else nd t x:=by rw[woD,if_pos h]
theorem Wa {t:List NodeD} {ps:List Int} {x:Nat}(h:x%2=1):woD t ps x=⟨(nd t x).kind,(nd t x).leaf,⟨(nd t x).par.box,(nd t x).par.hash,(nd t x).par.late.filter fun u=>decide (u∉ps)⟩⟩:=by rw[woD,if_neg (by omega)]
theorem Nj {t:List NodeD}(h:Bg t=true)(b:List Int)(x:Nat):Bm (woD t b x)=true:=by
 have c:=Cf h x;unfold woD
 split
 ·split
  ·exact Mx
  ·exact c
 ·have a:=of_decide_eq_true c;have h2:=fD (fun u=>decide (u∉b)) (nd t x).par.late;exact decide_eq_true ⟨a.1,a.2.1,a.2.2.1,a.2.2.2.1,a.2.2.2.2.1,a.2.2.2.2.2.1,a.2.2.2.2.2.2.1,by have:=a.2.2.2.2.2.2.2;simp only;omega⟩
theorem rdS {w:World} {v:Value} {xs:List Value}(h:Rd w v xs):∃a n c,v=.slice a n c:=by
 obtain⟨a,c,e,_⟩:=h;exact⟨_,_,_,e⟩
theorem Eh (x y:Value)(A B:List Nat)(w:World)(hx:Rd w x (bvs A))(j:Rd w y (bvs B))(r:A.length+B.length<1000000000):
  Calls Tryz.prog 146 #[x,y] w fun e w'=>∃v',e=.returned v'∧Own w' w.heap.size 5 v' (bvs (A++B))∧Below w.heap.size w w':=by
 have l:=Hd hx;have k:=Hd j;clear hx j;go_enter Tryz.func146,Tryz.ntmps146;go_wp2_with (at_builtin;refine At rfl (.tmp 5) (.tmp 6) 28 rfl w.heap.size 5 _ 1 Bu _ [] rfl (Own.lit0 rfl lR) _ (bvs A) rfl (l.out.alloc _) (Bp _) ?c2 ?c3 ?_);case c2=>rw[bvs_len];simp;omega
 case c3=>simp
 rintro q p a-d;have b:=((Below.refl w.heap.size w).alloc lR (.cells #[] 5)).trans d;have m:=Hd a;have i:=Hd b;have f:=Hd (k.out.below b lR);clear a d b;go_wp2_with (at_builtin;refine At rfl (.tmp 7) (.tmp 8) 28 rfl w.heap.size 5 _ 1 Bu _ _ rfl m.out _ (bvs B) rfl f.out (Bp _) ?c4 ?c5 ?_);case c4=>simp only[bvs_len];omega
 case c5=>exact i.out.size
 rintro n o a-c;have h:=Hd a;have g:=Hd (i.out.trans c);clear a c;go_wp2_with fail;go_ret;refine⟨_,rfl,?_,g.out⟩;rw[Cd];exact h.out
theorem Tu (v:Value)(L:List Int)(x:Int)(w:World)(h:Rd w v (ivs .i64 L)):
  Calls Tryz.prog 145 #[v,.int .i64 x] w fun e w'=>e=.returned (.bool (decide (x∈L)))∧w'=w:=by
 have K:∃a c,v=.slice a L.length c∧c≤maxLen∧L.length≤c:=(by obtain⟨a,c,e,Q,h2,_⟩:=h;exact⟨a,c,by rw[e];simp[ivs],h2,by simpa [ivs]using Q⟩);obtain⟨a,c,rfl,m,B⟩:=K;have G:=fun(i:Nat) (f:i<L.length)=>h.at3 (u:=.int .i64 (L.getD i 0)) (r:=i) (by simp[ivs,aJ,f]);have o:=fun(i:Nat) (f:i<L.length) (e:L.getD i 0=x)=>(show decide (x∈L)=true from decide_eq_true (by
  rw[aJ,aK f]at e;have:L[i]=x:=e;rw[←this];exact List.getElem_mem f))
 have p:=fun(d:∀i,i<L.length→L.getD i 0≠x)=>(show decide (x∈L)=false from decide_eq_false (fun J=>by
  obtain⟨i,f,e⟩:=List.getElem_of_mem J;exact d i f (by rw[aJ,aK f];exact e)))
 obtain⟨n,F⟩:=eX L.length;obtain⟨R,H⟩:=eX (decide (x∈L));rw[←F]at G o p B⊢;rw[←H]at o p⊢;have I:n≤9223372036854775807:=(by unfold maxLen at m;omega);have P:=Hd G;have C:=Hd o;have A:=Hd p;clear G o p h F H m;go_enter Tryz.func145,Tryz.ntmps145;go_wp2_with fail
 go_loopg [5] n (fun q iv wr=>∃r:Nat,r+q=n∧iv=.int .i64 (r:Nat)∧(∀i,i<r→L.getD i 0≠x)∧wr=w)
 case atStart=>exact⟨0,by omega,rfl,fun k hk=>by omega,rfl⟩
 case round=>
  obtain⟨r,D,rfl,d,rfl⟩:=hrel;have s:=Hd D;have l:=Hd d;clear D d
  by_cases hlt:r<n
  ·have j:decide (r<n)=true:=decide_eq_true hlt;obtain⟨b,M,rfl,N,g⟩:=P.out r hlt;obtain⟨y,z⟩:=eX (L.getD r 0);rw[←z]at g;have E:=Hd z;clear z
   by_cases he:y=x
   ·have O:(y==x)=true:=(by rw[beq_iff_eq];exact he);have t:=Hd he;clear he;go_wp2_with fail;go_ret;exact⟨Dh (C.out r hlt (by rw[←E.out];exact t.out)),rfl⟩
   ·have O:(y==x)=false:=(by rw[beq_eq_false_iff_ne];exact he);have t:=Hd he;clear he;go_wp2_with fail;go_roundg (gk-1);case measure=>have:=s.out;omega
    case rel=>
     refine⟨r+1,by have:=s.out;omega,by go_num,fun i f=> ?_,rfl⟩
     by_cases e:i=r
     ·rw[e,←E.out];exact t.out
     ·exact l.out i (by omega)
  ·obtain rfl:r=n:=(by have:=s.out;omega);have j:decide (r<r)=false:=decide_eq_false hlt;go_wp2_with fail;go_ret;exact⟨Dh (A.out l.out),rfl⟩
def Yt (t:List NodeD)(ps:List Int)(k:Nat):Prop:=∀(x:Nat) (v vp:Value) (w:World),TreeR w v t→Rd w vp (ivs .i64 ps)→IsLev x k→x+2^k≤t.length→
 Calls Tryz.prog 86 #[v,.int .i64 (x:Nat),vp] w fun e w'=>∃v',e=.returned v'∧Own w' w.heap.size 5 v' (bvs (Dx (woD t ps) k x))∧Below w.heap.size w w'
def Zdq (t:List NodeD)(ps:List Int)(k:Nat):Prop:=∀(x:Nat) (v vp:Value) (w:World),TreeR w v t→Rd w vp (ivs .i64 ps)→IsLev x k→x+2^k≤t.length→
 Calls Tryz.prog 76 #[v,.int .i64 (x:Nat),vp] w fun e w'=>∃v',e=.returned v'∧Own w' w.heap.size 5 v' (bvs (Cj (woD t ps) k x))∧Below w.heap.size w w'
theorem NodeC.alloc {w:World} {d:NodeD} {c:Array Value}(h:NodeC w d c)(o:Obj):NodeC (w.alloc o) d c:=h.below ((Below.refl w.heap.size w).alloc lR o) lR
theorem Za8 (t:List NodeD)(ps:List Int)(p:Bg t=true)(aV:TreeOk t)(hp:Be t=true):Yt t ps 0:=by
 intro x v vp w h aM aA hx;have a0:=Dv aA;have hx:x<t.length:=(by have:(2:Nat)^0=1:=rfl;omega);obtain⟨a,c,rfl,hc,bJ⟩:=h.sl;obtain⟨b,a9,cs,rfl,bL,aD,aE⟩:=h.node hx;have bD:=Hd (show(nd t x).kind≠2 by have:=(Df hp hx).1;rwa [Ef a0]at this);have aR:=Bo p;obtain⟨n,hn⟩:=eX t.length;rw[←hn]at hx hc aR⊢;obtain⟨m,aJ⟩:=eX (x/2);have hq:(x:Int)/2=(m:Int):=(by omega);have hm:(x:Int)%2=0:=(by omega);have aL:=Hd (fun(W:World) (X:Below w.heap.size w W)=>Tu vp ps (m:Int) W (aM.below X lR));have HT:=Hd (show Dx (woD t ps) 0 x=([1]++beN 4 m)++Bc (if(m:Int)∈ps then An else nd t x) by rw[Cs,Zhp a0,aJ]);have bE:=Hd (show NodeOk (nd t x)from aV.nd x);have aU:=Hd (Cf p x);obtain⟨a1,c1,a2,c2,a3,c3,a4,c4,a5,c5,b1,R,b2,e2,b3,e3,aH,-⟩:=id aD;obtain⟨kd,a8⟩:=eX ((nd t x).kind);obtain⟨l1,aQ⟩:=eX ((nd t x).leaf.box.length);obtain⟨l2,bA⟩:=eX ((nd t x).leaf.sign.length);obtain⟨l3,aZ⟩:=eX ((nd t x).leaf.ident.length);obtain⟨l4,aP⟩:=eX ((nd t x).leaf.par.length);obtain⟨l5,aX⟩:=eX ((nd t x).leaf.sig.length);obtain⟨l6,aW⟩:=eX ((nd t x).par.box.length);obtain⟨l7,aS⟩:=eX ((nd t x).par.hash.length);obtain⟨l8,a7⟩:=eX ((nd t x).par.late.length);obtain⟨s,aB⟩:=eX ((nd t x).leaf.source);rw[←a8,←aQ,←bA,←aZ,←aP,←aX,←aW,←aS,←a7,←aB]at aH;have a6:=Hd aD;rw[aH]at aE a6;have aY:=Hd aE;have bI:x<40:=(by omega);have Z:=Hd (fun(W:World)=>(show Calls Tryz.prog 64 #[.int .i64 4,.int .u64 (m:Nat)] W fun e w'=>∃v,e=.returned v∧Own w' W.heap.size 5 v (bvs (beN 4 m))∧Below W.heap.size W w' from Ql 4 m W (by omega) (by omega)));have bK:=Hd aJ;have bC:∃a c,vp=.slice a ps.length c:=(by obtain⟨a,c,e,_⟩:=aM;exact⟨a,c,by rw[e];simp[ivs]⟩);obtain⟨pa,pc,rfl⟩:=bC;obtain⟨pn,aO⟩:=eX ps.length;rw[←aO]at aL⊢;clear aD aE aH a8 aQ bA aZ aP aX aW aS a7 aB aV hp p h aM aJ hn aA aO;rw[HT.out];obtain⟨D,hD⟩:=eX ((if(m:Int)∈ps then An else nd t x));have aT:=Hd hD;rw[←hD];clear hD;have bF:∀(j:World) (V:Array Value),Blk j w.heap.size 52 V→NodeC j D V→Below w.heap.size w j→NodeOk D→Bm D=true→D.kind≠2→True:=fun _ _ _ _ _ _ _ _=>trivial;clear bF;cases hmem:decide ((m:Int)∈ps)with
 |true=>
  have HA:=Hd (fun(W:World) (X:Below w.heap.size w W)=>by have:=aL.out W X;rw[hmem]at this;exact this);have O:D=An:=(by rw[aT.out,if_pos (of_decide_eq_true hmem)]);have q:=Hd O;clear hmem O;go_enter Tryz.func86,Tryz.ntmps86;go_wp2_with (refine wpList_load_mid rfl 52 (.tmp 14) rfl b (a9+x*10) rfl [.int .u8 (kd:Nat),.slice a1 l1 c1,.slice a2 l2 c2,.slice a3 l3 c3,.int .u8 (s:Nat),.slice a4 l4 c4,.slice a5 l5 c5,.slice b1 l6 R,.slice b2 l7 e2,.slice b3 l8 e3] _ aY.out Tryz.underlying52 rfl Ak ?_);refine(HA.out _ (bR.alloc lR _)).mono ?_;rintro e w1 ⟨rfl,rfl⟩;go_wp2_with fail;have M:=Hd (show NodeC (w.alloc (.cells #[.int .u8 0,.slice none 0 0,.slice none 0 0,.slice none 0 0,.int .u8 0,.slice none 0 0,.slice none 0 0,.slice none 0 0,.slice none 0 0,.slice none 0 0] 52)) D #[.int .u8 0,.slice none 0 0,.slice none 0 0,.slice none 0 0,.int .u8 0,.slice none 0 0,.slice none 0 0,.slice none 0 0,.slice none 0 0,.slice none 0 0]from by rw[q.out];exact Jq _);obtain⟨j,u⟩:=eX (w.alloc (.cells #[.int .u8 0,.slice none 0 0,.slice none 0 0,.slice none 0 0,.int .u8 0,.slice none 0 0,.slice none 0 0,.slice none 0 0,.slice none 0 0,.slice none 0 0] 52));have H:=Hd (show Blk j w.heap.size 52 #[.int .u8 0,.slice none 0 0,.slice none 0 0,.slice none 0 0,.int .u8 0,.slice none 0 0,.slice none 0 0,.slice none 0 0,.slice none 0 0,.slice none 0 0] by rw[u];exact Blk.new w _ _);have J:=Hd (show Below w.heap.size w j by rw[u];exact bR.alloc lR _);rw[←u]at M⊢;obtain⟨V,I⟩:=eX ((#[.int .u8 0,.slice none 0 0,.slice none 0 0,.slice none 0 0,.int .u8 0,.slice none 0 0,.slice none 0 0,.slice none 0 0,.slice none 0 0,.slice none 0 0]:Array Value));rw[←I]at M H;have aC:=Hd (show(Tryz.prog.info? 52).map (·.size)=some V.size by rw[I];exact Ak);have P:=Hd (fun(W:World) (X:Below j.heap.size j W)=>Ih D V W (M.out.below X lR) (by rw[q.out];exact Gm) (by rw[q.out];exact Mx) (fun e=>absurd e (by rw[q.out];decide)));have F:=Cx (d:=D) (by rw[q.out];exact Mx);obtain⟨E,L⟩:=eX (Bc D);rw[←L]at P F;have aF:=Hd L;have Q:=Hd (show([1]++beN 4 m).length+E.length<1000000000 by rw[aI,beN_len];simp only[cB,bW];omega);clear u I F L;refine Cb [fun v w'=>Own w' j.heap.size 5 v (bvs [1]),eF (.int .i64 (x:Nat)),eF (.int .i64 (m:Nat)),eF (.int .u64 (m:Nat)),fun v w'=>Own w' j.heap.size 5 v (bvs (beN 4 m)),fun v w'=>Own w' j.heap.size 5 v (bvs ([1]++beN 4 m)),eF (.agg V),fun v w'=>Own w' j.heap.size 5 v (bvs E),fun v w'=>Own w' j.heap.size 5 v (bvs (([1]++beN 4 m)++E)),fun v w'=>Own w' j.heap.size 5 v (bvs (([1]++beN 4 m)++E))] (by kernel_rfl) (by kernel_rfl) (by kernel_rfl) (Ah (fun v x y h _ p=>Own.below h p lR) (kE (kE (kE (Ah (fun v x y h _ p=>Own.below h p lR) (Ah (fun v x y h _ p=>Own.below h p lR) (kE (Ah (fun v x y h _ p=>Own.below h p lR) (Ah (fun v x y h _ p=>Own.below h p lR) (Ah (fun v x y h _ p=>Own.below h p lR) (Ae))))))))))) ?_ ?_
  ·refine gB ?_ (gQ ?_ (gB ?_ (gQ ?_ (gB ?_ (gB ?_ (gB ?_ (gB ?_ (gB ?_ (gB ?_ .nil)))))))));all_goals
    intro a z l ho N;refine⟨rfl,?_⟩;intro K A;try have P1:a.tmps[1]?.getD undef=.int .i64 (x:Nat):=ho 1 (by kernel_rfl)
    try have P7:a.tmps[7]?.getD undef=.pointer (some ⟨w.heap.size,0,none⟩):=ho 7 (by kernel_rfl)
    try have E0:=eqn N.1
    try have D0:IntKind.u64.wrap ((m:Int))=(m:Int):=by rw[IntKind.wrap_u64];omega
    try(refine Hd ?_;go_simp;exact A _ rfl)
   ·
    go_simp;exact A _ _ (Own.full (B:=j.heap.size) (cs:=#[.int .u8 1]) rfl (l.size) (by unfold maxLen;simp) rfl) (bR.alloc lR _)
   ·have bG:(x:Int)/2=(m:Int):=hq;have T:IntKind.i64.wrap ((m:Int))=(m:Int):=(by rw[IntKind.wrap_i64];omega);have aK:(x:Int)/2=(m:Int):=(by omega);have bH:IntKind.i64.wrap ((x:Int)/2)=(m:Int):=(by rw[aK];exact T);have aN:fE ((x:Int)) 2=(m:Int):=(by rw[fF (by omega)];omega);have bB:IntKind.i64.wrap (fE ((x:Int)) 2)=(m:Int):=(by rw[aN];exact T);go_simp;exact A _ _ rfl bR
   ·go_simp;refine(Z.out z).mono ?_;rintro e w2 ⟨v9,rfl,g,k⟩;exact A _ _ (g.mono l.size) k
   ·have C:Own z j.heap.size 5 (a.tmps[24]?.getD undef) (bvs [1]):=N.1;obtain⟨Y,i⟩:=eX (a.tmps[24]?.getD undef);rw[←i]at C;have e0:=i.symm;clear i;have U:Own z j.heap.size 5 (a.tmps[28]?.getD undef) (bvs (beN 4 m)):=N.2.1;obtain⟨v1,o⟩:=eX (a.tmps[28]?.getD undef);rw[←o]at U;have R:=o.symm;clear o;go_simp;refine(Eh Y v1 [1] (beN 4 m) z C.rd U.rd (by rw[beN_len];simp)).mono ?_;rintro e w2 ⟨v9,rfl,g,k⟩;exact A _ _ (g.mono l.size) k
   ·exact wp_load_row 52 (.tmp 7) rfl _ (evs P7) _ _ (0,0) _ (H.out.below l H.out.lt) Tryz.underlying52 rfl (aC.out) (A _ _ rfl bR)
   ·go_simp;refine(P.out z l).mono ?_;rintro e w2 ⟨v9,rfl,g,k⟩;exact A _ _ (g.mono l.size) k
   ·have C:Own z j.heap.size 5 (a.tmps[29]?.getD undef) (bvs ([1]++beN 4 m)):=N.1;obtain⟨Y,i⟩:=eX (a.tmps[29]?.getD undef);rw[←i]at C;have e0:=i.symm;clear i;have U:Own z j.heap.size 5 (a.tmps[31]?.getD undef) (bvs E):=N.2.1;obtain⟨v1,o⟩:=eX (a.tmps[31]?.getD undef);rw[←o]at U;have R:=o.symm;clear o;go_simp;refine(Eh Y v1 ([1]++beN 4 m) E z C.rd U.rd Q.out).mono ?_;rintro e w2 ⟨v9,rfl,g,k⟩;exact A _ _ (g.mono l.size) k
   ·have C:Own z j.heap.size 5 (a.tmps[32]?.getD undef) (bvs (([1]++beN 4 m)++E)):=N.1;obtain⟨Y,i⟩:=eX (a.tmps[32]?.getD undef);rw[←i]at C;have e0:=i.symm;clear i;go_simp;exact A _ _ C bR
  ·rintro f w9 r G;have r:Below j.heap.size j w9:=r;have S6:Own w9 j.heap.size 5 (f 6) (bvs (([1]++beN 4 m)++E)):=G.2.2.2.2.2.2.2.2.2.1;clear G;simp only[Aj,Aq,Dr,cZ,dA,dB,dC,Nat.reduceBEq,Nat.reduceAdd,Bool.or_false,Bool.or_true,cond_true,cond_false];obtain⟨u6,S⟩:=eX (f 6);rw[←S]at S6⊢;clear S;have HO:=Hd S6;have aG:=Hd r;clear S6 r;go_wp2_with fail;go_ret;exact⟨_,rfl,by have:=HO.out.mono J.out.size;rw[aF.out]at this;exact this,J.out.trans (aG.out.mono J.out.size)⟩
 |false=>
  have HA:=Hd (fun(W:World) (X:Below w.heap.size w W)=>by have:=aL.out W X;rw[hmem]at this;exact this);have O:D=nd t x:=(by rw[aT.out,if_neg (of_decide_eq_false hmem)]);have q:=Hd O;clear hmem O;go_enter Tryz.func86,Tryz.ntmps86;go_wp2_with (refine wpList_load_mid rfl 52 (.tmp 14) rfl b (a9+x*10) rfl [.int .u8 (kd:Nat),.slice a1 l1 c1,.slice a2 l2 c2,.slice a3 l3 c3,.int .u8 (s:Nat),.slice a4 l4 c4,.slice a5 l5 c5,.slice b1 l6 R,.slice b2 l7 e2,.slice b3 l8 e3] _ aY.out Tryz.underlying52 rfl Ak ?_);refine(HA.out _ (bR.alloc lR _)).mono ?_;rintro e w1 ⟨rfl,rfl⟩;go_wp2_with fail;have M:=Hd (show NodeC (w.alloc (.cells #[.int .u8 (kd:Nat),.slice a1 l1 c1,.slice a2 l2 c2,.slice a3 l3 c3,.int .u8 (s:Nat),.slice a4 l4 c4,.slice a5 l5 c5,.slice b1 l6 R,.slice b2 l7 e2,.slice b3 l8 e3] 52)) D #[.int .u8 (kd:Nat),.slice a1 l1 c1,.slice a2 l2 c2,.slice a3 l3 c3,.int .u8 (s:Nat),.slice a4 l4 c4,.slice a5 l5 c5,.slice b1 l6 R,.slice b2 l7 e2,.slice b3 l8 e3]from by rw[q.out];exact a6.out.alloc _);obtain⟨j,u⟩:=eX (w.alloc (.cells #[.int .u8 (kd:Nat),.slice a1 l1 c1,.slice a2 l2 c2,.slice a3 l3 c3,.int .u8 (s:Nat),.slice a4 l4 c4,.slice a5 l5 c5,.slice b1 l6 R,.slice b2 l7 e2,.slice b3 l8 e3] 52));have H:=Hd (show Blk j w.heap.size 52 #[.int .u8 (kd:Nat),.slice a1 l1 c1,.slice a2 l2 c2,.slice a3 l3 c3,.int .u8 (s:Nat),.slice a4 l4 c4,.slice a5 l5 c5,.slice b1 l6 R,.slice b2 l7 e2,.slice b3 l8 e3] by rw[u];exact Blk.new w _ _);have J:=Hd (show Below w.heap.size w j by rw[u];exact bR.alloc lR _);rw[←u]at M⊢;obtain⟨V,I⟩:=eX ((#[.int .u8 (kd:Nat),.slice a1 l1 c1,.slice a2 l2 c2,.slice a3 l3 c3,.int .u8 (s:Nat),.slice a4 l4 c4,.slice a5 l5 c5,.slice b1 l6 R,.slice b2 l7 e2,.slice b3 l8 e3]:Array Value));rw[←I]at M H;have aC:=Hd (show(Tryz.prog.info? 52).map (·.size)=some V.size by rw[I];exact Ak);have P:=Hd (fun(W:World) (X:Below j.heap.size j W)=>Ih D V W (M.out.below X lR) (by rw[q.out];exact bE.out) (by rw[q.out];exact aU.out) (fun e=>absurd e (by rw[q.out];exact bD.out)));have F:=Cx (d:=D) (by rw[q.out];exact aU.out);obtain⟨E,L⟩:=eX (Bc D);rw[←L]at P F;have aF:=Hd L;have Q:=Hd (show([1]++beN 4 m).length+E.length<1000000000 by rw[aI,beN_len];simp only[cB,bW];omega);clear u I F L;refine Cb [fun v w'=>Own w' j.heap.size 5 v (bvs [1]),eF (.int .i64 (x:Nat)),eF (.int .i64 (m:Nat)),eF (.int .u64 (m:Nat)),fun v w'=>Own w' j.heap.size 5 v (bvs (beN 4 m)),fun v w'=>Own w' j.heap.size 5 v (bvs ([1]++beN 4 m)),eF (.agg V),fun v w'=>Own w' j.heap.size 5 v (bvs E),fun v w'=>Own w' j.heap.size 5 v (bvs (([1]++beN 4 m)++E)),fun v w'=>Own w' j.heap.size 5 v (bvs (([1]++beN 4 m)++E))] (by kernel_rfl) (by kernel_rfl) (by kernel_rfl) (Ah (fun v x y h _ p=>Own.below h p lR) (kE (kE (kE (Ah (fun v x y h _ p=>Own.below h p lR) (Ah (fun v x y h _ p=>Own.below h p lR) (kE (Ah (fun v x y h _ p=>Own.below h p lR) (Ah (fun v x y h _ p=>Own.below h p lR) (Ah (fun v x y h _ p=>Own.below h p lR) (Ae))))))))))) ?_ ?_
  ·refine gB ?_ (gQ ?_ (gB ?_ (gQ ?_ (gB ?_ (gB ?_ (gB ?_ (gB ?_ (gB ?_ (gB ?_ .nil)))))))));all_goals
    intro a z l ho N;refine⟨rfl,?_⟩;intro K A;try have P1:a.tmps[1]?.getD undef=.int .i64 (x:Nat):=ho 1 (by kernel_rfl)
    try have P7:a.tmps[7]?.getD undef=.pointer (some ⟨w.heap.size,0,none⟩):=ho 7 (by kernel_rfl)
    try have E0:=eqn N.1
    try have D0:IntKind.u64.wrap ((m:Int))=(m:Int):=by rw[IntKind.wrap_u64];omega
    try(refine Hd ?_;go_simp;exact A _ rfl)
   ·
    go_simp;exact A _ _ (Own.full (B:=j.heap.size) (cs:=#[.int .u8 1]) rfl (l.size) (by unfold maxLen;simp) rfl) (bR.alloc lR _)
   ·have bG:(x:Int)/2=(m:Int):=hq;have T:IntKind.i64.wrap ((m:Int))=(m:Int):=(by rw[IntKind.wrap_i64];omega);have aK:(x:Int)/2=(m:Int):=(by omega);have bH:IntKind.i64.wrap ((x:Int)/2)=(m:Int):=(by rw[aK];exact T);have aN:fE ((x:Int)) 2=(m:Int):=(by rw[fF (by omega)];omega);have bB:IntKind.i64.wrap (fE ((x:Int)) 2)=(m:Int):=(by rw[aN];exact T);go_simp;exact A _ _ rfl bR
   ·go_simp;refine(Z.out z).mono ?_;rintro e w2 ⟨v9,rfl,g,k⟩;exact A _ _ (g.mono l.size) k
   ·have C:Own z j.heap.size 5 (a.tmps[24]?.getD undef) (bvs [1]):=N.1;obtain⟨Y,i⟩:=eX (a.tmps[24]?.getD undef);rw[←i]at C;have e0:=i.symm;clear i;have U:Own z j.heap.size 5 (a.tmps[28]?.getD undef) (bvs (beN 4 m)):=N.2.1;obtain⟨v1,o⟩:=eX (a.tmps[28]?.getD undef);rw[←o]at U;have R:=o.symm;clear o;go_simp;refine(Eh Y v1 [1] (beN 4 m) z C.rd U.rd (by rw[beN_len];simp)).mono ?_;rintro e w2 ⟨v9,rfl,g,k⟩;exact A _ _ (g.mono l.size) k
   ·exact wp_load_row 52 (.tmp 7) rfl _ (evs P7) _ _ (0,0) _ (H.out.below l H.out.lt) Tryz.underlying52 rfl (aC.out) (A _ _ rfl bR)
   ·go_simp;refine(P.out z l).mono ?_;rintro e w2 ⟨v9,rfl,g,k⟩;exact A _ _ (g.mono l.size) k
   ·have C:Own z j.heap.size 5 (a.tmps[29]?.getD undef) (bvs ([1]++beN 4 m)):=N.1;obtain⟨Y,i⟩:=eX (a.tmps[29]?.getD undef);rw[←i]at C;have e0:=i.symm;clear i;have U:Own z j.heap.size 5 (a.tmps[31]?.getD undef) (bvs E):=N.2.1;obtain⟨v1,o⟩:=eX (a.tmps[31]?.getD undef);rw[←o]at U;have R:=o.symm;clear o;go_simp;refine(Eh Y v1 ([1]++beN 4 m) E z C.rd U.rd Q.out).mono ?_;rintro e w2 ⟨v9,rfl,g,k⟩;exact A _ _ (g.mono l.size) k
   ·have C:Own z j.heap.size 5 (a.tmps[32]?.getD undef) (bvs (([1]++beN 4 m)++E)):=N.1;obtain⟨Y,i⟩:=eX (a.tmps[32]?.getD undef);rw[←i]at C;have e0:=i.symm;clear i;go_simp;exact A _ _ C bR
  ·rintro f w9 r G;have r:Below j.heap.size j w9:=r;have S6:Own w9 j.heap.size 5 (f 6) (bvs (([1]++beN 4 m)++E)):=G.2.2.2.2.2.2.2.2.2.1;clear G;simp only[Aj,Aq,Dr,cZ,dA,dB,dC,Nat.reduceBEq,Nat.reduceAdd,Bool.or_false,Bool.or_true,cond_true,cond_false];obtain⟨u6,S⟩:=eX (f 6);rw[←S]at S6⊢;clear S;have HO:=Hd S6;have aG:=Hd r;clear S6 r;go_wp2_with fail;go_ret;exact⟨_,rfl,by have:=HO.out.mono J.out.size;rw[aF.out]at this;exact this,J.out.trans (aG.out.mono J.out.size)⟩
def Ri (ps:List Int)(u:Int):Bool:=decide (u∉ps)
theorem Zdr {ps:List Int} {u:Int}(h:u∉ps):Ri ps u=true:=decide_eq_true h
theorem Zhq {ps:List Int} {u:Int}(h:u∈ps):¬Ri ps u=true:=by unfold Ri;simp[h]
theorem Lt (L:List Int)(p:Int→Bool) {i:Nat}(h:i<L.length):(L.take (i+1)).filter p=(L.take i).filter p++(if p (L.getD i 0)=true then [L.getD i 0]else []):=by
 rw[List.take_succ_eq_append_getElem h,List.filter_append]
 congr 1
 rw[aJ,aK h,List.filter_cons];simp
theorem Za9 (t:List NodeD)(f:List Int)(hs:Bg t=true)(b5:TreeOk t)(hp:Be t=true)(k:Nat)(IH:Zdq t f k):Yt t f (k+1):=by
 intro x v vp w h F A hx;have E:=Fv A;have bS:=Bo hs;have cQ:2^(k+1)=2*2^k:=(by rw[Nat.pow_succ];omega);have c8:0<2^k:=Nat.pos_of_ne_zero (by simp);have b7:x<t.length:=(by omega);obtain⟨bL,bK,aE,aD,c9⟩:=kids_lev (by omega) A;have KD:=fun(W:World)=>Yn (x:Int) W;rw[bL,bK]at KD;obtain⟨a,c,rfl,hc,dP⟩:=h.sl;obtain⟨b,dI,cs,rfl,dR,bN,aR⟩:=h.node b7;have HL:=Hd (fun(W:World) (g:Below w.heap.size w W)=>IH (x-2^k) _ vp W (h.below g lR) (F.below g lR) aE (by omega));have HR:=Hd (fun(W:World) (g:Below w.heap.size w W)=>IH (x+2^k) _ vp W (h.below g lR) (F.below g lR) aD (by omega));obtain⟨n,hn⟩:=eX t.length;rw[←hn]at HL HR hc bS b7⊢;have bT:(nd t x).kind≠1:=(by have:=(Df hp (x:=x) (by omega)).1;rwa [Gn E]at this);have bY:=(Df hp (x:=x) (by omega)).2;have aV:∀u∈(woD t f x).par.late,0≤u∧u<65536:=by
  rw[Wa E];intro u hu;exact Gc (Db bY) u (List.mem_filter.1 hu).1
 have aK:NodeOk (woD t f x):=by
  have:=b5.nd x;rw[Wa E];exact⟨this.kind,this.source,this.box,this.sign,this.ident,this.par,this.sig,this.pbox,this.hash,fun u hu=>this.late u (List.mem_filter.1 hu).1⟩
 have aA:=Nj hs f x;have HT:=Hd (Ct (woD t f) k x);obtain⟨H1,X⟩:=eX (Cj (woD t f) k (x-2^k));obtain⟨H2,Y⟩:=eX (Cj (woD t f) k (x+2^k));have aF:H1.length=32:=(by rw[X];exact Bs _ _ _);have aG:H2.length=32:=(by rw[Y];exact Bs _ _ _);rw[←X,←Y]at HT;rw[←X]at HL;rw[←Y]at HR;obtain⟨xl,bV⟩:=eX (x-2^k);obtain⟨xr,cI⟩:=eX (x+2^k);rw[←bV]at HL KD;rw[←cI]at HR KD;have dH:=Hd KD;obtain⟨D,hD⟩:=eX (woD t f x);have bF:D=⟨(nd t x).kind,(nd t x).leaf,⟨(nd t x).par.box,(nd t x).par.hash,(nd t x).par.late.filter (Ri f)⟩⟩:=(by rw[hD,Wa E];rfl);rw[←hD]at HT aV aK aA;rw[HT.out];have J:=Cx aA;have hm:(x:Int)%2=1:=(by omega);obtain⟨a1,c1,a2,c2,a3,c3,a4,c4,a5,c5,b1,e1,b2,e2,b3,e3,U,h1,h2,h3,h4,h5,h6,h7,h8⟩:=id bN
 -- the late ones
 obtain⟨m,O⟩:=eX ((nd t x).par.late);have cL:m.length≤60:=(by have:=of_decide_eq_true (Ju hs x);rw[O];omega);rw[←O]at h8 bF
 -- behind the loop the node's cells are those of D
 have aU:=fun(W:World) (z1:Option Addr) (z2 z3:Nat) (g:Below w.heap.size w W) (hz:Rd W (.slice z1 z2 z3) (ivs .i64 (m.filter (Ri f))))=>
  (show NodeC W D #[.int .u8 ((nd t x).kind:Nat),.slice a1 (nd t x).leaf.box.length c1,.slice a2 (nd t x).leaf.sign.length c2,.slice a3 (nd t x).leaf.ident.length c3,.int .u8 ((nd t x).leaf.source:Nat),.slice a4 (nd t x).leaf.par.length c4,.slice a5 (nd t x).leaf.sig.length c5,.slice b1 (nd t x).par.box.length e1,.slice b2 (nd t x).par.hash.length e2,.slice z1 z2 z3] by
   have cV:z2=(m.filter (Ri f)).length:=by
    obtain⟨_,_,e,_⟩:=hz;simp only[Value.slice.injEq]at e;rw[e.2.1];simp[ivs]
   subst cV;rw[bF];exact⟨a1,c1,a2,c2,a3,c3,a4,c4,a5,c5,b1,e1,b2,e2,z1,z3,rfl,h1.below g lR,h2.below g lR,h3.below g lR,h4.below g lR,h5.below g lR,h6.below g lR,h7.below g lR,hz⟩)
 obtain⟨kd,bG⟩:=eX ((nd t x).kind);obtain⟨l1,aP⟩:=eX ((nd t x).leaf.box.length);obtain⟨l2,bH⟩:=eX ((nd t x).leaf.sign.length);obtain⟨l3,bA⟩:=eX ((nd t x).leaf.ident.length);obtain⟨l4,aL⟩:=eX ((nd t x).leaf.par.length);obtain⟨l5,a9⟩:=eX ((nd t x).leaf.sig.length);obtain⟨l6,a7⟩:=eX ((nd t x).par.box.length);obtain⟨l7,aZ⟩:=eX ((nd t x).par.hash.length);obtain⟨o,Z⟩:=eX m.length;obtain⟨s,B⟩:=eX ((nd t x).leaf.source);rw[←O]at U;rw[←Z]at h8;rw[←bG,←aP,←bH,←bA,←aL,←a9,←a7,←aZ,←Z,←B]at U;rw[←bG,←aP,←bH,←bA,←aL,←a9,←a7,←aZ,←B]at aU;have bU:=Hd aU;have dL:o≤60:=(by omega);rw[U]at aR;have cZ:=Hd aR;have cX:=Hd (fun(u:Int) (W:World) (g:Below w.heap.size w W)=>Tu vp f u W (F.below g lR));have dC:=Hd h8;have bI:=Hd Z;have b0:=Hd (fun(CS:Array Value) (W:World) (g:NodeC W D CS)=>Ih D CS W g aK aA (fun _=>aV));obtain⟨NB,b4⟩:=eX (Bc D);rw[←b4]at b0 J⊢;have aH:=Hd J;have a0:=Hd aF;have aM:=Hd aG;obtain⟨dQ,bP⟩:∃l,l≤e3∧l=o:=⟨o,by have:=(Gi h8).1;exact this,rfl⟩;have dK:o≤e3:=(Gi h8).1;have dN:e3≤9223372036854775807:=(Gi h8).2;obtain⟨pa,pn,pc,rfl⟩:∃a n c,vp=.slice a n c:=(by obtain⟨a,c,e,_⟩:=F;exact⟨_,_,_,e⟩);clear bP aU bN h1 h2 h3 h4 h5 h6 h7 h8 U aR bG aP bH bA aL a9 a7 aZ Z B O bF hD b4 J X Y aF aG bV cI KD F h b5 hs hp hn IH A hx cQ c8 bL bK aE aD c9 bT bY aV aK aA E cL;go_enter Tryz.func86,Tryz.ntmps86;go_wp2_with (refine wpList_load_mid rfl 52 (.tmp 14) rfl b (dI+x*10) rfl [.int .u8 (kd:Nat),.slice a1 l1 c1,.slice a2 l2 c2,.slice a3 l3 c3,.int .u8 (s:Nat),.slice a4 l4 c4,.slice a5 l5 c5,.slice b1 l6 e1,.slice b2 l7 e2,.slice b3 o e3] _ cZ.out Tryz.underlying52 rfl Ak ?_);obtain⟨wz,V⟩:=eX (w.alloc (.cells #[.int .u8 (kd:Nat),.slice a1 l1 c1,.slice a2 l2 c2,.slice a3 l3 c3,.int .u8 (s:Nat),.slice a4 l4 c4,.slice a5 l5 c5,.slice b1 l6 e1,.slice b2 l7 e2,.slice b3 o e3] 52));have R:=Hd (show Blk wz w.heap.size 52 #[.int .u8 (kd:Nat),.slice a1 l1 c1,.slice a2 l2 c2,.slice a3 l3 c3,.int .u8 (s:Nat),.slice a4 l4 c4,.slice a5 l5 c5,.slice b1 l6 e1,.slice b2 l7 e2,.slice b3 o e3] by rw[V];exact Blk.new w _ _);have bZ:=Hd (show Below w.heap.size w wz by rw[V];exact bR.alloc lR _);have I:w.heap.size<wz.heap.size:=R.out.lt;rw[←V];clear V
 go_loopg [8,9] o (fun q lv iv wr=>∃i:Nat,i+q=o∧iv=.int .i64 (i:Nat)∧Own wr wz.heap.size 3 lv (ivs .i64 ((m.take i).filter (Ri f)))∧Below wz.heap.size wz wr)
 case atStart=>exact⟨0,by omega,rfl,Own.nil _ _ _,bR⟩
 case round=>
  obtain⟨i,hi,rfl,d,T⟩:=hrel;have HI:=Hd hi;have HO:=Hd d;have HB:=Hd T;have bE:=Hd (bZ.out.trans (T.mono bZ.out.size));obtain⟨v1,v2,v3,rfl⟩:=Ey d;have k9:wr.cell? ⟨w.heap.size,9,none⟩=some (.slice b3 o e3):=(R.out.below T I).cell 9;have c0:w.heap.size<wr.heap.size:=Nat.lt_of_lt_of_le I T.size
  by_cases hlt:i<o
  ·have bO:decide (i<o)=true:=decide_eq_true hlt;have dO:(i:Int)<(o:Int):=(by omega);obtain⟨lb,lo,c7,dM,bC⟩:=(dC.out.below bE.out lR).at3 (r:=i) (u:=.int .i64 (m.getD i 0)) (by simp[ivs,aJ,show i<m.length by have:=bI.out;omega]);have a8:=Hd (Lt m (Ri f) (show i<m.length by have:=bI.out;omega));obtain⟨u,hu⟩:=eX (m.getD i 0);rw[←hu]at bC a8;subst c7;have HA:=cX.out u wr bE.out;cases hmem:decide (u∈f)with
   |true=>
    rw[hmem]at HA;have a6:=Hd HA;have HM:=Hd (of_decide_eq_true hmem);clear hi d T hu HA hmem;go_wp2_with fail;refine(a6.out).mono ?_;rintro e w1 ⟨rfl,rfl⟩;go_wp2_with fail;go_roundg (gk-1);case measure=>have:=HI.out;omega
    case rel=>
     refine⟨i+1,by have:=HI.out;omega,by go_num,?_,HB.out⟩;rw[a8.out,if_neg (Zhq HM.out),List.append_nil];exact HO.out
   |false=>
    rw[hmem]at HA;have a6:=Hd HA;have HM:=Hd (of_decide_eq_false hmem);clear hi d T hu HA hmem;go_wp2_with fail;refine(a6.out).mono ?_;rintro e w1 ⟨rfl,rfl⟩;go_wp2_with (at_builtin;refine Dj rfl (.tmp 50) (.tmp 57) 48 rfl wz.heap.size 3 _ 8 Qu _ _ rfl (HO.out.alloc _) ⟨w1.heap.size,0,none⟩ (.int .i64 u) rfl ?c1 rfl ?c2 ?c3 ?_);case c1=>exact Bz rfl
    case c2=>have:=fD (Ri f) (m.take i);have h2:=List.length_take_le i m;rw[Zj8];omega
    case c3=>have:=HB.out.size;simp;omega
    rintro v' w2 j dA cJ;clear dA;have dE:=Hd j;have dF:=Hd ((HB.out.alloc HB.out.size (.cells #[.int .i64 u] 3)).trans cJ);obtain⟨y1,y2,y3,rfl⟩:=Ey j;clear j cJ;go_wp2_with fail;go_roundg (gk-1);case measure=>have:=HI.out;omega
    case rel=>
     refine⟨i+1,by have:=HI.out;omega,by go_num,?_,dF.out⟩;rw[a8.out,if_pos (Zdr HM.out),Qx];exact dE.out
  ·obtain rfl:i=o:=(by omega);have bO:decide (i<i)=false:=decide_eq_false hlt;have bX:m.take i=m:=List.take_of_length_le (by have:=bI.out;omega);rw[bX]at HO;have kf:wr.frozen? ⟨w.heap.size,9,none⟩=false:=(R.out.below T I).frozen 9;have N:=Hd ((R.out.below T I).set 9 (.slice v1 v2 v3));clear hi d T hlt bX;have P:=Hd (show Below w.heap.size w (wr.setCell ⟨w.heap.size,9,none⟩ (.slice v1 v2 v3))from bE.out.setCell (p:=⟨w.heap.size,9,none⟩) lR _);have aN:=Hd (HO.out.setLow (p:=⟨w.heap.size,9,none⟩) I (.slice v1 v2 v3));obtain⟨ws,bB⟩:=eX (wr.setCell ⟨w.heap.size,9,none⟩ (.slice v1 v2 v3));rw[←bB]at N P aN;have aC:=Hd (show Blk ws w.heap.size 52 #[.int .u8 (kd:Nat),.slice a1 l1 c1,.slice a2 l2 c2,.slice a3 l3 c3,.int .u8 (s:Nat),.slice a4 l4 c4,.slice a5 l5 c5,.slice b1 l6 e1,.slice b2 l7 e2,.slice v1 v2 v3]from N.out);have cG:w.heap.size<ws.heap.size:=N.out.lt;clear N HO;go_wp2_with fail;rw[←bB];clear bB k9 kf c0;refine(dH.out _).mono ?_;rintro e w2 ⟨rfl,Q⟩;have dJ:=Hd (aC.out.below Q cG);have cK:=Hd (P.out.trans (Q.mono P.out.size));have cW:=Hd ((aN.out.below Q lR).rd);have cO:=Hd (show Rd (w2.alloc (.cells #[.int .u8 2] 5)) (.slice (some ⟨w2.heap.size,0,none⟩) 1 1) (bvs [2])from Rd.lit _ _ _ _ _ rfl rfl (by unfold maxLen;simp));have aT:=Hd (cK.out.alloc cK.out.size (.cells #[.int .u8 2] 5));have dG:=Hd (bU.out (w2.alloc (.cells #[.int .u8 2] 5)) v1 v2 v3 aT.out (cW.out.alloc _));clear Q aN aC P;go_wp2_with (refine wpList_load_row rfl 52 (.tmp 7) rfl w.heap.size rfl 52 #[.int .u8 (kd:Nat),.slice a1 l1 c1,.slice a2 l2 c2,.slice a3 l3 c3,.int .u8 (s:Nat),.slice a4 l4 c4,.slice a5 l5 c5,.slice b1 l6 e1,.slice b2 l7 e2,.slice v1 v2 v3] (0,0) _ (dJ.out.alloc _) Tryz.underlying52 rfl Ak ?_);refine(b0.out _ _ dG.out).mono ?_;rintro e w4 ⟨u4,rfl,M,aQ⟩;have b6:=Hd (aT.out.trans (aQ.mono aT.out.size));have cD:=Hd M.rd;have dB:=Hd (cO.out.below aQ lR);clear M aQ;obtain⟨x1,x2,x3,rfl⟩:=rdS cD.out;go_wp2_with fail;refine(Eh _ _ [2] NB w4 dB.out cD.out (by have:=aH.out;simp only[cB,bW];omega)).mono ?_;rintro e w5 ⟨u5,rfl,K,cF⟩;have aX:=Hd (b6.out.trans (cF.mono b6.out.size));have cA:=Hd K.rd;clear K cF;obtain⟨x4,x5,x6,rfl⟩:=rdS cA.out;go_wp2_with fail;refine(HL.out w5 aX.out).mono ?_;rintro e w6 ⟨u6,rfl,H,bD⟩;have cE:=Hd (aX.out.trans (bD.mono aX.out.size));have bM:=Hd H.rd;have cT:=Hd (cA.out.below bD lR);clear H bD;obtain⟨x7,x8,x9,rfl⟩:=rdS bM.out;go_wp2_with fail;refine(Dg _ H1 w6 bM.out (by have:=a0.out;omega)).mono ?_;rintro e w7 ⟨u7,rfl,L,aW⟩;have aS:=Hd (cE.out.trans (aW.mono cE.out.size));have cH:=Hd L.rd;have cN:=Hd (cT.out.below aW lR);clear L aW;obtain⟨y1,y2,y3,rfl⟩:=rdS cH.out;go_wp2_with fail;refine(HR.out w7 aS.out).mono ?_;rintro e w8 ⟨u8,rfl,G,aB⟩;have b9:=Hd (aS.out.trans (aB.mono aS.out.size));have b8:=Hd G.rd;have cY:=Hd (cH.out.below aB lR);have c6:=Hd (cN.out.below aB lR);clear G aB;obtain⟨y4,y5,y6,rfl⟩:=rdS b8.out;go_wp2_with fail;refine(Dg _ H2 w8 b8.out (by have:=aM.out;omega)).mono ?_;rintro e w9 ⟨u9,rfl,z,S⟩;have bJ:=Hd (b9.out.trans (S.mono b9.out.size));have cC:=Hd z.rd;have dD:=Hd (cY.out.below S lR);have cS:=Hd (c6.out.below S lR);clear z S;obtain⟨y7,y8,y9,rfl⟩:=rdS cC.out;go_wp2_with fail;refine(Eh _ _ (Av H1) (Av H2) w9 dD.out cC.out (by have:=Pk a0.out;have:=Pk aM.out;omega)).mono ?_;rintro e wA ⟨uA,rfl,C,aO⟩;have aY:=Hd (bJ.out.trans (aO.mono bJ.out.size));have cM:=Hd C.rd;have cR:=Hd (cS.out.below aO lR);clear C aO;obtain⟨z1,z2,z3,rfl⟩:=rdS cM.out;go_wp2_with fail;refine(Eh _ _ ([2]++NB) (Av H1++Av H2) wA cR.out cM.out (by have:=Pk a0.out;have:=Pk aM.out;have:=aH.out;simp only[aI,cB,bW];omega)).mono ?_;rintro e wB ⟨uB,rfl,y,bQ⟩;have cP:=Hd (aY.out.trans (bQ.mono aY.out.size));have cU:=Hd (y.mono aY.out.size);clear y bQ;go_wp2_with fail;go_ret;exact⟨_,rfl,cU.out,cP.out⟩
end Go.Proofs.YtfofaiommeckbaaGreat
