import Derived.Deep.RegionLaw
import Derived.Test.YtfofaiommeckbaaGreatZSliceProves21
import Derived.ArgAppend
import Derived.Test.YtfofaiommeckbaaGreatZSliceProves24
open Go.Value renaming slice → q9, int → rA, pointer → rB
open Option renaming none → rF
open Nat renaming mul_le_mul_left → aC, pow_succ → aN, pos_of_ne_zero → aP, lt_of_lt_of_le → dS, le_of_lt → dW
open List renaming mem_flatten → eW, mem_map → eJ, mem_cons → aE, mem_append → eY, not_mem_nil → eZ
open Array renaming getElem?_setIfInBounds → cU, length_toList → fA
set_option linter.unusedVariables false
set_option maxRecDepth 100000
set_option maxHeartbeats 40000000
namespace Go.Proofs.YtfofaiommeckbaaGreat
open Go.RowKit
def Si (w:World)(v v':Value):Prop:=v'.ownBlock=v.ownBlock∨∃g,v'.ownBlock=some g∧w.heap.size≤g
theorem Sj {P:Program} {w:World} {o:Oper} {a:Act} {K:Act→World→Prop} {Q:Exit→Act→World→Prop} (s x:Operand) (t:TypeId)
  (X:o.op=.call {callee:=.builtin .append,args:=#[s,x],argTypes:=#[t,t]})
  (B:Nat) (e:TypeId) (z:Value) (f:Nat) (F:Elem P t e z f)
  (v:Value) (xs:List Value) (W:a.eval s=v) (d:Own w B e v xs)
  (r:Value) (c:List Value) (hx:a.eval x=r) (n:Rd w r c) (h1:∀u∈c,u.oneCell'=true)
  (hn:xs.length+c.length<1099511627776) (V:B≤w.heap.size)
  (h:∀A w',Own w' B e A (xs++c)→w.grownBy w' v.ownBlock→Below B w w'→Si w v A→K (a.put o.dst A) w'):o.wp P a w K Q:=by
 obtain⟨i,G,R,l,q⟩:=info_parts F.inf;have low:=F.low;have Y:(xs.length+c.length)*f≤(xs.length+c.length)*64:=aC _ low;have L:c.length*f≤c.length*64:=aC _ low;have E:∀(m:Addr) cap,r=.slice (some m) c.length cap→(∀(j:Nat) u,c[j]? =some u→w.cell? (m.add j)=some u)→o.wp P a w K Q:=by
  intro m cap hv C;subst hv;obtain⟨A,w',n,h2,h3,h4⟩:=run_append_own (P:=P) w B t o.type e i z 1 f F.ty G R l q F.one (by omega) v xs.length xs d m c.length cap c (by omega) C h1 (by unfold maxLen;omega) (by omega) V;have M:Si w v A:=by
   have y:=d;obtain⟨hl,T⟩:=y;rcases T with⟨rfl,h0⟩|⟨g,N,U,rfl,aD,hg,Z,aA,O,J⟩
   ·by_cases hm:c.length=0
    ·rw[h4.2 ⟨rfl,hm⟩];exact .inl rfl
    ·have:=run_append_nil (P:=P) w t o.type e i z F.ty G R m c.length cap c (by rw[l];omega) C (by omega) (by omega) (by rw[q];omega);rw[this]at n;cases n;exact .inr ⟨w.heap.size,rfl,lR⟩
   ·by_cases hroom:xs.length+c.length≤N
    ·have:=run_append_room (P:=P) w t o.type e i F.ty G g xs.length N U hg m c.length cap c (by rw[l];omega) C h1 hroom (by rw[l,O];omega);rw[this]at n;cases n;exact .inl rfl
    ·have p:∀j u,xs[j]? =some u→w.cell? ((⟨g,0,rF⟩:Addr).add j)=some u:=World.ownsRow.cells (g:=g) d rfl;have:=run_append_grow (P:=P) w t o.type e i z F.ty G R ⟨g,0,rF⟩ xs.length N xs (by rw[l];omega) p m c.length cap c (by rw[l];omega) C (by omega) (by omega) (growslice_fits (by omega) (by rw[q];omega));rw[this]at n;cases n;exact .inr ⟨w.heap.size,rfl,lR⟩
  have e1:(xs++c).length=xs.length+c.length:=(by simp);have H:=h A w' (by unfold Own;rw[e1];exact h2) h3 ((Below.refl B w).grown h3 V (fun k hk=>(World.ownsRow.lt d k hk).1)) M;unfold Oper.wp execOp;simp only[X,resolve,invoke,builtin,Sem.run_bind,Sem.run_pure,Result.andThen_ok,List.map_toArray,List.map_cons,List.map_nil,W,hx,n];exact H
 obtain⟨m,cap,rfl,_,_,⟨rfl,D⟩|⟨b,aB,rfl,T⟩⟩:=n
 ·cases m with
  |none=>
   obtain rfl:=D rfl;have I:=run_append_owned_none (P:=P) (w:=w) B t o.type e i 1 F.ty G v xs.length xs d;unfold Oper.wp;have S:a.eval x=q9 rF 0 0:=hx;simp[execOp,X,resolve,invoke,builtin,W,S,I,Result.andThen];exact h v w (by simpa using d) ⟨rfl,rfl,rfl,lR,fun _ _ _=>rfl⟩ bR (.inl rfl)
  |some m=>exact E m cap rfl (by simp)
 ·exact E _ cap rfl (fun j u C=>by rw[Addr.add_lit];exact T j u C)
theorem Zed {P:Program} {w:World} {o:Oper} {a:Act} {K:Act→World→Prop} {Q:Exit→Act→World→Prop} (s x:Operand) (t:TypeId)
  (H:o.op=.call {callee:=.builtin .append,args:=#[s,x],argTypes:=#[t,t]})
  (B:Nat) (e:TypeId) (z:Value) (c:Nat) (F:Elem P t e z c)
  (v:Value) (xs:List Value) (E:a.eval s=v) (d:Own w B e v xs)
  (r:Value) (f:List Value) (hx:a.eval x=r) (O:Rd w r f) (h1:∀u∈f,u.oneCell'=true)
  (R:xs.length+f.length<1099511627776) (D:B≤w.heap.size)
  (h:∀p w',Own w' B e p (xs++f)→Below B w w'→K (a.put o.dst p) w'):o.wp P a w K Q:=by
 obtain⟨i,G,L,q,y⟩:=info_parts F.inf;have low:=F.low;have I:(xs.length+f.length)*c≤(xs.length+f.length)*64:=aC _ low;have m:∀(g:Addr) cap,r=.slice (some g) f.length cap→(∀(j:Nat) u,f[j]? =some u→w.cell? (g.add j)=some u)→o.wp P a w K Q:=by
  intro g cap N C;subst N;refine wp_append_own w s x t H B e i z 1 c F.ty G L q y F.one (by omega) v xs.length xs E d g f.length cap f hx (by omega) C h1 (by unfold maxLen;omega) (by omega) D ?_;intro p w' h2 h3 _;have e1:(xs++f).length=xs.length+f.length:=(by simp);refine h p w' (by unfold Own;rw[e1];exact h2) ?_;refine(Below.refl B w).grown h3 D ?_;intro k hk;exact(World.ownsRow.lt d k hk).1
 obtain⟨g,cap,rfl,_,_,⟨rfl,l⟩|⟨b,J,rfl,M⟩⟩:=O
 ·cases g with
  |none=>
   obtain rfl:=l rfl;have n:=run_append_owned_none (P:=P) (w:=w) B t o.type e i 1 F.ty G v xs.length xs d;unfold Oper.wp;have A:a.eval x=q9 rF 0 0:=hx;simp[execOp,H,resolve,invoke,builtin,E,A,n,Result.andThen];exact h v w (by simpa using d) bR
  |some g=>exact m g cap rfl (by simp)
 ·exact m _ cap rfl (fun j u C=>by rw[Addr.add_lit];exact M j u C)
theorem Zij {P:Program} {w:World} {ops:Array Oper} {o:Oper} {a:Act} {K:Act→World→Prop} {Q:Exit→Act→World→Prop} {E:Prop} (f:o.guard=none) (s x:Operand) (t:TypeId)
  (k:o.op=.call {callee:=.builtin .append,args:=#[s,x],argTypes:=#[t,t]})
  (B:Nat) (e:TypeId) (z:Value) (b:Nat) (F:Elem P t e z b)
  (v:Value) (xs:List Value) (j:a.eval s=v) (d:Own w B e v xs)
  (r:Value) (c:List Value) (hx:a.eval x=r) (l:Rd w r c) (h1:∀u∈c,u.oneCell'=true)
  (m:xs.length+c.length<1099511627776) (i:B≤w.heap.size)
  (h:∀v' w',Own w' B e v' (xs++c)→Below B w w'→K (a.put o.dst v') w'):if Region.wanted o (yielded ops a.tmps)=true then Oper.wp P o a w K Q else E:=by
 have g:Region.wanted o (yielded ops a.tmps)=true:=(by simp[Region.wanted,f]);rw[if_pos g];exact Zed s x t k B e z b F v xs j d r c hx l h1 m i h
open WireM
theorem Zk0:∀(l:List (List Nat)),(∀r∈l,r.length≤200)→(∀r∈l,∀x∈r,x<256)→∀x∈Pe l,x<256:=by
 intro l h1 h2 x hx;simp only[Pe,eW,eJ]at hx;obtain⟨y,⟨r,hr,rfl⟩,hx⟩:=hx;exact Gh (by have:=h1 r hr;omega) (h2 r hr) x hx
theorem Zik (L:List Int):∀x∈Ci L,x<256:=by
 intro x hx;simp only[Ci,eW,eJ]at hx;obtain⟨y,⟨z,_,rfl⟩,hx⟩:=hx;exact beN_lt _ _ x hx
theorem Nh {d:NodeD}(hk:NodeOk d)(b:Cd d=true):∀x∈Bm d,x<256:=by
 have c:=of_decide_eq_true b;have e:=Fn d.par.late;unfold Bm
 split
 ·intro x hx;rw[aE,eY]at hx;rcases hx with rfl|hx|hx
  ·omega
  ·rw[Kj,eY,eY]at hx;rcases hx with(hx|hx)|hx
   ·refine Zk0 _ ?_ ?_ x hx
    ·intro r a;simp at a;rcases a with rfl|rfl|rfl<;>omega
    ·intro r a;simp at a;rcases a with rfl|rfl|rfl
     ·exact hk.box
     ·exact hk.sign
     ·exact hk.ident
   ·rw[List.mem_singleton]at hx;have:=hk.source;omega
   ·split at hx
    ·exact Gh (by omega) hk.par x hx
    ·cases hx
  ·exact Gh (by omega) hk.sig x hx
 ·split
  ·intro x hx;rw[aE,Zgz,eY,eY]at hx;rcases hx with rfl|(hx|hx)|hx
   ·omega
   ·exact Gh (by omega) hk.pbox x hx
   ·exact Gh (by omega) hk.hash x hx
   ·exact Gh (by omega) (Zik _) x hx
  ·intro x hx;simp at hx;omega
open WalkM ShaM
theorem Zmp {t:List NodeD}(hok:TreeOk t)(ps:List Int)(x:Nat):NodeOk (woD t ps x):=by
 have h:=hok.nd x;unfold woD
 split
 ·split
  ·exact Gt
  ·exact h
 ·exact⟨h.kind,h.source,h.box,h.sign,h.ident,h.par,h.sig,h.pbox,h.hash,fun u hu=>h.late u (List.mem_filter.1 hu).1⟩
theorem Oj (t:Nat→NodeD)(hk:∀x,NodeOk (t x))(c:∀x,Cd (t x)=true)(k x:Nat):∀y∈Lt t k x,y<256:=by
 have b:=Nh (hk x) (c x);intro y a;cases k with
 |zero=>
  rw[Gw]at a;simp only[eY,aE,eZ,or_false]at a;rcases a with(rfl|a)|a
  ·omega
  ·exact beN_lt _ _ y a
  ·exact b y a
 |succ k=>
  rw[Gx]at a;simp only[eY,aE,eZ,or_false]at a;rcases a with(rfl|a)|a|a
  ·omega
  ·exact b y a
  ·exact Gh (by rw[Dy];omega) (Sg _ _ _) y a
  ·exact Gh (by rw[Dy];omega) (Sg _ _ _) y a
def Dz (u:Value)(g:Nat):Prop:=∀a m c,u=.slice (some a) m c→a.block≠g
theorem Zee {w:World} {B g:Nat} {e:TypeId} {v:Value} {xs:List Value}(h:Own w B e v xs)(hg:g<B):Dz v g:=by
 intro a m c e;rcases h.2 with⟨e2,_⟩|⟨g',cp,cur,e2,hb,_⟩
 ·rw[e2]at e;cases e
 ·rw[e2]at e;simp only[Value.slice.injEq,Option.some.injEq]at e;rw[←e.1];show g'≠g;omega
def AllR (w:World)(g n:Nat)(F:Nat→Option (List Nat)):Prop:=
 ∃cs:Array Value,Blk w g 28 cs∧cs.size=n∧∀y,y<n→∃u,cs[y]? =some u∧∀L,F y=some L→Rd w u (bvs L)∧Dz u g
theorem AllR.lt {w:World} {g n:Nat} {F:Nat→Option (List Nat)}(h:AllR w g n F):g<w.heap.size:=by
 obtain⟨cs,hb,_⟩:=h;exact hb.lt
theorem AllR.below {w w':World} {g n:Nat} {F:Nat→Option (List Nat)}(h:AllR w g n F)(hb:Below w.heap.size w w'):AllR w' g n F:=by
 obtain⟨cs,h1,h2,h3⟩:=h;refine⟨cs,h1.below hb h1.lt,h2,fun y hy=> ?_⟩;obtain⟨u,k1,k2⟩:=h3 y hy;exact⟨u,k1,fun L hL=>⟨(k2 L hL).1.below hb lR,(k2 L hL).2⟩⟩
theorem AllR.alloc {w:World} {g n:Nat} {F:Nat→Option (List Nat)}(h:AllR w g n F)(o:Obj):AllR (w.alloc o) g n F:=h.below (bR.alloc lR o)
theorem AllR.at {w:World} {g n:Nat} {F:Nat→Option (List Nat)}(h:AllR w g n F) {x:Nat}(hx:x<n):∃u,w.cell? ⟨g,x,rF⟩=some u∧w.frozen? ⟨g,x,rF⟩=false:=by
 obtain⟨cs,h1,h2,h3⟩:=h;obtain⟨u,k1,_⟩:=h3 x hx;exact⟨u,by rw[h1.cell];exact k1,h1.frozen x⟩
theorem AllR.row {w:World} {g n:Nat} {F:Nat→Option (List Nat)}(h:AllR w g n F) {x:Nat}(hx:x<n) {L:List Nat}(hL:F x=some L):∃u,w.cell? ⟨g,x,rF⟩=some u∧Rd w u (bvs L)∧Dz u g:=by
 obtain⟨cs,h1,h2,h3⟩:=h;obtain⟨u,k1,k2⟩:=h3 x hx;exact⟨u,by rw[h1.cell];exact k1,k2 L hL⟩
theorem AllR.set {w:World} {g n:Nat} {F:Nat→Option (List Nat)}(h:AllR w g n F) {x:Nat}(hx:x<n)(u:Value)(L:List Nat)(k:Rd w u (bvs L))(d:Dz u g):AllR (w.setCell ⟨g,x,rF⟩ u) g n (fun y=>if y=x then some L else F y):=by
 obtain⟨cs,h1,h2,h3⟩:=h;refine⟨_,h1.set x u,by rw[Array.size_setIfInBounds];exact h2,fun y f=> ?_⟩
 by_cases e:y=x
 ·subst e;refine⟨u,by rw[cU,if_pos rfl,if_pos (by omega)],fun b a=> ?_⟩;have a:(if y=y then some L else F y)=some b:=a;rw[if_pos rfl]at a;cases a;exact⟨k.onlyG (OnlyG.setCell y u) d,d⟩
 ·obtain⟨j,i,c⟩:=h3 y f;refine⟨j,by rw[cU,if_neg (fun h=>e h.symm)];exact i,fun b a=> ?_⟩;have a:(if y=x then some L else F y)=some b:=a;rw[if_neg e]at a;exact⟨(c b a).1.onlyG (OnlyG.setCell x u) (c b a).2,(c b a).2⟩
def Lu (T:Nat→NodeD)(F:Nat→Option (List Nat))(k x:Nat)(y:Nat):Option (List Nat):=if x+1≤y+2^k∧y<x+2^k then some (Fq T (lev y) y)else F y
theorem Zbt (T:Nat→NodeD)(F:Nat→Option (List Nat)) {x:Nat}(hl:lev x=0):Lu T F 0 x=fun y=>if y=x then some (Fq T 0 x)else F y:=by
 funext y
 unfold Lu;rw[show(2:Nat)^0=1 from rfl]
 by_cases h:y=x
 ·rw[if_pos (by omega),if_pos h,h,hl]
 ·rw[if_neg (by omega),if_neg h]
theorem Zbu (T:Nat→NodeD)(F:Nat→Option (List Nat)) {x k:Nat}(a:lev x=k+1)(hx:2^k≤x):Lu T F (k+1) x=fun y=>if y=x then some (Fq T (k+1) x)else Lu T (Lu T F k (x-2^k)) k (x+2^k) y:=by
 funext y
 have e:2^(k+1)=2*2^k:=(by rw[aN];omega);have b:0<2^k:=aP (by simp)
 by_cases h:y=x
 ·rw[if_pos h];unfold Lu;rw[if_pos (by omega),h,a]
 ·rw[if_neg h];unfold Lu;rw[e]
  by_cases h2:x+2^k+1≤y+2^k∧y<x+2^k+2^k
  ·rw[if_pos h2,if_pos (by omega)]
  ·rw[if_neg h2]
   by_cases h3:x-2^k+1≤y+2^k∧y<x-2^k+2^k
   ·rw[if_pos h3,if_pos (by omega)]
   ·rw[if_neg h3,if_neg (by omega)]
def TreeG (w:World)(g:Nat)(v:Value)(t:List NodeD):Prop:=
 ∃a cap,v=.slice a t.length cap∧t.length≤cap∧cap≤maxLen∧∀i,i<t.length→∃b off c,a=some ⟨b,off,rF⟩∧b<w.heap.size∧b≠g∧c.size=10∧w.rangeAt b (off+i*10) c.toList∧∀W,OnlyG g w W→NodeC W (nd t i) c
theorem Hu {w w':World} {g b o:Nat} {cs:List Value}(h:w.rangeAt b o cs)(hb:OnlyG g w w')(hl:b<w.heap.size)(hne:b≠g):w'.rangeAt b o cs:=by
 intro j u hu;have:=h j u hu;rw[World.cell?_of_block (hb.2.2 b hl hne)];exact this
theorem TreeG.onlyG {w w':World} {g:Nat} {v:Value} {t:List NodeD}(h:TreeG w g v t)(f:OnlyG g w w'):TreeG w' g v t:=by
 obtain⟨a,cap,e,h1,h2,h3⟩:=h;refine⟨a,cap,e,h1,h2,fun i n=> ?_⟩;obtain⟨b,d,c,l,j,k,q,p,o⟩:=h3 i n;exact⟨b,d,c,l,dS j f.2.1,k,q,Hu p f j k,fun W m=>o W (f.trans m)⟩
theorem TreeR.g {w0 w:World} {g:Nat} {v:Value} {t:List NodeD}(h:TreeR w0 v t)(f:Below w0.heap.size w0 w)(o:w0.heap.size≤g):TreeG w g v t:=by
 obtain⟨a,cap,e,h1,h2,h3⟩:=h;refine⟨a,cap,e,h1,h2,fun i n=> ?_⟩;obtain⟨b,d,c,l,j,k,p⟩:=h3 i n;exact⟨b,d,c,l,dS j f.size,by omega,k.size,Ao p f j,fun W m=>k.below (f.trans (m.1.mono o)) lR⟩
theorem TreeG.sl {w:World} {g:Nat} {v:Value} {t:List NodeD}(h:TreeG w g v t):∃a c,v=.slice a t.length c∧t.length≤c∧c≤9223372036854775807:=by
 obtain⟨a,cap,e,h1,h2,_⟩:=h;unfold maxLen at h2;exact⟨a,cap,e,h1,h2⟩
theorem TreeG.node {w:World} {g:Nat} {a:Option Addr} {n c:Nat} {t:List NodeD}(h:TreeG w g (q9 a n c) t) {i:Nat}(d:i<n):∃b off cs,a=some ⟨b,off,rF⟩∧b<w.heap.size∧b≠g∧cs.size=10∧w.rangeAt b (off+i*10) cs.toList∧∀W,OnlyG g w W→NodeC W (nd t i) cs:=by
 obtain⟨f,cap,e,h1,h2,h3⟩:=h;simp only[Value.slice.injEq]at e;obtain⟨rfl,rfl,rfl⟩:=e;exact h3 i d
def Zil (t:List NodeD)(k:Nat):Prop:=∀(x g:Nat) (v:Value) (w:World) (F:Nat→Option (List Nat)),TreeG w g v t→AllR w g t.length F→IsLev x k→x+2^k≤t.length→
 Calls Tryz.prog 189 #[v,rA .i64 (x:Nat),q9 (some ⟨g,0,rF⟩) t.length t.length] w fun e w'=>∃v',e=.returned v'∧Rd w' v' (bvs (Fq (nd t) k x))∧Dz v' g∧AllR w' g t.length (Lu (nd t) F k x)∧OnlyG g w w'
theorem Zef (t:List NodeD)(U:Bc t=true)(r:TreeOk t)(hp:Bh t=true):Zil t 0:=by
 intro x g v w F h f i hx;have aA:=Gf i;have hx:x<t.length:=(by have:(2:Nat)^0=1:=rfl;omega);have W:=Bg U;have Y:OnlyG g w w:=OnlyG.of_below bR (dW f.lt);obtain⟨a,c,rfl,hc,aT⟩:=h.sl;obtain⟨b,aH,cs,rfl,aU,aO,aL,L,o⟩:=h.node hx;have z:=o w Y;have V:lev x=0:=lev_eq (by omega) i;have p:=Dj hp hx;have Z:(nd t x).kind≠2:=(by have:=p.1;rwa [Eg aA]at this);have C:=Me ((x/2:Nat):Int) (nd t x) cs w z (r.nd x) (Cq U x);have P:ltF ((x/2:Nat):Int) (nd t x)=(([1]++beN 4 (x/2))++Bm (nd t x),0):=by
  rw[ltF,if_neg (by omega),if_neg (by rw[p.2];simp[Z]),Int.toNat_natCast]
 unfold Wn at C;rw[P]at C;have K:=Gw (nd t) x;have B:=Ht (nd t) 0 x;have O:=Oh (t:=nd t) (fun y=>Cq U y) 0 x;have q:=Oj (nd t) (fun y=>r.nd y) (fun y=>Cq U y) 0 x;rw[←K]at C;obtain⟨n,hn⟩:=eX t.length;rw[←hn]at hx hc W f⊢;obtain⟨m,M⟩:=eX (x/2);rw[←M]at C;have hq:(x:Int)/2=(m:Int):=(by omega);have hm:(x:Int)%2=0:=(by omega);obtain⟨TX,Q⟩:=eX (Lt (nd t) 0 x);rw[←Q]at C B O q;have j:=Hd B;have aG:=Hd C;have aP:=Hd L;have aS:=Hd z.size;have I:=Hd f;have aJ:=Hd (show TX.length≤1000000 by omega);have aQ:=Hd q;have aM:=Hd (Zbt (nd t) F V);have X:=hx;clear Q K M hn P p Z h o Y aL aO z L C B O q U r hp i V aA f;go_enter Tryz.func189,Tryz.ntmps189;go_wp2_with (refine wpList_load_mid rfl 52 (.tmp 17) rfl b (aH+x*10) rfl cs.toList _ aP.out Tryz.underlying52 rfl (by rw[fA,aS.out];exact Ak) ?_);refine(aG.out).mono ?_;rintro e w1 ⟨A,v1,rfl,d⟩;obtain⟨G,H,E,rfl⟩:=Dg d;have aF:=Hd d.rd;have T:=Hd (I.out.below A);have aR:=Hd (OnlyG.of_below A (dW I.out.lt));clear A d;go_wp2_with fail;have J:=Hd (show Rd (w1.alloc (.cells #[q9 G H E] 28)) (q9 G H E) (bvs TX)from(aF.out).alloc _);have aI:=Hd (Kv w1.heap.size (q9 G H E) TX (w1.alloc (.cells #[q9 G H E] 28)) (Ar rfl) (by simp) J.out aQ.out aJ.out);have aD:=Hd ((T.out).alloc (.cells #[q9 G H E] 28));have R:=(T.out).lt;have aN:=Hd ((aR.out).trans (OnlyG.of_below (bR.alloc lR (.cells #[q9 G H E] 28)) (dW R)));go_wp2_with fail;refine(aI.out).mono ?_;rintro e w2 ⟨ob,rfl,N,aC,l,D⟩;have u:=aD.out.below D;have aE:=Hd (aN.out.trans (OnlyG.of_below D (by simp;omega)));have k:=Hd l;have aB:Dz (q9 (some ⟨ob,0,rF⟩) 32 32) g:=by
  intro a m c e;simp only[Value.slice.injEq,Option.some.injEq]at e;rw[←e.1];show ob≠g;have:w1.heap.size+1≤ob:=(by simpa using N);omega
 have s:=Hd aB;obtain⟨y0,aV,aW⟩:=u.at X;have aK:=Hd u;clear D l u N aC R aB;go_wp2_with fail;go_ret;have S:=aK.out.set X _ _ k.out s.out;refine⟨_,rfl,?_,s.out,?_,aE.out.trans (OnlyG.setCell x _)⟩
 ·rw[j.out];exact k.out.onlyG (OnlyG.setCell x _) s.out
 ·rw[aM.out,j.out];exact S
theorem Zeg (t:List NodeD)(i:Bc t=true)(aL:TreeOk t)(hp:Bh t=true)(k:Nat)(IH:Zil t k):Zil t (k+1):=by
 intro x g v w F h z l hx;have bK:=Fb l;have bH:=Bg i;have cE:2^(k+1)=2*2^k:=(by rw[aN];omega);have b2:0<2^k:=aP (by simp);have L:x<t.length:=(by omega);obtain⟨aZ,aX,bG,a1,bC⟩:=kids_lev (by omega) l;have aH:=Hd (fun(W:World)=>Ia (x:Int) W);have aV:=Hd (fun(W:World)=>Gm (x:Int) W);rw[aZ]at aH;rw[aX]at aV;have bF:lev x=k+1:=lev_eq (by omega) l;have r:=Hd (IH (x-2^k) g v w F h z bG (by omega));obtain⟨F1,aR⟩:=eX (Lu (nd t) F k (x-2^k));have o:=fun(W:World) (P:OnlyG g w W) (ha:AllR W g t.length F1)=>IH (x+2^k) g v W F1 (h.onlyG P) ha a1 (by omega);obtain⟨F2,aO⟩:=eX (Lu (nd t) F1 k (x+2^k));have b4:=Hd (show Lu (nd t) F (k+1) x=fun y=>if y=x then some (Fq (nd t) (k+1) x)else F2 y by rw[Zbu (nd t) F bF bC,aO,aR]);rw[←aR]at r;rw[←aO]at o;have aG:=Dj hp L;have aY:(nd t x).kind≠1:=(by have:=aG.1;rwa [Gu bK]at this);have J:=Gx (nd t) k x;have aW:=Ht (nd t) (k+1) x;have a6:=Oh (t:=nd t) (fun y=>Cq i y) (k+1) x;have aK:=Oj (nd t) (fun y=>aL.nd y) (fun y=>Cq i y) (k+1) x;have E:=Dy (nd t) k (x-2^k);have G:=Dy (nd t) k (x+2^k);obtain⟨p,a8⟩:=eX (Lt (nd t) (k+1) x);rw[←a8]at J aW a6 aK;obtain⟨H1,aI⟩:=eX (Fq (nd t) k (x-2^k));obtain⟨H2,aJ⟩:=eX (Fq (nd t) k (x+2^k));rw[←aI,←aJ]at J;rw[←aI]at r E;rw[←aJ]at o G;have PT:=fun(cs:Array Value) (W:World) (P:NodeC W (nd t x) cs) (vl vr:Value) (h1:Rd W vl (bvs H1)) (h2:Rd W vr (bvs H2))=>Jo (nd t x) cs vl vr H1 H2 W P (aL.nd x) (Cq i x) h1 h2;have bJ:ptF (nd t x) H1 H2=(p,0):=by
  rw[ptF,if_neg (by rw[aG.2];simp[aY]),if_neg (by simp[E,G]),J,List.append_assoc _ (Bf H1)]
 unfold Wn at PT;simp only[bJ]at PT;obtain⟨a,c,rfl,hc,cI⟩:=h.sl;obtain⟨b,s,cs,rfl,bM,U,a7,a3,aD⟩:=h.node L;obtain⟨n,hn⟩:=eX t.length;rw[←hn]at L hc bH z r o⊢;obtain⟨xl,bL⟩:=eX (x-2^k);obtain⟨xr,bQ⟩:=eX (x+2^k);rw[←bL]at aH r;rw[←bQ]at aV o;have hm:(x:Int)%2=1:=(by omega);have Q:=Hd aW;have aC:=Hd PT;have a0:=Hd o;have b1:=Hd (show p.length≤1000000 by omega);have b7:=Hd aK;have bI:=L;have S:=Hd aD;have aA:=Hd a3;have bO:=Hd a7;clear aR aO a8 J hn bJ aG aY h aD a7 a3 PT aW a6 aK i aL hp l bF bK aI aJ bL bQ aZ aX bG a1 bC E G IH o z cE b2 hx;go_enter Tryz.func189,Tryz.ntmps189;go_wp2_with fail;refine(aH.out w).mono ?_;rintro e w' ⟨rfl,rfl⟩;go_wp2_with fail;refine(r.out).mono ?_;rintro e T ⟨v1,rfl,aT,a9,j,q⟩;obtain⟨q1,q2,q3,rfl⟩:∃a b c,v1=.slice a b c:=(by obtain⟨a,c,e,_⟩:=aT;exact⟨_,_,_,e⟩);have O:g<T.heap.size:=j.lt;have bB:=Hd (Hu aA.out q bM U);have a4:b<T.heap.size:=dS bM q.2.1;obtain⟨CS,aM⟩:=eX cs;rw[←aM]at bB bO;have cD:=Hd (fun(W:World) (P:OnlyG g T W) (v:Value) (hv:Rd W v (bvs H2))=>aC.out CS W (by rw[aM];exact S.out W (q.trans P)) (q9 q1 q2 q3) v (aT.onlyG P a9) hv);have b8:=Hd (fun(W:World) (P:Below T.heap.size T W)=>a0.out W (q.trans (OnlyG.of_below P (dW O))) (j.below P));have b6:b≠g:=U;have cB:=Hd q;clear aT a9 j q aM aC a0 aA S r;go_wp2_with fail;refine Bt [eF (q9 (some ⟨b,s,rF⟩) n c),eF (rA .i64 (x:Nat)),eF (rB (some ⟨b,s+x*10,rF⟩)),eF (.agg CS),eF (q9 q1 q2 q3),eF (q9 (some ⟨b,s,rF⟩) n c),eF (rA .i64 (x:Nat)),eF (rA .i64 (xr:Nat)),eF (q9 (some ⟨g,0,rF⟩) n n),fun v w'=>Rd w' v (bvs H2)∧Dz v g∧AllR w' g n F2,fun v w'=>∃u,v=.tuple #[u,rA .u8 0]∧Rd w' u (bvs p)∧Dz u g,fun v w'=>∃u,v=.tuple #[u,rA .u8 0]∧Rd w' u (bvs p)∧Dz u g,fun v w'=>Rd w' v (bvs p)∧Dz v g,eF (rA .u8 0),fun v w'=>Rd w' v (bvs p)∧Dz v g]
  (List.replicate 15 true) (fun X=>OnlyG g T X) (fun X Y=>OnlyG g X Y) (some 9) (by kernel_rfl) ?_ ((OnlyG.of_below bR (dW O)).drewN 1) (fun X Y hx h=>OnlyG.of_below h (Nat.le_trans (dW O) hx.2.1)) (fun X Y hx i=>hx.trans i) (by kernel_rfl) (by kernel_rfl) ?_ ?_
 ·exact kE (kE (kE (kE (kE (kE (kE (kE (kE (Cl (fun v x y h _ i=>⟨h.1.below i lR,h.2.1,h.2.2.below i⟩) (Ai (fun v x y h hi i=>let⟨u,e,h2⟩:=h;⟨u,e,(fun v x y h _ i=>⟨h.1.onlyG i h.2,h.2⟩) u x y h2 hi i⟩) (Ai (fun v x y h hi i=>let⟨u,e,h2⟩:=h;⟨u,e,(fun v x y h _ i=>⟨h.1.onlyG i h.2,h.2⟩) u x y h2 hi i⟩) (Ai (fun v x y h _ i=>⟨h.1.onlyG i h.2,h.2⟩) (kE (Ai (fun v x y h _ i=>⟨h.1.onlyG i h.2,h.2⟩) (Ah)))))))))))))))
 ·refine gP ?_ rfl (gP ?_ rfl (gP ?_ rfl (gO ?_ (gP ?_ rfl (gPw (by kernel_rfl) ?_ rfl (gP ?_ rfl (gOw (by kernel_rfl) ?_ (gPw (by kernel_rfl) ?_ rfl (gOw (by kernel_rfl) ?_ (gO ?_ (gO ?_ (gO ?_ (gO ?_ (gO ?_ .nil))))))))))))));all_goals
   intro a I A bX ho R;have A:OnlyG g T I:=A;refine⟨rfl,?_⟩;intro K M;try have cF:a.tmps[0]?.getD undef=q9 (some ⟨b,s,rF⟩) n c:=ho 0 (by kernel_rfl)
   try have cG:a.tmps[1]?.getD undef=rA .i64 (x:Nat):=ho 1 (by kernel_rfl)
   try have cN:a.tmps[2]?.getD undef=q9 (some ⟨g,0,rF⟩) n n:=ho 2 (by kernel_rfl)
   try have cJ:a.tmps[8]?.getD undef=.slice q1 q2 q3:=ho 8 (by kernel_rfl)
   try have cA:=eqn R.1
   try have cL:=eqn R.2.1
   try have cH:=eqn R.2.2.1
   try(refine Hd ?_;go_simp;exact M _ rfl)
  ·exact wp_load_mid 52 (.tmp 30) rfl b (s+x*10) (evs cA) _ _ (Hu bB.out A a4 b6) Tryz.underlying52 rfl (by rw[fA,bO.out];exact Ak) (M _ _ rfl (Af rfl bR))
  ·go_simp;refine(aV.out I).mono ?_;rintro e w2 ⟨rfl,rfl⟩;exact M _ _ rfl (Af rfl bR)
  ·go_simp;refine(b8.out I bX).mono ?_;rintro e w2 ⟨v9,rfl,cC,b9,aU,bV⟩;exact M _ _ ⟨cC,b9,aU⟩ (Bv rfl bV)
  ·have o2:Rd I (a.tmps[37]?.getD undef) (bvs H2)∧Dz (a.tmps[37]?.getD undef) g∧AllR I g n F2:=R.2.2.1;obtain⟨v2,aE⟩:=eX (a.tmps[37]?.getD undef);rw[←aE]at o2;have e2:=aE.symm;clear aE;go_simp;refine(cD.out I A v2 o2.1).mono ?_;rintro e w2 ⟨H,v9,rfl,C⟩;exact M _ _ ⟨_,rfl,C.rd,Zee C (dS O A.2.1)⟩ (Af rfl H)
  ·have D:∃u,(a.tmps[38]?.getD undef)=.tuple #[u,rA .u8 0]∧Rd I u (bvs p)∧Dz u g:=R.1;obtain⟨v0,d⟩:=eX (a.tmps[38]?.getD undef);rw[←d]at D;have e0:=d.symm;clear d;go_simp;exact M _ _ D (Af rfl bR)
  ·have D:∃u,(a.tmps[27]?.getD undef)=.tuple #[u,rA .u8 0]∧Rd I u (bvs p)∧Dz u g:=R.1;obtain⟨v0,d⟩:=eX (a.tmps[27]?.getD undef);rw[←d]at D;have e0:=d.symm;clear d;obtain⟨u,rfl,o1⟩:=D;go_simp;exact M _ _ o1 (Af rfl bR)
  ·have D:∃u,(a.tmps[27]?.getD undef)=.tuple #[u,rA .u8 0]∧Rd I u (bvs p)∧Dz u g:=R.1;obtain⟨v0,d⟩:=eX (a.tmps[27]?.getD undef);rw[←d]at D;have e0:=d.symm;clear d;obtain⟨u,rfl,o1⟩:=D;go_simp;exact M _ _ rfl (Af rfl bR)
  ·have D:Rd I (a.tmps[39]?.getD undef) (bvs p)∧Dz (a.tmps[39]?.getD undef) g:=R.1;obtain⟨v0,d⟩:=eX (a.tmps[39]?.getD undef);rw[←d]at D;have e0:=d.symm;clear d;go_simp;exact M _ _ D (Af rfl bR)
 ·rintro f w9 N B;have N:OnlyG g T w9:=N;have S7:Rd w9 (f 7) (bvs p)∧Dz (f 7) g:=B.2.2.2.2.2.2.2.2.2.2.2.2.2.2.1;have aF:Rd w9 (f 37) (bvs H2)∧Dz (f 37) g∧AllR w9 g n F2:=B.2.2.2.2.2.2.2.2.2.1;clear B;simp only[Am,Az,Ex,List.filterMap_cons,List.filterMap_nil,List.contains_cons,List.contains_nil,Nat.reduceBEq,Nat.reduceAdd,Bool.or_false,Bool.or_true,cond_true,cond_false];obtain⟨u7,bN⟩:=eX (f 7);rw[←bN]at S7⊢;clear bN;obtain⟨u37,Z⟩:=eX (f 37);rw[←Z]at aF⊢;clear Z;have bZ:∃a b c,u7=.slice a b c:=(by obtain⟨a,c,e,_⟩:=S7.1;exact⟨_,_,_,e⟩);obtain⟨p1,p2,p3,rfl⟩:=bZ;have bY:=Hd S7.1;have bE:=Hd aF.2.2;have bT:=Hd (cB.out.trans N);clear S7 aF N;go_wp2_with fail;have a2:=Hd (show Rd (w9.alloc (.cells #[q9 p1 p2 p3] 28)) (q9 p1 p2 p3) (bvs p)from(bY.out).alloc _);have b0:=Hd (Kv w9.heap.size (q9 p1 p2 p3) p (w9.alloc (.cells #[q9 p1 p2 p3] 28)) (Ar rfl) (by simp) a2.out b7.out b1.out);have bU:=Hd ((bE.out).alloc (.cells #[q9 p1 p2 p3] 28));have bA:=(bE.out).lt;have b5:=Hd ((bT.out).trans (OnlyG.of_below (bR.alloc lR (.cells #[q9 p1 p2 p3] 28)) (dW bA)));go_wp2_with fail;refine(b0.out).mono ?_;rintro e w2 ⟨ob,rfl,a5,bS,aB,H⟩;have aS:=bU.out.below H;have bW:=Hd (b5.out.trans (OnlyG.of_below H (by simp;omega)));have V:=Hd aB;have bP:Dz (q9 (some ⟨ob,0,rF⟩) 32 32) g:=by
   intro a m c e;simp only[Value.slice.injEq,Option.some.injEq]at e;rw[←e.1];show ob≠g;have:w9.heap.size+1≤ob:=(by simpa using a5);omega
  have aQ:=Hd bP;obtain⟨y0,cK,cM⟩:=aS.at bI;have b3:=Hd aS;clear H aB aS a5 bS bA bP;go_wp2_with fail;go_ret;have bD:=b3.out.set bI _ _ V.out aQ.out;refine⟨_,rfl,?_,aQ.out,?_,bW.out.trans (OnlyG.setCell x _)⟩
  ·rw[Q.out];exact V.out.onlyG (OnlyG.setCell x _) aQ.out
  ·rw[b4.out,Q.out];exact bD
end Go.Proofs.YtfofaiommeckbaaGreat
