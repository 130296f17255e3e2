/- Append on a slice that the call owns: what comes out lies where the slice lay, or in new memory. -/
import Derived.Test.YtfofaiommeckbaaGreatZSliceSoundB
import Derived.Deep.RegionLaw
import Derived.Test.YtfofaiommeckbaaGreatZSliceSound23
import Derived.ArgAppend
import Derived.Test.YtfofaiommeckbaaGreatZSliceSound26
open Nat renaming mul_le_mul_left → aC, pow_succ → aP, pos_of_ne_zero → aR, lt_of_lt_of_le → dX, le_of_lt → eA
open List renaming mem_flatten → fG, mem_map → eN, mem_cons → aG, mem_append → fH, not_mem_nil → fI
open Array renaming getElem?_setIfInBounds → cW, length_toList → fJ
set_option linter.unusedVariables false
set_option maxRecDepth 100000
set_option maxHeartbeats 40000000
namespace Go.Proofs.YtfofaiommeckbaaGreat
open Go.RowKit
def Rj (w:World)(v v':Value):Prop:=v'.ownBlock=v.ownBlock∨∃g,v'.ownBlock=some g∧w.heap.size≤g
theorem Rk {P:Program} {w:World} {o:Oper} {a:Act} {K:Act→World→Prop} {Q:Exit→Act→World→Prop} (s x:Operand) (t:TypeId)
  (V:o.op=.call {callee:=.builtin .append,args:=#[s,x],argTypes:=#[t,t]})
  (B:Nat) (e:TypeId) (z:Value) (f:Nat) (F:Elem P t e z f)
  (v:Value) (xs:List Value) (X:a.eval s=v) (d:Own w B e v xs)
  (r:Value) (c:List Value) (hx:a.eval x=r) (n:Rd w r c) (Y:∀u∈c,u.oneCell'=true)
  (hn:xs.length+c.length<1099511627776) (W:B≤w.heap.size)
  (h:∀v' w',Own w' B e v' (xs++c)→w.grownBy w' v.ownBlock→Below B w w'→Rj w v v'→K (a.put o.dst v') w'):o.wp P a w K Q:=by
 obtain⟨i,H,R,l,q⟩:=info_parts F.inf;have low:=F.low;have U:(xs.length+c.length)*f≤(xs.length+c.length)*64:=aC _ low;have T:c.length*f≤c.length*64:=aC _ low;have E:∀(m:Addr) cap,r=.slice (some m) c.length cap→(∀(j:Nat) u,c[j]? =some u→w.cell? (m.add j)=some u)→o.wp P a w K Q:=by
  intro m cap hv A;subst hv;obtain⟨v',w',n,h2,h3,Z⟩:=run_append_own (P:=P) w B t o.type e i z 1 f F.ty H R l q F.one (by omega) v xs.length xs d m c.length cap c (by omega) A Y (by unfold maxLen;omega) (by omega) W;have S:Rj w v v':=by
   have p:=d;obtain⟨hl,L⟩:=p;rcases L with⟨rfl,h0⟩|⟨g,O,M,rfl,aA,hg,aB,aE,J,I⟩
   ·by_cases hm:c.length=0
    ·rw[Z.2 ⟨rfl,hm⟩];exact .inl rfl
    ·have:=run_append_nil (P:=P) w t o.type e i z F.ty H R m c.length cap c (by rw[l];omega) A (by omega) (by omega) (by rw[q];omega);rw[this]at n;cases n;exact .inr ⟨w.heap.size,rfl,lR⟩
   ·by_cases hroom:xs.length+c.length≤O
    ·have:=run_append_room (P:=P) w t o.type e i F.ty H g xs.length O M hg m c.length cap c (by rw[l];omega) A Y hroom (by rw[l,J];omega);rw[this]at n;cases n;exact .inl rfl
    ·have y:∀j u,xs[j]? =some u→w.cell? ((⟨g,0,none⟩:Addr).add j)=some u:=World.ownsRow.cells (g:=g) d rfl;have:=run_append_grow (P:=P) w t o.type e i z F.ty H R ⟨g,0,none⟩ xs.length O xs (by rw[l];omega) y m c.length cap c (by rw[l];omega) A (by omega) (by omega) (growslice_fits (by omega) (by rw[q];omega));rw[this]at n;cases n;exact .inr ⟨w.heap.size,rfl,lR⟩
  have e1:(xs++c).length=xs.length+c.length:=(by simp);have D:=h v' w' (by unfold Own;rw[e1];exact h2) h3 ((Below.refl B w).grown h3 W (fun k hk=>(World.ownsRow.lt d k hk).1)) S;unfold Oper.wp execOp;simp only[V,resolve,invoke,builtin,Sem.run_bind,Sem.run_pure,Result.andThen_ok,List.map_toArray,List.map_cons,List.map_nil,X,hx,n];exact D
 obtain⟨m,cap,rfl,_,_,⟨rfl,C⟩|⟨b,aD,rfl,L⟩⟩:=n
 ·cases m with
  |none=>
   obtain rfl:=C rfl;have G:=run_append_owned_none (P:=P) (w:=w) B t o.type e i 1 F.ty H v xs.length xs d;unfold Oper.wp;have N:a.eval x=.slice none 0 0:=hx;simp[execOp,V,resolve,invoke,builtin,X,N,G,Result.andThen];exact h v w (by simpa using d) ⟨rfl,rfl,rfl,lR,fun _ _ _=>rfl⟩ bR (.inl rfl)
  |some m=>exact E m cap rfl (by simp)
 ·exact E _ cap rfl (fun j u A=>by rw[Addr.add_lit];exact L j u A)
theorem Zds {P:Program} {w:World} {o:Oper} {a:Act} {K:Act→World→Prop} {Q:Exit→Act→World→Prop} (s x:Operand) (t:TypeId)
  (D:o.op=.call {callee:=.builtin .append,args:=#[s,x],argTypes:=#[t,t]})
  (B:Nat) (e:TypeId) (z:Value) (c:Nat) (F:Elem P t e z c)
  (v:Value) (xs:List Value) (G:a.eval s=v) (d:Own w B e v xs)
  (r:Value) (f:List Value) (hx:a.eval x=r) (I:Rd w r f) (N:∀u∈f,u.oneCell'=true)
  (S:xs.length+f.length<1099511627776) (E:B≤w.heap.size)
  (h:∀v' w',Own w' B e v' (xs++f)→Below B w w'→K (a.put o.dst v') w'):o.wp P a w K Q:=by
 obtain⟨i,H,O,A,p⟩:=info_parts F.inf;have low:=F.low;have C:(xs.length+f.length)*c≤(xs.length+f.length)*64:=aC _ low;have m:∀(g:Addr) cap,r=.slice (some g) f.length cap→(∀(j:Nat) u,f[j]? =some u→w.cell? (g.add j)=some u)→o.wp P a w K Q:=by
  intro g cap L y;subst L;refine wp_append_own w s x t D B e i z 1 c F.ty H O A p F.one (by omega) v xs.length xs G d g f.length cap f hx (by omega) y N (by unfold maxLen;omega) (by omega) E ?_;intro v' w' h2 h3 _;have R:(xs++f).length=xs.length+f.length:=(by simp);refine h v' w' (by unfold Own;rw[R];exact h2) ?_;refine(Below.refl B w).grown h3 E ?_;intro k hk;exact(World.ownsRow.lt d k hk).1
 obtain⟨g,cap,rfl,_,_,⟨rfl,l⟩|⟨b,M,rfl,J⟩⟩:=I
 ·cases g with
  |none=>
   obtain rfl:=l rfl;have n:=run_append_owned_none (P:=P) (w:=w) B t o.type e i 1 F.ty H v xs.length xs d;unfold Oper.wp;have q:a.eval x=.slice none 0 0:=hx;simp[execOp,D,resolve,invoke,builtin,G,q,n,Result.andThen];exact h v w (by simpa using d) bR
  |some g=>exact m g cap rfl (by simp)
 ·exact m _ cap rfl (fun j u y=>by rw[Addr.add_lit];exact J j u y)
theorem Zhr {P:Program} {w:World} {ops:Array Oper} {o:Oper} {a:Act} {K:Act→World→Prop} {Q:Exit→Act→World→Prop} {E:Prop} (f:o.guard=none) (s x:Operand) (t:TypeId)
  (i:o.op=.call {callee:=.builtin .append,args:=#[s,x],argTypes:=#[t,t]})
  (B:Nat) (e:TypeId) (z:Value) (b:Nat) (F:Elem P t e z b)
  (v:Value) (xs:List Value) (m:a.eval s=v) (d:Own w B e v xs)
  (r:Value) (c:List Value) (hx:a.eval x=r) (g:Rd w r c) (n:∀u∈c,u.oneCell'=true)
  (l:xs.length+c.length<1099511627776) (j:B≤w.heap.size)
  (h:∀v' w',Own w' B e v' (xs++c)→Below B w w'→K (a.put o.dst v') w'):if Region.wanted o (yielded ops a.tmps)=true then Oper.wp P o a w K Q else E:=by
 have k:Region.wanted o (yielded ops a.tmps)=true:=(by simp[Region.wanted,f]);rw[if_pos k];exact Zds s x t i B e z b F v xs m d r c hx g n l j h
open WireM
theorem Zke:∀(l:List (List Nat)),(∀r∈l,r.length≤200)→(∀r∈l,∀x∈r,x<256)→∀x∈Oe l,x<256:=by
 intro l h1 h2 x hx;simp only[Oe,fG,eN]at hx;obtain⟨y,⟨r,hr,rfl⟩,hx⟩:=hx;exact Gb (by have:=h1 r hr;omega) (h2 r hr) x hx
theorem Zhs (L:List Int):∀x∈Bq L,x<256:=by
 intro x hx;simp only[Bq,fG,eN]at hx;obtain⟨y,⟨z,_,rfl⟩,hx⟩:=hx;exact beN_lt _ _ x hx
theorem Yu {d:NodeD}(hk:NodeOk d)(c:Bm d=true):∀x∈Bc d,x<256:=by
 have b:=of_decide_eq_true c;have e:=De d.par.late;unfold Bc
 split
 ·intro x hx;rw[aG,fH]at hx;rcases hx with rfl|hx|hx
  ·omega
  ·rw[Jn,fH,fH]at hx;rcases hx with(hx|hx)|hx
   ·refine Zke _ ?_ ?_ x hx
    ·intro r a;simp at a;rcases a with rfl|rfl|rfl<;>omega
    ·intro r a;simp at a;rcases a with rfl|rfl|rfl
     ·exact hk.box
     ·exact hk.sign
     ·exact hk.ident
   ·rw[List.mem_singleton]at hx;have:=hk.source;omega
   ·split at hx
    ·exact Gb (by omega) hk.par x hx
    ·cases hx
  ·exact Gb (by omega) hk.sig x hx
 ·split
  ·intro x hx;rw[aG,Zco,fH,fH]at hx;rcases hx with rfl|(hx|hx)|hx
   ·omega
   ·exact Gb (by omega) hk.pbox x hx
   ·exact Gb (by omega) hk.hash x hx
   ·exact Gb (by omega) (Zhs _) x hx
  ·intro x hx;simp at hx;omega
open WalkM ShaM
theorem Zlw {t:List NodeD}(hok:TreeOk t)(ps:List Int)(x:Nat):NodeOk (woD t ps x):=by
 have h:=hok.nd x;unfold woD
 split
 ·split
  ·exact Gm
  ·exact h
 ·exact⟨h.kind,h.source,h.box,h.sign,h.ident,h.par,h.sig,h.pbox,h.hash,fun u hu=>h.late u (List.mem_filter.1 hu).1⟩
theorem Kd (t:Nat→NodeD)(hk:∀x,NodeOk (t x))(c:∀x,Bm (t x)=true)(k x:Nat):∀y∈Dx t k x,y<256:=by
 have b:=Yu (hk x) (c x);intro y a;cases k with
 |zero=>
  rw[Cs]at a;simp only[fH,aG,fI,or_false]at a;rcases a with(rfl|a)|a
  ·omega
  ·exact beN_lt _ _ y a
  ·exact b y a
 |succ k=>
  rw[Ct]at a;simp only[fH,aG,fI,or_false]at a;rcases a with(rfl|a)|a|a
  ·omega
  ·exact b y a
  ·exact Gb (by rw[Bs];omega) (Rh _ _ _) y a
  ·exact Gb (by rw[Bs];omega) (Rh _ _ _) y a
def Dy (u:Value)(g:Nat):Prop:=∀a m c,u=.slice (some a) m c→a.block≠g
theorem Zdt {w:World} {B g:Nat} {e:TypeId} {v:Value} {xs:List Value}(h:Own w B e v xs)(hg:g<B):Dy v g:=by
 intro a m c e;rcases h.2 with⟨e2,_⟩|⟨g',cp,cur,e2,hb,_⟩
 ·rw[e2]at e;cases e
 ·rw[e2]at e;simp only[Value.slice.injEq,Option.some.injEq]at e;rw[←e.1];show g'≠g;omega
def AllR (w:World)(g n:Nat)(F:Nat→Option (List Nat)):Prop:=
 ∃cs:Array Value,Blk w g 28 cs∧cs.size=n∧∀y,y<n→∃u,cs[y]? =some u∧∀L,F y=some L→Rd w u (bvs L)∧Dy u g
theorem AllR.lt {w:World} {g n:Nat} {F:Nat→Option (List Nat)}(h:AllR w g n F):g<w.heap.size:=by
 obtain⟨cs,hb,_⟩:=h;exact hb.lt
theorem AllR.below {w w':World} {g n:Nat} {F:Nat→Option (List Nat)}(h:AllR w g n F)(hb:Below w.heap.size w w'):AllR w' g n F:=by
 obtain⟨cs,h1,h2,h3⟩:=h;refine⟨cs,h1.below hb h1.lt,h2,fun y hy=> ?_⟩;obtain⟨u,k1,k2⟩:=h3 y hy;exact⟨u,k1,fun L hL=>⟨(k2 L hL).1.below hb lR,(k2 L hL).2⟩⟩
theorem AllR.alloc {w:World} {g n:Nat} {F:Nat→Option (List Nat)}(h:AllR w g n F)(o:Obj):AllR (w.alloc o) g n F:=h.below (bR.alloc lR o)
theorem AllR.at {w:World} {g n:Nat} {F:Nat→Option (List Nat)}(h:AllR w g n F) {x:Nat}(hx:x<n):∃u,w.cell? ⟨g,x,none⟩=some u∧w.frozen? ⟨g,x,none⟩=false:=by
 obtain⟨cs,h1,h2,h3⟩:=h;obtain⟨u,k1,_⟩:=h3 x hx;exact⟨u,by rw[h1.cell];exact k1,h1.frozen x⟩
theorem AllR.row {w:World} {g n:Nat} {F:Nat→Option (List Nat)}(h:AllR w g n F) {x:Nat}(hx:x<n) {L:List Nat}(hL:F x=some L):∃u,w.cell? ⟨g,x,none⟩=some u∧Rd w u (bvs L)∧Dy u g:=by
 obtain⟨cs,h1,h2,h3⟩:=h;obtain⟨u,k1,k2⟩:=h3 x hx;exact⟨u,by rw[h1.cell];exact k1,k2 L hL⟩
theorem AllR.set {w:World} {g n:Nat} {F:Nat→Option (List Nat)}(h:AllR w g n F) {x:Nat}(hx:x<n)(u:Value)(L:List Nat)(f:Rd w u (bvs L))(d:Dy u g):AllR (w.setCell ⟨g,x,none⟩ u) g n (fun y=>if y=x then some L else F y):=by
 obtain⟨cs,k,h2,h3⟩:=h;refine⟨_,k.set x u,by rw[Array.size_setIfInBounds];exact h2,fun y j=> ?_⟩
 by_cases e:y=x
 ·subst e;refine⟨u,by rw[cW,if_pos rfl,if_pos (by omega)],fun b a=> ?_⟩;have a:(if y=y then some L else F y)=some b:=a;rw[if_pos rfl]at a;cases a;exact⟨f.onlyG (OnlyG.setCell y u) d,d⟩
 ·obtain⟨l,i,c⟩:=h3 y j;refine⟨l,by rw[cW,if_neg (fun h=>e h.symm)];exact i,fun b a=> ?_⟩;have a:(if y=x then some L else F y)=some b:=a;rw[if_neg e]at a;exact⟨(c b a).1.onlyG (OnlyG.setCell x u) (c b a).2,(c b a).2⟩
def Ku (T:Nat→NodeD)(F:Nat→Option (List Nat))(k x:Nat)(y:Nat):Option (List Nat):=if x+1≤y+2^k∧y<x+2^k then some (Cj T (lev y) y)else F y
theorem Zba (T:Nat→NodeD)(F:Nat→Option (List Nat)) {x:Nat}(hl:lev x=0):Ku T F 0 x=fun y=>if y=x then some (Cj T 0 x)else F y:=by
 funext y
 unfold Ku;rw[show(2:Nat)^0=1 from rfl]
 by_cases h:y=x
 ·rw[if_pos (by omega),if_pos h,h,hl]
 ·rw[if_neg (by omega),if_neg h]
theorem Zbb (T:Nat→NodeD)(F:Nat→Option (List Nat)) {x k:Nat}(a:lev x=k+1)(hx:2^k≤x):Ku T F (k+1) x=fun y=>if y=x then some (Cj T (k+1) x)else Ku T (Ku T F k (x-2^k)) k (x+2^k) y:=by
 funext y
 have e:2^(k+1)=2*2^k:=(by rw[aP];omega);have b:0<2^k:=aR (by simp)
 by_cases h:y=x
 ·rw[if_pos h];unfold Ku;rw[if_pos (by omega),h,a]
 ·rw[if_neg h];unfold Ku;rw[e]
  by_cases h2:x+2^k+1≤y+2^k∧y<x+2^k+2^k
  ·rw[if_pos h2,if_pos (by omega)]
  ·rw[if_neg h2]
   by_cases h3:x-2^k+1≤y+2^k∧y<x-2^k+2^k
   ·rw[if_pos h3,if_pos (by omega)]
   ·rw[if_neg h3,if_neg (by omega)]
def TreeG (w:World)(g:Nat)(v:Value)(t:List NodeD):Prop:=
 ∃a cap,v=.slice a t.length cap∧t.length≤cap∧cap≤maxLen∧∀i,i<t.length→∃b off c,a=some ⟨b,off,none⟩∧b<w.heap.size∧b≠g∧c.size=10∧w.rangeAt b (off+i*10) c.toList∧∀W,OnlyG g w W→NodeC W (nd t i) c
theorem Hj {w w':World} {g b o:Nat} {cs:List Value}(h:w.rangeAt b o cs)(hb:OnlyG g w w')(hl:b<w.heap.size)(hne:b≠g):w'.rangeAt b o cs:=by
 intro j u hu;have:=h j u hu;rw[World.cell?_of_block (hb.2.2 b hl hne)];exact this
theorem TreeG.onlyG {w w':World} {g:Nat} {v:Value} {t:List NodeD}(h:TreeG w g v t)(d:OnlyG g w w'):TreeG w' g v t:=by
 obtain⟨a,cap,e,p,h2,h3⟩:=h;refine⟨a,cap,e,p,h2,fun i q=> ?_⟩;obtain⟨b,f,c,n,k,j,l,m,r⟩:=h3 i q;exact⟨b,f,c,n,dX k d.2.1,j,l,Hj m d k j,fun W o=>r W (d.trans o)⟩
theorem TreeR.g {w0 w:World} {g:Nat} {v:Value} {t:List NodeD}(h:TreeR w0 v t)(d:Below w0.heap.size w0 w)(o:w0.heap.size≤g):TreeG w g v t:=by
 obtain⟨a,cap,e,p,h2,h3⟩:=h;refine⟨a,cap,e,p,h2,fun i q=> ?_⟩;obtain⟨b,f,c,m,k,j,l⟩:=h3 i q;exact⟨b,f,c,m,dX k d.size,by omega,j.size,Am l d k,fun W n=>j.below (d.trans (n.1.mono o)) lR⟩
theorem TreeG.sl {w:World} {g:Nat} {v:Value} {t:List NodeD}(h:TreeG w g v t):∃a c,v=.slice a t.length c∧t.length≤c∧c≤9223372036854775807:=by
 obtain⟨a,cap,e,h1,h2,_⟩:=h;unfold maxLen at h2;exact⟨a,cap,e,h1,h2⟩
theorem TreeG.node {w:World} {g:Nat} {a:Option Addr} {n c:Nat} {t:List NodeD}(h:TreeG w g (.slice a n c) t) {i:Nat}(d:i<n):∃b off cs,a=some ⟨b,off,none⟩∧b<w.heap.size∧b≠g∧cs.size=10∧w.rangeAt b (off+i*10) cs.toList∧∀W,OnlyG g w W→NodeC W (nd t i) cs:=by
 obtain⟨j,cap,e,f,h2,h3⟩:=h;simp only[Value.slice.injEq]at e;obtain⟨rfl,rfl,rfl⟩:=e;exact h3 i d
def Zht (t:List NodeD)(k:Nat):Prop:=∀(x g:Nat) (v:Value) (w:World) (F:Nat→Option (List Nat)),TreeG w g v t→AllR w g t.length F→IsLev x k→x+2^k≤t.length→
 Calls Tryz.prog 189 #[v,.int .i64 (x:Nat),.slice (some ⟨g,0,none⟩) t.length t.length] w fun e w'=>∃v',e=.returned v'∧Rd w' v' (bvs (Cj (nd t) k x))∧Dy v' g∧AllR w' g t.length (Ku (nd t) F k x)∧OnlyG g w w'
theorem Zdu (t:List NodeD)(X:Bg t=true)(r:TreeOk t)(hp:Be t=true):Zht t 0:=by
 intro x g v w F h f i hx;have Z:=Dv i;have hx:x<t.length:=(by have:(2:Nat)^0=1:=rfl;omega);have N:=Bo X;have S:OnlyG g w w:=OnlyG.of_below bR (eA f.lt);obtain⟨a,c,rfl,hc,aV⟩:=h.sl;obtain⟨b,aQ,cs,rfl,aW,aO,aR,L,o⟩:=h.node hx;have p:=o w S;have J:lev x=0:=lev_eq (by omega) i;have D:=Df hp hx;have P:(nd t x).kind≠2:=(by have:=D.1;rwa [Ef Z]at this);have u:=Lc ((x/2:Nat):Int) (nd t x) cs w p (r.nd x) (Cf X x);have Q:ltF ((x/2:Nat):Int) (nd t x)=(([1]++beN 4 (x/2))++Bc (nd t x),0):=by
  rw[ltF,if_neg (by omega),if_neg (by rw[D.2];simp[P]),Int.toNat_natCast]
 unfold Vk at u;rw[Q]at u;have aC:=Cs (nd t) x;have A:=Ek (nd t) 0 x;have R:=Kc (t:=nd t) (fun y=>Cf X y) 0 x;have s:=Kd (nd t) (fun y=>r.nd y) (fun y=>Cf X y) 0 x;rw[←aC]at u;obtain⟨n,hn⟩:=eX t.length;rw[←hn]at hx hc N f⊢;obtain⟨m,T⟩:=eX (x/2);rw[←T]at u;have hq:(x:Int)/2=(m:Int):=(by omega);have hm:(x:Int)%2=0:=(by omega);obtain⟨TX,I⟩:=eX (Dx (nd t) 0 x);rw[←I]at u A R s;have l:=Hd A;have aL:=Hd u;have aI:=Hd L;have aH:=Hd p.size;have W:=Hd f;have aM:=Hd (show TX.length≤1000000 by omega);have aD:=Hd s;have aJ:=Hd (Zba (nd t) F J);have V:=hx;clear I aC T hn Q D P h o S aR aO p L u A R s X r hp i J Z f;go_enter Tryz.func189,Tryz.ntmps189;go_wp2_with (refine wpList_load_mid rfl 52 (.tmp 17) rfl b (aQ+x*10) rfl cs.toList _ aI.out Tryz.underlying52 rfl (by rw[fJ,aH.out];exact Ak) ?_);refine(aL.out).mono ?_;rintro e w1 ⟨C,v1,rfl,d⟩;obtain⟨G,E,H,rfl⟩:=Ey d;have aP:=Hd d.rd;have U:=Hd (W.out.below C);have aN:=Hd (OnlyG.of_below C (eA W.out.lt));clear C d;go_wp2_with fail;have K:=Hd (show Rd (w1.alloc (.cells #[.slice G E H] 28)) (.slice G E H) (bvs TX)from(aP.out).alloc _);have aE:=Hd (Kb w1.heap.size (.slice G E H) TX (w1.alloc (.cells #[.slice G E H] 28)) (Bz rfl) (by simp) K.out aD.out aM.out);have aS:=Hd ((U.out).alloc (.cells #[.slice G E H] 28));have O:=(U.out).lt;have aK:=Hd ((aN.out).trans (OnlyG.of_below (bR.alloc lR (.cells #[.slice G E H] 28)) (eA O)));go_wp2_with fail;refine(aE.out).mono ?_;rintro e w2 ⟨ob,rfl,M,aA,k,q⟩;have z:=aS.out.below q;have aF:=Hd (aK.out.trans (OnlyG.of_below q (by simp;omega)));have j:=Hd k;have aB:Dy (.slice (some ⟨ob,0,none⟩) 32 32) g:=by
  intro a m c e;simp only[Value.slice.injEq,Option.some.injEq]at e;rw[←e.1];show ob≠g;have:w1.heap.size+1≤ob:=(by simpa using M);omega
 have B:=Hd aB;obtain⟨y0,aT,aU⟩:=z.at V;have aG:=Hd z;clear q k z M aA O aB;go_wp2_with fail;go_ret;have Y:=aG.out.set V _ _ j.out B.out;refine⟨_,rfl,?_,B.out,?_,aF.out.trans (OnlyG.setCell x _)⟩
 ·rw[l.out];exact j.out.onlyG (OnlyG.setCell x _) B.out
 ·rw[aJ.out,l.out];exact Y
theorem Zdv (t:List NodeD)(i:Bg t=true)(aK:TreeOk t)(hp:Be t=true)(k:Nat)(IH:Zht t k):Zht t (k+1):=by
 intro x g v w F h A l hx;have bE:=Fv l;have a4:=Bo i;have bU:2^(k+1)=2*2^k:=(by rw[aP];omega);have b2:0<2^k:=aR (by simp);have L:x<t.length:=(by omega);obtain⟨a0,aY,a1,bQ,bG⟩:=kids_lev (by omega) l;have aO:=Hd (fun(W:World)=>Hs (x:Int) W);have aG:=Hd (fun(W:World)=>Gh (x:Int) W);rw[a0]at aO;rw[aY]at aG;have aX:lev x=k+1:=lev_eq (by omega) l;have p:=Hd (IH (x-2^k) g v w F h A a1 (by omega));obtain⟨F1,aU⟩:=eX (Ku (nd t) F k (x-2^k));have o:=fun(W:World) (M:OnlyG g w W) (ha:AllR W g t.length F1)=>IH (x+2^k) g v W F1 (h.onlyG M) ha bQ (by omega);obtain⟨F2,aD⟩:=eX (Ku (nd t) F1 k (x+2^k));have b0:=Hd (show Ku (nd t) F (k+1) x=fun y=>if y=x then some (Cj (nd t) (k+1) x)else F2 y by rw[Zbb (nd t) F aX bG,aD,aU]);rw[←aU]at p;rw[←aD]at o;have aV:=Df hp L;have bF:(nd t x).kind≠1:=(by have:=aV.1;rwa [Gn bE]at this);have N:=Ct (nd t) k x;have aQ:=Ek (nd t) (k+1) x;have a6:=Kc (t:=nd t) (fun y=>Cf i y) (k+1) x;have aL:=Kd (nd t) (fun y=>aK.nd y) (fun y=>Cf i y) (k+1) x;have C:=Bs (nd t) k (x-2^k);have G:=Bs (nd t) k (x+2^k);obtain⟨q,aW⟩:=eX (Dx (nd t) (k+1) x);rw[←aW]at N aQ a6 aL;obtain⟨H1,aN⟩:=eX (Cj (nd t) k (x-2^k));obtain⟨H2,aT⟩:=eX (Cj (nd t) k (x+2^k));rw[←aN,←aT]at N;rw[←aN]at p C;rw[←aT]at o G;have PT:=fun(cs:Array Value) (W:World) (M:NodeC W (nd t x) cs) (vl vr:Value) (h1:Rd W vl (bvs H1)) (h2:Rd W vr (bvs H2))=>Ix (nd t x) cs vl vr H1 H2 W M (aK.nd x) (Cf i x) h1 h2;have bH:ptF (nd t x) H1 H2=(q,0):=by
  rw[ptF,if_neg (by rw[aV.2];simp[bF]),if_neg (by simp[C,G]),N,List.append_assoc _ (Av H1)]
 unfold Vk at PT;simp only[bH]at PT;obtain⟨a,c,rfl,hc,cJ⟩:=h.sl;obtain⟨b,H,cs,rfl,bM,T,bN,a2,aB⟩:=h.node L;obtain⟨n,hn⟩:=eX t.length;rw[←hn]at L hc a4 A p o⊢;obtain⟨xl,a7⟩:=eX (x-2^k);obtain⟨xr,bK⟩:=eX (x+2^k);rw[←a7]at aO p;rw[←bK]at aG o;have hm:(x:Int)%2=1:=(by omega);have V:=Hd aQ;have aA:=Hd PT;have bC:=Hd o;have b5:=Hd (show q.length≤1000000 by omega);have bS:=Hd aL;have bA:=L;have Q:=Hd aB;have S:=Hd a2;have a9:=Hd bN;clear aU aD aW N hn bH aV bF h aB bN a2 PT aQ a6 aL i aK hp l aX bE aN aT a7 bK a0 aY a1 bQ bG C G IH o A bU b2 hx;go_enter Tryz.func189,Tryz.ntmps189;go_wp2_with fail;refine(aO.out w).mono ?_;rintro e w' ⟨rfl,rfl⟩;go_wp2_with fail;refine(p.out).mono ?_;rintro e wz ⟨v1,rfl,aI,bP,j,r⟩;obtain⟨q1,q2,q3,rfl⟩:∃a b c,v1=.slice a b c:=(by obtain⟨a,c,e,_⟩:=aI;exact⟨_,_,_,e⟩);have P:g<wz.heap.size:=j.lt;have bD:=Hd (Hj S.out r bM T);have bB:b<wz.heap.size:=dX bM r.2.1;obtain⟨CS,aF⟩:=eX cs;rw[←aF]at bD a9;have b7:=Hd (fun(W:World) (M:OnlyG g wz W) (v:Value) (hv:Rd W v (bvs H2))=>aA.out CS W (by rw[aF];exact Q.out W (r.trans M)) (.slice q1 q2 q3) v (aI.onlyG M bP) hv);have b6:=Hd (fun(W:World) (M:Below wz.heap.size wz W)=>bC.out W (r.trans (OnlyG.of_below M (eA P))) (j.below M));have b9:b≠g:=T;have b8:=Hd r;clear aI bP j r aF aA bC S Q p;go_wp2_with fail;refine Bl [eF (.slice (some ⟨b,H,none⟩) n c),eF (.int .i64 (x:Nat)),eF (.pointer (some ⟨b,H+x*10,none⟩)),eF (.agg CS),eF (.slice q1 q2 q3),eF (.slice (some ⟨b,H,none⟩) n c),eF (.int .i64 (x:Nat)),eF (.int .i64 (xr:Nat)),eF (.slice (some ⟨g,0,none⟩) n n),fun v w'=>Rd w' v (bvs H2)∧Dy v g∧AllR w' g n F2,fun v w'=>∃u,v=.tuple #[u,.int .u8 0]∧Rd w' u (bvs q)∧Dy u g,fun v w'=>∃u,v=.tuple #[u,.int .u8 0]∧Rd w' u (bvs q)∧Dy u g,fun v w'=>Rd w' v (bvs q)∧Dy v g,eF (.int .u8 0),fun v w'=>Rd w' v (bvs q)∧Dy v g]
  (List.replicate 15 true) (fun X=>OnlyG g wz X) (fun X Y=>OnlyG g X Y) (some 9) (by kernel_rfl) ?_ ((OnlyG.of_below bR (eA P)).drewN 1) (fun X Y hx h=>OnlyG.of_below h (Nat.le_trans (eA P) hx.2.1)) (fun X Y hx i=>hx.trans i) (by kernel_rfl) (by kernel_rfl) ?_ ?_
 ·exact kE (kE (kE (kE (kE (kE (kE (kE (kE (Cv (fun v x y h _ i=>⟨h.1.below i lR,h.2.1,h.2.2.below i⟩) (Ah (fun v x y h hi i=>let⟨u,e,h2⟩:=h;⟨u,e,(fun v x y h _ i=>⟨h.1.onlyG i h.2,h.2⟩) u x y h2 hi i⟩) (Ah (fun v x y h hi i=>let⟨u,e,h2⟩:=h;⟨u,e,(fun v x y h _ i=>⟨h.1.onlyG i h.2,h.2⟩) u x y h2 hi i⟩) (Ah (fun v x y h _ i=>⟨h.1.onlyG i h.2,h.2⟩) (kE (Ah (fun v x y h _ i=>⟨h.1.onlyG i h.2,h.2⟩) (Ae)))))))))))))))
 ·refine gP ?_ rfl (gP ?_ rfl (gP ?_ rfl (gO ?_ (gP ?_ rfl (gPw (by kernel_rfl) ?_ rfl (gP ?_ rfl (gOw (by kernel_rfl) ?_ (gPw (by kernel_rfl) ?_ rfl (gOw (by kernel_rfl) ?_ (gO ?_ (gO ?_ (gO ?_ (gO ?_ (gO ?_ .nil))))))))))))));all_goals
   intro a I D b3 ho Z;have D:OnlyG g wz I:=D;refine⟨rfl,?_⟩;intro K O;try have cK:a.tmps[0]?.getD undef=.slice (some ⟨b,H,none⟩) n c:=ho 0 (by kernel_rfl)
   try have cI:a.tmps[1]?.getD undef=.int .i64 (x:Nat):=ho 1 (by kernel_rfl)
   try have cM:a.tmps[2]?.getD undef=.slice (some ⟨g,0,none⟩) n n:=ho 2 (by kernel_rfl)
   try have cL:a.tmps[8]?.getD undef=.slice q1 q2 q3:=ho 8 (by kernel_rfl)
   try have bW:=eqn Z.1
   try have cE:=eqn Z.2.1
   try have cH:=eqn Z.2.2.1
   try(refine Hd ?_;go_simp;exact O _ rfl)
  ·exact wp_load_mid 52 (.tmp 30) rfl b (H+x*10) (evs bW) _ _ (Hj bD.out D bB b9) Tryz.underlying52 rfl (by rw[fJ,a9.out];exact Ak) (O _ _ rfl (Af rfl bR))
  ·go_simp;refine(aG.out I).mono ?_;rintro e w2 ⟨rfl,rfl⟩;exact O _ _ rfl (Af rfl bR)
  ·go_simp;refine(b6.out I b3).mono ?_;rintro e w2 ⟨v9,rfl,cC,bT,aE,cD⟩;exact O _ _ ⟨cC,bT,aE⟩ (Ca rfl cD)
  ·have o2:Rd I (a.tmps[37]?.getD undef) (bvs H2)∧Dy (a.tmps[37]?.getD undef) g∧AllR I g n F2:=Z.2.2.1;obtain⟨v2,aH⟩:=eX (a.tmps[37]?.getD undef);rw[←aH]at o2;have e2:=aH.symm;clear aH;go_simp;refine(b7.out I D v2 o2.1).mono ?_;rintro e w2 ⟨z,v9,rfl,B⟩;exact O _ _ ⟨_,rfl,B.rd,Zdt B (dX P D.2.1)⟩ (Af rfl z)
  ·have s:∃u,(a.tmps[38]?.getD undef)=.tuple #[u,.int .u8 0]∧Rd I u (bvs q)∧Dy u g:=Z.1;obtain⟨v0,d⟩:=eX (a.tmps[38]?.getD undef);rw[←d]at s;have e0:=d.symm;clear d;go_simp;exact O _ _ s (Af rfl bR)
  ·have s:∃u,(a.tmps[27]?.getD undef)=.tuple #[u,.int .u8 0]∧Rd I u (bvs q)∧Dy u g:=Z.1;obtain⟨v0,d⟩:=eX (a.tmps[27]?.getD undef);rw[←d]at s;have e0:=d.symm;clear d;obtain⟨u,rfl,o1⟩:=s;go_simp;exact O _ _ o1 (Af rfl bR)
  ·have s:∃u,(a.tmps[27]?.getD undef)=.tuple #[u,.int .u8 0]∧Rd I u (bvs q)∧Dy u g:=Z.1;obtain⟨v0,d⟩:=eX (a.tmps[27]?.getD undef);rw[←d]at s;have e0:=d.symm;clear d;obtain⟨u,rfl,o1⟩:=s;go_simp;exact O _ _ rfl (Af rfl bR)
  ·have s:Rd I (a.tmps[39]?.getD undef) (bvs q)∧Dy (a.tmps[39]?.getD undef) g:=Z.1;obtain⟨v0,d⟩:=eX (a.tmps[39]?.getD undef);rw[←d]at s;have e0:=d.symm;clear d;go_simp;exact O _ _ s (Af rfl bR)
 ·rintro f w9 J E;have J:OnlyG g wz w9:=J;have S7:Rd w9 (f 7) (bvs q)∧Dy (f 7) g:=E.2.2.2.2.2.2.2.2.2.2.2.2.2.2.1;have aJ:Rd w9 (f 37) (bvs H2)∧Dy (f 37) g∧AllR w9 g n F2:=E.2.2.2.2.2.2.2.2.2.1;clear E;simp only[Aj,Aq,Dr,List.filterMap_cons,List.filterMap_nil,List.contains_cons,List.contains_nil,Nat.reduceBEq,Nat.reduceAdd,Bool.or_false,Bool.or_true,cond_true,cond_false];obtain⟨u7,bO⟩:=eX (f 7);rw[←bO]at S7⊢;clear bO;obtain⟨u37,aC⟩:=eX (f 37);rw[←aC]at aJ⊢;clear aC;have bX:∃a b c,u7=.slice a b c:=(by obtain⟨a,c,e,_⟩:=S7.1;exact⟨_,_,_,e⟩);obtain⟨p1,p2,p3,rfl⟩:=bX;have cA:=Hd S7.1;have a8:=Hd aJ.2.2;have b1:=Hd (b8.out.trans J);clear S7 aJ J;go_wp2_with fail;have aZ:=Hd (show Rd (w9.alloc (.cells #[.slice p1 p2 p3] 28)) (.slice p1 p2 p3) (bvs q)from(cA.out).alloc _);have bV:=Hd (Kb w9.heap.size (.slice p1 p2 p3) q (w9.alloc (.cells #[.slice p1 p2 p3] 28)) (Bz rfl) (by simp) aZ.out bS.out b5.out);have cB:=Hd ((a8.out).alloc (.cells #[.slice p1 p2 p3] 28));have a5:=(a8.out).lt;have b4:=Hd ((b1.out).trans (OnlyG.of_below (bR.alloc lR (.cells #[.slice p1 p2 p3] 28)) (eA a5)));go_wp2_with fail;refine(bV.out).mono ?_;rintro e w2 ⟨ob,rfl,a3,bJ,U,z⟩;have aM:=cB.out.below z;have bY:=Hd (b4.out.trans (OnlyG.of_below z (by simp;omega)));have R:=Hd U;have bL:Dy (.slice (some ⟨ob,0,none⟩) 32 32) g:=by
   intro a m c e;simp only[Value.slice.injEq,Option.some.injEq]at e;rw[←e.1];show ob≠g;have:w9.heap.size+1≤ob:=(by simpa using a3);omega
  have aS:=Hd bL;obtain⟨y0,cF,cG⟩:=aM.at bA;have bZ:=Hd aM;clear z U aM a3 bJ a5 bL;go_wp2_with fail;go_ret;have bI:=bZ.out.set bA _ _ R.out aS.out;refine⟨_,rfl,?_,aS.out,?_,bY.out.trans (OnlyG.setCell x _)⟩
  ·rw[V.out];exact R.out.onlyG (OnlyG.setCell x _) aS.out
  ·rw[b0.out,V.out];exact bI
end Go.Proofs.YtfofaiommeckbaaGreat
