/- Append on a slice that the call owns: what comes out lies where the slice lay, or in new memory. -/
import Derived.Test.YtfofaiommeckbaaGreatZSliceReadsB
import Derived.Deep.RegionLaw
import Derived.Test.YtfofaiommeckbaaGreatZSliceReads24
import Derived.Test.YtfofaiommeckbaaGreatZSliceReads28
import Derived.Test.YtfofaiommeckbaaGreatZSliceReads26
import Derived.ArgAppend
open Nat renaming mul_le_mul_left → aC, pow_succ → aQ, pos_of_ne_zero → aN, lt_of_lt_of_le → dH, le_of_lt → dL
open List renaming mem_flatten → eB, length_append → aG, length_cons → bO, length_nil → bI, mem_map → dW, mem_cons → aE, mem_append → eC, not_mem_nil → eD
open Array renaming getElem?_setIfInBounds → cE, length_toList → eE
set_option linter.unusedVariables false
set_option maxRecDepth 100000
set_option maxHeartbeats 40000000
namespace Go.Proofs.YtfofaiommeckbaaGreat
open Go.RowKit
def Uv (w:World)(v v':Value):Prop:=v'.ownBlock=v.ownBlock∨∃g,v'.ownBlock=some g∧w.heap.size≤g
theorem Zb0 {P:Program} {w:World} {o:Oper} {a:Act} {K:Act→World→Prop} {Q:Exit→Act→World→Prop} (s x:Operand) (t:TypeId)
  (ho:o.op=.call {callee:=.builtin .append,args:=#[s,x],argTypes:=#[t,t]})
  (B:Nat) (e:TypeId) (z:Value) (bytes:Nat) (F:Elem P t e z bytes)
  (v:Value) (xs:List Value) (hs:a.eval s=v) (hown:Own w B e v xs)
  (r:Value) (ys:List Value) (hx:a.eval x=r) (hr:Rd w r ys) (h1:∀u∈ys,u.oneCell'=true)
  (hn:xs.length+ys.length<1099511627776) (hB:B≤w.heap.size)
  (h:∀v' w',Own w' B e v' (xs++ys)→w.grownBy w' v.ownBlock→Below B w w'→Uv w v v'→K (a.put o.dst v') w'):o.wp P a w K Q:=by
 obtain⟨i,hi,hz,hsz,hby⟩:=info_parts F.inf;have low:=F.low;have hmul:(xs.length+ys.length)*bytes≤(xs.length+ys.length)*64:=aC _ low;have hmul2:ys.length*bytes≤ys.length*64:=aC _ low;have fin:∀(ad:Addr) cap,r=.slice (some ad) ys.length cap→(∀(j:Nat) u,ys[j]? =some u→w.cell? (ad.add j)=some u)→o.wp P a w K Q:=by
  intro ad cap hv hu;subst hv;obtain⟨v',w',hr,h2,h3,h4⟩:=run_append_own (P:=P) w B t o.type e i z 1 bytes F.ty hi hz hsz hby F.one (by omega) v xs.length xs hown ad ys.length cap ys (by omega) hu h1 (by unfold maxLen;omega) (by omega) hB;have hwh:Uv w v v':=by
   have hown':=hown;obtain⟨hl,hc⟩:=hown';rcases hc with⟨rfl,h0⟩|⟨g,cp,cur,rfl,hbg,hg,hnc,hcm,hcs,htake⟩
   ·by_cases hm:ys.length=0
    ·rw[h4.2 ⟨rfl,hm⟩];exact .inl rfl
    ·have:=run_append_nil (P:=P) w t o.type e i z F.ty hi hz ad ys.length cap ys (by rw[hsz];omega) hu (by omega) (by omega) (by rw[hby];omega);rw[this]at hr;cases hr;exact .inr ⟨w.heap.size,rfl,lR⟩
   ·by_cases hroom:xs.length+ys.length≤cp
    ·have:=run_append_room (P:=P) w t o.type e i F.ty hi g xs.length cp cur hg ad ys.length cap ys (by rw[hsz];omega) hu h1 hroom (by rw[hsz,hcs];omega);rw[this]at hr;cases hr;exact .inl rfl
    ·have holds:∀j u,xs[j]? =some u→w.cell? ((⟨g,0,none⟩:Addr).add j)=some u:=World.ownsRow.cells (g:=g) hown rfl;have:=run_append_grow (P:=P) w t o.type e i z F.ty hi hz ⟨g,0,none⟩ xs.length cp xs (by rw[hsz];omega) holds ad ys.length cap ys (by rw[hsz];omega) hu (by omega) (by omega) (growslice_fits (by omega) (by rw[hby];omega));rw[this]at hr;cases hr;exact .inr ⟨w.heap.size,rfl,lR⟩
  have e1:(xs++ys).length=xs.length+ys.length:=(by simp);have hfin:=h v' w' (by unfold Own;rw[e1];exact h2) h3 ((Below.refl B w).grown h3 hB (fun k hk=>(World.ownsRow.lt hown k hk).1)) hwh;unfold Oper.wp execOp;simp only[ho,resolve,invoke,builtin,Sem.run_bind,Sem.run_pure,Result.andThen_ok,List.map_toArray,List.map_cons,List.map_nil,hs,hx,hr];exact hfin
 obtain⟨ad,cap,rfl,_,_,⟨rfl,hcap⟩|⟨b,off,rfl,hc⟩⟩:=hr
 ·cases ad with
  |none=>
   obtain rfl:=hcap rfl;have hrun:=run_append_owned_none (P:=P) (w:=w) B t o.type e i 1 F.ty hi v xs.length xs hown;unfold Oper.wp;have hx':a.eval x=.slice none 0 0:=hx;simp[execOp,ho,resolve,invoke,builtin,hs,hx',hrun,Result.andThen];exact h v w (by simpa using hown) ⟨rfl,rfl,rfl,lR,fun _ _ _=>rfl⟩ bR (.inl rfl)
  |some ad=>exact fin ad cap rfl (by simp)
 ·exact fin _ cap rfl (fun j u hu=>by rw[Addr.add_lit];exact hc j u hu)
open WalkM ShaM WireM
mutual
def Jo (t:Nat→NodeD):Nat→Nat→List Nat
 |0,x=>([1]++beN 4 (x/2))++Ci (t x)
 |k+1,x=>([2]++Ci (t x))++(Ca (Dz t k (x-2^k))++Ca (Dz t k (x+2^k)))
def Dz (t:Nat→NodeD):Nat→Nat→List Nat
 |0,x=>shaF (([1]++beN 4 (x/2))++Ci (t x))
 |k+1,x=>shaF (([2]++Ci (t x))++(Ca (Dz t k (x-2^k))++Ca (Dz t k (x+2^k))))
end
theorem Ff (t:Nat→NodeD)(k x:Nat):Dz t k x=shaF (Jo t k x):=by cases k<;>simp only[Dz,Jo]
theorem Dn (t:Nat→NodeD)(x:Nat):Jo t 0 x=([1]++beN 4 (x/2))++Ci (t x):=by simp only[Jo]
theorem Do (t:Nat→NodeD)(k x:Nat):Jo t (k+1) x=([2]++Ci (t x))++(Ca (Dz t k (x-2^k))++Ca (Dz t k (x+2^k))):=by simp only[Jo]
theorem Cn (t:Nat→NodeD)(k x:Nat):(Dz t k x).length=32:=by rw[Ff];exact Lx _
theorem Zie (b:List Nat):∀x∈shaF b,x<256:=by
 intro x hx;unfold shaF at hx;rw[eB]at hx;obtain⟨l,hl,hx⟩:=hx;obtain⟨y,_,rfl⟩:=List.mem_map.1 hl;exact beN_lt _ _ x hx
theorem Wz (t:Nat→NodeD)(k x:Nat):∀y∈Dz t k x,y<256:=by rw[Ff];exact Zie _
theorem Zhf {L:List Nat}(h:L.length=32):(Ca L).length≤36:=by have:=Ds L (by omega);omega
theorem Sn {t:Nat→NodeD}(hs:∀x,Cb (t x)=true)(k x:Nat):(Jo t k x).length≤8000:=by
 have h:=Mn (hs x);cases k with
 |zero=>
  rw[Dn];simp only[aG,bO,bI,beN_len];omega
 |succ k=>
  have h1:=Zhf (Cn t k (x-2^k));have h2:=Zhf (Cn t k (x+2^k));rw[Do];simp only[aG,bO,bI];omega
end Go.Proofs.YtfofaiommeckbaaGreat
namespace Go.Proofs.YtfofaiommeckbaaGreat
open Go.RowKit
theorem Zjr {P:Program} {w:World} {o:Oper} {a:Act} {K:Act→World→Prop} {Q:Exit→Act→World→Prop} (s x:Operand) (t:TypeId)
  (ho:o.op=.call {callee:=.builtin .append,args:=#[s,x],argTypes:=#[t,t]})
  (B:Nat) (e:TypeId) (z:Value) (bytes:Nat) (F:Elem P t e z bytes)
  (v:Value) (xs:List Value) (hs:a.eval s=v) (hown:Own w B e v xs)
  (r:Value) (ys:List Value) (hx:a.eval x=r) (hr:Rd w r ys) (h1:∀u∈ys,u.oneCell'=true)
  (hn:xs.length+ys.length<1099511627776) (hB:B≤w.heap.size)
  (h:∀v' w',Own w' B e v' (xs++ys)→Below B w w'→K (a.put o.dst v') w'):o.wp P a w K Q:=by
 obtain⟨i,hi,hz,hsz,hby⟩:=info_parts F.inf;have low:=F.low;have hmul:(xs.length+ys.length)*bytes≤(xs.length+ys.length)*64:=aC _ low;have fin:∀(ad:Addr) cap,r=.slice (some ad) ys.length cap→(∀(j:Nat) u,ys[j]? =some u→w.cell? (ad.add j)=some u)→o.wp P a w K Q:=by
  intro ad cap hv hu;subst hv;refine wp_append_own w s x t ho B e i z 1 bytes F.ty hi hz hsz hby F.one (by omega) v xs.length xs hs hown ad ys.length cap ys hx (by omega) hu h1 (by unfold maxLen;omega) (by omega) hB ?_;intro v' w' h2 h3 _;have e1:(xs++ys).length=xs.length+ys.length:=(by simp);refine h v' w' (by unfold Own;rw[e1];exact h2) ?_;refine(Below.refl B w).grown h3 hB ?_;intro k hk;exact(World.ownsRow.lt hown k hk).1
 obtain⟨ad,cap,rfl,_,_,⟨rfl,hcap⟩|⟨b,off,rfl,hc⟩⟩:=hr
 ·cases ad with
  |none=>
   obtain rfl:=hcap rfl;have hrun:=run_append_owned_none (P:=P) (w:=w) B t o.type e i 1 F.ty hi v xs.length xs hown;unfold Oper.wp;have hx':a.eval x=.slice none 0 0:=hx;simp[execOp,ho,resolve,invoke,builtin,hs,hx',hrun,Result.andThen];exact h v w (by simpa using hown) bR
  |some ad=>exact fin ad cap rfl (by simp)
 ·exact fin _ cap rfl (fun j u hu=>by rw[Addr.add_lit];exact hc j u hu)
theorem Zfu {P:Program} {w:World} {ops:Array Oper} {o:Oper} {a:Act} {K:Act→World→Prop} {Q:Exit→Act→World→Prop} {E:Prop} (hgd:o.guard=none) (s x:Operand) (t:TypeId)
  (ho:o.op=.call {callee:=.builtin .append,args:=#[s,x],argTypes:=#[t,t]})
  (B:Nat) (e:TypeId) (z:Value) (bytes:Nat) (F:Elem P t e z bytes)
  (v:Value) (xs:List Value) (hs:a.eval s=v) (hown:Own w B e v xs)
  (r:Value) (ys:List Value) (hx:a.eval x=r) (hr:Rd w r ys) (h1:∀u∈ys,u.oneCell'=true)
  (hn:xs.length+ys.length<1099511627776) (hB:B≤w.heap.size)
  (h:∀v' w',Own w' B e v' (xs++ys)→Below B w w'→K (a.put o.dst v') w'):if Region.wanted o (yielded ops a.tmps)=true then Oper.wp P o a w K Q else E:=by
 have hw:Region.wanted o (yielded ops a.tmps)=true:=(by simp[Region.wanted,hgd]);rw[if_pos hw];exact Zjr s x t ho B e z bytes F v xs hs hown r ys hx hr h1 hn hB h
open WireM
theorem Zif:∀(l:List (List Nat)),(∀r∈l,r.length≤200)→(∀r∈l,∀x∈r,x<256)→∀x∈Ob l,x<256:=by
 intro l h1 h2 x hx;simp only[Ob,eB,dW]at hx;obtain⟨y,⟨r,hr,rfl⟩,hx⟩:=hx;exact Gy (by have:=h1 r hr;omega) (h2 r hr) x hx
theorem Zfv (L:List Int):∀x∈Dw L,x<256:=by
 intro x hx;simp only[Dw,eB,dW]at hx;obtain⟨y,⟨z,_,rfl⟩,hx⟩:=hx;exact beN_lt _ _ x hx
theorem Zfw {d:NodeD}(hk:NodeOk d)(hs:Cb d=true):∀x∈Ci d,x<256:=by
 have hsm:=of_decide_eq_true hs;have hl:=Di d.par.late;unfold Ci
 split
 ·intro x hx;rw[aE,eC]at hx;rcases hx with rfl|hx|hx
  ·omega
  ·rw[Rw,eC,eC]at hx;rcases hx with(hx|hx)|hx
   ·refine Zif _ ?_ ?_ x hx
    ·intro r hr;simp at hr;rcases hr with rfl|rfl|rfl<;>omega
    ·intro r hr;simp at hr;rcases hr with rfl|rfl|rfl
     ·exact hk.box
     ·exact hk.sign
     ·exact hk.ident
   ·rw[List.mem_singleton]at hx;have:=hk.source;omega
   ·split at hx
    ·exact Gy (by omega) hk.par x hx
    ·cases hx
  ·exact Gy (by omega) hk.sig x hx
 ·split
  ·intro x hx;rw[aE,Zha,eC,eC]at hx;rcases hx with rfl|(hx|hx)|hx
   ·omega
   ·exact Gy (by omega) hk.pbox x hx
   ·exact Gy (by omega) hk.hash x hx
   ·exact Gy (by omega) (Zfv _) x hx
  ·intro x hx;simp at hx;omega
open WalkM ShaM
theorem So (t:Nat→NodeD)(hk:∀x,NodeOk (t x))(hs:∀x,Cb (t x)=true)(k x:Nat):∀y∈Jo t k x,y<256:=by
 have hn:=Zfw (hk x) (hs x);intro y hy;cases k with
 |zero=>
  rw[Dn]at hy;simp only[eC,aE,eD,or_false]at hy;rcases hy with(rfl|hy)|hy
  ·omega
  ·exact beN_lt _ _ y hy
  ·exact hn y hy
 |succ k=>
  rw[Do]at hy;simp only[eC,aE,eD,or_false]at hy;rcases hy with(rfl|hy)|hy|hy
  ·omega
  ·exact hn y hy
  ·exact Gy (by rw[Cn];omega) (Wz _ _ _) y hy
  ·exact Gy (by rw[Cn];omega) (Wz _ _ _) y hy
def Dj (u:Value)(g:Nat):Prop:=∀a m c,u=.slice (some a) m c→a.block≠g
theorem Zb1 {w:World} {B g:Nat} {e:TypeId} {v:Value} {xs:List Value}(h:Own w B e v xs)(hg:g<B):Dj v g:=by
 intro a m c e;rcases h.2 with⟨e2,_⟩|⟨g',cp,cur,e2,hb,_⟩
 ·rw[e2]at e;cases e
 ·rw[e2]at e;simp only[Value.slice.injEq,Option.some.injEq]at e;rw[←e.1];show g'≠g;omega
def AllR (w:World)(g n:Nat)(F:Nat→Option (List Nat)):Prop:=
 ∃cs:Array Value,Blk w g 28 cs∧cs.size=n∧∀y,y<n→∃u,cs[y]? =some u∧∀L,F y=some L→Rd w u (bvs L)∧Dj u g
theorem AllR.lt {w:World} {g n:Nat} {F:Nat→Option (List Nat)}(h:AllR w g n F):g<w.heap.size:=by
 obtain⟨cs,hb,_⟩:=h;exact hb.lt
theorem AllR.below {w w':World} {g n:Nat} {F:Nat→Option (List Nat)}(h:AllR w g n F)(hb:Below w.heap.size w w'):AllR w' g n F:=by
 obtain⟨cs,h1,h2,h3⟩:=h;refine⟨cs,h1.below hb h1.lt,h2,fun y hy=> ?_⟩;obtain⟨u,k1,k2⟩:=h3 y hy;exact⟨u,k1,fun L hL=>⟨(k2 L hL).1.below hb lR,(k2 L hL).2⟩⟩
theorem AllR.alloc {w:World} {g n:Nat} {F:Nat→Option (List Nat)}(h:AllR w g n F)(o:Obj):AllR (w.alloc o) g n F:=h.below (bR.alloc lR o)
theorem AllR.at {w:World} {g n:Nat} {F:Nat→Option (List Nat)}(h:AllR w g n F) {x:Nat}(hx:x<n):∃u,w.cell? ⟨g,x,none⟩=some u∧w.frozen? ⟨g,x,none⟩=false:=by
 obtain⟨cs,h1,h2,h3⟩:=h;obtain⟨u,k1,_⟩:=h3 x hx;exact⟨u,by rw[h1.cell];exact k1,h1.frozen x⟩
theorem AllR.row {w:World} {g n:Nat} {F:Nat→Option (List Nat)}(h:AllR w g n F) {x:Nat}(hx:x<n) {L:List Nat}(hL:F x=some L):∃u,w.cell? ⟨g,x,none⟩=some u∧Rd w u (bvs L)∧Dj u g:=by
 obtain⟨cs,h1,h2,h3⟩:=h;obtain⟨u,k1,k2⟩:=h3 x hx;exact⟨u,by rw[h1.cell];exact k1,k2 L hL⟩
theorem AllR.set {w:World} {g n:Nat} {F:Nat→Option (List Nat)}(h:AllR w g n F) {x:Nat}(hx:x<n)(u:Value)(L:List Nat)(hr:Rd w u (bvs L))(ha:Dj u g):AllR (w.setCell ⟨g,x,none⟩ u) g n (fun y=>if y=x then some L else F y):=by
 obtain⟨cs,h1,h2,h3⟩:=h;refine⟨_,h1.set x u,by rw[Array.size_setIfInBounds];exact h2,fun y hy=> ?_⟩
 by_cases e:y=x
 ·subst e;refine⟨u,by rw[cE,if_pos rfl,if_pos (by omega)],fun L' hL'=> ?_⟩;have hL':(if y=y then some L else F y)=some L':=hL';rw[if_pos rfl]at hL';cases hL';exact⟨hr.onlyG (OnlyG.setCell y u) ha,ha⟩
 ·obtain⟨u',k1,k2⟩:=h3 y hy;refine⟨u',by rw[cE,if_neg (fun h=>e h.symm)];exact k1,fun L' hL'=> ?_⟩;have hL':(if y=x then some L else F y)=some L':=hL';rw[if_neg e]at hL';exact⟨(k2 L' hL').1.onlyG (OnlyG.setCell x u) (k2 L' hL').2,(k2 L' hL').2⟩
def Ki (T:Nat→NodeD)(F:Nat→Option (List Nat))(k x:Nat)(y:Nat):Option (List Nat):=if x+1≤y+2^k∧y<x+2^k then some (Dz T (lev y) y)else F y
theorem Zj (T:Nat→NodeD)(F:Nat→Option (List Nat)) {x:Nat}(hl:lev x=0):Ki T F 0 x=fun y=>if y=x then some (Dz T 0 x)else F y:=by
 funext y
 unfold Ki;rw[show(2:Nat)^0=1 from rfl]
 by_cases h:y=x
 ·rw[if_pos (by omega),if_pos h,h,hl]
 ·rw[if_neg (by omega),if_neg h]
theorem Zk (T:Nat→NodeD)(F:Nat→Option (List Nat)) {x k:Nat}(hl:lev x=k+1)(hx:2^k≤x):Ki T F (k+1) x=fun y=>if y=x then some (Dz T (k+1) x)else Ki T (Ki T F k (x-2^k)) k (x+2^k) y:=by
 funext y
 have e:2^(k+1)=2*2^k:=(by rw[aQ];omega);have hp:0<2^k:=aN (by simp)
 by_cases h:y=x
 ·rw[if_pos h];unfold Ki;rw[if_pos (by omega),h,hl]
 ·rw[if_neg h];unfold Ki;rw[e]
  by_cases h2:x+2^k+1≤y+2^k∧y<x+2^k+2^k
  ·rw[if_pos h2,if_pos (by omega)]
  ·rw[if_neg h2]
   by_cases h3:x-2^k+1≤y+2^k∧y<x-2^k+2^k
   ·rw[if_pos h3,if_pos (by omega)]
   ·rw[if_neg h3,if_neg (by omega)]
def TreeG (w:World)(g:Nat)(v:Value)(t:List NodeD):Prop:=
 ∃a cap,v=.slice a t.length cap∧t.length≤cap∧cap≤maxLen∧∀i,i<t.length→∃b off c,a=some ⟨b,off,none⟩∧b<w.heap.size∧b≠g∧c.size=10∧w.rangeAt b (off+i*10) c.toList∧∀W,OnlyG g w W→NodeC W (nd t i) c
theorem Gk {w w':World} {g b o:Nat} {cs:List Value}(h:w.rangeAt b o cs)(hb:OnlyG g w w')(hl:b<w.heap.size)(hne:b≠g):w'.rangeAt b o cs:=by
 intro j u hu;have:=h j u hu;rw[World.cell?_of_block (hb.2.2 b hl hne)];exact this
theorem TreeG.onlyG {w w':World} {g:Nat} {v:Value} {t:List NodeD}(h:TreeG w g v t)(hb:OnlyG g w w'):TreeG w' g v t:=by
 obtain⟨a,cap,e,h1,h2,h3⟩:=h;refine⟨a,cap,e,h1,h2,fun i hi=> ?_⟩;obtain⟨b,off,c,k1,k2,k3,k4,k5,k6⟩:=h3 i hi;exact⟨b,off,c,k1,dH k2 hb.2.1,k3,k4,Gk k5 hb k2 k3,fun W hW=>k6 W (hb.trans hW)⟩
theorem TreeR.g {w0 w:World} {g:Nat} {v:Value} {t:List NodeD}(h:TreeR w0 v t)(hb:Below w0.heap.size w0 w)(hg:w0.heap.size≤g):TreeG w g v t:=by
 obtain⟨a,cap,e,h1,h2,h3⟩:=h;refine⟨a,cap,e,h1,h2,fun i hi=> ?_⟩;obtain⟨b,off,c,k1,k2,k3,k4⟩:=h3 i hi;exact⟨b,off,c,k1,dH k2 hb.size,by omega,k3.size,An k4 hb k2,fun W hW=>k3.below (hb.trans (hW.1.mono hg)) lR⟩
theorem TreeG.sl {w:World} {g:Nat} {v:Value} {t:List NodeD}(h:TreeG w g v t):∃a c,v=.slice a t.length c∧t.length≤c∧c≤9223372036854775807:=by
 obtain⟨a,cap,e,h1,h2,_⟩:=h;unfold maxLen at h2;exact⟨a,cap,e,h1,h2⟩
theorem TreeG.node {w:World} {g:Nat} {a:Option Addr} {n c:Nat} {t:List NodeD}(h:TreeG w g (.slice a n c) t) {i:Nat}(hi:i<n):∃b off cs,a=some ⟨b,off,none⟩∧b<w.heap.size∧b≠g∧cs.size=10∧w.rangeAt b (off+i*10) cs.toList∧∀W,OnlyG g w W→NodeC W (nd t i) cs:=by
 obtain⟨a',cap,e,h1,h2,h3⟩:=h;simp only[Value.slice.injEq]at e;obtain⟨rfl,rfl,rfl⟩:=e;exact h3 i hi
def Zfx (t:List NodeD)(k:Nat):Prop:=∀(x g:Nat) (v:Value) (w:World) (F:Nat→Option (List Nat)),TreeG w g v t→AllR w g t.length F→IsLev x k→x+2^k≤t.length→
 Calls Tryz.prog 189 #[v,.int .i64 (x:Nat),.slice (some ⟨g,0,none⟩) t.length t.length] w fun e w'=>∃v',e=.returned v'∧Rd w' v' (bvs (Dz (nd t) k x))∧Dj v' g∧AllR w' g t.length (Ki (nd t) F k x)∧OnlyG g w w'
theorem Zb2 (t:List NodeD)(hs:Eg t=true)(hok:TreeOk t)(hp:Ch t=true):Zfx t 0:=by
 intro x g v w F h hall hlev hx;have hev:=Gj hlev;have hx:x<t.length:=(by have:(2:Nat)^0=1:=rfl;omega);have hlen:=Fn hs;have hoo:OnlyG g w w:=OnlyG.of_below bR (dL hall.lt);obtain⟨a,c,rfl,hc,hc2⟩:=h.sl;obtain⟨b,off,cs,rfl,hbl,hbg,hcz,hra,hncs⟩:=h.node hx;have hnc:=hncs w hoo;have hlx:lev x=0:=lev_eq (by omega) hlev;have hpl:=Fq hp hx;have hk2:(nd t x).kind≠2:=(by have:=hpl.1;rwa [Iq hev]at this);have LT:=Sd ((x/2:Nat):Int) (nd t x) cs w hnc (hok.nd x) (Dy hs x);have hlt:ltF ((x/2:Nat):Int) (nd t x)=(([1]++beN 4 (x/2))++Ci (nd t x),0):=by
  rw[ltF,if_neg (by omega),if_neg (by rw[hpl.2];simp[hk2]),Int.toNat_natCast]
 unfold Za1 at LT;rw[hlt]at LT;have htn:=Dn (nd t) x;have HHE:=Ff (nd t) 0 x;have htl:=Sn (t:=nd t) (fun y=>Dy hs y) 0 x;have htb:=So (nd t) (fun y=>hok.nd y) (fun y=>Dy hs y) 0 x;rw[←htn]at LT;obtain⟨n,hn⟩:=eX t.length;rw[←hn]at hx hc hlen hall⊢;obtain⟨m,hm0⟩:=eX (x/2);rw[←hm0]at LT;have hq:(x:Int)/2=(m:Int):=(by omega);have hm:(x:Int)%2=0:=(by omega);obtain⟨TX,hTX⟩:=eX (Jo (nd t) 0 x);rw[←hTX]at LT HHE htl htb;have HTXE:=Hd HHE;have HLT:=Hd LT;have HRA:=Hd hra;have HSZ:=Hd hnc.size;have HAL:=Hd hall;have HTL:=Hd (show TX.length≤1000000 by omega);have HTB:=Hd htb;have HFE:=Hd (Zj (nd t) F hlx);have hxn:=hx;clear hTX htn hm0 hn hlt hpl hk2 h hncs hoo hcz hbg hnc hra LT HHE htl htb hs hok hp hlev hlx hev hall;go_enter Tryz.func189,Tryz.ntmps189;go_wp2_with (refine wpList_load_mid rfl 52 (.tmp 17) rfl b (off+x*10) rfl cs.toList _ HRA.out Tryz.underlying52 rfl (by rw[eE,HSZ.out];exact Be) ?_);refine(HLT.out).mono ?_;rintro e w1 ⟨hb1,v1,rfl,hown1⟩;obtain⟨p1,p2,p3,rfl⟩:=Dl hown1;have HR1:=Hd hown1.rd;have HA1:=Hd (HAL.out.below hb1);have HO1:=Hd (OnlyG.of_below hb1 (dL HAL.out.lt));clear hb1 hown1;go_wp2_with fail;have HRT0:=Hd (show Rd (w1.alloc (.cells #[.slice p1 p2 p3] 28)) (.slice p1 p2 p3) (bvs TX)from(HR1.out).alloc _);have HSO:=Hd (Sm w1.heap.size (.slice p1 p2 p3) TX (w1.alloc (.cells #[.slice p1 p2 p3] 28)) (Ar rfl) (by simp) HRT0.out HTB.out HTL.out);have HA0:=Hd ((HA1.out).alloc (.cells #[.slice p1 p2 p3] 28));have hg0:=(HA1.out).lt;have HO0:=Hd ((HO1.out).trans (OnlyG.of_below (bR.alloc lR (.cells #[.slice p1 p2 p3] 28)) (dL hg0)));go_wp2_with fail;refine(HSO.out).mono ?_;rintro e w2 ⟨ob,rfl,hob,hob2,hrd2,hb2⟩;have hA2:=HA0.out.below hb2;have HO2:=Hd (HO0.out.trans (OnlyG.of_below hb2 (by simp;omega)));have HRD2:=Hd hrd2;have hap:Dj (.slice (some ⟨ob,0,none⟩) 32 32) g:=by
  intro a m c e;simp only[Value.slice.injEq,Option.some.injEq]at e;rw[←e.1];show ob≠g;have:w1.heap.size+1≤ob:=(by simpa using hob);omega
 have HAP:=Hd hap;obtain⟨y0,hc0,hf0⟩:=hA2.at hxn;have HA2:=Hd hA2;clear hb2 hrd2 hA2 hob hob2 hg0 hap;go_wp2_with fail;go_ret;have hset:=HA2.out.set hxn _ _ HRD2.out HAP.out;refine⟨_,rfl,?_,HAP.out,?_,HO2.out.trans (OnlyG.setCell x _)⟩
 ·rw[HTXE.out];exact HRD2.out.onlyG (OnlyG.setCell x _) HAP.out
 ·rw[HFE.out,HTXE.out];exact hset
theorem Zb3 (t:List NodeD)(hs:Eg t=true)(hok:TreeOk t)(hp:Ch t=true)(k:Nat)(IH:Zfx t k):Zfx t (k+1):=by
 intro x g v w F h hall hlev hx;have hod:=Jn hlev;have hlen:=Fn hs;have hpw:2^(k+1)=2*2^k:=(by rw[aQ];omega);have hp1:0<2^k:=aN (by simp);have hxt:x<t.length:=(by omega);obtain⟨hkl,hkr,hl1,hl2,hkx⟩:=kids_lev (by omega) hlev;have HLF:=Hd (fun(W:World)=>Mg (x:Int) W);have HRT:=Hd (fun(W:World)=>Jx (x:Int) W);rw[hkl]at HLF;rw[hkr]at HRT;have hlx:lev x=k+1:=lev_eq (by omega) hlev;have HF1:=Hd (IH (x-2^k) g v w F h hall hl1 (by omega));obtain⟨F1,hF1⟩:=eX (Ki (nd t) F k (x-2^k));have HF2:=fun(W:World) (hw:OnlyG g w W) (ha:AllR W g t.length F1)=>IH (x+2^k) g v W F1 (h.onlyG hw) ha hl2 (by omega);obtain⟨F2,hF2⟩:=eX (Ki (nd t) F1 k (x+2^k));have HFE:=Hd (show Ki (nd t) F (k+1) x=fun y=>if y=x then some (Dz (nd t) (k+1) x)else F2 y by rw[Zk (nd t) F hlx hkx,hF2,hF1]);rw[←hF1]at HF1;rw[←hF2]at HF2;have hpl:=Fq hp hxt;have hk1:(nd t x).kind≠1:=(by have:=hpl.1;rwa [Ke hod]at this);have htn:=Do (nd t) k x;have HHE:=Ff (nd t) (k+1) x;have htl:=Sn (t:=nd t) (fun y=>Dy hs y) (k+1) x;have htb:=So (nd t) (fun y=>hok.nd y) (fun y=>Dy hs y) (k+1) x;have hl32:=Cn (nd t) k (x-2^k);have hr32:=Cn (nd t) k (x+2^k);obtain⟨TX,hTX⟩:=eX (Jo (nd t) (k+1) x);rw[←hTX]at htn HHE htl htb;obtain⟨H1,hH1⟩:=eX (Dz (nd t) k (x-2^k));obtain⟨H2,hH2⟩:=eX (Dz (nd t) k (x+2^k));rw[←hH1,←hH2]at htn;rw[←hH1]at HF1 hl32;rw[←hH2]at HF2 hr32;have PT:=fun(cs:Array Value) (W:World) (hw:NodeC W (nd t x) cs) (vl vr:Value) (h1:Rd W vl (bvs H1)) (h2:Rd W vr (bvs H2))=>Od (nd t x) cs vl vr H1 H2 W hw (hok.nd x) (Dy hs x) h1 h2;have hpt:ptF (nd t x) H1 H2=(TX,0):=by
  rw[ptF,if_neg (by rw[hpl.2];simp[hk1]),if_neg (by simp[hl32,hr32]),htn,List.append_assoc _ (Ca H1)]
 unfold Za1 at PT;simp only[hpt]at PT;obtain⟨a,c,rfl,hc,hc2⟩:=h.sl;obtain⟨b,off,cs,rfl,hbl,hbg0,hcz,hra,hncs⟩:=h.node hxt;obtain⟨n,hn⟩:=eX t.length;rw[←hn]at hxt hc hlen hall HF1 HF2⊢;obtain⟨xl,hxl⟩:=eX (x-2^k);obtain⟨xr,hxr⟩:=eX (x+2^k);rw[←hxl]at HLF HF1;rw[←hxr]at HRT HF2;have hm:(x:Int)%2=1:=(by omega);have HTXE:=Hd HHE;have HPT0:=Hd PT;have HFF:=Hd HF2;have HTL:=Hd (show TX.length≤1000000 by omega);have HTB:=Hd htb;have hxn:=hxt;have HNC0:=Hd hncs;have HRA0:=Hd hra;have HSZ:=Hd hcz;clear hF1 hF2 hTX htn hn hpt hpl hk1 h hncs hcz hra PT HHE htl htb hs hok hp hlev hlx hod hH1 hH2 hxl hxr hkl hkr hl1 hl2 hkx hl32 hr32 IH HF2 hall hpw hp1 hx;go_enter Tryz.func189,Tryz.ntmps189;go_wp2_with fail;refine(HLF.out w).mono ?_;rintro e w' ⟨rfl,rfl⟩;go_wp2_with fail;refine(HF1.out).mono ?_;rintro e wz ⟨v1,rfl,hr1,ha1,hall1,ho1⟩;obtain⟨q1,q2,q3,rfl⟩:∃a b c,v1=.slice a b c:=(by obtain⟨a,c,e,_⟩:=hr1;exact⟨_,_,_,e⟩);have hgz:g<wz.heap.size:=hall1.lt;have HRA:=Hd (Gk HRA0.out ho1 hbl hbg0);have hblz:b<wz.heap.size:=dH hbl ho1.2.1;obtain⟨CS,hCS⟩:=eX cs;rw[←hCS]at HRA HSZ;have HPT:=Hd (fun(W:World) (hw:OnlyG g wz W) (v:Value) (hv:Rd W v (bvs H2))=>HPT0.out CS W (by rw[hCS];exact HNC0.out W (ho1.trans hw)) (.slice q1 q2 q3) v (hr1.onlyG hw ha1) hv);have HFR:=Hd (fun(W:World) (hw:Below wz.heap.size wz W)=>HFF.out W (ho1.trans (OnlyG.of_below hw (dL hgz))) (hall1.below hw));have hbg:b≠g:=hbg0;have HO1:=Hd ho1;clear hr1 ha1 hall1 ho1 hCS HPT0 HFF HRA0 HNC0 HF1;go_wp2_with fail;refine Ax [eF (.slice (some ⟨b,off,none⟩) n c),eF (.int .i64 (x:Nat)),eF (.pointer (some ⟨b,off+x*10,none⟩)),eF (.agg CS),eF (.slice q1 q2 q3),eF (.slice (some ⟨b,off,none⟩) n c),eF (.int .i64 (x:Nat)),eF (.int .i64 (xr:Nat)),eF (.slice (some ⟨g,0,none⟩) n n),fun v w'=>Rd w' v (bvs H2)∧Dj v g∧AllR w' g n F2,fun v w'=>∃u,v=.tuple #[u,.int .u8 0]∧Rd w' u (bvs TX)∧Dj u g,fun v w'=>∃u,v=.tuple #[u,.int .u8 0]∧Rd w' u (bvs TX)∧Dj u g,fun v w'=>Rd w' v (bvs TX)∧Dj v g,eF (.int .u8 0),fun v w'=>Rd w' v (bvs TX)∧Dj v g]
  (List.replicate 15 true) (fun X=>OnlyG g wz X) (fun X Y=>OnlyG g X Y) (some 9) (by kernel_rfl) ?_ ((OnlyG.of_below bR (dL hgz)).drewN 1) (fun X Y hx h=>OnlyG.of_below h (Nat.le_trans (dL hgz) hx.2.1)) (fun X Y hx hs=>hx.trans hs) (by kernel_rfl) (by kernel_rfl) ?_ ?_
 ·exact kE (kE (kE (kE (kE (kE (kE (kE (kE (Cs (fun v x y h _ hs=>⟨h.1.below hs lR,h.2.1,h.2.2.below hs⟩) (Ad (fun v x y h hi hs=>let⟨u,e,h2⟩:=h;⟨u,e,(fun v x y h _ hs=>⟨h.1.onlyG hs h.2,h.2⟩) u x y h2 hi hs⟩) (Ad (fun v x y h hi hs=>let⟨u,e,h2⟩:=h;⟨u,e,(fun v x y h _ hs=>⟨h.1.onlyG hs h.2,h.2⟩) u x y h2 hi hs⟩) (Ad (fun v x y h _ hs=>⟨h.1.onlyG hs h.2,h.2⟩) (kE (Ad (fun v x y h _ hs=>⟨h.1.onlyG hs h.2,h.2⟩) (Aj)))))))))))))))
 ·refine gP ?_ rfl (gP ?_ rfl (gP ?_ rfl (gO ?_ (gP ?_ rfl (gPw (by kernel_rfl) ?_ rfl (gP ?_ rfl (gOw (by kernel_rfl) ?_ (gPw (by kernel_rfl) ?_ rfl (gOw (by kernel_rfl) ?_ (gO ?_ (gO ?_ (gO ?_ (gO ?_ (gO ?_ .nil))))))))))))));all_goals
   intro a wx hbx hbq ho hf;have hbx:OnlyG g wz wx:=hbx;refine⟨rfl,?_⟩;intro K hK;try have Pf0:a.tmps[0]?.getD undef=.slice (some ⟨b,off,none⟩) n c:=ho 0 (by kernel_rfl)
   try have Pf1:a.tmps[1]?.getD undef=.int .i64 (x:Nat):=ho 1 (by kernel_rfl)
   try have Pf2:a.tmps[2]?.getD undef=.slice (some ⟨g,0,none⟩) n n:=ho 2 (by kernel_rfl)
   try have Pf8:a.tmps[8]?.getD undef=.slice q1 q2 q3:=ho 8 (by kernel_rfl)
   try have Ef0:=eqn hf.1
   try have Ef1:=eqn hf.2.1
   try have Ef2:=eqn hf.2.2.1
   try(refine Hd ?_;go_simp;exact hK _ rfl)
  ·exact wp_load_mid 52 (.tmp 30) rfl b (off+x*10) (evs Ef0) _ _ (Gk HRA.out hbx hblz hbg) Tryz.underlying52 rfl (by rw[eE,HSZ.out];exact Be) (hK _ _ rfl (Ab rfl bR))
  ·go_simp;refine(HRT.out wx).mono ?_;rintro e w2 ⟨rfl,rfl⟩;exact hK _ _ rfl (Ab rfl bR)
  ·go_simp;refine(HFR.out wx hbq).mono ?_;rintro e w2 ⟨v9,rfl,hr9,ha9,hall9,ho9⟩;exact hK _ _ ⟨hr9,ha9,hall9⟩ (Cc rfl ho9)
  ·have o2:Rd wx (a.tmps[37]?.getD undef) (bvs H2)∧Dj (a.tmps[37]?.getD undef) g∧AllR wx g n F2:=hf.2.2.1;obtain⟨v2,hv2⟩:=eX (a.tmps[37]?.getD undef);rw[←hv2]at o2;have e2:=hv2.symm;clear hv2;go_simp;refine(HPT.out wx hbx v2 o2.1).mono ?_;rintro e w2 ⟨hb2,v9,rfl,hown9⟩;exact hK _ _ ⟨_,rfl,hown9.rd,Zb1 hown9 (dH hgz hbx.2.1)⟩ (Ab rfl hb2)
  ·have o0:∃u,(a.tmps[38]?.getD undef)=.tuple #[u,.int .u8 0]∧Rd wx u (bvs TX)∧Dj u g:=hf.1;obtain⟨v0,hv0⟩:=eX (a.tmps[38]?.getD undef);rw[←hv0]at o0;have e0:=hv0.symm;clear hv0;go_simp;exact hK _ _ o0 (Ab rfl bR)
  ·have o0:∃u,(a.tmps[27]?.getD undef)=.tuple #[u,.int .u8 0]∧Rd wx u (bvs TX)∧Dj u g:=hf.1;obtain⟨v0,hv0⟩:=eX (a.tmps[27]?.getD undef);rw[←hv0]at o0;have e0:=hv0.symm;clear hv0;obtain⟨u,rfl,o1⟩:=o0;go_simp;exact hK _ _ o1 (Ab rfl bR)
  ·have o0:∃u,(a.tmps[27]?.getD undef)=.tuple #[u,.int .u8 0]∧Rd wx u (bvs TX)∧Dj u g:=hf.1;obtain⟨v0,hv0⟩:=eX (a.tmps[27]?.getD undef);rw[←hv0]at o0;have e0:=hv0.symm;clear hv0;obtain⟨u,rfl,o1⟩:=o0;go_simp;exact hK _ _ rfl (Ab rfl bR)
  ·have o0:Rd wx (a.tmps[39]?.getD undef) (bvs TX)∧Dj (a.tmps[39]?.getD undef) g:=hf.1;obtain⟨v0,hv0⟩:=eX (a.tmps[39]?.getD undef);rw[←hv0]at o0;have e0:=hv0.symm;clear hv0;go_simp;exact hK _ _ o0 (Ab rfl bR)
 ·rintro f w9 hb9 hfin;have hb9:OnlyG g wz w9:=hb9;have S7:Rd w9 (f 7) (bvs TX)∧Dj (f 7) g:=hfin.2.2.2.2.2.2.2.2.2.2.2.2.2.2.1;have S37:Rd w9 (f 37) (bvs H2)∧Dj (f 37) g∧AllR w9 g n F2:=hfin.2.2.2.2.2.2.2.2.2.1;clear hfin;simp only[Aw,Bl,Ga,List.filterMap_cons,List.filterMap_nil,List.contains_cons,List.contains_nil,Nat.reduceBEq,Nat.reduceAdd,Bool.or_false,Bool.or_true,cond_true,cond_false];obtain⟨u7,hu7⟩:=eX (f 7);rw[←hu7]at S7⊢;clear hu7;obtain⟨u37,hu37⟩:=eX (f 37);rw[←hu37]at S37⊢;clear hu37;have hq7:∃a b c,u7=.slice a b c:=(by obtain⟨a,c,e,_⟩:=S7.1;exact⟨_,_,_,e⟩);obtain⟨p1,p2,p3,rfl⟩:=hq7;have HR1:=Hd S7.1;have HA1:=Hd S37.2.2;have HO9:=Hd (HO1.out.trans hb9);clear S7 S37 hb9;go_wp2_with fail;have HRT0:=Hd (show Rd (w9.alloc (.cells #[.slice p1 p2 p3] 28)) (.slice p1 p2 p3) (bvs TX)from(HR1.out).alloc _);have HSO:=Hd (Sm w9.heap.size (.slice p1 p2 p3) TX (w9.alloc (.cells #[.slice p1 p2 p3] 28)) (Ar rfl) (by simp) HRT0.out HTB.out HTL.out);have HA0:=Hd ((HA1.out).alloc (.cells #[.slice p1 p2 p3] 28));have hg0:=(HA1.out).lt;have HO0:=Hd ((HO9.out).trans (OnlyG.of_below (bR.alloc lR (.cells #[.slice p1 p2 p3] 28)) (dL hg0)));go_wp2_with fail;refine(HSO.out).mono ?_;rintro e w2 ⟨ob,rfl,hob,hob2,hrd2,hb2⟩;have hA2:=HA0.out.below hb2;have HO2:=Hd (HO0.out.trans (OnlyG.of_below hb2 (by simp;omega)));have HRD2:=Hd hrd2;have hap:Dj (.slice (some ⟨ob,0,none⟩) 32 32) g:=by
   intro a m c e;simp only[Value.slice.injEq,Option.some.injEq]at e;rw[←e.1];show ob≠g;have:w9.heap.size+1≤ob:=(by simpa using hob);omega
  have HAP:=Hd hap;obtain⟨y0,hc0,hf0⟩:=hA2.at hxn;have HA2:=Hd hA2;clear hb2 hrd2 hA2 hob hob2 hg0 hap;go_wp2_with fail;go_ret;have hset:=HA2.out.set hxn _ _ HRD2.out HAP.out;refine⟨_,rfl,?_,HAP.out,?_,HO2.out.trans (OnlyG.setCell x _)⟩
  ·rw[HTXE.out];exact HRD2.out.onlyG (OnlyG.setCell x _) HAP.out
  ·rw[HFE.out,HTXE.out];exact hset
end Go.Proofs.YtfofaiommeckbaaGreat
