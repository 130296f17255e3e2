/- Append on a slice that the call owns: what comes out lies where the slice lay, or in new memory. -/
import Derived.Test.YtfofaiommeckbaaGreatZPatchMakesB
import Derived.Deep.RegionLaw
import Derived.ArgAppend
import Derived.Test.YtfofaiommeckbaaGreatZPatchMakes20
import Derived.Laws.MakeOwn
open Nat renaming mul_le_mul_left → aC, mod_eq_of_lt → aS, pos_of_ne_zero → aP, pow_succ → aN
open List renaming mem_flatten → eK, mem_map → eM, mem_cons → aE, mem_append → eN, not_mem_nil → eQ, length → eR, eq_nil_of_length_eq_zero → bK, head? → eT, append_assoc → bQ
open Bool renaming and_eq_true → cC
set_option linter.unusedVariables false
set_option maxRecDepth 100000
set_option maxHeartbeats 40000000
namespace Go.Proofs.YtfofaiommeckbaaGreat
open Go.RowKit
def Pd (w:World)(v v':Value):Prop:=v'.ownBlock=v.ownBlock∨∃g,v'.ownBlock=some g∧w.heap.size≤g
theorem Zs {P:Program} {w:World} {o:Oper} {a:Act} {K:Act→World→Prop} {Q:Exit→Act→World→Prop} (s x:Operand) (t:TypeId)
  (ho:o.op=.call {callee:=.builtin .append,args:=#[s,x],argTypes:=#[t,t]})
  (B:Nat) (e:TypeId) (z:Value) (bytes:Nat) (F:Elem P t e z bytes)
  (v:Value) (xs:List Value) (hs:a.eval s=v) (hown:Own w B e v xs)
  (r:Value) (ys:List Value) (hx:a.eval x=r) (hr:Rd w r ys) (h1:∀u∈ys,u.oneCell'=true)
  (hn:xs.length+ys.length<1099511627776) (hB:B≤w.heap.size)
  (h:∀v' w',Own w' B e v' (xs++ys)→w.grownBy w' v.ownBlock→Below B w w'→Pd w v v'→K (a.put o.dst v') w'):o.wp P a w K Q:=by
 obtain⟨i,hi,hz,hsz,hby⟩:=info_parts F.inf;have low:=F.low;have hmul:(xs.length+ys.length)*bytes≤(xs.length+ys.length)*64:=aC _ low;have hmul2:ys.length*bytes≤ys.length*64:=aC _ low;have fin:∀(ad:Addr) cap,r=.slice (some ad) ys.length cap→(∀(j:Nat) u,ys[j]? =some u→w.cell? (ad.add j)=some u)→o.wp P a w K Q:=by
  intro ad cap hv hu;subst hv;obtain⟨v',w',hr,h2,h3,h4⟩:=run_append_own (P:=P) w B t o.type e i z 1 bytes F.ty hi hz hsz hby F.one (by omega) v xs.length xs hown ad ys.length cap ys (by omega) hu h1 (by unfold maxLen;omega) (by omega) hB;have hwh:Pd w v v':=by
   have hown':=hown;obtain⟨hl,hc⟩:=hown';rcases hc with⟨rfl,h0⟩|⟨g,cp,cur,rfl,hbg,hg,hnc,hcm,hcs,htake⟩
   ·by_cases hm:ys.length=0
    ·rw[h4.2 ⟨rfl,hm⟩];exact .inl rfl
    ·have:=run_append_nil (P:=P) w t o.type e i z F.ty hi hz ad ys.length cap ys (by rw[hsz];omega) hu (by omega) (by omega) (by rw[hby];omega);rw[this]at hr;cases hr;exact .inr ⟨w.heap.size,rfl,lR⟩
   ·by_cases hroom:xs.length+ys.length≤cp
    ·have:=run_append_room (P:=P) w t o.type e i F.ty hi g xs.length cp cur hg ad ys.length cap ys (by rw[hsz];omega) hu h1 hroom (by rw[hsz,hcs];omega);rw[this]at hr;cases hr;exact .inl rfl
    ·have holds:∀j u,xs[j]? =some u→w.cell? ((⟨g,0,none⟩:Addr).add j)=some u:=World.ownsRow.cells (g:=g) hown rfl;have:=run_append_grow (P:=P) w t o.type e i z F.ty hi hz ⟨g,0,none⟩ xs.length cp xs (by rw[hsz];omega) holds ad ys.length cap ys (by rw[hsz];omega) hu (by omega) (by omega) (growslice_fits (by omega) (by rw[hby];omega));rw[this]at hr;cases hr;exact .inr ⟨w.heap.size,rfl,lR⟩
  have e1:(xs++ys).length=xs.length+ys.length:=(by simp);have hfin:=h v' w' (by unfold Own;rw[e1];exact h2) h3 ((Below.refl B w).grown h3 hB (fun k hk=>(World.ownsRow.lt hown k hk).1)) hwh;unfold Oper.wp execOp;simp only[ho,resolve,invoke,builtin,Sem.run_bind,Sem.run_pure,Result.andThen_ok,List.map_toArray,List.map_cons,List.map_nil,hs,hx,hr];exact hfin
 obtain⟨ad,cap,rfl,_,_,⟨rfl,hcap⟩|⟨b,off,rfl,hc⟩⟩:=hr
 ·cases ad with
  |none=>
   obtain rfl:=hcap rfl;have hrun:=run_append_owned_none (P:=P) (w:=w) B t o.type e i 1 F.ty hi v xs.length xs hown;unfold Oper.wp;have hx':a.eval x=.slice none 0 0:=hx;simp[execOp,ho,resolve,invoke,builtin,hs,hx',hrun,Result.andThen];exact h v w (by simpa using hown) ⟨rfl,rfl,rfl,lR,fun _ _ _=>rfl⟩ bR (.inl rfl)
  |some ad=>exact fin ad cap rfl (by simp)
 ·exact fin _ cap rfl (fun j u hu=>by rw[Addr.add_lit];exact hc j u hu)
theorem Zd0 {P:Program} {w:World} {o:Oper} {a:Act} {K:Act→World→Prop} {Q:Exit→Act→World→Prop} (s x:Operand) (t:TypeId)
  (ho:o.op=.call {callee:=.builtin .append,args:=#[s,x],argTypes:=#[t,t]})
  (B:Nat) (e:TypeId) (z:Value) (bytes:Nat) (F:Elem P t e z bytes)
  (v:Value) (xs:List Value) (hs:a.eval s=v) (hown:Own w B e v xs)
  (r:Value) (ys:List Value) (hx:a.eval x=r) (hr:Rd w r ys) (h1:∀u∈ys,u.oneCell'=true)
  (hn:xs.length+ys.length<1099511627776) (hB:B≤w.heap.size)
  (h:∀v' w',Own w' B e v' (xs++ys)→Below B w w'→K (a.put o.dst v') w'):o.wp P a w K Q:=by
 obtain⟨i,hi,hz,hsz,hby⟩:=info_parts F.inf;have low:=F.low;have hmul:(xs.length+ys.length)*bytes≤(xs.length+ys.length)*64:=aC _ low;have fin:∀(ad:Addr) cap,r=.slice (some ad) ys.length cap→(∀(j:Nat) u,ys[j]? =some u→w.cell? (ad.add j)=some u)→o.wp P a w K Q:=by
  intro ad cap hv hu;subst hv;refine wp_append_own w s x t ho B e i z 1 bytes F.ty hi hz hsz hby F.one (by omega) v xs.length xs hs hown ad ys.length cap ys hx (by omega) hu h1 (by unfold maxLen;omega) (by omega) hB ?_;intro v' w' h2 h3 _;have e1:(xs++ys).length=xs.length+ys.length:=(by simp);refine h v' w' (by unfold Own;rw[e1];exact h2) ?_;refine(Below.refl B w).grown h3 hB ?_;intro k hk;exact(World.ownsRow.lt hown k hk).1
 obtain⟨ad,cap,rfl,_,_,⟨rfl,hcap⟩|⟨b,off,rfl,hc⟩⟩:=hr
 ·cases ad with
  |none=>
   obtain rfl:=hcap rfl;have hrun:=run_append_owned_none (P:=P) (w:=w) B t o.type e i 1 F.ty hi v xs.length xs hown;unfold Oper.wp;have hx':a.eval x=.slice none 0 0:=hx;simp[execOp,ho,resolve,invoke,builtin,hs,hx',hrun,Result.andThen];exact h v w (by simpa using hown) bR
  |some ad=>exact fin ad cap rfl (by simp)
 ·exact fin _ cap rfl (fun j u hu=>by rw[Addr.add_lit];exact hc j u hu)
open WireM
theorem Zez:∀(l:List (List Nat)),(∀r∈l,r.length≤200)→(∀r∈l,∀x∈r,x<256)→∀x∈Mu l,x<256:=by
 intro l h1 h2 x hx;simp only[Mu,eK,eM]at hx;obtain⟨y,⟨r,hr,rfl⟩,hx⟩:=hx;exact Fg (by have:=h1 r hr;omega) (h2 r hr) x hx
theorem Zcw (L:List Int):∀x∈Bp L,x<256:=by
 intro x hx;simp only[Bp,eK,eM]at hx;obtain⟨y,⟨z,_,rfl⟩,hx⟩:=hx;exact beN_lt _ _ x hx
theorem Kt {d:NodeD}(hk:NodeOk d)(hs:Cc d=true):∀x∈Bd d,x<256:=by
 have hsm:=of_decide_eq_true hs;have hl:=Cx d.par.late;unfold Bd
 split
 ·intro x hx;rw[aE,eN]at hx;rcases hx with rfl|hx|hx
  ·omega
  ·rw[Jc,eN,eN]at hx;rcases hx with(hx|hx)|hx
   ·refine Zez _ ?_ ?_ x hx
    ·intro r hr;simp at hr;rcases hr with rfl|rfl|rfl<;>omega
    ·intro r hr;simp at hr;rcases hr with rfl|rfl|rfl
     ·exact hk.box
     ·exact hk.sign
     ·exact hk.ident
   ·rw[List.mem_singleton]at hx;have:=hk.source;omega
   ·split at hx
    ·exact Fg (by omega) hk.par x hx
    ·cases hx
  ·exact Fg (by omega) hk.sig x hx
 ·split
  ·intro x hx;rw[aE,Zb7,eN,eN]at hx;rcases hx with rfl|(hx|hx)|hx
   ·omega
   ·exact Fg (by omega) hk.pbox x hx
   ·exact Fg (by omega) hk.hash x hx
   ·exact Fg (by omega) (Zcw _) x hx
  ·intro x hx;simp at hx;omega
open WalkM ShaM
theorem Zgb {t:List NodeD}(hok:TreeOk t)(ps:List Int)(x:Nat):NodeOk (woD t ps x):=by
 have h:=hok.nd x;unfold woD
 split
 ·split
  ·exact Bt
  ·exact h
 ·exact⟨h.kind,h.source,h.box,h.sign,h.ident,h.par,h.sig,h.pbox,h.hash,fun u hu=>h.late u (List.mem_filter.1 hu).1⟩
theorem Zt (t:Nat→NodeD)(hk:∀x,NodeOk (t x))(hs:∀x,Cc (t x)=true)(k x:Nat):∀y∈Hz t k x,y<256:=by
 have hn:=Kt (hk x) (hs x);intro y hy;cases k with
 |zero=>
  rw[Dv]at hy;simp only[eN,aE,eQ,or_false]at hy;rcases hy with(rfl|hy)|hy
  ·omega
  ·exact beN_lt _ _ y hy
  ·exact hn y hy
 |succ k=>
  rw[Dw]at hy;simp only[eN,aE,eQ,or_false]at hy;rcases hy with(rfl|hy)|hy|hy
  ·omega
  ·exact hn y hy
  ·exact Fg (by rw[Cz];omega) (Va _ _ _) y hy
  ·exact Fg (by rw[Cz];omega) (Va _ _ _) y hy
def Mz (T:Nat→NodeD)(y:Nat):List Nat:=Ev T (lev y) y
theorem Ed {v v' r r':List Nat}(hv:v.length<1073741824)(hv':v'.length<1073741824)(h:As v++r=As v'++r'):v=v'∧r=r':=by
 have a:=Ut hv r;rw[h,Ut hv' r']at a;simp only[Prod.mk.injEq,and_true]at a;exact⟨a.1.symm,a.2.symm⟩
theorem Zu {k a b:Nat}(ha:a<256^k)(hb:b<256^k)(h:beN k a=beN k b):a=b:=by
 have e:=congrArg Ul h;rw[Us,Us,aS ha,aS hb]at e;exact e
theorem Zv {a b c d:List Nat}(hl:a.length=b.length)(h:a++c=b++d):a=b∧c=d:=List.append_inj h hl
theorem Zw:∀ {L M:List Int},(∀u∈L,0≤u∧u<65536)→(∀u∈M,0≤u∧u<65536)→Bp L=Bp M→L=M:=by
 intro L
 induction L with
 |nil=>
  intro M _ _ h;have:=congrArg eR h;rw[Cx,Cx]at this;exact(bK (by simp at this;omega)).symm
 |cons x L ih=>
  intro M hL hM h;cases M with
  |nil=>
   have:=congrArg eR h;rw[Cx,Cx]at this;simp at this
  |cons y M=>
   have h2:beN 4 x.toNat++Bp L=beN 4 y.toNat++Bp M:=(by simpa [Bp]using h);obtain⟨h3,h4⟩:=Zv (by rw[beN_len,beN_len]) h2;have hx:=hL x (by simp);have hy:=hM y (by simp);have e:=Zu (k:=4) (by omega) (by omega) h3;have e2:x=y:=(by omega);rw[e2,ih (fun u hu=>hL u (by simp[hu])) (fun u hu=>hM u (by simp[hu])) h4]
theorem Qw {d e:NodeD} {r s:List Nat}(hd:Aw d=true)(he:Aw e=true)(hds:Cc d=true)(hes:Cc e=true)(h:Bd d++r=Bd e++s):d=e∧r=s:=by
 obtain⟨kd,⟨b1,b2,b3,sr,b4,b5⟩,⟨p1,p2,p3⟩⟩:=d;obtain⟨kd',⟨b1',b2',b3',sr',b4',b5'⟩,⟨p1',p2',p3'⟩⟩:=e;have hs1:=of_decide_eq_true hds;have hs2:=of_decide_eq_true hes;simp only at hs1 hs2;have k1:=Ji hd;have k2:=Ji he;have l1:=Dt (Bn hd);have l2:=Dt (Bn he);simp only at k1 k2 l1 l2;have nl:∀ {n1 n2 n3 s n4 n5:Nat},nlB n1 n2 n3 s n4 n5=true→s=0∧n1=0∧n2=0∧n3=0∧n4=0∧n5=0:=by
  intro n1 n2 n3 s n4 n5 h;have:=of_decide_eq_true h;omega
 have np:∀ {n1 n2 n3:Nat},npB n1 n2 n3=true→n1=0∧n2=0∧n3=0:=by
  intro n1 n2 n3 h;have:=of_decide_eq_true h;omega
 have z:∀ {l:List Nat},l.length=0→l=[]:=fun h=>bK h;have zi:∀ {l:List Int},l.length=0→l=[]:=fun h=>bK h;have hk:kd=kd':=by
  have h0:=congrArg eT h;rcases k1 with rfl|rfl|rfl<;>rcases k2 with rfl|rfl|rfl<;>first|rfl|(simp[Bd]at h0)
 subst hk;rcases k1 with rfl|rfl|rfl
 ·simp only[Aw,if_pos,cC]at hd he;obtain⟨rfl,y1,y2,y3,y4,y5⟩:=nl hd.1;obtain⟨rfl,z1,z2,z3,z4,z5⟩:=nl he.1;obtain⟨w1,w2,w3⟩:=np hd.2;obtain⟨v1,v2,v3⟩:=np he.2;have a1:=z y1;have a2:=z y2;have a3:=z y3;have a4:=z y4;have a5:=z y5;have a6:=z w1;have a7:=z w2;have a8:=zi w3;have c1:=z z1;have c2:=z z2;have c3:=z z3;have c4:=z z4;have c5:=z z5;have c6:=z v1;have c7:=z v2;have c8:=zi v3;subst a1 a2 a3 a4 a5 a6 a7 a8 c1 c2 c3 c4 c5 c6 c7 c8;refine⟨rfl,?_⟩;simpa [Bd]using h
 ·simp only[Aw,Nat.one_ne_zero,if_false,if_true,cC]at hd he;obtain⟨w1,w2,w3⟩:=np hd.2;obtain⟨v1,v2,v3⟩:=np he.2;have a6:=z w1;have a7:=z w2;have a8:=zi w3;have c6:=z v1;have c7:=z v2;have c8:=zi v3;subst a6 a7 a8 c6 c7 c8;have r1:=of_decide_eq_true hd.1;have r2:=of_decide_eq_true he.1;have h2:As b1++(As b2++(As b3++(sr::((if sr=3 then As b4 else [])++(As b5++r)))))=As b1'++(As b2'++(As b3'++(sr'::((if sr'=3 then As b4' else [])++(As b5'++s))))):=by
   simpa [Bd,Yn,bQ]using h
  obtain⟨rfl,h3⟩:=Ed (by omega) (by omega) h2;obtain⟨rfl,h4⟩:=Ed (by omega) (by omega) h3;obtain⟨rfl,h5⟩:=Ed (by omega) (by omega) h4;obtain⟨rfl,h6⟩:=List.cons.inj h5;have h7:b4=b4'∧As b5++r=As b5'++s:=by
   by_cases h3:sr=3
   ·rw[if_pos h3,if_pos h3]at h6;exact Ed (by omega) (by omega) h6
   ·rw[if_neg h3,if_neg h3]at h6;have q1:b4.length=0:=(by omega);have q2:b4'.length=0:=(by omega);exact⟨by rw[z q1,z q2],h6⟩
  obtain⟨rfl,h8⟩:=h7;obtain⟨rfl,h9⟩:=Ed (by omega) (by omega) h8;exact⟨rfl,h9⟩
 ·have e2:¬(2=0):=(by omega);have e21:¬(2=1):=(by omega);simp only[Aw,if_neg e2,if_neg e21,if_true,cC]at hd he;obtain⟨rfl,y1,y2,y3,y4,y5⟩:=nl hd.1;obtain⟨rfl,z1,z2,z3,z4,z5⟩:=nl he.1;have a1:=z y1;have a2:=z y2;have a3:=z y3;have a4:=z y4;have a5:=z y5;have c1:=z z1;have c2:=z z2;have c3:=z z3;have c4:=z z4;have c5:=z z5;subst a1 a2 a3 a4 a5 c1 c2 c3 c4 c5;have h2:As p1++(As p2++(As (Bp p3)++r))=As p1'++(As p2'++(As (Bp p3')++s)):=by
   simpa [Bd,Zb7,bQ]using h
  obtain⟨rfl,h3⟩:=Ed (by omega) (by omega) h2;obtain⟨rfl,h4⟩:=Ed (by omega) (by omega) h3;obtain⟨h5,h6⟩:=Ed (by rw[Cx];omega) (by rw[Cx];omega) h4;rw[Zw l1 l2 h5];exact⟨rfl,h6⟩
def Zgc (T U:Nat→NodeD)(n m:Nat):Prop:=∀x y,x<n→y<m→shaF (Hz T (lev x) x)=shaF (Hz U (lev y) y)→Hz T (lev x) x=Hz U (lev y) y
theorem Zgx {T U:Nat→NodeD} {n m:Nat}(hT:∀x,x<n→Aw (T x)=true)(hU:∀x,x<m→Aw (U x)=true)(hTs:∀x,Cc (T x)=true)(hUs:∀x,Cc (U x)=true)(hn:n≤40)(hm:m≤40)(hno:Zgc T U n m):
  ∀k k' x y,IsLev x k→IsLev y k'→x+2^k≤n→y+2^k'≤m→Ev T k x=Ev U k' y→k=k'∧x=y∧∀j,x+1≤j+2^k→j<x+2^k→T j=U j:=by
 intro k
 induction k with
 |zero=>
  intro k' x y hx hy hxn hym h;have hp:(2:Nat)^0=1:=rfl;have hpk:0<2^k':=aP (by simp);have lx:lev x=0:=lev_eq (by omega) hx;have ly:lev y=k':=lev_eq (by omega) hy;have ht:=hno x y (by omega) (by omega) (by rw[lx,ly,←Gf,←Gf];exact h);rw[lx,ly]at ht;cases k' with
  |succ k'=>
   rw[Dv,Dw]at ht;have:=congrArg eT ht;simp at this
  |zero=>
   rw[Dv,Dv]at ht;simp only[bQ]at ht;have ht2:=(List.cons.inj (show(1:Nat)::(beN 4 (x/2)++Bd (T x))=1::(beN 4 (y/2)++Bd (U y))from ht)).2;obtain⟨h1,h2⟩:=Zv (by rw[beN_len,beN_len]) ht2;have e:=Zu (k:=4) (by omega) (by omega) h1;have ex:=Fb hx;have ey:=Fb hy;have exy:x=y:=(by omega);subst exy;have hd:=(Qw (r:=[]) (s:=[]) (hT x (by omega)) (hU x (by omega)) (hTs x) (hUs x) (by simpa using h2)).1;exact⟨rfl,rfl,fun j h1 h2=>by
    have:j=x:=(by omega);subst this;exact hd⟩
 |succ k ih=>
  intro k' x y hx hy hxn hym h;have hpw:2^(k+1)=2*2^k:=(by rw[aN];omega);have hp:0<2^k:=aP (by simp);have hpk:0<2^k':=aP (by simp);have lx:lev x=k+1:=lev_eq (by omega) hx;have ly:lev y=k':=lev_eq (by omega) hy;have ht:=hno x y (by omega) (by omega) (by rw[lx,ly,←Gf,←Gf];exact h);rw[lx,ly]at ht;cases k' with
  |zero=>
   rw[Dv,Dw]at ht;have:=congrArg eT ht;simp at this
  |succ k'=>
   have hpw':2^(k'+1)=2*2^k':=(by rw[aN];omega);have hp':0<2^k':=aP (by simp);rw[Dw,Dw]at ht;simp only[bQ]at ht;have ht2:=(List.cons.inj (show(2:Nat)::(Bd (T x)++(As (Ev T k (x-2^k))++As (Ev T k (x+2^k))))=2::(Bd (U y)++(As (Ev U k' (y-2^k'))++As (Ev U k' (y+2^k'))))from ht)).2;obtain⟨hd,h2⟩:=Qw (hT x (by omega)) (hU y (by omega)) (hTs x) (hUs y) ht2;obtain⟨h3,h4⟩:=Ed (by rw[Cz];omega) (by rw[Cz];omega) h2;have h5:=(Ed (v:=Ev T k (x+2^k)) (v':=Ev U k' (y+2^k')) (r:=[]) (r':=[]) (by rw[Cz];omega) (by rw[Cz];omega) (by simpa using h4)).1;obtain⟨_,_,i1,i2,i3⟩:=kids_lev (by omega) hx;obtain⟨_,_,j1,j2,j3⟩:=kids_lev (by omega) hy;obtain⟨e1,e2,e3⟩:=ih k' _ _ i1 j1 (by omega) (by omega) h3;obtain⟨_,f2,f3⟩:=ih k' _ _ i2 j2 (by omega) (by omega) h5;subst e1;have exy:x=y:=(by omega);subst exy;refine⟨rfl,rfl,fun j g1 g2=> ?_⟩;rcases Nat.lt_trichotomy j x with hj|hj|hj
   ·exact e3 j (by omega) (by omega)
   ·subst hj;exact hd
   ·exact f3 j (by omega) (by omega)
end Go.Proofs.YtfofaiommeckbaaGreat
