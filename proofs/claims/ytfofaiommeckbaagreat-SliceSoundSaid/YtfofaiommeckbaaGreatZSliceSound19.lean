/- Walks: tree.some, by the library's ContainsFunc. -/
import Derived.Test.YtfofaiommeckbaaGreatZSliceSoundB
import Derived.Test.YtfofaiommeckbaaGreatZSliceSound13
open List renaming any_eq_true → cI, getElem_mem → aL, getD_eq_getElem?_getD → aJ, getElem?_eq_getElem → aK, getElem_of_mem → dM
set_option linter.unusedVariables false
set_option maxRecDepth 100000
set_option maxHeartbeats 40000000
namespace Go.Proofs.YtfofaiommeckbaaGreat
open Go.RowKit WalkM
def Gp (t:List NodeD):Bool:=t.any fun d=>d.kind==1
theorem Zc5 {t:List NodeD} {i:Nat}(hi:i<t.length)(h:(nd t i).kind=1):Gp t=true:=by
 unfold Gp;rw[cI];refine⟨t[i],aL hi,?_⟩;rw[nd,aJ,aK hi]at h;rw[beq_iff_eq];exact h
theorem Zhc {t:List NodeD}(h:∀i,i<t.length→(nd t i).kind≠1):Gp t=false:=by
 cases hs:Gp t with
 |false=>rfl
 |true=>
  unfold Gp at hs;rw[cI]at hs;obtain⟨d,hd,hk⟩:=hs;obtain⟨i,hi,rfl⟩:=dM hd;have:=h i hi;rw[nd,aJ,aK hi]at this;exact absurd (beq_iff_eq.1 hk) this
theorem Zc6 (d:NodeD)(c:Array Value)(w:World)(h:NodeC w d c)(hk:d.kind<256):
  Calls Tryz.prog 268 #[.agg c] w fun e w'=>e=.returned (.bool (d.kind==1))∧Below w.heap.size w w':=by
 obtain⟨g,c1,o,c2,m,c3,l,c4,i,c5,q,p,j,e2,n,e3,rfl,_⟩:=h;obtain⟨k,a⟩:∃k,k=d.kind:=⟨_,rfl⟩;rw[←a]at hk⊢;have e:((k:Int)==1)=(k==1):=by
  by_cases h:k=1
  ·subst h;rfl
  ·rw[beq_eq_false_iff_ne.2 h,beq_eq_false_iff_ne];omega
 obtain⟨b,f⟩:=eX ((k==1));rw[←f]at e⊢;clear f a;go_enter Tryz.func268,Tryz.ntmps268;go_wp2_with fail;go_ret;exact⟨rfl,bR.alloc lR _⟩
theorem Vu (v:Value)(t:List NodeD)(w:World)(h:TreeR w v t)(z:TreeOk t):
  Calls Tryz.prog 287 #[v,.func (.func 268) #[] #[]] w fun e w'=>∃r:Int,e=.returned (.int .i64 r)∧decide (r≥0)=Gp t∧Below w.heap.size w w':=by
 obtain⟨a,c,rfl,S,Q⟩:=h.sl;have M:=fun(i:Nat) (cs:Array Value) (W:World) (D:NodeC W (nd t i) cs)=>Zc6 (nd t i) cs W D (z.nd i).kind;have E:=fun(W:World) (D:Below w.heap.size w W) (i:Nat) (y:i<t.length)=>(h.below D lR).node y;have B:=fun(i:Nat) (y:i<t.length) (h:(nd t i).kind=1)=>Zc5 y h;have A:=fun(h:∀i,i<t.length→(nd t i).kind≠1)=>Zhc h;obtain⟨n,O⟩:=eX t.length;obtain⟨R,P⟩:=eX (Gp t);rw[←O]at E B A S⊢;rw[←P]at B A⊢;have I:=Hd M;have C:=Hd E;have J:=Hd B;have H:=Hd A;clear M E B A h O P z;go_enter Tryz.func287,Tryz.ntmps287;go_wp2_with fail
 go_loopg [8] n (fun q iv wr=>∃r:Nat,r+q=n∧iv=.int .i64 (r:Nat)∧(∀i,i<r→(nd t i).kind≠1)∧Below w.heap.size w wr)
 case atStart=>exact⟨0,by omega,rfl,fun i y=>by omega,bR⟩
 case round=>
  obtain⟨r,K,rfl,p,L⟩:=hrel;have F:=Hd K;have N:=Hd p;have l:=Hd L;clear K p L
  by_cases hlt:r<n
  ·have u:decide (r<n)=true:=decide_eq_true hlt;obtain⟨b,x,cs,rfl,T,f,k⟩:=C.out wr l.out r hlt;have s:=Hd k;have o:=Hd f.size;have m:=I.out r cs wr f;cases hk:((nd t r).kind==1)with
   |true=>
    rw[hk]at m;have g:=Hd m;have G:=Hd (J.out r hlt (beq_iff_eq.1 hk));clear m hk k f;go_wp2_with (refine wpList_load_mid rfl 52 (.tmp 14) rfl b (x+r*10) rfl cs.toList _ s.out Tryz.underlying52 rfl (by rw[Array.length_toList,o.out];exact Ak) ?_);refine(g.out).mono ?_;rintro e U ⟨rfl,d⟩;have j:=Hd (l.out.trans (d.mono l.out.size));clear d;go_wp2_with fail;go_ret;exact⟨(r:Nat),rfl,by rw[G.out,decide_eq_true_iff];omega,j.out⟩
   |false=>
    rw[hk]at m;have g:=Hd m;have G:=Hd (beq_eq_false_iff_ne.1 hk);clear m hk k f;go_wp2_with (refine wpList_load_mid rfl 52 (.tmp 14) rfl b (x+r*10) rfl cs.toList _ s.out Tryz.underlying52 rfl (by rw[Array.length_toList,o.out];exact Ak) ?_);refine(g.out).mono ?_;rintro e U ⟨rfl,d⟩;have j:=Hd (l.out.trans (d.mono l.out.size));clear d;go_wp2_with fail;go_roundg (gk-1);case measure=>have:=F.out;omega
    case rel=>
     refine⟨r+1,by have:=F.out;omega,by go_num,fun i y=> ?_,j.out⟩
     by_cases e:i=r
     ·rw[e];exact G.out
     ·exact N.out i (by omega)
  ·obtain rfl:r=n:=(by have:=F.out;omega);have u:decide (r<r)=false:=decide_eq_false hlt;go_wp2_with fail;go_ret;exact⟨-1,rfl,by rw[H.out N.out];rfl,l.out⟩
theorem Tl (v:Value)(t:List NodeD)(w:World)(h:TreeR w v t)(g:TreeOk t):
  Calls Tryz.prog 227 #[v] w fun e w'=>e=.returned (.bool (Gp t))∧Below w.heap.size w w':=by
 have o:=Vu v t w h g;have CF:Calls Tryz.prog 267 #[v,.func (.func 268) #[] #[]] w fun e w'=>e=.returned (.bool (Gp t))∧Below w.heap.size w w':=by
  obtain⟨a,c,rfl,m,d⟩:=h.sl;have f:=Hd o;obtain⟨R,k⟩:=eX (Gp t);rw[←k]at f⊢;obtain⟨n,j⟩:=eX t.length;rw[←j]at f⊢;clear o h k j m d g;go_enter Tryz.func267,Tryz.ntmps267;go_wp2_with fail;refine(f.out).mono ?_;rintro e s ⟨r,rfl,p,i⟩;have l:=Hd i;have q:=Hd p;clear i p;go_wp2_with fail;go_ret;exact⟨Dh q.out.symm,l.out⟩
 obtain⟨a,c,rfl,m,d⟩:=h.sl;have b:=Hd CF;obtain⟨R,k⟩:=eX (Gp t);rw[←k]at b⊢;obtain⟨n,j⟩:=eX t.length;rw[←j]at b⊢;clear o CF h k j m d g;go_enter Tryz.func227,Tryz.ntmps227;go_wp2_with fail;refine(b.out).mono ?_;rintro e s ⟨rfl,i⟩;have l:=Hd i;clear i;go_wp2_with fail;go_ret;exact⟨rfl,l.out⟩
def Jh (L:List Int)(x:Int):Bool:=L.any fun u=>Cc (2*u) x
theorem Yo {L:List Int} {p:Int→Bool} {i:Nat}(hi:i<L.length)(h:p (L.getD i 0)=true):L.any p=true:=by
 rw[cI];refine⟨L.getD i 0,?_,h⟩;rw[aJ,aK hi];exact aL hi
theorem Zc7 {L:List Int} {p:Int→Bool}(h:∀i,i<L.length→p (L.getD i 0)=false):L.any p=false:=by
 rw[List.any_eq_false];intro u hu;obtain⟨i,hi,rfl⟩:=dM hu;have:=h i hi;rw[aJ,aK hi]at this;show¬p L[i]=true;have e:p L[i]=false:=this;rw[e];simp
theorem Zhd (u x:Int)(g:Nat)(w:World)(hx:w.cell? ⟨g,0,none⟩=some (.int .i64 x))(d:0≤u∧u<1000000):
  Calls Tryz.prog 230 #[.int .i64 u,.pointer (some ⟨g,0,none⟩)] w fun e w'=>e=.returned (.bool (Cc (2*u) x))∧w'=w:=by
 have a:=Hd (Cy (2*u) x w);obtain⟨b,c⟩:=eX (Cc (2*u) x);rw[←c]at a⊢;clear c;have f:wrap64 (2*u)=2*u:=(by unfold wrap64;omega);go_enter Tryz.func230,Tryz.ntmps230;go_wp2_with fail;refine a.out.mono ?_;rintro e w' ⟨rfl,rfl⟩;go_wp2_with fail;go_ret;exact⟨rfl,rfl⟩
theorem Zhe (v:Value)(L:List Int)(x:Int)(g:Nat)(w:World)(h:Rd w v (ivs .i64 L))(hx:w.cell? ⟨g,0,none⟩=some (.int .i64 x))(Q:∀u∈L,0≤u∧u<1000000)(hl:L.length≤1000000):
  Calls Tryz.prog 256 #[v,.func (.func 230) #[] #[.pointer (some ⟨g,0,none⟩)]] w fun e w'=>w'=w∧∃r:Int,e=.returned (.int .i64 r)∧decide (r≥0)=L.any (fun u=>(Cc (2*u) x)):=by
 obtain⟨a,G,rfl⟩:∃a G,v=.slice a L.length G:=(by obtain⟨a,G,e,_⟩:=h;rw[show(ivs .i64 L).length=L.length by simp[ivs]]at e;exact⟨a,G,e⟩);have D:=fun(r:Nat) (j:r<L.length)=>h.at3 (u:=.int .i64 (L.getD r 0)) (r:=r) (by simp[ivs,aJ,j]);have y:=fun(r:Nat) (j:r<L.length)=>Zhd (L.getD r 0) x g w hx (Q _ (by rw[aJ,aK j];exact aL j));have c:=fun(i:Nat) (M:i<L.length) (h:(fun u=>(Cc (2*u) x)) (L.getD i 0)=true)=>Yo (p:=fun u=>(Cc (2*u) x)) M h;have m:=fun(h:∀i,i<L.length→(fun u=>(Cc (2*u) x)) (L.getD i 0)=false)=>Zc7 (p:=fun u=>(Cc (2*u) x)) h;obtain⟨U,P⟩:∃U:Nat→Int,U=fun r=>L.getD r 0:=⟨_,rfl⟩;have A:∀r,L.getD r 0=U r:=fun r=>(by rw[P]);simp only[A]at D y c m;obtain⟨E,B⟩:∃f:Int→Bool,f=fun u=>(Cc (2*u) x):=⟨_,rfl⟩;have d:∀u:Int,(Cc (2*u) x)=E u:=fun u=>(by rw[B]);obtain⟨R,T⟩:=eX (L.any (fun u=>(Cc (2*u) x)));rw[←T]at c m⊢;simp only[d]at y c m;obtain⟨k,t⟩:=eX L.length;rw[←t]at D y hl c m⊢;have N:=Hd D;have H:=Hd y;have C:=Hd c;have K:=Hd m;clear D y c m t h hx P A Q B d T;go_enter Tryz.func256,Tryz.ntmps256;go_wp2_with fail
 go_loopg [8] k (fun q iv wr=>∃r:Nat,r+q=k∧iv=.int .i64 (r:Nat)∧(∀i,i<r→E (U i)=false)∧wr=w)
 case atStart=>exact⟨0,by omega,rfl,fun i M=>by omega,rfl⟩
 case round=>
  obtain⟨r,j,rfl,s,rfl⟩:=hrel;have I:=Hd j;have S:=Hd s;clear j s
  by_cases hlt:r<k
  ·have z:decide (r<k)=true:=decide_eq_true hlt;obtain⟨b,Y,rfl,Z,W⟩:=N.out r hlt;have F:=H.out r hlt;obtain⟨u,J⟩:=eX (U r);rw[←J]at W F;obtain⟨O,l⟩:=eX (E u);rw[←l]at F;have o:=Hd F;have n:=Hd (show E (U r)=O by rw[l,J]);clear F l J;cases O with
   |true=>
    have V:=Hd (C.out r hlt n.out);go_wp2_with fail;refine(o.out).mono ?_;rintro e w2 ⟨rfl,rfl⟩;go_wp2_with fail;go_ret;exact⟨rfl,_,rfl,by rw[V.out];simp⟩
   |false=>
    go_wp2_with fail;refine(o.out).mono ?_;rintro e w2 ⟨rfl,rfl⟩;go_wp2_with fail;go_roundg (gk-1);case measure=>have:=I.out;omega
    case rel=>
     refine⟨r+1,by have:=I.out;omega,by go_num,fun i M=> ?_,rfl⟩
     by_cases e:i=r
     ·rw[e];exact n.out
     ·exact S.out i (by omega)
  ·obtain rfl:r=k:=(by have:=I.out;omega);have z:decide (r<r)=false:=decide_eq_false hlt;have X:=Hd (K.out S.out);go_wp2_with fail;go_ret;exact⟨rfl,_,rfl,by rw[X.out];simp⟩
theorem Zhf (v:Value)(L:List Int)(x:Int)(g:Nat)(w:World)(h:Rd w v (ivs .i64 L))(hx:w.cell? ⟨g,0,none⟩=some (.int .i64 x))(f:∀u∈L,0≤u∧u<1000000)(l:L.length≤1000000):
  Calls Tryz.prog 220 #[v,.func (.func 230) #[] #[.pointer (some ⟨g,0,none⟩)]] w fun e w'=>e=.returned (.bool (L.any fun u=>(Cc (2*u) x)))∧w'=w:=by
 have i:=Hd (Zhe v L x g w h hx f l);obtain⟨R,j⟩:=eX (L.any (fun u=>(Cc (2*u) x)));rw[←j]at i⊢;obtain⟨a,n,d,rfl⟩:∃a n d,v=.slice a n d:=(by obtain⟨a,d,e,_⟩:=h;exact⟨_,_,_,e⟩);clear h hx f j;go_enter Tryz.func220,Tryz.ntmps220;go_wp2_with fail;refine i.out.mono ?_;rintro e w' ⟨rfl,r,rfl,b⟩
 by_cases hp:0≤r
 ·have k:decide (0≤r)=true:=decide_eq_true hp;have c:=Hd b;clear b;go_wp2_with fail;go_ret;exact⟨by rw[←c.out];simpa using hp,rfl⟩
 ·have k:decide (0≤r)=false:=decide_eq_false hp;have c:=Hd b;clear b;go_wp2_with fail;go_ret;exact⟨by rw[←c.out];simpa using hp,rfl⟩
theorem Zc8 (u x:Int)(g:Nat)(w:World)(hx:w.cell? ⟨g,0,none⟩=some (.int .i64 x))(d:0≤u∧u<1000000):
  Calls Tryz.prog 221 #[.int .i64 u,.pointer (some ⟨g,0,none⟩)] w fun e w'=>e=.returned (.bool (!Cc (2*u) x))∧w'=w:=by
 have a:=Hd (Cy (2*u) x w);obtain⟨b,c⟩:=eX (Cc (2*u) x);rw[←c]at a⊢;clear c;have f:wrap64 (2*u)=2*u:=(by unfold wrap64;omega);go_enter Tryz.func221,Tryz.ntmps221;go_wp2_with fail;refine a.out.mono ?_;rintro e w' ⟨rfl,rfl⟩;go_wp2_with fail;go_ret;exact⟨rfl,rfl⟩
theorem Zc9 (v:Value)(L:List Int)(x:Int)(g:Nat)(w:World)(h:Rd w v (ivs .i64 L))(hx:w.cell? ⟨g,0,none⟩=some (.int .i64 x))(Q:∀u∈L,0≤u∧u<1000000)(hl:L.length≤1000000):
  Calls Tryz.prog 256 #[v,.func (.func 221) #[] #[.pointer (some ⟨g,0,none⟩)]] w fun e w'=>w'=w∧∃r:Int,e=.returned (.int .i64 r)∧decide (r≥0)=L.any (fun u=>(!Cc (2*u) x)):=by
 obtain⟨a,G,rfl⟩:∃a G,v=.slice a L.length G:=(by obtain⟨a,G,e,_⟩:=h;rw[show(ivs .i64 L).length=L.length by simp[ivs]]at e;exact⟨a,G,e⟩);have D:=fun(r:Nat) (j:r<L.length)=>h.at3 (u:=.int .i64 (L.getD r 0)) (r:=r) (by simp[ivs,aJ,j]);have y:=fun(r:Nat) (j:r<L.length)=>Zc8 (L.getD r 0) x g w hx (Q _ (by rw[aJ,aK j];exact aL j));have c:=fun(i:Nat) (M:i<L.length) (h:(fun u=>(!Cc (2*u) x)) (L.getD i 0)=true)=>Yo (p:=fun u=>(!Cc (2*u) x)) M h;have m:=fun(h:∀i,i<L.length→(fun u=>(!Cc (2*u) x)) (L.getD i 0)=false)=>Zc7 (p:=fun u=>(!Cc (2*u) x)) h;obtain⟨U,P⟩:∃U:Nat→Int,U=fun r=>L.getD r 0:=⟨_,rfl⟩;have A:∀r,L.getD r 0=U r:=fun r=>(by rw[P]);simp only[A]at D y c m;obtain⟨E,B⟩:∃f:Int→Bool,f=fun u=>(!Cc (2*u) x):=⟨_,rfl⟩;have d:∀u:Int,(!Cc (2*u) x)=E u:=fun u=>(by rw[B]);obtain⟨R,T⟩:=eX (L.any (fun u=>(!Cc (2*u) x)));rw[←T]at c m⊢;simp only[d]at y c m;obtain⟨k,t⟩:=eX L.length;rw[←t]at D y hl c m⊢;have N:=Hd D;have H:=Hd y;have C:=Hd c;have K:=Hd m;clear D y c m t h hx P A Q B d T;go_enter Tryz.func256,Tryz.ntmps256;go_wp2_with fail
 go_loopg [8] k (fun q iv wr=>∃r:Nat,r+q=k∧iv=.int .i64 (r:Nat)∧(∀i,i<r→E (U i)=false)∧wr=w)
 case atStart=>exact⟨0,by omega,rfl,fun i M=>by omega,rfl⟩
 case round=>
  obtain⟨r,j,rfl,s,rfl⟩:=hrel;have I:=Hd j;have S:=Hd s;clear j s
  by_cases hlt:r<k
  ·have z:decide (r<k)=true:=decide_eq_true hlt;obtain⟨b,Y,rfl,Z,W⟩:=N.out r hlt;have F:=H.out r hlt;obtain⟨u,J⟩:=eX (U r);rw[←J]at W F;obtain⟨O,l⟩:=eX (E u);rw[←l]at F;have o:=Hd F;have n:=Hd (show E (U r)=O by rw[l,J]);clear F l J;cases O with
   |true=>
    have V:=Hd (C.out r hlt n.out);go_wp2_with fail;refine(o.out).mono ?_;rintro e w2 ⟨rfl,rfl⟩;go_wp2_with fail;go_ret;exact⟨rfl,_,rfl,by rw[V.out];simp⟩
   |false=>
    go_wp2_with fail;refine(o.out).mono ?_;rintro e w2 ⟨rfl,rfl⟩;go_wp2_with fail;go_roundg (gk-1);case measure=>have:=I.out;omega
    case rel=>
     refine⟨r+1,by have:=I.out;omega,by go_num,fun i M=> ?_,rfl⟩
     by_cases e:i=r
     ·rw[e];exact n.out
     ·exact S.out i (by omega)
  ·obtain rfl:r=k:=(by have:=I.out;omega);have z:decide (r<r)=false:=decide_eq_false hlt;have X:=Hd (K.out S.out);go_wp2_with fail;go_ret;exact⟨rfl,_,rfl,by rw[X.out];simp⟩
theorem Zda (v:Value)(L:List Int)(x:Int)(g:Nat)(w:World)(h:Rd w v (ivs .i64 L))(hx:w.cell? ⟨g,0,none⟩=some (.int .i64 x))(f:∀u∈L,0≤u∧u<1000000)(l:L.length≤1000000):
  Calls Tryz.prog 220 #[v,.func (.func 221) #[] #[.pointer (some ⟨g,0,none⟩)]] w fun e w'=>e=.returned (.bool (L.any fun u=>(!Cc (2*u) x)))∧w'=w:=by
 have i:=Hd (Zc9 v L x g w h hx f l);obtain⟨R,j⟩:=eX (L.any (fun u=>(!Cc (2*u) x)));rw[←j]at i⊢;obtain⟨a,n,d,rfl⟩:∃a n d,v=.slice a n d:=(by obtain⟨a,d,e,_⟩:=h;exact⟨_,_,_,e⟩);clear h hx f j;go_enter Tryz.func220,Tryz.ntmps220;go_wp2_with fail;refine i.out.mono ?_;rintro e w' ⟨rfl,r,rfl,b⟩
 by_cases hp:0≤r
 ·have k:decide (0≤r)=true:=decide_eq_true hp;have c:=Hd b;clear b;go_wp2_with fail;go_ret;exact⟨by rw[←c.out];simpa using hp,rfl⟩
 ·have k:decide (0≤r)=false:=decide_eq_false hp;have c:=Hd b;clear b;go_wp2_with fail;go_ret;exact⟨by rw[←c.out];simpa using hp,rfl⟩
theorem Hh (v:Value)(L:List Int)(x:Int)(w:World)(h:Rd w v (ivs .i64 L))(g:∀u∈L,0≤u∧u<1000000)(j:L.length≤1000000):
  Calls Tryz.prog 193 #[v,.int .i64 x] w fun e w'=>e=.returned (.bool (Jh L x))∧Below w.heap.size w w':=by
 have d:=(Below.refl w.heap.size w).alloc lR (.cells #[.int .i64 x] 3);have f:=Hd (Zhf v L x w.heap.size (w.alloc (.cells #[.int .i64 x] 3)) (h.below d lR) (Bz rfl) g j);have i:=Hd d;obtain⟨R,b⟩:=eX (Jh L x);unfold Jh at b;rw[←b]at f;show Calls Tryz.prog 193 #[v,.int .i64 x] w fun e w'=>e=.returned (.bool (Jh L x))∧Below w.heap.size w w';unfold Jh;rw[←b];obtain⟨a,n,c,rfl⟩:∃a n c,v=.slice a n c:=(by obtain⟨a,c,e,_⟩:=h;exact⟨_,_,_,e⟩);clear h g b d;go_enter Tryz.func193,Tryz.ntmps193;go_wp2_with fail;refine f.out.mono ?_;rintro e w' ⟨rfl,rfl⟩;go_wp2_with fail;go_ret;exact⟨rfl,i.out⟩
end Go.Proofs.YtfofaiommeckbaaGreat
