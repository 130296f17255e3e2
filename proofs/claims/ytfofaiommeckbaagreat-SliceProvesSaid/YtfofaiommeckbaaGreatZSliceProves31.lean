import Derived.Test.YtfofaiommeckbaaGreatZSliceProves26
import Derived.Test.YtfofaiommeckbaaGreatZSliceProves29
open Nat renaming two_pow_pos → fB, pow_succ → aN, pow_le_pow_right → aY, sub_zero → dJ, lt_or_ge → aB, div_add_mod → aU, mul_add → fR, mul_le_mul_left → aC
open List renaming append_assoc → bW, pairwise_append → fM, singleton_append → fN, mem_cons → aE, mem_append → eY, mem_singleton → fS, not_mem_nil → eZ, nodup_append → fT, mem_append_left → fU, mem_map → eJ, mem_flatMap → fV, range → aF, pairwise_flatMap → fW, nodup_cons → fX, all_eq_true → fY, perm_ext_iff_of_nodup → fZ
open Bool renaming and_eq_true → cJ, eq_iff_iff → gA, or_eq_true → cK, not_eq_true → bL
set_option linter.unusedVariables false
set_option maxRecDepth 100000
set_option maxHeartbeats 40000000
namespace Go.Proofs.YtfofaiommeckbaaGreat
open Go.RowKit WalkM WireM
def So (k x:Nat)(L:List Int):Prop:=∀y∈L,∃m:Nat,y=(m:Int)∧inR k x m
theorem Ea (k x:Nat):inR k x x:=by have:=fB k;unfold inR;omega
theorem Bd {k x y:Nat}(h:2^k≤x):inR (k+1) x y↔y=x∨inR k (x-2^k) y∨inR k (x+2^k) y:=by
 have e:2^(k+1)=2*2^k:=(by rw[aN];omega);have hp:=fB k;unfold inR;omega
theorem Gg {k x y:Nat}(h:2^k≤x)(hy:inR k (x-2^k) y):y<x:=by unfold inR at hy;omega
theorem Eu {k x y:Nat}(hy:inR k (x+2^k) y):x<y:=by unfold inR at hy;omega
structure SpanR (k x:Nat) (r:List Int×List Int×Bool):Prop where
 op:So k x r.1
 sh:So k x r.2.1
 opr:r.1.Pairwise (· < ·)
 shr:r.2.1.Pairwise (· < ·)
theorem Jb {V:Nat→Nat→List Int→List Int×List Int×Bool} {i:Nat} {only:Bool} {c k how:Nat} {d:NodeD} {late:List Int}(h:∀how late,SpanR k c (V c how late)):SpanR k c (Fr V i only c how d late):=by
 have b:SpanR k c ([],[(c:Int)],true):=⟨fun y a=>by simp at a,fun y a=>⟨c,by simpa using a,Ea k c⟩,by simp,by simp⟩;unfold Fr
 split
 ·exact h _ _
 ·split
  ·exact b
  ·split
   ·exact h _ _
   ·split
    ·exact h _ _
    ·exact b
theorem Vb {k x:Nat} {A B:List Int}(hx:2^k≤x)(o:So k (x-2^k) A)(l:So k (x+2^k) B)(j:A.Pairwise (· < ·))(p:B.Pairwise (· < ·)):
  (A++[(x:Int)]++B).Pairwise (· < ·)∧(A++B).Pairwise (· < ·)∧So (k+1) x (A++[(x:Int)]++B)∧So (k+1) x (A++B):=by
 have g:∀y∈A,y<(x:Int):=fun y c=>(by obtain⟨m,e,h⟩:=o y c;have:=Gg hx h;omega);have i:∀y∈B,(x:Int)<y:=fun y c=>(by obtain⟨m,e,h⟩:=l y c;have:=Eu h;omega);have n:So (k+1) x A:=fun y c=>(by obtain⟨m,e,h⟩:=o y c;exact⟨m,e,(Bd hx).2 (.inr (.inl h))⟩);have q:So (k+1) x B:=fun y c=>(by obtain⟨m,e,h⟩:=l y c;exact⟨m,e,(Bd hx).2 (.inr (.inr h))⟩);refine⟨?_,?_,?_,?_⟩
 ·rw[bW,fM];refine⟨j,?_,?_⟩
  ·rw[fN,List.pairwise_cons];exact⟨i,p⟩
  ·intro a f b d;simp only[fN,aE]at d;rcases d with rfl|d
   ·exact g a f
   ·have:=g a f;have:=i b d;omega
 ·rw[fM];exact⟨j,p,fun a f b d=>by have:=g a f;have:=i b d;omega⟩
 ·intro y c;simp only[eY,fS]at c;rcases c with(h|h)|h
  ·exact n y h
  ·exact⟨x,h,Ea _ _⟩
  ·exact q y h
 ·intro y c;rw[eY]at c;rcases c with h|h
  ·exact n y h
  ·exact q y h
theorem Ep {x k M:Nat}(c:IsLev x (k+1))(hx:x+2^(k+1)≤M)(d:M≤131071):IsLev (x-2^k) k∧IsLev (x+2^k) k∧2^k≤x∧x-2^k+2^k≤M∧x+2^k+2^k≤M∧Eb (x:Int)=((x-2^k:Nat):Int)∧Ce (x:Int)=((x+2^k:Nat):Int):=by
 have f:=fB k;have e:2^(k+1)=2*2^k:=(by rw[aN];omega);obtain⟨h1,h2,h3,b,a⟩:=Go.Proofs.YtfofaiommeckbaaGreat.kids_lev (by omega) c;exact⟨h3,b,a,by omega,by omega,h1,h2⟩
theorem Cs {F:Nat→Option NodeD} {i:Nat} {only:Bool}:∀(k x how:Nat) (late:List Int),IsLev x k→x+2^k≤131071→SpanR k x (By F i only k x how late):=by
 intro k
 induction k with
 |zero=>
  intro x how late e hx;cases hF:F x with
  |none=>rw[Bl hF];exact⟨fun y c=>by simp at c,fun y c=>by simp at c,by simp,by simp⟩
  |some d=>rw[De hF];exact⟨fun y c=>⟨x,by simpa using c,Ea _ _⟩,fun y c=>by simp at c,by simp,by simp⟩
 |succ k ih=>
  intro x how late e hx;cases hF:F x with
  |none=>rw[Bl hF];exact⟨fun y c=>by simp at c,fun y c=>by simp at c,by simp,by simp⟩
  |some d=>
   rw[Cr hF];obtain⟨f,h,h0,h1,h2,-,-⟩:=Ep e hx lR;have A:=Jb (i:=i) (only:=only) (how:=how) (d:=d) (late:=if how=1 then d.par.late else late) fun a b=>ih (x-2^k) a b f h1;have B:=Jb (i:=i) (only:=only) (how:=how) (d:=d) (late:=if how=1 then d.par.late else late) fun a b=>ih (x+2^k) a b h h2;obtain⟨j1,-,j3,-⟩:=Vb h0 A.op B.op A.opr B.opr;obtain⟨-,j2,-,g⟩:=Vb h0 A.sh B.sh A.shr B.shr;exact⟨j3,g,j1,j2⟩
def Pp (z y:Int):Prop:=0≤y∧(y=Eb z∨y=Ce z)
def Zla (r:List Int×List Int×Bool):Prop:=∀y,y∈r.2.1↔(∃z∈r.1,Pp z y)∧y∉r.1
theorem Sp {x:Nat}(hx:x≤131070)(hl:IsLev x 0):Eb (x:Int)= -1∧Ce (x:Int)= -1:=by
 have h:=Od (x:=(x:Int)) (by
  have e:Mp (x:Int)=0:=by
   rw[Mp,if_pos (by unfold Bj;rw[decide_eq_true_iff];omega),Int.toNat_natCast,lev_eq hx hl];rfl
  omega)
 exact h
def Znv (c:Nat)(r:List Int×List Int×Bool):Prop:=r.2.2=true→((c:Int)∈r.1∧Zla r)∨(r.1=[]∧r.2.1=[(c:Int)])
theorem Vc {V:Nat→Nat→List Int→List Int×List Int×Bool} {i:Nat} {only:Bool} {c how:Nat} {d:NodeD} {late:List Int}(h:∀how late,(V c how late).2.2=true→(c:Int)∈(V c how late).1∧Zla (V c how late)):Znv c (Fr V i only c how d late):=by
 unfold Fr
 split
 ·exact fun a=> .inl (h _ _ a)
 ·split
  ·exact fun _=> .inr ⟨rfl,rfl⟩
  ·split
   ·exact fun a=> .inl (h _ _ a)
   ·split
    ·exact fun a=> .inl (h _ _ a)
    ·exact fun _=> .inr ⟨rfl,rfl⟩
theorem Vd {F:Nat→Option NodeD} {i:Nat} {only:Bool}:∀(k x how:Nat) (late:List Int),IsLev x k→x+2^k≤131071→(By F i only k x how late).2.2=true→(x:Int)∈(By F i only k x how late).1∧Zla (By F i only k x how late):=by
 intro k
 induction k with
 |zero=>
  intro x how late s hx;have D:=fB 0;cases hF:F x with
  |none=>rw[Bl hF];intro h;cases h
  |some d=>
   rw[De hF];intro _;refine⟨by simp,fun y=> ?_⟩;obtain⟨e1,e2⟩:=Sp (by omega) s;simp only[eZ,fS,false_iff,not_and];rintro⟨z,rfl,h0,h1|h1⟩
   ·rw[e1]at h1;omega
   ·rw[e2]at h1;omega
 |succ k ih=>
  intro x how late s hx;cases hF:F x with
  |none=>rw[Bl hF];intro h;cases h
  |some d=>
   rw[Cr hF];obtain⟨t,u,h0,h1,h2,G,E⟩:=Ep s hx lR;have A:=Jb (i:=i) (only:=only) (how:=how) (d:=d) (late:=if how=1 then d.par.late else late) fun a b=>Cs (F:=F) (i:=i) (only:=only) k (x-2^k) a b t h1;have B:=Jb (i:=i) (only:=only) (how:=how) (d:=d) (late:=if how=1 then d.par.late else late) fun a b=>Cs (F:=F) (i:=i) (only:=only) k (x+2^k) a b u h2;have o:=Vc (i:=i) (only:=only) (how:=how) (d:=d) (late:=if how=1 then d.par.late else late) fun a b=>ih (x-2^k) a b t h1;have n:=Vc (i:=i) (only:=only) (how:=how) (d:=d) (late:=if how=1 then d.par.late else late) fun a b=>ih (x+2^k) a b u h2;generalize Fr (By F i only k) i only (x-2^k) how d (if how=1 then d.par.late else late)=a at A o⊢;generalize Fr (By F i only k) i only (x+2^k) how d (if how=1 then d.par.late else late)=b at B n⊢;intro p;have c:(a.2.2&&b.2.2)=true:=p;rw[cJ]at c;refine⟨by simp[Pn],fun y=> ?_⟩;show y∈a.2.1++b.2.1↔(∃z∈a.1++[(x:Int)]++b.1,Pp z y)∧y∉a.1++[(x:Int)]++b.1;simp only[eY,fS];have w:∀y∈a.1,y<(x:Int):=fun y f=>(by obtain⟨m,e,h⟩:=A.op y f;have:=Gg h0 h;omega);have v:∀y∈b.1,(x:Int)<y:=fun y f=>(by obtain⟨m,e,h⟩:=B.op y f;have:=Eu h;omega);have C:∀y∈a.2.1,y<(x:Int):=fun y f=>(by obtain⟨m,e,h⟩:=A.sh y f;have:=Gg h0 h;omega);have sb:∀y∈b.2.1,(x:Int)<y:=fun y f=>(by obtain⟨m,e,h⟩:=B.sh y f;have:=Eu h;omega);have D:=fB k;have r:∀y,Pp (x:Int) y↔y=((x-2^k:Nat):Int)∨y=((x+2^k:Nat):Int):=by
    intro y;unfold Pp;rw[G,E];constructor
    ·rintro⟨_,h⟩;exact h
    ·rintro(h|h)<;>omega
   constructor
   ·rintro(f|f)
    ·have q:=C y f;rcases o c.1 with⟨_,l⟩|⟨e1,e2⟩
     ·obtain⟨⟨z,g,hk⟩,j⟩:=(l y).1 f;refine⟨⟨z,.inl (.inl g),hk⟩,?_⟩;rintro((h|h)|h)
      ·exact j h
      ·omega
      ·have:=v y h;omega
     ·rw[e2,fS]at f;refine⟨⟨x,.inl (.inr rfl),(r y).2 (.inl f)⟩,?_⟩;rintro((h|h)|h)
      ·rw[e1]at h;cases h
      ·omega
      ·have:=v y h;omega
    ·have q:=sb y f;rcases n c.2 with⟨_,l⟩|⟨e1,e2⟩
     ·obtain⟨⟨z,g,hk⟩,j⟩:=(l y).1 f;refine⟨⟨z,.inr g,hk⟩,?_⟩;rintro((h|h)|h)
      ·have:=w y h;omega
      ·omega
      ·exact j h
     ·rw[e2,fS]at f;refine⟨⟨x,.inl (.inr rfl),(r y).2 (.inr f)⟩,?_⟩;rintro((h|h)|h)
      ·have:=w y h;omega
      ·omega
      ·rw[e1]at h;cases h
   ·rintro⟨⟨z,g,hk⟩,j⟩;rcases g with(g|g)|g
    ·rcases o c.1 with⟨_,l⟩|⟨e1,e2⟩
     ·exact .inl ((l y).2 ⟨⟨z,g,hk⟩,fun h=>j (.inl (.inl h))⟩)
     ·rw[e1]at g;cases g
    ·rw[g]at hk;rcases(r y).1 hk with e|e
     ·rcases o c.1 with⟨h3,l⟩|⟨e1,e2⟩
      ·rw[e]at j;exact absurd (.inl (.inl h3)) j
      ·rw[e2,e];exact .inl (by simp)
     ·rcases n c.2 with⟨h3,l⟩|⟨e1,e2⟩
      ·rw[e]at j;exact absurd (.inr h3) j
      ·rw[e2,e];exact .inr (by simp)
    ·rcases n c.2 with⟨_,l⟩|⟨e1,e2⟩
     ·exact .inr ((l y).2 ⟨⟨z,g,hk⟩,fun h=>j (.inr h)⟩)
     ·rw[e1]at g;cases g
section
def upL (d:Nat)(u:Int):List Int:=(2*u)::(Pi (2*u) ((2^d:Nat):Int)).map fun n:Nat=>(n:Int)
def Zcr (FI:Int→Option NodeD)(x:Int)(s:List Int×Bool)(y:Int):List Int×Bool:=
 if y≠x∧Bx y x=true∧y∉s.1 then(s.1++[y],s.2&&(FI y).isSome)else s
def Op (FI:Int→Option NodeD)(x:Int)(s:List Int×Bool)(ys:List Int):List Int×Bool:=ys.foldl (Zcr FI x) s
def Ih (FI:Int→Option NodeD)(d:Nat)(x:Int)(late:List Int):List Int×Bool:=Op FI x ([x],true) (late.flatMap (upL d))
def Be (FI:Int→Option NodeD)(d:Nat):Nat→Nat→List Int×Bool
 |0,x=>match FI (x:Int)with
  |none=>([],false)
  |some y=>Ih FI d x y.par.late
 |k+1,x=>match FI (x:Int)with
  |none=>([],false)
  |some y=>if y.kind=0 then([(x:Int)]++(Be FI d k (x-2^k)).1++(Be FI d k (x+2^k)).1,(Be FI d k (x-2^k)).2&&(Be FI d k (x+2^k)).2)
   else Ih FI d x y.par.late
theorem Ft {FI:Int→Option NodeD} {d k x:Nat}(h:FI (x:Int)=none):Be FI d k x=([],false):=by
 cases k<;>simp only[Be,h]
theorem Hv {FI:Int→Option NodeD} {d x:Nat} {y:NodeD}(h:FI (x:Int)=some y):Be FI d 0 x=Ih FI d x y.par.late:=by simp only[Be,h]
theorem Jx {FI:Int→Option NodeD} {d k x:Nat} {y:NodeD}(h:FI (x:Int)=some y)(hk:y.kind≠0):Be FI d k x=Ih FI d x y.par.late:=by
 cases k with
 |zero=>exact Hv h
 |succ k=>simp only[Be,h];rw[if_neg hk]
theorem Ii {FI:Int→Option NodeD} {d k x:Nat} {y:NodeD}(h:FI (x:Int)=some y)(hk:y.kind=0):
  Be FI d (k+1) x=([(x:Int)]++(Be FI d k (x-2^k)).1++(Be FI d k (x+2^k)).1,(Be FI d k (x-2^k)).2&&(Be FI d k (x+2^k)).2):=by
 simp only[Be,h];rw[if_pos hk]
structure AddWP (FI:Int→Option NodeD) (x:Int) (ys:List Int) (s:List Int×Bool):Prop where
 nd:s.1.Nodup
 mem:∀y,y∈s.1↔y=x∨(y∈ys∧y≠x∧Bx y x=true)
 ok:s.2=true↔∀y∈ys,y≠x→Bx y x=true→(FI y).isSome=true
theorem Zet {FI:Int→Option NodeD} {x y:Int} {g:List Int} {s:List Int×Bool}(h:AddWP FI x g s):AddWP FI x (g++[y]) (Zcr FI x s y):=by
 unfold Zcr
 split
 ·rename_i hc
  obtain⟨c1,c2,c3⟩:=hc;refine⟨?_,fun z=> ?_,?_⟩
  ·rw[fT];exact⟨h.nd,by simp,fun a j b i e=>by rw[fS]at i;subst e i;exact c3 j⟩
  ·simp only[eY,fS,h.mem z];constructor
   ·rintro((e|⟨a,b,c⟩)|e)
    ·exact .inl e
    ·exact .inr ⟨.inl a,b,c⟩
    ·subst e;exact .inr ⟨.inr rfl,c1,c2⟩
   ·rintro(e|⟨a|a,b,c⟩)
    ·exact .inl (.inl e)
    ·exact .inl (.inr ⟨a,b,c⟩)
    ·exact .inr a
  ·show(s.2&&(FI y).isSome)=true↔_;rw[cJ,h.ok];constructor
   ·rintro⟨a,b⟩ z d;rw[eY,fS]at d;rcases d with d|rfl
    ·exact a z d
    ·exact fun _ _=>b
   ·intro a;exact⟨fun z d=>a z (fU _ d),a y (by simp) c1 c2⟩
 ·rename_i hc
  have f:y≠x→Bx y x=true→y∈s.1:=fun a b=>Decidable.byContradiction fun c=>hc ⟨a,b,c⟩;refine⟨h.nd,fun z=> ?_,?_⟩
  ·rw[h.mem z];simp only[eY,fS];constructor
   ·rintro(e|⟨a,b,c⟩)
    ·exact .inl e
    ·exact .inr ⟨.inl a,b,c⟩
   ·rintro(e|⟨a|a,b,c⟩)
    ·exact .inl e
    ·exact .inr ⟨a,b,c⟩
    ·subst a;exact(h.mem z).1 (f b c)
  ·rw[h.ok];constructor
   ·intro a z d b c;rw[eY,fS]at d;rcases d with d|rfl
    ·exact a z d b c
    ·rcases(h.mem z).1 (f b c)with e|⟨e,_,_⟩
     ·exact absurd e b
     ·exact a z e b c
   ·exact fun a z d=>a z (fU _ d)
theorem Zir {FI:Int→Option NodeD} {x:Int}:∀(zs ys:List Int) (s:List Int×Bool),AddWP FI x ys s→AddWP FI x (ys++zs) (Op FI x s zs):=by
 intro zs
 induction zs with
 |nil=>intro ys s h;simpa [Op]using h
 |cons z zs ih=>
  intro ys s h;have:=ih (ys++[z]) _ (Zet (y:=z) h);rw[bW,fN]at this;exact this
theorem Zlb (FI:Int→Option NodeD)(d:Nat)(x:Int)(late:List Int):AddWP FI x (late.flatMap (upL d)) (Ih FI d x late):=by
 have h0:AddWP FI x [] ([x],true):=⟨by simp,fun y=>by simp,by simp⟩;have:=Zir (late.flatMap (upL d)) [] _ h0
 rwa [List.nil_append]at this
theorem Sq {z:Nat}:∀(k j:Nat) (y:Nat),y∈ups z j k↔∃l,j<l∧l≤j+k∧y=anc z l:=by
 intro k
 induction k with
 |zero=>
  intro j y;simp only[ups,eZ,false_iff,not_exists,not_and];intro l h1 h2;omega
 |succ k ih=>
  intro j y;rw[ups,aE,ih];constructor
  ·rintro(e|⟨l,h1,h2,e⟩)
   ·exact⟨j+1,by omega,by omega,e⟩
   ·exact⟨l,by omega,by omega,e⟩
  ·rintro⟨l,h1,h2,e⟩
   by_cases hl:l=j+1
   ·subst hl;exact .inl e
   ·exact .inr ⟨l,by omega,by omega,e⟩
theorem Lw {d m:Nat}(c:d≤16)(f:2*m+1<2^(d+1))(y:Int):y∈upL d (m:Int)↔∃j,j≤d∧y=((anc (2*m) j:Nat):Int):=by
 have g:2^(d+1)≤2^17:=aY (by omega) (by omega);have b:(2:Nat)^17=131072:=rfl;have h:=Ix (q:=2*m) (by omega) (by omega);have a:anc (2*m) 0=2*m:=anc_self (by unfold IsLev;simp);have e2:2*(m:Int)=((2*m:Nat):Int):=(by omega);unfold upL;rw[e2,Rw c f,h,dJ,aE,eJ];constructor
 ·rintro(e|⟨n,i,e⟩)
  ·exact⟨0,by omega,by rw[a];exact e⟩
  ·obtain⟨l,h1,h2,e3⟩:=(Sq _ _ _).1 i;exact⟨l,by omega,by rw[←e,e3]⟩
 ·rintro⟨j,k,e⟩
  by_cases h0:j=0
  ·subst h0;rw[a]at e;exact .inl e
  ·exact .inr ⟨anc (2*m) j,(Sq _ _ _).2 ⟨j,by omega,by omega,rfl⟩,e.symm⟩
def Jy (d:Nat)(late:List Int):Prop:=∀u∈late,∃m:Nat,u=(m:Int)∧2*m+1<2^(d+1)
theorem Zeu {d m x:Nat}(hd:d≤16)(hm:2*m+1<2^(d+1))(hx:x+1<2^(d+1)):Bx (2*(m:Int)) (x:Int)=decide (x=anc (2*m) (lev x)):=by
 rw[Znl];exact Kt hd hm hx (by omega)
theorem Nk {d x:Nat} {late:List Int}(c:d≤16)(e:Jy d late)(hx:x+1<2^(d+1)):Kc late (x:Int)=true↔∃m:Nat,(m:Int)∈late∧2*m+1<2^(d+1)∧x=anc (2*m) (lev x):=by
 unfold Kc;rw[List.any_eq_true];constructor
 ·rintro⟨u,a,h⟩;obtain⟨m,rfl,b⟩:=e u a;rw[Zeu c b hx,decide_eq_true_iff]at h;exact⟨m,a,b,h⟩
 ·rintro⟨m,a,b,h⟩;refine⟨m,a,?_⟩;rw[Zeu c b hx,decide_eq_true_iff];exact h
theorem Xh {x k y:Nat}(c:IsLev x k)(b:inR k x y):anc y k=x:=by
 have a:=anc_self c;have e1:2^(k+1)=2*2^k:=(by rw[aN];omega);have e:=fB k;have d:y/2^(k+1)=x/2^(k+1):=by
  unfold anc at a;refine Nat.div_eq_of_lt_le ?_ ?_
  ·unfold inR at b;omega
  ·rw[Nat.add_mul,Nat.one_mul];unfold inR at b;omega
 unfold anc;rw[d];exact a
theorem Zj8 {x k y l:Nat}(b:IsLev x k)(d:IsLev y l)(f:inR k x y):l≤k:=by
 rcases aB k l with h|h
 ·exfalso;have e1:2^(k+1)=2*2^k:=(by rw[aN];omega);have i:=fB k;have g:=fB l;have e2:2^(l+1)=2*2^l:=(by rw[aN];omega);have d1:2^(k+1)∣y+1:=by
   unfold IsLev at d;have a:=aU y (2^(l+1));rw[d]at a;have e3:y+1=2^l*(2*(y/2^(l+1))+1):=by
    rw[fR,←Nat.mul_assoc,Nat.mul_comm (2^l) 2,←e2];omega
   rw[e3];exact Nat.dvd_trans (Nat.pow_dvd_pow 2 (by omega)) (Nat.dvd_mul_right _ _)
  obtain⟨c,e⟩:=d1;unfold IsLev at b;have a:=aU x (2^(k+1));rw[b]at a;unfold inR at f;rcases Nat.lt_trichotomy c (x/2^(k+1)+1)with h3|h3|h3
  ·have:=aC (2^(k+1)) (show c≤x/2^(k+1) by omega);omega
  ·rw[h3,fR]at e;omega
  ·have:=aC (2^(k+1)) (show x/2^(k+1)+1+1≤c by omega);rw[fR,fR]at this;omega
 ·exact h
theorem Zlc {d c k y:Nat} {late:List Int}(l:d≤16)(o:Jy d late)(q:c+1<2^(d+1))(f:y+1<2^(d+1))(a:IsLev c k)(j:inR k c y)(h:Kc late (y:Int)=true):Kc late (c:Int)=true:=by
 have r:2^(d+1)≤2^17:=aY (by omega) (by omega);have n:(2:Nat)^17=131072:=rfl;obtain⟨m,p,i,e⟩:=(Nk l o f).1 h;refine(Nk l o q).2 ⟨m,p,i,?_⟩;have g:=lev_is (x:=y) (by omega);have b:=Zj8 a g j;rw[lev_eq (by omega) a,←anc_anc b,←e];exact(Xh a j).symm
section
variable {F:Nat→Option NodeD} {i d:Nat} {only:Bool}
structure BetwP (F:Nat→Option NodeD) (k c:Nat) (late:List Int) (r:List Int×List Int×Bool):Prop where
 ok:r.2.2=true↔∀y:Nat,inR k c y→Kc late (y:Int)=true→(F y).isSome=true
 mem:r.2.2=true→∀y:Int,y∈r.1↔∃m:Nat,y=(m:Int)∧inR k c m∧Kc late (m:Int)=true
theorem Xi {k c y M:Nat}(hc:c+2^k≤M)(hy:inR k c y):y+1≤M:=by unfold inR at hy;omega
theorem Nl {k c:Nat} {D:NodeD} {late:List Int} (g:d≤16) (l:Jy d late) (f:IsLev c k) (n:c+2^k≤2*2^d-1)
  (j:Kc late (c:Int)=true→BetwP F k c late (By F i only k c 2 late)):BetwP F k c late (Fr (By F i only k) i only c 2 D late):=by
 have e2:2^(d+1)=2*2^d:=(by rw[aN];omega);have p:=fB k;have o:Fr (By F i only k) i only c 2 D late=if Kc late (c:Int)=true then By F i only k c 2 late else([],[(c:Int)],true):=by
  unfold Fr;rw[if_neg (by omega),if_neg (by omega),if_neg (by omega)]
 rw[o]
 by_cases h:Kc late (c:Int)=true
 ·rw[if_pos h];exact j h
 ·rw[if_neg h];have b:∀y:Nat,inR k c y→¬Kc late (y:Int)=true:=fun y a e=>h (Zlc g l (by omega) (by have:=Xi n a;omega) f a e);exact⟨⟨fun _ y a e=>absurd e (b y a),fun _=>rfl⟩,fun _ y=>⟨fun a=>(by cases a),fun⟨m,_,h1,h2⟩=>absurd h2 (b m h1)⟩⟩
theorem Zev {k c:Nat} {D:NodeD} {late:List Int} {a b:List Int×List Int×Bool}(hx:2^k≤c)(n:F c=some D)(o:Kc late (c:Int)=true)(j:BetwP F k (c-2^k) late a)(l:BetwP F k (c+2^k) late b):BetwP F (k+1) c late (Pn a c b):=by
 constructor
 ·show(a.2.2&&b.2.2)=true↔_;rw[cJ,j.ok,l.ok];constructor
  ·rintro⟨h1,h2⟩ y f g;rcases(Bd hx).1 f with rfl|h|h
   ·rw[n];rfl
   ·exact h1 y h g
   ·exact h2 y h g
  ·intro h;exact⟨fun y f=>h y ((Bd hx).2 (.inr (.inl f))),fun y f=>h y ((Bd hx).2 (.inr (.inr f)))⟩
 ·intro i y;have d:(a.2.2&&b.2.2)=true:=i;rw[cJ]at d;show y∈a.1++[(c:Int)]++b.1↔_;simp only[eY,fS,j.mem d.1 y,l.mem d.2 y];constructor
  ·rintro((⟨m,e,h1,h2⟩|e)|⟨m,e,h1,h2⟩)
   ·exact⟨m,e,(Bd hx).2 (.inr (.inl h1)),h2⟩
   ·exact⟨c,e,Ea _ _,o⟩
   ·exact⟨m,e,(Bd hx).2 (.inr (.inr h1)),h2⟩
  ·rintro⟨m,e,h1,h2⟩;rcases(Bd hx).1 h1 with rfl|h|h
   ·exact .inl (.inr e)
   ·exact .inl (.inl ⟨m,e,h,h2⟩)
   ·exact .inr ⟨m,e,h,h2⟩
theorem Znn (f:d≤16) {late:List Int}(o:Jy d late):∀(k c:Nat),IsLev c k→c+2^k≤2*2^d-1→Kc late (c:Int)=true→BetwP F k c late (By F i only k c 2 late):=by
 have q:2*2^d-1≤131071:=by
  have r:2^d≤2^16:=aY (by omega) f;have l:(2:Nat)^16=65536:=rfl;omega
 intro k
 induction k with
 |zero=>
  intro c b n a;have h0:∀y,inR 0 c y↔y=c:=fun y=>(by have e:2^0=1:=rfl;unfold inR;omega);cases hF:F c with
  |none=>
   rw[Bl hF];exact⟨⟨fun h=>(by cases h),fun h=>by have:=h c ((h0 c).2 rfl) a;rw[hF]at this;cases this⟩,fun h=>by cases h⟩
  |some D=>
   rw[De hF];refine⟨⟨fun _ y p _=>by rw[(h0 y).1 p,hF];rfl,fun _=>rfl⟩,fun _ y=> ?_⟩;simp only[fS];exact⟨fun e=>⟨c,e,(h0 c).2 rfl,a⟩,fun⟨m,e,h,_⟩=>by rw[e,(h0 m).1 h]⟩
 |succ k ih=>
  intro c b n a;cases hF:F c with
  |none=>
   rw[Bl hF];exact⟨⟨fun h=>(by cases h),fun h=>by have:=h c (Ea _ _) a;rw[hF]at this;cases this⟩,fun h=>by cases h⟩
  |some D=>
   obtain⟨g,j,h0,h1,h2,-,-⟩:=Ep b n q;rw[Cr hF,if_neg (by omega)];exact Zev h0 hF a (Nl f o g h1 (ih _ g h1)) (Nl f o j h2 (ih _ j h2))
def Cw (F:Nat→Option NodeD):Prop:=∀x D,F x=some D→∀u∈D.par.late,∃m:Nat,u=(m:Int)∧m<65536∧Bx (2*(m:Int)) (x:Int)=true
theorem Kx (h:d≤16)(g:Cw F) {x k:Nat} {D:NodeD}(c:F x=some D)(l:IsLev x k)(hx:x+2^k≤2*2^d-1):Jy d D.par.late∧∀m:Nat,(m:Int)∈D.par.late→inR k x (2*m):=by
 have e2:2^(d+1)=2*2^d:=(by rw[aN];omega);have n:2*2^d-1≤131071:=by
  have j:2^d≤2^16:=aY (by omega) h;have f:(2:Nat)^16=65536:=rfl;omega
 have o:=fB k;have a:∀m:Nat,(m:Int)∈D.par.late→inR k x (2*m):=by
  intro m b;obtain⟨i,e,h1,h2⟩:=g x D c _ b;have:i=m:=(by omega);subst this;rw[Znl]at h2;exact(Sa (by omega) (by omega) l).1 h2
 refine⟨fun u b=> ?_,a⟩;obtain⟨m,rfl,-,-⟩:=g x D c u b;have:=Xi hx (a m b);exact⟨m,rfl,by omega⟩
theorem Zms (a:d≤16) {late:List Int}(i:Jy d late) {k x:Nat}(c:IsLev x k)(hx:x+2^k≤2*2^d-1)(y:Int):
  (y∈late.flatMap (upL d)∧Bx y (x:Int)=true)↔∃m:Nat,y=(m:Int)∧inR k x m∧Kc late (m:Int)=true:=by
 have e2:2^(d+1)=2*2^d:=(by rw[aN];omega);have v:2*2^d-1≤131071:=by
  have t:2^d≤2^16:=aY (by omega) a;have o:(2:Nat)^16=65536:=rfl;omega
 have w:=fB k;rw[fV];constructor
 ·rintro⟨⟨u,p,r⟩,b⟩;obtain⟨m,rfl,f⟩:=i u p;obtain⟨j,s,rfl⟩:=(Lw a f y).1 r;have h:anc (2*m) j+1<2^(d+1):=anc_le (by omega) s;refine⟨_,rfl,(Sa (by omega) (by omega) c).1 b,(Nk a i h).2 ⟨m,p,f,?_⟩⟩;rw[lev_eq (by omega) (anc_lev _ _)]
 ·rintro⟨n,rfl,h1,h2⟩;have q:n+1<2^(d+1):=(by have:=Xi hx h1;omega);obtain⟨m,f,g,e⟩:=(Nk a i q).1 h2;have l:=(lev_root q (lev_is (x:=n) (by omega))).1;exact⟨⟨m,f,(Lw a g _).2 ⟨lev n,l,by rw[←e]⟩⟩,(Sa (by omega) (by omega) c).2 h1⟩
end
end
section
structure WholeP (v:List Int×List Int×Bool) (w:List Int×Bool):Prop where
 ok:v.2.2=w.2
 nd:w.2=true→w.1.Nodup
 mem:w.2=true→∀y,y∈w.1↔y∈v.1
theorem Zew {V:Nat→Nat→List Int→List Int×List Int×Bool} {i c:Nat} {only:Bool} {D:NodeD} {late:List Int}(hk:D.kind≠0):Fr V i only c 1 D late=Fr V i only c 2 D late:=by
 have e1:Fr V i only c 1 D late=if Kc late (c:Int)=true then V c 2 late else([],[(c:Int)],true):=by
  unfold Fr;rw[if_neg (by omega),if_neg (by omega),if_neg (by omega)]
 have e2:Fr V i only c 2 D late=if Kc late (c:Int)=true then V c 2 late else([],[(c:Int)],true):=by
  unfold Fr;rw[if_neg (by omega),if_neg (by omega),if_neg (by omega)]
 rw[e1,e2]
theorem Zex {V:Nat→Nat→List Int→List Int×List Int×Bool} {i c:Nat} {only:Bool} {D:NodeD} {late:List Int}(hk:D.kind=0):Fr V i only c 1 D late=V c 1 []:=by
 unfold Fr;rw[if_neg (by omega),if_neg (by omega),if_pos (.inr ⟨rfl,hk⟩)]
section
variable {FI:Int→Option NodeD} {F:Nat→Option NodeD} {i d:Nat} {only:Bool}
theorem Dp (hd:d≤16):2*2^d-1≤131071∧2^(d+1)=2*2^d:=by
 have h17:2^d≤2^16:=aY (by omega) hd;have h17':(2:Nat)^16=65536:=rfl;exact⟨by omega,by rw[aN];omega⟩
theorem Qn (q:d≤16) (g:∀n:Nat,F n=FI (n:Int)) {k x:Nat} {D:NodeD} {v:List Int×List Int×Bool} (r:IsLev x k) (hx:x+2^k≤2*2^d-1) (j:Jy d D.par.late) (s:F x=some D)
  (i:v.2.2=true↔∀y:Nat,inR k x y→y≠x→Kc D.par.late (y:Int)=true→(F y).isSome=true)
  (f:v.2.2=true→∀y:Int,y∈v.1↔y=(x:Int)∨∃m:Nat,y=(m:Int)∧inR k x m∧m≠x∧Kc D.par.late (m:Int)=true):WholeP v (Ih FI d x D.par.late):=by
 have P:=Zlb FI d (x:Int) D.par.late;have U:=Zms q j r hx;have e:v.2.2=(Ih FI d x D.par.late).2:=by
  rw[gA,i,P.ok];constructor
  ·intro h y p a b;obtain⟨m,rfl,h1,h2⟩:=(U y).1 ⟨p,b⟩;rw[←g];exact h m h1 (fun e=>a (by rw[e])) h2
  ·intro h y h1 a h2;obtain⟨h3,c⟩:=(U (y:Int)).2 ⟨y,rfl,h1,h2⟩;rw[g];exact h _ h3 (fun e=>a (by omega)) c
 refine⟨e,fun _=>P.nd,fun h y=> ?_⟩;rw[P.mem y,f (by rw[e];exact h) y];constructor
 ·rintro(h1|⟨h1,h2,h3⟩)
  ·exact .inl h1
  ·obtain⟨m,rfl,c,l⟩:=(U y).1 ⟨h1,h3⟩;exact .inr ⟨m,rfl,c,fun e=>h2 (by rw[e]),l⟩
 ·rintro(h1|⟨m,rfl,c,o,l⟩)
  ·exact .inl h1
  ·obtain⟨h3,h2⟩:=(U (m:Int)).2 ⟨m,rfl,c,l⟩;exact .inr ⟨h3,fun e=>o (by omega),h2⟩
theorem Zq (o:d≤16)(f:∀n:Nat,F n=FI (n:Int))(I:Cw F):∀(k x:Nat) (late:List Int),IsLev x k→x+2^k≤2*2^d-1→WholeP (By F i only k x 1 late) (Be FI d k x):=by
 obtain⟨M,e2⟩:=Dp o;intro k
 induction k with
 |zero=>
  intro x late v hx;cases hF:F x with
  |none=>rw[Bl hF,Ft (by rw[←f];exact hF)];exact⟨rfl,fun h=>(by cases h),fun h=>(by cases h)⟩
  |some D=>
   have h0:∀y,inR 0 x y↔y=x:=fun y=>(by have e:2^0=1:=rfl;unfold inR;omega);rw[De hF,Hv (y:=D) (by rw[←f];exact hF)];refine Qn o f v hx (Kx o I hF v hx).1 hF ⟨fun _ y j u _=>absurd ((h0 y).1 j) u,fun _=>rfl⟩ fun _ y=> ?_;simp only[fS];refine⟨fun e=> .inl e,fun h=> ?_⟩;rcases h with e|⟨m,e,h1,h2,_⟩
   ·exact e
   ·exact absurd ((h0 m).1 h1) h2
 |succ k ih=>
  intro x late v hx;obtain⟨z,C,h0,h1,h2,-,-⟩:=Ep v hx M;cases hF:F x with
  |none=>rw[Bl hF,Ft (by rw[←f];exact hF)];exact⟨rfl,fun h=>(by cases h),fun h=>(by cases h)⟩
  |some D=>
   rw[Cr hF,if_pos rfl]
   by_cases hk:D.kind=0
   ·rw[Ii (y:=D) (by rw[←f];exact hF) hk,Zex hk,Zex hk];have A:=ih (x-2^k) [] z h1;have B:=ih (x+2^k) [] C h2;have K:=Cs (F:=F) (i:=i) (only:=only) k (x-2^k) 1 [] z (by omega);have H:=Cs (F:=F) (i:=i) (only:=only) k (x+2^k) 1 [] C (by omega);generalize By F i only k (x-2^k) 1 []=a at A K⊢;generalize By F i only k (x+2^k) 1 []=b at B H⊢;generalize Be FI d k (x-2^k)=p at A⊢;generalize Be FI d k (x+2^k)=q at B⊢;refine⟨by show(a.2.2&&b.2.2)=(p.2&&q.2);rw[A.ok,B.ok],fun G=> ?_,fun G y=> ?_⟩
    ·have c:(p.2&&q.2)=true:=G;rw[cJ]at c;show([(x:Int)]++p.1++q.1).Nodup;have J:∀y∈p.1,y<(x:Int):=fun y j=>(by obtain⟨m,e,h⟩:=K.op y ((A.mem c.1 y).1 j);have:=Gg h0 h;omega);have L:∀y∈q.1,(x:Int)<y:=fun y j=>(by obtain⟨m,e,h⟩:=H.op y ((B.mem c.2 y).1 j);have:=Eu h;omega);rw[fT,fT];refine⟨⟨by simp,A.nd c.1,fun s g t ht=> ?_⟩,B.nd c.2,fun s g t ht=> ?_⟩
     ·rw[fS]at g;have:=J t ht;omega
     ·have:=L t ht;rw[eY,fS]at g;rcases g with g|g
      ·omega
      ·have:=J s g;omega
    ·have c:(p.2&&q.2)=true:=G;rw[cJ]at c;show y∈[(x:Int)]++p.1++q.1↔y∈a.1++[(x:Int)]++b.1;simp only[eY,fS,A.mem c.1 y,B.mem c.2 y];constructor
     ·rintro((h|h)|h)
      ·exact .inl (.inr h)
      ·exact .inl (.inl h)
      ·exact .inr h
     ·rintro((h|h)|h)
      ·exact .inl (.inr h)
      ·exact .inl (.inl h)
      ·exact .inr h
   ·rw[Jx (y:=D) (by rw[←f];exact hF) hk,Zew hk,Zew hk];have w:=(Kx o I hF v hx).1;have A:=Nl (F:=F) (i:=i) (only:=only) (D:=D) o w z h1 (Znn o w k _ z h1);have B:=Nl (F:=F) (i:=i) (only:=only) (D:=D) o w C h2 (Znn o w k _ C h2);generalize Fr (By F i only k) i only (x-2^k) 2 D D.par.late=a at A⊢;generalize Fr (By F i only k) i only (x+2^k) 2 D D.par.late=b at B⊢;have N:=fB k;refine Qn o f v hx w hF ?_ fun E y=> ?_
    ·show(a.2.2&&b.2.2)=true↔_;rw[cJ,A.ok,B.ok];constructor
     ·rintro⟨r,g2⟩ y j u g;rcases(Bd h0).1 j with e|h|h
      ·exact absurd e u
      ·exact r y h g
      ·exact g2 y h g
     ·intro h;exact⟨fun y j g=>h y ((Bd h0).2 (.inr (.inl j))) (by have:=Gg h0 j;omega) g,fun y j g=>h y ((Bd h0).2 (.inr (.inr j))) (by have:=Eu j;omega) g⟩
    ·have l:(a.2.2&&b.2.2)=true:=E;rw[cJ]at l;show y∈a.1++[(x:Int)]++b.1↔_;simp only[eY,fS,A.mem l.1 y,B.mem l.2 y];constructor
     ·rintro((⟨m,e,r,g2⟩|e)|⟨m,e,r,g2⟩)
      ·exact .inr ⟨m,e,(Bd h0).2 (.inr (.inl r)),by have:=Gg h0 r;omega,g2⟩
      ·exact .inl e
      ·exact .inr ⟨m,e,(Bd h0).2 (.inr (.inr r)),by have:=Eu r;omega,g2⟩
     ·rintro(e|⟨m,e,r,g3,g2⟩)
      ·exact .inl (.inr e)
      ·rcases(Bd h0).1 r with h|h|h
       ·exact absurd h g3
       ·exact .inl (.inl ⟨m,e,h,g2⟩)
       ·exact .inr ⟨m,e,h,g2⟩
def Jz (z j:Nat):Nat:=if anc z j<anc z (j+1)then anc z (j+1)+2^j else anc z (j+1)-2^j
theorem Ss (z j:Nat):2^j≤anc z (j+1)∧((anc z j=anc z (j+1)-2^j∧Jz z j=anc z (j+1)+2^j)∨(anc z j=anc z (j+1)+2^j∧Jz z j=anc z (j+1)-2^j)):=by
 have h:=halves z j;have d:=anc_plo z j;have e1:=anc_plo z (j+1);have c:phi z j=plo z j+(2^(j+1)-2):=rfl;have b:=fB j;have a:2^(j+1)=2*2^j:=(by rw[aN];omega);refine⟨by omega,?_⟩;unfold Jz;rcases h with⟨h1,h2,h3⟩|⟨h1,h2,h3⟩
 ·left;rw[if_pos (by omega)];omega
 ·right;rw[if_neg (by omega)];omega
theorem St (z j y:Nat):inR (j+1) (anc z (j+1)) y↔y=anc z (j+1)∨inR j (anc z j) y∨inR j (Jz z j) y:=by
 obtain⟨h0,h⟩:=Ss z j;rw[Bd h0];rcases h with⟨h1,h2⟩|⟨h1,h2⟩<;>rw[h1,h2]
 rw[or_comm (a:=inR j (anc z (j+1)-2^j) y)]
theorem Xj (z j y:Nat)(h:inR j (Jz z j) y):¬inR j (anc z j) y∧y≠anc z (j+1):=by
 obtain⟨h0,h1⟩:=Ss z j;unfold inR at h⊢;omega
theorem Zr (z y:Nat):∀(n j:Nat),inR j (anc z j) y→inR (j+n) (anc z (j+n)) y:=by
 intro n
 induction n with
 |zero=>intro j h;exact h
 |succ n ih=>
  intro j h;have:=(St z (j+n) y).2 (.inr (.inl (ih j h)));exact this
theorem Zey {z j l y:Nat}(hjl:j<l)(h:inR j (Jz z j) y):¬inR l (Jz z l) y:=by
 intro h2;have h3:=Zr z y (l-(j+1)) (j+1) ((St z j y).2 (.inr (.inr h)));rw[show j+1+(l-(j+1))=l by omega]at h3;exact(Xj z l y h2).1 h3
theorem Zld {z j l:Nat}(h:inR j (Jz z j) (anc z l)):False:=by
 rcases aB j l with a|a
 ·have h1:=(St z j (anc z l)).2 (.inr (.inr h));have h2:=Zj8 (anc_lev z (j+1)) (anc_lev z l) h1;have:l=j+1:=(by omega);subst this;exact(Xj z j _ h).2 rfl
 ·have h1:=Zr z (anc z l) (j-l) l (Ea _ _);rw[show l+(j-l)=j by omega]at h1;exact(Xj z j _ h).1 h1
theorem Oq (a:d≤16) {z j:Nat}(n:z+1<2^(d+1))(m:j<d):IsLev (Jz z j) j∧Jz z j+2^j≤2*2^d-1:=by
 obtain⟨c,e2⟩:=Dp a;obtain⟨h0,h⟩:=Ss z j;have b:=anc_lev z (j+1);have l:=anc_le (x:=z) (d:=d) (j:=j+1) (by omega) (by omega);have e:=Rz l a;rw[lev_eq (by omega) b]at e;obtain⟨k,g,-,f,i,-,-⟩:=Ep (M:=2*2^d-1) b (by omega) c;rcases h with⟨h1,h2⟩|⟨h1,h2⟩
 ·rw[h2];exact⟨g,i⟩
 ·rw[h2];exact⟨k,f⟩
theorem Zmt (hd:d≤16) {z j:Nat}(hz:z+1<2^(d+1))(hj:j≤d):anc z j+2^j≤2*2^d-1:=by
 obtain⟨hM,e2⟩:=Dp hd;have ha:=anc_le (x:=z) (d:=d) (j:=j) (by omega) hj;have hu:=Rz ha hd;rw[lev_eq (by omega) (anc_lev z j)]at hu;omega
structure OwnS (FI:Int→Option NodeD) (d z:Nat) (only:Bool) (k:Nat) (v:List Int×List Int×Bool):Prop where
 ok:v.2.2=true↔(∀j,j≤k→(FI (anc z j:Nat)).isSome=true)∧(only=false→∀j,j<k→(Be FI d j (Jz z j)).2=true)
 mem:v.2.2=true→∀y:Int,y∈v.1↔(∃j,j≤k∧y=(anc z j:Nat))∨(only=false∧∃j,j<k∧y∈(Be FI d j (Jz z j)).1)
theorem Zs {z k:Nat} {v a b:List Int×List Int×Bool} (m:(FI (anc z (k+1):Nat)).isSome=true) (l:v.2.2=(a.2.2&&b.2.2)) (n:∀y:Int,y∈v.1↔y∈a.1∨y=(anc z (k+1):Nat)∨y∈b.1) (i:OwnS FI d z only k a)
  (o:b.2.2=(only||(Be FI d k (Jz z k)).2)) (h:b.2.2=true→∀y,y∈b.1↔only=false∧y∈(Be FI d k (Jz z k)).1):OwnS FI d z only (k+1) v:=by
 constructor
 ·rw[l,cJ,i.ok,o,cK];constructor
  ·rintro⟨⟨h1,h2⟩,h3⟩;refine⟨fun j g=> ?_,fun c j g=> ?_⟩
   ·by_cases e:j=k+1
    ·rw[e];exact m
    ·exact h1 j (by omega)
   ·by_cases e:j=k
    ·rw[e];rcases h3 with h3|h3
     ·rw[c]at h3;cases h3
     ·exact h3
    ·exact h2 c j (by omega)
  ·rintro⟨h1,h2⟩;refine⟨⟨fun j g=>h1 j (by omega),fun c j g=>h2 c j (by omega)⟩,?_⟩;cases c:only with
   |true=>exact .inl rfl
   |false=>exact .inr (h2 c k (by omega))
 ·intro f y;rw[l,cJ]at f;rw[n y,i.mem f.1 y,h f.2 y];constructor
  ·rintro((⟨j,g,e⟩|⟨c,j,g,e⟩)|e|⟨c,e⟩)
   ·exact .inl ⟨j,by omega,e⟩
   ·exact .inr ⟨c,j,by omega,e⟩
   ·exact .inl ⟨k+1,lR,e⟩
   ·exact .inr ⟨c,k,by omega,e⟩
  ·rintro(⟨j,g,e⟩|⟨c,j,g,e⟩)
   ·by_cases ej:j=k+1
    ·subst ej;exact .inr (.inl e)
    ·exact .inl (.inl ⟨j,by omega,e⟩)
   ·by_cases ej:j=k
    ·subst ej;exact .inr (.inr ⟨c,e⟩)
    ·exact .inl (.inr ⟨c,j,by omega,e⟩)
theorem Ve (a:d≤16) {k c:Nat} {V:Nat→Nat→List Int→List Int×List Int×Bool} {D:NodeD} {late:List Int}(f:2*i+1<2^(d+1))(e:IsLev c k)(l:c+2^k≤2*2^d-1):
  Fr V i only c 0 D late=if c=anc (2*i) k then V c 0 []else if only=true then([],[(c:Int)],true)else V c 1 []:=by
 obtain⟨g,e2⟩:=Dp a;have j:=fB k;have b:=Zeu a f (x:=c) (by omega);rw[lev_eq (by omega) e]at b;unfold Fr;rw[b]
 by_cases h:c=anc (2*i) k
 ·rw[if_pos ⟨rfl,decide_eq_true h⟩,if_pos h]
 ·rw[if_neg (by rintro⟨_,h2⟩;exact h (of_decide_eq_true h2)),if_neg h]
  by_cases ho:only=true
  ·rw[if_pos ⟨rfl,ho⟩,if_pos ho]
  ·rw[if_neg (by rintro⟨_,h2⟩;exact ho h2),if_neg ho,if_pos (.inl rfl)]
theorem Zez (f:d≤16)(a:∀n:Nat,F n=FI (n:Int))(j:Cw F) {k c:Nat}(g:IsLev c k)(l:c+2^k≤2*2^d-1):
  let b:List Int×List Int×Bool:=if only=true then([],[(c:Int)],true)else By F i only k c 1 []
  b.2.2=(only||(Be FI d k c).2)∧(b.2.2=true→∀y,y∈b.1↔only=false∧y∈(Be FI d k c).1):=by
 intro b;have W:=Zq (i:=i) (only:=only) f a j k c [] g l;cases ho:only with
 |true=>
  have e:b=([],[(c:Int)],true):=(by show(if only=true then _ else _)=_;rw[if_pos ho]);rw[e];exact⟨rfl,fun _ y=>by simp⟩
 |false=>
  have e:b=By F i only k c 1 []:=(by show(if only=true then _ else _)=_;rw[if_neg (by rw[ho];simp)]);rw[e];refine⟨by rw[W.ok,Bool.false_or],fun h y=> ?_⟩;rw[W.ok]at h;rw[←W.mem h y];exact⟨fun h=>⟨rfl,h⟩,fun h=>h.2⟩
theorem Zj9 (b:d≤16)(a:∀n:Nat,F n=FI (n:Int))(p:Cw F)(o:2*i+1<2^(d+1)):∀k,k≤d→OwnS FI d (2*i) only k (By F i only k (anc (2*i) k) 0 []):=by
 obtain⟨s,e2⟩:=Dp b;intro k
 induction k with
 |zero=>
  intro _;cases hF:F (anc (2*i) 0)with
  |none=>
   rw[Bl hF];refine⟨⟨fun h=>(by cases h),fun h=> ?_⟩,fun h=>by cases h⟩;have:=h.1 0 lR;rw[←a,hF]at this;cases this
  |some D=>
   rw[De hF];refine⟨⟨fun _=>⟨fun j g=> ?_,fun _ j g=>by omega⟩,fun _=>rfl⟩,fun _ y=> ?_⟩
   ·obtain rfl:j=0:=(by omega);rw[←a,hF];rfl
   ·simp only[fS];constructor
    ·exact fun e=> .inl ⟨0,lR,e⟩
    ·rintro(⟨j,g,e⟩|⟨_,j,g,_⟩)
     ·obtain rfl:j=0:=(by omega);exact e
     ·omega
 |succ k ih=>
  intro hk;have t:=anc_lev (2*i) (k+1);have u:=Zmt b (z:=2*i) (j:=k+1) (by omega) hk;obtain⟨q,r,h0,h1,h2,-,-⟩:=Ep t u s;cases hF:F (anc (2*i) (k+1))with
  |none=>
   rw[Bl hF];refine⟨⟨fun h=>(by cases h),fun h=> ?_⟩,fun h=>by cases h⟩;have:=h.1 (k+1) lR;rw[←a,hF]at this;cases this
  |some D=>
   rw[Cr hF,if_neg (by omega)];have m:(FI (anc (2*i) (k+1):Nat)).isSome=true:=(by rw[←a,hF];rfl);have A:=ih (by omega);rw[Ve b o q h1,Ve b o r h2];have v:=fB k;rcases(Ss (2*i) k).2 with⟨c1,c2⟩|⟨c1,c2⟩
   ·rw[if_pos c1.symm,if_neg (by omega),←c1,←c2];have c:=Oq b (z:=2*i) (j:=k) (by omega) (by omega);obtain⟨l,f⟩:=Zez (F:=F) (FI:=FI) (i:=i) (only:=only) b a p c.1 c.2;refine Zs m rfl (fun y=> ?_) A l f;simp only[Pn,eY,fS];rw[or_assoc]
   ·rw[if_neg (by omega),if_pos c1.symm,←c1,←c2];have c:=Oq b (z:=2*i) (j:=k) (by omega) (by omega);obtain⟨l,f⟩:=Zez (F:=F) (FI:=FI) (i:=i) (only:=only) b a p c.1 c.2;refine Zs m (Bool.and_comm _ _) (fun y=> ?_) A l f;simp only[Pn,eY,fS];constructor
    ·rintro((h|h)|h)
     ·exact .inr (.inr h)
     ·exact .inr (.inl h)
     ·exact .inl h
    ·rintro(h|h|h)
     ·exact .inr h
     ·exact .inl (.inr h)
     ·exact .inl (.inl h)
end
def Ac (FI:Int→Option NodeD)(d i:Nat)(only:Bool)(r:Nat):List Int:=upL d (i:Int)++if only=true then []else(aF r).flatMap fun j=>(Be FI d j (Jz (2*i) j)).1
def Cg (FI:Int→Option NodeD)(d i:Nat)(only:Bool)(r:Nat):Bool:=((upL d (i:Int)).all fun y=>(FI y).isSome)&&(only||(aF r).all fun j=>(Be FI d j (Jz (2*i) j)).2)
def Jr (out:List Int)(z:Int):List Int:=(if 0≤Eb z∧Eb z∉out then [Eb z]else [])++(if 0≤Ce z∧Ce z∉out then [Ce z]else [])
def Dq (out:List Int):List Int:=out.flatMap (Jr out)
def Zt (FI:Int→Option NodeD)(d i:Nat)(only:Bool):List Int×List Int×Bool:=(Fd (Ac FI d i only d),Fd (Dq (Ac FI d i only d)),Cg FI d i only d)
theorem Jc {out:List Int} {z y:Int}:y∈Jr out z↔Pp z y∧y∉out:=by
 unfold Jr Pp;rw[eY];constructor
 ·rintro(h|h)
  ·split at h
   ·rename_i hc;rw[fS]at h;subst h;exact⟨⟨hc.1,.inl rfl⟩,hc.2⟩
   ·cases h
  ·split at h
   ·rename_i hc;rw[fS]at h;subst h;exact⟨⟨hc.1,.inr rfl⟩,hc.2⟩
   ·cases h
 ·rintro⟨⟨h0,rfl|rfl⟩,h2⟩
  ·left;rw[if_pos ⟨h0,h2⟩];simp
  ·right;rw[if_pos ⟨h0,h2⟩];simp
theorem Xk {out:List Int} {y:Int}:y∈Dq out↔(∃z∈out,Pp z y)∧y∉out:=by
 unfold Dq;rw[fV];constructor
 ·rintro⟨z,hz,h⟩;obtain⟨h1,h2⟩:=Jc.1 h;exact⟨⟨z,hz,h1⟩,h2⟩
 ·rintro⟨⟨z,hz,h1⟩,h2⟩;exact⟨z,hz,Jc.2 ⟨h1,h2⟩⟩
theorem Qo {z:Nat} {y:Int}(b:z≤131070)(h:Pp (z:Int) y):∃m k:Nat,y=(m:Int)∧IsLev m k∧anc m (k+1)=z:=by
 obtain⟨h0,h⟩:=h;have a:=lev_is b;cases hk:lev z with
 |zero=>
  rw[hk]at a;obtain⟨e1,e2⟩:=Sp b a;rw[e1,e2]at h;omega
 |succ k=>
  rw[hk]at a;obtain⟨e1,e2,d,c,hx⟩:=Go.Proofs.YtfofaiommeckbaaGreat.kids_lev b a;have e:=fB k;rw[e1,e2]at h;rcases h with h|h
  ·exact⟨_,k,h,d,Xh a ((Bd hx).2 (.inr (.inl (Ea _ _))))⟩
  ·exact⟨_,k,h,c,Xh a ((Bd hx).2 (.inr (.inr (Ea _ _))))⟩
theorem Zle {z z':Nat} {y:Int}(hz:z≤131070)(hz':z'≤131070)(h:Pp (z:Int) y)(h':Pp (z':Int) y):z=z':=by
 obtain⟨m,k,rfl,hl,e⟩:=Qo hz h;obtain⟨m',k',e1,hl',e'⟩:=Qo hz' h';obtain rfl:m=m':=(by omega);have:=lev_unique hl hl';rw[←e,←e',this]
theorem Zbz {out:List Int} {z:Nat}(d:z≤131070):(Jr out (z:Int)).Nodup:=by
 unfold Jr;rw[fT];refine⟨by split<;>simp,by split<;>simp,fun a g b f e=> ?_⟩
 split at g
 ·split at f
  ·rename_i c1 c2
   rw[fS]at g f;have c:=lev_is d;cases hk:lev z with
   |zero=>
    rw[hk]at c;obtain⟨e1,e2⟩:=Sp d c;omega
   |succ k=>
    rw[hk]at c;obtain⟨e1,e2,j,i,hx⟩:=Go.Proofs.YtfofaiommeckbaaGreat.kids_lev d c;have h:=fB k;omega
  ·cases f
 ·cases g
theorem Zb0 {out:List Int}(d:out.Nodup)(c:∀z∈out,∃n:Nat,z=(n:Int)∧n≤131070):(Dq out).Nodup:=by
 unfold Dq List.Nodup;rw[fW];refine⟨fun z f=> ?_,?_⟩
 ·obtain⟨n,rfl,h⟩:=c z f;exact Zbz h
 ·refine List.Pairwise.imp_of_mem (fun {a b} ha hb hne x hx y hy e=> ?_) d;obtain⟨n,rfl,h1⟩:=c a ha;obtain⟨m,rfl,h2⟩:=c b hb;subst e;exact hne (by rw[Zle h1 h2 (Jc.1 hx).1 (Jc.1 hy).1])
theorem Qp {L:List Int}(h:L.Pairwise (· < ·)):L.Nodup:=by rw[List.nodup_iff_pairwise_ne];exact h.imp fun h e=>by omega
section
variable {FI:Int→Option NodeD} {F:Nat→Option NodeD} {i d:Nat} {only:Bool}
theorem Ze0 (z:Nat):∀(k j:Nat),(ups z j k).Nodup:=by
 intro k
 induction k with
 |zero=>intro j;simp[ups]
 |succ k ih=>
  intro j;rw[ups,fX];refine⟨fun h=> ?_,ih _⟩;obtain⟨l,h1,h2,e⟩:=(Sq _ _ _).1 h;have:=lev_unique (anc_lev z (j+1)) (by rw[e];exact anc_lev z l);omega
theorem Ze1 (a:d≤16)(c:2*i+1<2^(d+1)):(upL d (i:Int)).Nodup:=by
 obtain⟨g,e2⟩:=Dp a;have b:=Ix (q:=2*i) (by omega) (by omega);have e2:2*(i:Int)=((2*i:Nat):Int):=(by omega);unfold upL;rw[e2,Rw a c,b,dJ,fX];refine⟨fun h=> ?_,?_⟩
 ·rw[eJ]at h;obtain⟨n,f,e⟩:=h;obtain⟨l,h1,h2,e3⟩:=(Sq _ _ _).1 f;have h3:=anc_lev (2*i) l;rw[←e3,show n=2*i by omega]at h3;have:=lev_unique h3 (show IsLev (2*i) 0 from by unfold IsLev;simp);omega
 ·have:=Ze0 (2*i) d 0;unfold List.Nodup at this⊢;rw[List.pairwise_map];exact this.imp fun h e=>h (by omega)
theorem Zu (c:d≤16)(e:∀n:Nat,F n=FI (n:Int))(g:Cw F)(f:2*i+1<2^(d+1)):(By F i only d (2^d-1) 0 []).2.2=Cg FI d i only d:=by
 have O:=Zj9 (only:=only) c e g f d lR;rw[anc_root (by omega)]at O;rw[gA,O.ok];unfold Cg;rw[cJ,cK,fY,fY];constructor
 ·rintro⟨h1,h2⟩;refine⟨fun y h=> ?_,?_⟩
  ·obtain⟨j,a,rfl⟩:=(Lw c f y).1 h;exact h1 j a
  ·cases b:only with
   |true=>exact .inl rfl
   |false=>exact .inr fun j a=>h2 b j (List.mem_range.1 a)
 ·rintro⟨h1,h2⟩;refine⟨fun j a=>h1 _ ((Lw c f _).2 ⟨j,a,rfl⟩),fun b j a=> ?_⟩;rcases h2 with h2|h2
  ·rw[b]at h2;cases h2
  ·exact h2 j (List.mem_range.2 a)
theorem Vf (o:d≤16)(r:∀n:Nat,F n=FI (n:Int))(H:Cw F)(A:2*i+1<2^(d+1))(k:(By F i only d (2^d-1) 0 []).2.2=true):
  Fd (Ac FI d i only d)=(By F i only d (2^d-1) 0 []).1∧Fd (Dq (Ac FI d i only d))=(By F i only d (2^d-1) 0 []).2.1:=by
 obtain⟨P,e2⟩:=Dp o;have p:=k;rw[Zu o r H A,Cg,cJ,cK,fY,fY]at p;have O:=Zj9 (only:=only) o r H A d lR;rw[anc_root (by omega)]at O;have f:IsLev (2^d-1) d:=by
  have:=fB d;unfold IsLev;rw[aN];have:(2^d-1)%(2^d*2)=2^d-1:=Nat.mod_eq_of_lt (by omega);omega
 have R:=fB d;have t:=Cs (F:=F) (i:=i) (only:=only) d (2^d-1) 0 [] f (by omega);have I:=(Vd (F:=F) (i:=i) (only:=only) d (2^d-1) 0 [] f (by omega) k).2;have L:=O.mem k;generalize By F i only d (2^d-1) 0 []=v at t I L k⊢;have B:only=false→∀j,j<d→(Be FI d j (Jz (2*i) j)).1.Nodup∧∀y∈(Be FI d j (Jz (2*i) j)).1,∃m:Nat,y=(m:Int)∧inR j (Jz (2*i) j) m:=by
  intro g j s;obtain⟨J,M⟩:=Oq o (z:=2*i) (j:=j) (by omega) s;have W:=Zq (i:=i) (only:=only) o r H j _ [] J M;have K:(Be FI d j (Jz (2*i) j)).2=true:=by
   rcases p.2 with h|h
   ·rw[g]at h;cases h
   ·exact h j (List.mem_range.2 s)
  exact⟨W.nd K,fun y C=>(Cs (F:=F) (i:=i) (only:=only) j _ 1 [] J (by omega)).op y ((W.mem K y).1 C)⟩
 have c:∀y,y∈Ac FI d i only d↔y∈v.1:=by
  intro y;rw[L y];unfold Ac;rw[eY,Lw o A];cases g:only with
  |true=>simp
  |false=>
   simp only[Bool.false_eq_true,if_false,fV,List.mem_range,true_and]
 have u:(Ac FI d i only d).Nodup:=by
  unfold Ac;rw[fT];refine⟨Ze1 o A,?_,?_⟩
  ·split
   ·simp
   ·rename_i g
    rw[bL]at g;unfold List.Nodup;rw[fW];refine⟨fun j s=>(B g j (List.mem_range.1 s)).1,?_⟩;refine List.Pairwise.imp_of_mem (fun {a b} D q hlt x hx y C e=> ?_) List.pairwise_lt_range;obtain⟨m,e1,h1⟩:=(B g a (List.mem_range.1 D)).2 x hx;obtain⟨N,e3,h3⟩:=(B g b (List.mem_range.1 q)).2 y C;obtain rfl:m=N:=(by omega);exact Zey hlt h1 h3
  ·intro a D b q e
   split at q
   ·cases q
   ·rename_i g
    rw[bL]at g;rw[fV]at q;obtain⟨j,s,q⟩:=q;obtain⟨m,e1,h1⟩:=(B g j (List.mem_range.1 s)).2 b q;obtain⟨l,Q,e3⟩:=(Lw o A a).1 D;have:m=anc (2*i) l:=(by omega);rw[this]at h1;exact Zld h1
 have E:=Qp t.opr;have G:=Qp t.shr;refine⟨Go.Proofs.YtfofaiommeckbaaGreat.sortL_eq ((fZ u E).2 c) t.opr,Go.Proofs.YtfofaiommeckbaaGreat.sortL_eq ((fZ (Zb0 u fun z w=> ?_) G).2 fun y=> ?_) t.shr⟩
 ·obtain⟨m,e,h⟩:=t.op z ((c z).1 w);exact⟨m,e,by unfold inR at h;omega⟩
 ·rw[Xk,I y,c y];constructor
  ·rintro⟨⟨z,w,h1⟩,h2⟩;exact⟨⟨z,(c z).1 w,h1⟩,h2⟩
  ·rintro⟨⟨z,w,h1⟩,h2⟩;exact⟨⟨z,(c z).2 w,h1⟩,h2⟩
end
end
end Go.Proofs.YtfofaiommeckbaaGreat
