/- Plain: what slice.opens opens and shuts, in order; what the document's Opens tells. -/
import Derived.Test.YtfofaiommeckbaaGreatZSliceSoundB
import Derived.Test.YtfofaiommeckbaaGreatZSliceSound28
import Derived.Test.YtfofaiommeckbaaGreatZSliceSound17
open Nat renaming two_pow_pos → fK, pow_succ → aP, pow_le_pow_right → bA, sub_zero → dL, lt_or_ge → aB, div_add_mod → aW, mul_add → fL, mul_le_mul_left → aC
open List renaming append_assoc → cA, pairwise_append → fM, singleton_append → fN, mem_cons → aG, mem_append → fH, mem_singleton → fP, not_mem_nil → fI, nodup_append → fQ, mem_append_left → fR, mem_map → eN, mem_flatMap → fS, range → aH, pairwise_flatMap → fT, nodup_cons → fU, all_eq_true → fV, perm_ext_iff_of_nodup → fW
open Bool renaming and_eq_true → cL, eq_iff_iff → fX, or_eq_true → cM, not_eq_true → bN
set_option linter.unusedVariables false
set_option maxRecDepth 100000
set_option maxHeartbeats 40000000
namespace Go.Proofs.YtfofaiommeckbaaGreat
open Go.RowKit WalkM WireM
def Rn (k x:Nat)(L:List Int):Prop:=∀y∈L,∃m:Nat,y=(m:Int)∧inR k x m
theorem Dc (k x:Nat):inR k x x:=by have:=fK k;unfold inR;omega
theorem Az {k x y:Nat}(h:2^k≤x):inR (k+1) x y↔y=x∨inR k (x-2^k) y∨inR k (x+2^k) y:=by
 have e:2^(k+1)=2*2^k:=(by rw[aP];omega);have hp:=fK k;unfold inR;omega
theorem Fw {k x y:Nat}(h:2^k≤x)(hy:inR k (x-2^k) y):y<x:=by unfold inR at hy;omega
theorem Ep {k x y:Nat}(hy:inR k (x+2^k) y):x<y:=by unfold inR at hy;omega
structure SpanR (k x:Nat) (r:List Int×List Int×Bool):Prop where
 op:Rn k x r.1
 sh:Rn k x r.2.1
 opr:r.1.Pairwise (· < ·)
 shr:r.2.1.Pairwise (· < ·)
theorem Il {V:Nat→Nat→List Int→List Int×List Int×Bool} {i:Nat} {only:Bool} {c k how:Nat} {d:NodeD} {late:List Int}(h:∀how late,SpanR k c (V c how late)):SpanR k c (Fq V i only c how d late):=by
 have b:SpanR k c ([],[(c:Int)],true):=⟨fun y a=>by simp at a,fun y a=>⟨c,by simpa using a,Dc k c⟩,by simp,by simp⟩;unfold Fq
 split
 ·exact h _ _
 ·split
  ·exact b
  ·split
   ·exact h _ _
   ·split
    ·exact h _ _
    ·exact b
theorem Tv {k x:Nat} {A B:List Int}(hx:2^k≤x)(p:Rn k (x-2^k) A)(n:Rn k (x+2^k) B)(l:A.Pairwise (· < ·))(o:B.Pairwise (· < ·)):
  (A++[(x:Int)]++B).Pairwise (· < ·)∧(A++B).Pairwise (· < ·)∧Rn (k+1) x (A++[(x:Int)]++B)∧Rn (k+1) x (A++B):=by
 have g:∀y∈A,y<(x:Int):=fun y c=>(by obtain⟨m,e,h⟩:=p y c;have:=Fw hx h;omega);have i:∀y∈B,(x:Int)<y:=fun y c=>(by obtain⟨m,e,h⟩:=n y c;have:=Ep h;omega);have q:Rn (k+1) x A:=fun y c=>(by obtain⟨m,e,h⟩:=p y c;exact⟨m,e,(Az hx).2 (.inr (.inl h))⟩);have j:Rn (k+1) x B:=fun y c=>(by obtain⟨m,e,h⟩:=n y c;exact⟨m,e,(Az hx).2 (.inr (.inr h))⟩);refine⟨?_,?_,?_,?_⟩
 ·rw[cA,fM];refine⟨l,?_,?_⟩
  ·rw[fN,List.pairwise_cons];exact⟨i,o⟩
  ·intro a f b d;simp only[fN,aG]at d;rcases d with rfl|d
   ·exact g a f
   ·have:=g a f;have:=i b d;omega
 ·rw[fM];exact⟨l,o,fun a f b d=>by have:=g a f;have:=i b d;omega⟩
 ·intro y c;simp only[fH,fP]at c;rcases c with(h|h)|h
  ·exact q y h
  ·exact⟨x,h,Dc _ _⟩
  ·exact j y h
 ·intro y c;rw[fH]at c;rcases c with h|h
  ·exact q y h
  ·exact j y h
theorem El {x k M:Nat}(d:IsLev x (k+1))(hx:x+2^(k+1)≤M)(f:M≤131071):IsLev (x-2^k) k∧IsLev (x+2^k) k∧2^k≤x∧x-2^k+2^k≤M∧x+2^k+2^k≤M∧Hr (x:Int)=((x-2^k:Nat):Int)∧Em (x:Int)=((x+2^k:Nat):Int):=by
 have g:=fK k;have e:2^(k+1)=2*2^k:=(by rw[aP];omega);obtain⟨b,h2,h3,c,a⟩:=Go.Proofs.YtfofaiommeckbaaGreat.kids_lev (by omega) d;exact⟨h3,c,a,by omega,by omega,b,h2⟩
theorem Ch {F:Nat→Option NodeD} {i:Nat} {only:Bool}:∀(k x how:Nat) (late:List Int),IsLev x k→x+2^k≤131071→SpanR k x (Bt F i only k x how late):=by
 intro k
 induction k with
 |zero=>
  intro x how late f hx;cases hF:F x with
  |none=>rw[Cg hF];exact⟨fun y c=>by simp at c,fun y c=>by simp at c,by simp,by simp⟩
  |some d=>rw[Dz hF];exact⟨fun y c=>⟨x,by simpa using c,Dc _ _⟩,fun y c=>by simp at c,by simp,by simp⟩
 |succ k ih=>
  intro x how late f hx;cases hF:F x with
  |none=>rw[Cg hF];exact⟨fun y c=>by simp at c,fun y c=>by simp at c,by simp,by simp⟩
  |some d=>
   rw[Cz hF];obtain⟨l,h,e,j,h2,-,-⟩:=El f hx lR;have A:=Il (i:=i) (only:=only) (how:=how) (d:=d) (late:=if how=1 then d.par.late else late) fun a b=>ih (x-2^k) a b l j;have B:=Il (i:=i) (only:=only) (how:=how) (d:=d) (late:=if how=1 then d.par.late else late) fun a b=>ih (x+2^k) a b h h2;obtain⟨j1,-,j3,-⟩:=Tv e A.op B.op A.opr B.opr;obtain⟨-,j2,-,g⟩:=Tv e A.sh B.sh A.shr B.shr;exact⟨j3,g,j1,j2⟩
def On (z y:Int):Prop:=0≤y∧(y=Hr z∨y=Em z)
def Zkj (r:List Int×List Int×Bool):Prop:=∀y,y∈r.2.1↔(∃z∈r.1,On z y)∧y∉r.1
theorem Ro {x:Nat}(hx:x≤131070)(hl:IsLev x 0):Hr (x:Int)= -1∧Em (x:Int)= -1:=by
 have h:=Ne (x:=(x:Int)) (by
  have e:Lp (x:Int)=0:=by
   rw[Lp,if_pos (by unfold Bf;rw[decide_eq_true_iff];omega),Int.toNat_natCast,lev_eq hx hl];rfl
  omega)
 exact h
def Zni (c:Nat)(r:List Int×List Int×Bool):Prop:=r.2.2=true→((c:Int)∈r.1∧Zkj r)∨(r.1=[]∧r.2.1=[(c:Int)])
theorem Tw {V:Nat→Nat→List Int→List Int×List Int×Bool} {i:Nat} {only:Bool} {c how:Nat} {d:NodeD} {late:List Int}(h:∀how late,(V c how late).2.2=true→(c:Int)∈(V c how late).1∧Zkj (V c how late)):Zni c (Fq V i only c how d late):=by
 unfold Fq
 split
 ·exact fun a=> .inl (h _ _ a)
 ·split
  ·exact fun _=> .inr ⟨rfl,rfl⟩
  ·split
   ·exact fun a=> .inl (h _ _ a)
   ·split
    ·exact fun a=> .inl (h _ _ a)
    ·exact fun _=> .inr ⟨rfl,rfl⟩
theorem Tx {F:Nat→Option NodeD} {i:Nat} {only:Bool}:∀(k x how:Nat) (late:List Int),IsLev x k→x+2^k≤131071→(Bt F i only k x how late).2.2=true→(x:Int)∈(Bt F i only k x how late).1∧Zkj (Bt F i only k x how late):=by
 intro k
 induction k with
 |zero=>
  intro x how late v hx;have G:=fK 0;cases hF:F x with
  |none=>rw[Cg hF];intro h;cases h
  |some d=>
   rw[Dz hF];intro _;refine⟨by simp,fun y=> ?_⟩;obtain⟨j,e2⟩:=Ro (by omega) v;simp only[fI,fP,false_iff,not_and];rintro⟨z,rfl,r,o|o⟩
   ·rw[j]at o;omega
   ·rw[e2]at o;omega
 |succ k ih=>
  intro x how late v hx;cases hF:F x with
  |none=>rw[Cg hF];intro h;cases h
  |some d=>
   rw[Cz hF];obtain⟨E,w,r,o,h2,H,I⟩:=El v hx lR;have A:=Il (i:=i) (only:=only) (how:=how) (d:=d) (late:=if how=1 then d.par.late else late) fun a b=>Ch (F:=F) (i:=i) (only:=only) k (x-2^k) a b E o;have B:=Il (i:=i) (only:=only) (how:=how) (d:=d) (late:=if how=1 then d.par.late else late) fun a b=>Ch (F:=F) (i:=i) (only:=only) k (x+2^k) a b w h2;have p:=Tw (i:=i) (only:=only) (how:=how) (d:=d) (late:=if how=1 then d.par.late else late) fun a b=>ih (x-2^k) a b E o;have q:=Tw (i:=i) (only:=only) (how:=how) (d:=d) (late:=if how=1 then d.par.late else late) fun a b=>ih (x+2^k) a b w h2;generalize Fq (Bt F i only k) i only (x-2^k) how d (if how=1 then d.par.late else late)=a at A p⊢;generalize Fq (Bt F i only k) i only (x+2^k) how d (if how=1 then d.par.late else late)=b at B q⊢;intro t;have c:(a.2.2&&b.2.2)=true:=t;rw[cL]at c;refine⟨by simp[Wb],fun y=> ?_⟩;show y∈a.2.1++b.2.1↔(∃z∈a.1++[(x:Int)]++b.1,On z y)∧y∉a.1++[(x:Int)]++b.1;simp only[fH,fP];have D:∀y∈a.1,y<(x:Int):=fun y f=>(by obtain⟨m,e,h⟩:=A.op y f;have:=Fw r h;omega);have C:∀y∈b.1,(x:Int)<y:=fun y f=>(by obtain⟨m,e,h⟩:=B.op y f;have:=Ep h;omega);have J:∀y∈a.2.1,y<(x:Int):=fun y f=>(by obtain⟨m,e,h⟩:=A.sh y f;have:=Fw r h;omega);have sb:∀y∈b.2.1,(x:Int)<y:=fun y f=>(by obtain⟨m,e,h⟩:=B.sh y f;have:=Ep h;omega);have G:=fK k;have u:∀y,On (x:Int) y↔y=((x-2^k:Nat):Int)∨y=((x+2^k:Nat):Int):=by
    intro y;unfold On;rw[H,I];constructor
    ·rintro⟨_,h⟩;exact h
    ·rintro(h|h)<;>omega
   constructor
   ·rintro(f|f)
    ·have s:=J y f;rcases p c.1 with⟨_,n⟩|⟨j,e2⟩
     ·obtain⟨⟨z,g,hk⟩,l⟩:=(n y).1 f;refine⟨⟨z,.inl (.inl g),hk⟩,?_⟩;rintro((h|h)|h)
      ·exact l h
      ·omega
      ·have:=C y h;omega
     ·rw[e2,fP]at f;refine⟨⟨x,.inl (.inr rfl),(u y).2 (.inl f)⟩,?_⟩;rintro((h|h)|h)
      ·rw[j]at h;cases h
      ·omega
      ·have:=C y h;omega
    ·have s:=sb y f;rcases q c.2 with⟨_,n⟩|⟨j,e2⟩
     ·obtain⟨⟨z,g,hk⟩,l⟩:=(n y).1 f;refine⟨⟨z,.inr g,hk⟩,?_⟩;rintro((h|h)|h)
      ·have:=D y h;omega
      ·omega
      ·exact l h
     ·rw[e2,fP]at f;refine⟨⟨x,.inl (.inr rfl),(u y).2 (.inr f)⟩,?_⟩;rintro((h|h)|h)
      ·have:=D y h;omega
      ·omega
      ·rw[j]at h;cases h
   ·rintro⟨⟨z,g,hk⟩,l⟩;rcases g with(g|g)|g
    ·rcases p c.1 with⟨_,n⟩|⟨j,e2⟩
     ·exact .inl ((n y).2 ⟨⟨z,g,hk⟩,fun h=>l (.inl (.inl h))⟩)
     ·rw[j]at g;cases g
    ·rw[g]at hk;rcases(u y).1 hk with e|e
     ·rcases p c.1 with⟨h3,n⟩|⟨j,e2⟩
      ·rw[e]at l;exact absurd (.inl (.inl h3)) l
      ·rw[e2,e];exact .inl (by simp)
     ·rcases q c.2 with⟨h3,n⟩|⟨j,e2⟩
      ·rw[e]at l;exact absurd (.inr h3) l
      ·rw[e2,e];exact .inr (by simp)
    ·rcases q c.2 with⟨_,n⟩|⟨j,e2⟩
     ·exact .inr ((n y).2 ⟨⟨z,g,hk⟩,fun h=>l (.inr h)⟩)
     ·rw[j]at g;cases g
section
def upL (d:Nat)(u:Int):List Int:=(2*u)::(Zj2 (2*u) ((2^d:Nat):Int)).map fun n:Nat=>(n:Int)
def Zmy (FI:Int→Option NodeD)(x:Int)(s:List Int×Bool)(y:Int):List Int×Bool:=
 if y≠x∧Cc y x=true∧y∉s.1 then(s.1++[y],s.2&&(FI y).isSome)else s
def Zkk (FI:Int→Option NodeD)(x:Int)(s:List Int×Bool)(ys:List Int):List Int×Bool:=ys.foldl (Zmy FI x) s
def Wd (FI:Int→Option NodeD)(d:Nat)(x:Int)(late:List Int):List Int×Bool:=Zkk FI x ([x],true) (late.flatMap (upL d))
def Bx (FI:Int→Option NodeD)(d:Nat):Nat→Nat→List Int×Bool
 |0,x=>match FI (x:Int)with
  |none=>([],false)
  |some y=>Wd FI d x y.par.late
 |k+1,x=>match FI (x:Int)with
  |none=>([],false)
  |some y=>if y.kind=0 then([(x:Int)]++(Bx FI d k (x-2^k)).1++(Bx FI d k (x+2^k)).1,(Bx FI d k (x-2^k)).2&&(Bx FI d k (x+2^k)).2)
   else Wd FI d x y.par.late
theorem Nk {FI:Int→Option NodeD} {d k x:Nat}(h:FI (x:Int)=none):Bx FI d k x=([],false):=by
 cases k<;>simp only[Bx,h]
theorem Nl {FI:Int→Option NodeD} {d x:Nat} {y:NodeD}(h:FI (x:Int)=some y):Bx FI d 0 x=Wd FI d x y.par.late:=by simp only[Bx,h]
theorem We {FI:Int→Option NodeD} {d k x:Nat} {y:NodeD}(h:FI (x:Int)=some y)(hk:y.kind≠0):Bx FI d k x=Wd FI d x y.par.late:=by
 cases k with
 |zero=>exact Nl h
 |succ k=>simp only[Bx,h];rw[if_neg hk]
theorem Ty {FI:Int→Option NodeD} {d k x:Nat} {y:NodeD}(h:FI (x:Int)=some y)(hk:y.kind=0):
  Bx FI d (k+1) x=([(x:Int)]++(Bx FI d k (x-2^k)).1++(Bx FI d k (x+2^k)).1,(Bx FI d k (x-2^k)).2&&(Bx FI d k (x+2^k)).2):=by
 simp only[Bx,h];rw[if_pos hk]
structure AddWP (FI:Int→Option NodeD) (x:Int) (ys:List Int) (s:List Int×Bool):Prop where
 nd:s.1.Nodup
 mem:∀y,y∈s.1↔y=x∨(y∈ys∧y≠x∧Cc y x=true)
 ok:s.2=true↔∀y∈ys,y≠x→Cc y x=true→(FI y).isSome=true
theorem Zd1 {FI:Int→Option NodeD} {x y:Int} {g:List Int} {s:List Int×Bool}(h:AddWP FI x g s):AddWP FI x (g++[y]) (Zmy FI x s y):=by
 unfold Zmy
 split
 ·rename_i hc
  obtain⟨c1,c2,c3⟩:=hc;refine⟨?_,fun z=> ?_,?_⟩
  ·rw[fQ];exact⟨h.nd,by simp,fun a j b i e=>by rw[fP]at i;subst e i;exact c3 j⟩
  ·simp only[fH,fP,h.mem z];constructor
   ·rintro((e|⟨a,b,c⟩)|e)
    ·exact .inl e
    ·exact .inr ⟨.inl a,b,c⟩
    ·subst e;exact .inr ⟨.inr rfl,c1,c2⟩
   ·rintro(e|⟨a|a,b,c⟩)
    ·exact .inl (.inl e)
    ·exact .inl (.inr ⟨a,b,c⟩)
    ·exact .inr a
  ·show(s.2&&(FI y).isSome)=true↔_;rw[cL,h.ok];constructor
   ·rintro⟨a,b⟩ z d;rw[fH,fP]at d;rcases d with d|rfl
    ·exact a z d
    ·exact fun _ _=>b
   ·intro a;exact⟨fun z d=>a z (fR _ d),a y (by simp) c1 c2⟩
 ·rename_i hc
  have f:y≠x→Cc y x=true→y∈s.1:=fun a b=>Decidable.byContradiction fun c=>hc ⟨a,b,c⟩;refine⟨h.nd,fun z=> ?_,?_⟩
  ·rw[h.mem z];simp only[fH,fP];constructor
   ·rintro(e|⟨a,b,c⟩)
    ·exact .inl e
    ·exact .inr ⟨.inl a,b,c⟩
   ·rintro(e|⟨a|a,b,c⟩)
    ·exact .inl e
    ·exact .inr ⟨a,b,c⟩
    ·subst a;exact(h.mem z).1 (f b c)
  ·rw[h.ok];constructor
   ·intro a z d b c;rw[fH,fP]at d;rcases d with d|rfl
    ·exact a z d b c
    ·rcases(h.mem z).1 (f b c)with e|⟨e,_,_⟩
     ·exact absurd e b
     ·exact a z e b c
   ·exact fun a z d=>a z (fR _ d)
theorem Zhz {FI:Int→Option NodeD} {x:Int}:∀(zs ys:List Int) (s:List Int×Bool),AddWP FI x ys s→AddWP FI x (ys++zs) (Zkk FI x s zs):=by
 intro zs
 induction zs with
 |nil=>intro ys s h;simpa [Zkk]using h
 |cons z zs ih=>
  intro ys s h;have:=ih (ys++[z]) _ (Zd1 (y:=z) h);rw[cA,fN]at this;exact this
theorem Zkl (FI:Int→Option NodeD)(d:Nat)(x:Int)(late:List Int):AddWP FI x (late.flatMap (upL d)) (Wd FI d x late):=by
 have h0:AddWP FI x [] ([x],true):=⟨by simp,fun y=>by simp,by simp⟩;have:=Zhz (late.flatMap (upL d)) [] _ h0
 rwa [List.nil_append]at this
theorem Rp {z:Nat}:∀(k j:Nat) (y:Nat),y∈ups z j k↔∃l,j<l∧l≤j+k∧y=anc z l:=by
 intro k
 induction k with
 |zero=>
  intro j y;simp only[ups,fI,false_iff,not_exists,not_and];intro l a h2;omega
 |succ k ih=>
  intro j y;rw[ups,aG,ih];constructor
  ·rintro(e|⟨l,a,h2,e⟩)
   ·exact⟨j+1,by omega,by omega,e⟩
   ·exact⟨l,by omega,by omega,e⟩
  ·rintro⟨l,a,h2,e⟩
   by_cases hl:l=j+1
   ·subst hl;exact .inl e
   ·exact .inr ⟨l,by omega,by omega,e⟩
theorem Kw {d m:Nat}(h:d≤16)(c:2*m+1<2^(d+1))(y:Int):y∈upL d (m:Int)↔∃j,j≤d∧y=((anc (2*m) j:Nat):Int):=by
 have f:2^(d+1)≤2^17:=bA (by omega) (by omega);have a:(2:Nat)^17=131072:=rfl;have i:=Mb (q:=2*m) (by omega) (by omega);have b:anc (2*m) 0=2*m:=anc_self (by unfold IsLev;simp);have e2:2*(m:Int)=((2*m:Nat):Int):=(by omega);unfold upL;rw[e2,Yg h c,i,dL,aG,eN];constructor
 ·rintro(e|⟨n,g,e⟩)
  ·exact⟨0,by omega,by rw[b];exact e⟩
  ·obtain⟨l,o,h2,e3⟩:=(Rp _ _ _).1 g;exact⟨l,by omega,by rw[←e,e3]⟩
 ·rintro⟨j,k,e⟩
  by_cases h0:j=0
  ·subst h0;rw[b]at e;exact .inl e
  ·exact .inr ⟨anc (2*m) j,(Rp _ _ _).2 ⟨j,by omega,by omega,rfl⟩,e.symm⟩
def Jf (d:Nat)(late:List Int):Prop:=∀u∈late,∃m:Nat,u=(m:Int)∧2*m+1<2^(d+1)
theorem Zd2 {d m x:Nat}(hd:d≤16)(hm:2*m+1<2^(d+1))(hx:x+1<2^(d+1)):Cc (2*(m:Int)) (x:Int)=decide (x=anc (2*m) (lev x)):=by
 rw[Zm8];exact Jz hd hm hx (by omega)
theorem Me {d x:Nat} {late:List Int}(c:d≤16)(e:Jf d late)(hx:x+1<2^(d+1)):Jh late (x:Int)=true↔∃m:Nat,(m:Int)∈late∧2*m+1<2^(d+1)∧x=anc (2*m) (lev x):=by
 unfold Jh;rw[List.any_eq_true];constructor
 ·rintro⟨u,b,h⟩;obtain⟨m,rfl,a⟩:=e u b;rw[Zd2 c a hx,decide_eq_true_iff]at h;exact⟨m,b,a,h⟩
 ·rintro⟨m,b,a,h⟩;refine⟨m,b,?_⟩;rw[Zd2 c a hx,decide_eq_true_iff];exact h
theorem Wf {x k y:Nat}(d:IsLev x k)(a:inR k x y):anc y k=x:=by
 have b:=anc_self d;have e:2^(k+1)=2*2^k:=(by rw[aP];omega);have f:=fK k;have c:y/2^(k+1)=x/2^(k+1):=by
  unfold anc at b;refine Nat.div_eq_of_lt_le ?_ ?_
  ·unfold inR at a;omega
  ·rw[Nat.add_mul,Nat.one_mul];unfold inR at a;omega
 unfold anc;rw[c];exact b
theorem Zjj {x k y l:Nat}(b:IsLev x k)(d:IsLev y l)(f:inR k x y):l≤k:=by
 rcases aB k l with h|h
 ·exfalso;have i:2^(k+1)=2*2^k:=(by rw[aP];omega);have j:=fK k;have g:=fK l;have e2:2^(l+1)=2*2^l:=(by rw[aP];omega);have d1:2^(k+1)∣y+1:=by
   unfold IsLev at d;have a:=aW y (2^(l+1));rw[d]at a;have e3:y+1=2^l*(2*(y/2^(l+1))+1):=by
    rw[fL,←Nat.mul_assoc,Nat.mul_comm (2^l) 2,←e2];omega
   rw[e3];exact Nat.dvd_trans (Nat.pow_dvd_pow 2 (by omega)) (Nat.dvd_mul_right _ _)
  obtain⟨c,e⟩:=d1;unfold IsLev at b;have a:=aW x (2^(k+1));rw[b]at a;unfold inR at f;rcases Nat.lt_trichotomy c (x/2^(k+1)+1)with h3|h3|h3
  ·have:=aC (2^(k+1)) (show c≤x/2^(k+1) by omega);omega
  ·rw[h3,fL]at e;omega
  ·have:=aC (2^(k+1)) (show x/2^(k+1)+1+1≤c by omega);rw[fL,fL]at this;omega
 ·exact h
theorem Zkm {d c k y:Nat} {late:List Int}(n:d≤16)(o:Jf d late)(q:c+1<2^(d+1))(f:y+1<2^(d+1))(a:IsLev c k)(j:inR k c y)(h:Jh late (y:Int)=true):Jh late (c:Int)=true:=by
 have r:2^(d+1)≤2^17:=bA (by omega) (by omega);have l:(2:Nat)^17=131072:=rfl;obtain⟨m,p,g,e⟩:=(Me n o f).1 h;refine(Me n o q).2 ⟨m,p,g,?_⟩;have i:=lev_is (x:=y) (by omega);have b:=Zjj a i j;rw[lev_eq (by omega) a,←anc_anc b,←e];exact(Wf a j).symm
section
variable {F:Nat→Option NodeD} {i d:Nat} {only:Bool}
structure BetwP (F:Nat→Option NodeD) (k c:Nat) (late:List Int) (r:List Int×List Int×Bool):Prop where
 ok:r.2.2=true↔∀y:Nat,inR k c y→Jh late (y:Int)=true→(F y).isSome=true
 mem:r.2.2=true→∀y:Int,y∈r.1↔∃m:Nat,y=(m:Int)∧inR k c m∧Jh late (m:Int)=true
theorem Wg {k c y M:Nat}(hc:c+2^k≤M)(hy:inR k c y):y+1≤M:=by unfold inR at hy;omega
theorem Mf {k c:Nat} {D:NodeD} {late:List Int} (l:d≤16) (o:Jf d late) (e:IsLev c k) (n:c+2^k≤2*2^d-1)
  (j:Jh late (c:Int)=true→BetwP F k c late (Bt F i only k c 2 late)):BetwP F k c late (Fq (Bt F i only k) i only c 2 D late):=by
 have e2:2^(d+1)=2*2^d:=(by rw[aP];omega);have p:=fK k;have g:Fq (Bt F i only k) i only c 2 D late=if Jh late (c:Int)=true then Bt F i only k c 2 late else([],[(c:Int)],true):=by
  unfold Fq;rw[if_neg (by omega),if_neg (by omega),if_neg (by omega)]
 rw[g]
 by_cases h:Jh late (c:Int)=true
 ·rw[if_pos h];exact j h
 ·rw[if_neg h];have b:∀y:Nat,inR k c y→¬Jh late (y:Int)=true:=fun y a f=>h (Zkm l o (by omega) (by have:=Wg n a;omega) e a f);exact⟨⟨fun _ y a f=>absurd f (b y a),fun _=>rfl⟩,fun _ y=>⟨fun a=>(by cases a),fun⟨m,_,h1,h2⟩=>absurd h2 (b m h1)⟩⟩
theorem Zd3 {k c:Nat} {D:NodeD} {late:List Int} {a b:List Int×List Int×Bool}(hx:2^k≤c)(o:F c=some D)(p:Jh late (c:Int)=true)(n:BetwP F k (c-2^k) late a)(l:BetwP F k (c+2^k) late b):BetwP F (k+1) c late (Wb a c b):=by
 constructor
 ·show(a.2.2&&b.2.2)=true↔_;rw[cL,n.ok,l.ok];constructor
  ·rintro⟨f,h2⟩ y i g;rcases(Az hx).1 i with rfl|h|h
   ·rw[o];rfl
   ·exact f y h g
   ·exact h2 y h g
  ·intro h;exact⟨fun y i=>h y ((Az hx).2 (.inr (.inl i))),fun y i=>h y ((Az hx).2 (.inr (.inr i)))⟩
 ·intro j y;have d:(a.2.2&&b.2.2)=true:=j;rw[cL]at d;show y∈a.1++[(c:Int)]++b.1↔_;simp only[fH,fP,n.mem d.1 y,l.mem d.2 y];constructor
  ·rintro((⟨m,e,f,h2⟩|e)|⟨m,e,f,h2⟩)
   ·exact⟨m,e,(Az hx).2 (.inr (.inl f)),h2⟩
   ·exact⟨c,e,Dc _ _,p⟩
   ·exact⟨m,e,(Az hx).2 (.inr (.inr f)),h2⟩
  ·rintro⟨m,e,f,h2⟩;rcases(Az hx).1 f with rfl|h|h
   ·exact .inl (.inr e)
   ·exact .inl (.inl ⟨m,e,h,h2⟩)
   ·exact .inr ⟨m,e,h,h2⟩
theorem Zna (g:d≤16) {late:List Int}(q:Jf d late):∀(k c:Nat),IsLev c k→c+2^k≤2*2^d-1→Jh late (c:Int)=true→BetwP F k c late (Bt F i only k c 2 late):=by
 have r:2*2^d-1≤131071:=by
  have t:2^d≤2^16:=bA (by omega) g;have n:(2:Nat)^16=65536:=rfl;omega
 intro k
 induction k with
 |zero=>
  intro c f l b;have a:∀y,inR 0 c y↔y=c:=fun y=>(by have e:2^0=1:=rfl;unfold inR;omega);cases hF:F c with
  |none=>
   rw[Cg hF];exact⟨⟨fun h=>(by cases h),fun h=>by have:=h c ((a c).2 rfl) b;rw[hF]at this;cases this⟩,fun h=>by cases h⟩
  |some D=>
   rw[Dz hF];refine⟨⟨fun _ y s _=>by rw[(a y).1 s,hF];rfl,fun _=>rfl⟩,fun _ y=> ?_⟩;simp only[fP];exact⟨fun e=>⟨c,e,(a c).2 rfl,b⟩,fun⟨m,e,h,_⟩=>by rw[e,(a m).1 h]⟩
 |succ k ih=>
  intro c f l b;cases hF:F c with
  |none=>
   rw[Cg hF];exact⟨⟨fun h=>(by cases h),fun h=>by have:=h c (Dc _ _) b;rw[hF]at this;cases this⟩,fun h=>by cases h⟩
  |some D=>
   obtain⟨p,j,a,o,h2,-,-⟩:=El f l r;rw[Cz hF,if_neg (by omega)];exact Zd3 a hF b (Mf g q p o (ih _ p o)) (Mf g q j h2 (ih _ j h2))
def Cu (F:Nat→Option NodeD):Prop:=∀x D,F x=some D→∀u∈D.par.late,∃m:Nat,u=(m:Int)∧m<65536∧Cc (2*(m:Int)) (x:Int)=true
theorem Kf (i:d≤16)(g:Cu F) {x k:Nat} {D:NodeD}(c:F x=some D)(l:IsLev x k)(hx:x+2^k≤2*2^d-1):Jf d D.par.late∧∀m:Nat,(m:Int)∈D.par.late→inR k x (2*m):=by
 have e2:2^(d+1)=2*2^d:=(by rw[aP];omega);have n:2*2^d-1≤131071:=by
  have h:2^d≤2^16:=bA (by omega) i;have f:(2:Nat)^16=65536:=rfl;omega
 have o:=fK k;have a:∀m:Nat,(m:Int)∈D.par.late→inR k x (2*m):=by
  intro m b;obtain⟨j,e,p,h2⟩:=g x D c _ b;have:j=m:=(by omega);subst this;rw[Zm8]at h2;exact(Ng (by omega) (by omega) l).1 h2
 refine⟨fun u b=> ?_,a⟩;obtain⟨m,rfl,-,-⟩:=g x D c u b;have:=Wg hx (a m b);exact⟨m,rfl,by omega⟩
theorem Zlx (b:d≤16) {late:List Int}(l:Jf d late) {k x:Nat}(a:IsLev x k)(hx:x+2^k≤2*2^d-1)(y:Int):
  (y∈late.flatMap (upL d)∧Cc y (x:Int)=true)↔∃m:Nat,y=(m:Int)∧inR k x m∧Jh late (m:Int)=true:=by
 have e2:2^(d+1)=2*2^d:=(by rw[aP];omega);have w:2*2^d-1≤131071:=by
  have v:2^d≤2^16:=bA (by omega) b;have o:(2:Nat)^16=65536:=rfl;omega
 have z:=fK k;rw[fS];constructor
 ·rintro⟨⟨u,q,t⟩,c⟩;obtain⟨m,rfl,f⟩:=l u q;obtain⟨j,s,rfl⟩:=(Kw b f y).1 t;have i:anc (2*m) j+1<2^(d+1):=anc_le (by omega) s;refine⟨_,rfl,(Ng (by omega) (by omega) a).1 c,(Me b l i).2 ⟨m,q,f,?_⟩⟩;rw[lev_eq (by omega) (anc_lev _ _)]
 ·rintro⟨n,rfl,r,h2⟩;have p:n+1<2^(d+1):=(by have:=Wg hx r;omega);obtain⟨m,f,h,e⟩:=(Me b l p).1 h2;have g:=(lev_root p (lev_is (x:=n) (by omega))).1;exact⟨⟨m,f,(Kw b h _).2 ⟨lev n,g,by rw[←e]⟩⟩,(Ng (by omega) (by omega) a).2 r⟩
end
end
section
structure WholeP (v:List Int×List Int×Bool) (w:List Int×Bool):Prop where
 ok:v.2.2=w.2
 nd:w.2=true→w.1.Nodup
 mem:w.2=true→∀y,y∈w.1↔y∈v.1
theorem Zd4 {V:Nat→Nat→List Int→List Int×List Int×Bool} {i c:Nat} {only:Bool} {D:NodeD} {late:List Int}(hk:D.kind≠0):Fq V i only c 1 D late=Fq V i only c 2 D late:=by
 have a:Fq V i only c 1 D late=if Jh late (c:Int)=true then V c 2 late else([],[(c:Int)],true):=by
  unfold Fq;rw[if_neg (by omega),if_neg (by omega),if_neg (by omega)]
 have e2:Fq V i only c 2 D late=if Jh late (c:Int)=true then V c 2 late else([],[(c:Int)],true):=by
  unfold Fq;rw[if_neg (by omega),if_neg (by omega),if_neg (by omega)]
 rw[a,e2]
theorem Zd5 {V:Nat→Nat→List Int→List Int×List Int×Bool} {i c:Nat} {only:Bool} {D:NodeD} {late:List Int}(hk:D.kind=0):Fq V i only c 1 D late=V c 1 []:=by
 unfold Fq;rw[if_neg (by omega),if_neg (by omega),if_pos (.inr ⟨rfl,hk⟩)]
section
variable {FI:Int→Option NodeD} {F:Nat→Option NodeD} {i d:Nat} {only:Bool}
theorem Hk (hd:d≤16):2*2^d-1≤131071∧2^(d+1)=2*2^d:=by
 have h17:2^d≤2^16:=bA (by omega) hd;have h17':(2:Nat)^16=65536:=rfl;exact⟨by omega,by rw[aP];omega⟩
theorem Pn (q:d≤16) (c:∀n:Nat,F n=FI (n:Int)) {k x:Nat} {D:NodeD} {v:List Int×List Int×Bool} (s:IsLev x k) (hx:x+2^k≤2*2^d-1) (j:Jf d D.par.late) (t:F x=some D)
  (o:v.2.2=true↔∀y:Nat,inR k x y→y≠x→Jh D.par.late (y:Int)=true→(F y).isSome=true)
  (g:v.2.2=true→∀y:Int,y∈v.1↔y=(x:Int)∨∃m:Nat,y=(m:Int)∧inR k x m∧m≠x∧Jh D.par.late (m:Int)=true):WholeP v (Wd FI d x D.par.late):=by
 have P:=Zkl FI d (x:Int) D.par.late;have U:=Zlx q j s hx;have e:v.2.2=(Wd FI d x D.par.late).2:=by
  rw[fX,o,P.ok];constructor
  ·intro h y p b i;obtain⟨m,rfl,a,h2⟩:=(U y).1 ⟨p,i⟩;rw[←c];exact h m a (fun e=>b (by rw[e])) h2
  ·intro h y a b h2;obtain⟨h3,f⟩:=(U (y:Int)).2 ⟨y,rfl,a,h2⟩;rw[c];exact h _ h3 (fun e=>b (by omega)) f
 refine⟨e,fun _=>P.nd,fun h y=> ?_⟩;rw[P.mem y,g (by rw[e];exact h) y];constructor
 ·rintro(a|⟨a,h2,h3⟩)
  ·exact .inl a
  ·obtain⟨m,rfl,f,l⟩:=(U y).1 ⟨a,h3⟩;exact .inr ⟨m,rfl,f,fun e=>h2 (by rw[e]),l⟩
 ·rintro(a|⟨m,rfl,f,r,l⟩)
  ·exact .inl a
  ·obtain⟨h3,h2⟩:=(U (m:Int)).2 ⟨m,rfl,f,l⟩;exact .inr ⟨h3,fun e=>r (by omega),h2⟩
theorem Yx (u:d≤16)(f:∀n:Nat,F n=FI (n:Int))(M:Cu F):∀(k x:Nat) (late:List Int),IsLev x k→x+2^k≤2*2^d-1→WholeP (Bt F i only k x 1 late) (Bx FI d k x):=by
 obtain⟨N,e2⟩:=Hk u;intro k
 induction k with
 |zero=>
  intro x late w hx;cases hF:F x with
  |none=>rw[Cg hF,Nk (by rw[←f];exact hF)];exact⟨rfl,fun h=>(by cases h),fun h=>(by cases h)⟩
  |some D=>
   have l:∀y,inR 0 x y↔y=x:=fun y=>(by have e:2^0=1:=rfl;unfold inR;omega);rw[Dz hF,Nl (y:=D) (by rw[←f];exact hF)];refine Pn u f w hx (Kf u M hF w hx).1 hF ⟨fun _ y j v _=>absurd ((l y).1 j) v,fun _=>rfl⟩ fun _ y=> ?_;simp only[fP];refine⟨fun e=> .inl e,fun h=> ?_⟩;rcases h with e|⟨m,e,C,h2,_⟩
   ·exact e
   ·exact absurd ((l m).1 C) h2
 |succ k ih=>
  intro x late w hx;obtain⟨G,E,l,C,h2,-,-⟩:=El w hx N;cases hF:F x with
  |none=>rw[Cg hF,Nk (by rw[←f];exact hF)];exact⟨rfl,fun h=>(by cases h),fun h=>(by cases h)⟩
  |some D=>
   rw[Cz hF,if_pos rfl]
   by_cases hk:D.kind=0
   ·rw[Ty (y:=D) (by rw[←f];exact hF) hk,Zd5 hk,Zd5 hk];have A:=ih (x-2^k) [] G C;have B:=ih (x+2^k) [] E h2;have K:=Ch (F:=F) (i:=i) (only:=only) k (x-2^k) 1 [] G (by omega);have J:=Ch (F:=F) (i:=i) (only:=only) k (x+2^k) 1 [] E (by omega);generalize Bt F i only k (x-2^k) 1 []=a at A K⊢;generalize Bt F i only k (x+2^k) 1 []=b at B J⊢;generalize Bx FI d k (x-2^k)=p at A⊢;generalize Bx FI d k (x+2^k)=q at B⊢;refine⟨by show(a.2.2&&b.2.2)=(p.2&&q.2);rw[A.ok,B.ok],fun hh=> ?_,fun hh y=> ?_⟩
    ·have c:(p.2&&q.2)=true:=hh;rw[cL]at c;show([(x:Int)]++p.1++q.1).Nodup;have L:∀y∈p.1,y<(x:Int):=fun y j=>(by obtain⟨m,e,h⟩:=K.op y ((A.mem c.1 y).1 j);have:=Fw l h;omega);have O:∀y∈q.1,(x:Int)<y:=fun y j=>(by obtain⟨m,e,h⟩:=J.op y ((B.mem c.2 y).1 j);have:=Ep h;omega);rw[fQ,fQ];refine⟨⟨by simp,A.nd c.1,fun s g t I=> ?_⟩,B.nd c.2,fun s g t I=> ?_⟩
     ·rw[fP]at g;have:=L t I;omega
     ·have:=O t I;rw[fH,fP]at g;rcases g with g|g
      ·omega
      ·have:=L s g;omega
    ·have c:(p.2&&q.2)=true:=hh;rw[cL]at c;show y∈[(x:Int)]++p.1++q.1↔y∈a.1++[(x:Int)]++b.1;simp only[fH,fP,A.mem c.1 y,B.mem c.2 y];constructor
     ·rintro((h|h)|h)
      ·exact .inl (.inr h)
      ·exact .inl (.inl h)
      ·exact .inr h
     ·rintro((h|h)|h)
      ·exact .inl (.inr h)
      ·exact .inl (.inl h)
      ·exact .inr h
   ·rw[We (y:=D) (by rw[←f];exact hF) hk,Zd4 hk,Zd4 hk];have z:=(Kf u M hF w hx).1;have A:=Mf (F:=F) (i:=i) (only:=only) (D:=D) u z G C (Zna u z k _ G C);have B:=Mf (F:=F) (i:=i) (only:=only) (D:=D) u z E h2 (Zna u z k _ E h2);generalize Fq (Bt F i only k) i only (x-2^k) 2 D D.par.late=a at A⊢;generalize Fq (Bt F i only k) i only (x+2^k) 2 D D.par.late=b at B⊢;have P:=fK k;refine Pn u f w hx z hF ?_ fun H y=> ?_
    ·show(a.2.2&&b.2.2)=true↔_;rw[cL,A.ok,B.ok];constructor
     ·rintro⟨r,g2⟩ y j v g;rcases(Az l).1 j with e|h|h
      ·exact absurd e v
      ·exact r y h g
      ·exact g2 y h g
     ·intro h;exact⟨fun y j g=>h y ((Az l).2 (.inr (.inl j))) (by have:=Fw l j;omega) g,fun y j g=>h y ((Az l).2 (.inr (.inr j))) (by have:=Ep j;omega) g⟩
    ·have o:(a.2.2&&b.2.2)=true:=H;rw[cL]at o;show y∈a.1++[(x:Int)]++b.1↔_;simp only[fH,fP,A.mem o.1 y,B.mem o.2 y];constructor
     ·rintro((⟨m,e,r,g2⟩|e)|⟨m,e,r,g2⟩)
      ·exact .inr ⟨m,e,(Az l).2 (.inr (.inl r)),by have:=Fw l r;omega,g2⟩
      ·exact .inl e
      ·exact .inr ⟨m,e,(Az l).2 (.inr (.inr r)),by have:=Ep r;omega,g2⟩
     ·rintro(e|⟨m,e,r,g3,g2⟩)
      ·exact .inl (.inr e)
      ·rcases(Az l).1 r with h|h|h
       ·exact absurd h g3
       ·exact .inl (.inl ⟨m,e,h,g2⟩)
       ·exact .inr ⟨m,e,h,g2⟩
def Po (z j:Nat):Nat:=if anc z j<anc z (j+1)then anc z (j+1)+2^j else anc z (j+1)-2^j
theorem Rq (z j:Nat):2^j≤anc z (j+1)∧((anc z j=anc z (j+1)-2^j∧Po z j=anc z (j+1)+2^j)∨(anc z j=anc z (j+1)+2^j∧Po z j=anc z (j+1)-2^j)):=by
 have h:=halves z j;have d:=anc_plo z j;have e:=anc_plo z (j+1);have b:phi z j=plo z j+(2^(j+1)-2):=rfl;have f:=fK j;have c:2^(j+1)=2*2^j:=(by rw[aP];omega);refine⟨by omega,?_⟩;unfold Po;rcases h with⟨a,h2,h3⟩|⟨a,h2,h3⟩
 ·left;rw[if_pos (by omega)];omega
 ·right;rw[if_neg (by omega)];omega
theorem Rr (z j y:Nat):inR (j+1) (anc z (j+1)) y↔y=anc z (j+1)∨inR j (anc z j) y∨inR j (Po z j) y:=by
 obtain⟨h0,h⟩:=Rq z j;rw[Az h0];rcases h with⟨h1,h2⟩|⟨h1,h2⟩<;>rw[h1,h2]
 rw[or_comm (a:=inR j (anc z (j+1)-2^j) y)]
theorem Wh (z j y:Nat)(h:inR j (Po z j) y):¬inR j (anc z j) y∧y≠anc z (j+1):=by
 obtain⟨h0,h1⟩:=Rq z j;unfold inR at h⊢;omega
theorem Yy (z y:Nat):∀(n j:Nat),inR j (anc z j) y→inR (j+n) (anc z (j+n)) y:=by
 intro n
 induction n with
 |zero=>intro j h;exact h
 |succ n ih=>
  intro j h;have:=(Rr z (j+n) y).2 (.inr (.inl (ih j h)));exact this
theorem Zd6 {z j l y:Nat}(hjl:j<l)(h:inR j (Po z j) y):¬inR l (Po z l) y:=by
 intro h2;have h3:=Yy z y (l-(j+1)) (j+1) ((Rr z j y).2 (.inr (.inr h)));rw[show j+1+(l-(j+1))=l by omega]at h3;exact(Wh z l y h2).1 h3
theorem Zkn {z j l:Nat}(h:inR j (Po z j) (anc z l)):False:=by
 rcases aB j l with b|b
 ·have a:=(Rr z j (anc z l)).2 (.inr (.inr h));have h2:=Zjj (anc_lev z (j+1)) (anc_lev z l) a;have:l=j+1:=(by omega);subst this;exact(Wh z j _ h).2 rfl
 ·have a:=Yy z (anc z l) (j-l) l (Dc _ _);rw[show l+(j-l)=j by omega]at a;exact(Wh z j _ h).1 a
theorem Wi (a:d≤16) {z j:Nat}(o:z+1<2^(d+1))(p:j<d):IsLev (Po z j) j∧Po z j+2^j≤2*2^d-1:=by
 obtain⟨g,e2⟩:=Hk a;obtain⟨n,h⟩:=Rq z j;have b:=anc_lev z (j+1);have l:=anc_le (x:=z) (d:=d) (j:=j+1) (by omega) (by omega);have k:=Mc l a;rw[lev_eq (by omega) b]at k;obtain⟨e,i,-,f,m,-,-⟩:=El (M:=2*2^d-1) b (by omega) g;rcases h with⟨c,h2⟩|⟨c,h2⟩
 ·rw[h2];exact⟨i,m⟩
 ·rw[h2];exact⟨e,f⟩
theorem Zmz (hd:d≤16) {z j:Nat}(hz:z+1<2^(d+1))(hj:j≤d):anc z j+2^j≤2*2^d-1:=by
 obtain⟨hM,e2⟩:=Hk hd;have ha:=anc_le (x:=z) (d:=d) (j:=j) (by omega) hj;have hu:=Mc ha hd;rw[lev_eq (by omega) (anc_lev z j)]at hu;omega
structure OwnS (FI:Int→Option NodeD) (d z:Nat) (only:Bool) (k:Nat) (v:List Int×List Int×Bool):Prop where
 ok:v.2.2=true↔(∀j,j≤k→(FI (anc z j:Nat)).isSome=true)∧(only=false→∀j,j<k→(Bx FI d j (Po z j)).2=true)
 mem:v.2.2=true→∀y:Int,y∈v.1↔(∃j,j≤k∧y=(anc z j:Nat))∨(only=false∧∃j,j<k∧y∈(Bx FI d j (Po z j)).1)
theorem Yz {z k:Nat} {v a b:List Int×List Int×Bool} (p:(FI (anc z (k+1):Nat)).isSome=true) (l:v.2.2=(a.2.2&&b.2.2)) (o:∀y:Int,y∈v.1↔y∈a.1∨y=(anc z (k+1):Nat)∨y∈b.1) (m:OwnS FI d z only k a)
  (n:b.2.2=(only||(Bx FI d k (Po z k)).2)) (h:b.2.2=true→∀y,y∈b.1↔only=false∧y∈(Bx FI d k (Po z k)).1):OwnS FI d z only (k+1) v:=by
 constructor
 ·rw[l,cL,m.ok,n,cM];constructor
  ·rintro⟨⟨i,h2⟩,h3⟩;refine⟨fun j f=> ?_,fun c j f=> ?_⟩
   ·by_cases e:j=k+1
    ·rw[e];exact p
    ·exact i j (by omega)
   ·by_cases e:j=k
    ·rw[e];rcases h3 with h3|h3
     ·rw[c]at h3;cases h3
     ·exact h3
    ·exact h2 c j (by omega)
  ·rintro⟨i,h2⟩;refine⟨⟨fun j f=>i j (by omega),fun c j f=>h2 c j (by omega)⟩,?_⟩;cases c:only with
   |true=>exact .inl rfl
   |false=>exact .inr (h2 c k (by omega))
 ·intro g y;rw[l,cL]at g;rw[o y,m.mem g.1 y,h g.2 y];constructor
  ·rintro((⟨j,f,e⟩|⟨c,j,f,e⟩)|e|⟨c,e⟩)
   ·exact .inl ⟨j,by omega,e⟩
   ·exact .inr ⟨c,j,by omega,e⟩
   ·exact .inl ⟨k+1,lR,e⟩
   ·exact .inr ⟨c,k,by omega,e⟩
  ·rintro(⟨j,f,e⟩|⟨c,j,f,e⟩)
   ·by_cases ej:j=k+1
    ·subst ej;exact .inr (.inl e)
    ·exact .inl (.inl ⟨j,by omega,e⟩)
   ·by_cases ej:j=k
    ·subst ej;exact .inr (.inr ⟨c,e⟩)
    ·exact .inl (.inr ⟨c,j,by omega,e⟩)
theorem Tz (b:d≤16) {k c:Nat} {V:Nat→Nat→List Int→List Int×List Int×Bool} {D:NodeD} {late:List Int}(e:2*i+1<2^(d+1))(f:IsLev c k)(l:c+2^k≤2*2^d-1):
  Fq V i only c 0 D late=if c=anc (2*i) k then V c 0 []else if only=true then([],[(c:Int)],true)else V c 1 []:=by
 obtain⟨g,e2⟩:=Hk b;have j:=fK k;have a:=Zd2 b e (x:=c) (by omega);rw[lev_eq (by omega) f]at a;unfold Fq;rw[a]
 by_cases h:c=anc (2*i) k
 ·rw[if_pos ⟨rfl,decide_eq_true h⟩,if_pos h]
 ·rw[if_neg (by rintro⟨_,h2⟩;exact h (of_decide_eq_true h2)),if_neg h]
  by_cases ho:only=true
  ·rw[if_pos ⟨rfl,ho⟩,if_pos ho]
  ·rw[if_neg (by rintro⟨_,h2⟩;exact ho h2),if_neg ho,if_pos (.inl rfl)]
theorem Zd7 (l:d≤16)(a:∀n:Nat,F n=FI (n:Int))(f:Cu F) {k c:Nat}(j:IsLev c k)(g:c+2^k≤2*2^d-1):
  let b:List Int×List Int×Bool:=if only=true then([],[(c:Int)],true)else Bt F i only k c 1 []
  b.2.2=(only||(Bx FI d k c).2)∧(b.2.2=true→∀y,y∈b.1↔only=false∧y∈(Bx FI d k c).1):=by
 intro b;have W:=Yx (i:=i) (only:=only) l a f k c [] j g;cases ho:only with
 |true=>
  have e:b=([],[(c:Int)],true):=(by show(if only=true then _ else _)=_;rw[if_pos ho]);rw[e];exact⟨rfl,fun _ y=>by simp⟩
 |false=>
  have e:b=Bt F i only k c 1 []:=(by show(if only=true then _ else _)=_;rw[if_neg (by rw[ho];simp)]);rw[e];refine⟨by rw[W.ok,Bool.false_or],fun h y=> ?_⟩;rw[W.ok]at h;rw[←W.mem h y];exact⟨fun h=>⟨rfl,h⟩,fun h=>h.2⟩
theorem Zjk (b:d≤16)(a:∀n:Nat,F n=FI (n:Int))(o:Cu F)(p:2*i+1<2^(d+1)):∀k,k≤d→OwnS FI d (2*i) only k (Bt F i only k (anc (2*i) k) 0 []):=by
 obtain⟨r,e2⟩:=Hk b;intro k
 induction k with
 |zero=>
  intro _;cases hF:F (anc (2*i) 0)with
  |none=>
   rw[Cg hF];refine⟨⟨fun h=>(by cases h),fun h=> ?_⟩,fun h=>by cases h⟩;have:=h.1 0 lR;rw[←a,hF]at this;cases this
  |some D=>
   rw[Dz hF];refine⟨⟨fun _=>⟨fun j g=> ?_,fun _ j g=>by omega⟩,fun _=>rfl⟩,fun _ y=> ?_⟩
   ·obtain rfl:j=0:=(by omega);rw[←a,hF];rfl
   ·simp only[fP];constructor
    ·exact fun e=> .inl ⟨0,lR,e⟩
    ·rintro(⟨j,g,e⟩|⟨_,j,g,_⟩)
     ·obtain rfl:j=0:=(by omega);exact e
     ·omega
 |succ k ih=>
  intro hk;have v:=anc_lev (2*i) (k+1);have q:=Zmz b (z:=2*i) (j:=k+1) (by omega) hk;obtain⟨u,s,w,t,h2,-,-⟩:=El v q r;cases hF:F (anc (2*i) (k+1))with
  |none=>
   rw[Cg hF];refine⟨⟨fun h=>(by cases h),fun h=> ?_⟩,fun h=>by cases h⟩;have:=h.1 (k+1) lR;rw[←a,hF]at this;cases this
  |some D=>
   rw[Cz hF,if_neg (by omega)];have m:(FI (anc (2*i) (k+1):Nat)).isSome=true:=(by rw[←a,hF];rfl);have A:=ih (by omega);rw[Tz b p u t,Tz b p s h2];have x:=fK k;rcases(Rq (2*i) k).2 with⟨c1,c2⟩|⟨c1,c2⟩
   ·rw[if_pos c1.symm,if_neg (by omega),←c1,←c2];have c:=Wi b (z:=2*i) (j:=k) (by omega) (by omega);obtain⟨f,l⟩:=Zd7 (F:=F) (FI:=FI) (i:=i) (only:=only) b a o c.1 c.2;refine Yz m rfl (fun y=> ?_) A f l;simp only[Wb,fH,fP];rw[or_assoc]
   ·rw[if_neg (by omega),if_pos c1.symm,←c1,←c2];have c:=Wi b (z:=2*i) (j:=k) (by omega) (by omega);obtain⟨f,l⟩:=Zd7 (F:=F) (FI:=FI) (i:=i) (only:=only) b a o c.1 c.2;refine Yz m (Bool.and_comm _ _) (fun y=> ?_) A f l;simp only[Wb,fH,fP];constructor
    ·rintro((h|h)|h)
     ·exact .inr (.inr h)
     ·exact .inr (.inl h)
     ·exact .inl h
    ·rintro(h|h|h)
     ·exact .inr h
     ·exact .inl (.inr h)
     ·exact .inl (.inl h)
end
def Ea (FI:Int→Option NodeD)(d i:Nat)(only:Bool)(r:Nat):List Int:=upL d (i:Int)++if only=true then []else(aH r).flatMap fun j=>(Bx FI d j (Po (2*i) j)).1
def Kx (FI:Int→Option NodeD)(d i:Nat)(only:Bool)(r:Nat):Bool:=((upL d (i:Int)).all fun y=>(FI y).isSome)&&(only||(aH r).all fun j=>(Bx FI d j (Po (2*i) j)).2)
def Li (out:List Int)(z:Int):List Int:=(if 0≤Hr z∧Hr z∉out then [Hr z]else [])++(if 0≤Em z∧Em z∉out then [Em z]else [])
def Hl (out:List Int):List Int:=out.flatMap (Li out)
def Za (FI:Int→Option NodeD)(d i:Nat)(only:Bool):List Int×List Int×Bool:=(Jy (Ea FI d i only d),Jy (Hl (Ea FI d i only d)),Kx FI d i only d)
theorem Im {out:List Int} {z y:Int}:y∈Li out z↔On z y∧y∉out:=by
 unfold Li On;rw[fH];constructor
 ·rintro(h|h)
  ·split at h
   ·rename_i hc;rw[fP]at h;subst h;exact⟨⟨hc.1,.inl rfl⟩,hc.2⟩
   ·cases h
  ·split at h
   ·rename_i hc;rw[fP]at h;subst h;exact⟨⟨hc.1,.inr rfl⟩,hc.2⟩
   ·cases h
 ·rintro⟨⟨a,rfl|rfl⟩,h2⟩
  ·left;rw[if_pos ⟨a,h2⟩];simp
  ·right;rw[if_pos ⟨a,h2⟩];simp
theorem Wj {out:List Int} {y:Int}:y∈Hl out↔(∃z∈out,On z y)∧y∉out:=by
 unfold Hl;rw[fS];constructor
 ·rintro⟨z,hz,h⟩;obtain⟨h1,h2⟩:=Im.1 h;exact⟨⟨z,hz,h1⟩,h2⟩
 ·rintro⟨⟨z,hz,h1⟩,h2⟩;exact⟨z,hz,Im.2 ⟨h1,h2⟩⟩
theorem Pp {z:Nat} {y:Int}(b:z≤131070)(h:On (z:Int) y):∃m k:Nat,y=(m:Int)∧IsLev m k∧anc m (k+1)=z:=by
 obtain⟨f,h⟩:=h;have a:=lev_is b;cases hk:lev z with
 |zero=>
  rw[hk]at a;obtain⟨c,e2⟩:=Ro b a;rw[c,e2]at h;omega
 |succ k=>
  rw[hk]at a;obtain⟨c,e2,d,e,hx⟩:=Go.Proofs.YtfofaiommeckbaaGreat.kids_lev b a;have g:=fK k;rw[c,e2]at h;rcases h with h|h
  ·exact⟨_,k,h,d,Wf a ((Az hx).2 (.inr (.inl (Dc _ _))))⟩
  ·exact⟨_,k,h,e,Wf a ((Az hx).2 (.inr (.inr (Dc _ _))))⟩
theorem Zko {z z':Nat} {y:Int}(hz:z≤131070)(hz':z'≤131070)(h:On (z:Int) y)(h':On (z':Int) y):z=z':=by
 obtain⟨m,k,rfl,hl,e⟩:=Pp hz h;obtain⟨m',k',e1,hl',e'⟩:=Pp hz' h';obtain rfl:m=m':=(by omega);have:=lev_unique hl hl';rw[←e,←e',this]
theorem Zbc {out:List Int} {z:Nat}(f:z≤131070):(Li out (z:Int)).Nodup:=by
 unfold Li;rw[fQ];refine⟨by split<;>simp,by split<;>simp,fun a g b d e=> ?_⟩
 split at g
 ·split at d
  ·rename_i c1 c2
   rw[fP]at g d;have c:=lev_is f;cases hk:lev z with
   |zero=>
    rw[hk]at c;obtain⟨h,e2⟩:=Ro f c;omega
   |succ k=>
    rw[hk]at c;obtain⟨h,e2,i,j,hx⟩:=Go.Proofs.YtfofaiommeckbaaGreat.kids_lev f c;have l:=fK k;omega
  ·cases d
 ·cases g
theorem Zbd {out:List Int}(g:out.Nodup)(c:∀z∈out,∃n:Nat,z=(n:Int)∧n≤131070):(Hl out).Nodup:=by
 unfold Hl List.Nodup;rw[fT];refine⟨fun z f=> ?_,?_⟩
 ·obtain⟨n,rfl,h⟩:=c z f;exact Zbc h
 ·refine List.Pairwise.imp_of_mem (fun {a b} ha hb hne x hx y hy e=> ?_) g;obtain⟨n,rfl,d⟩:=c a ha;obtain⟨m,rfl,h2⟩:=c b hb;subst e;exact hne (by rw[Zko d h2 (Im.1 hx).1 (Im.1 hy).1])
theorem Pq {L:List Int}(h:L.Pairwise (· < ·)):L.Nodup:=by rw[List.nodup_iff_pairwise_ne];exact h.imp fun h e=>by omega
section
variable {FI:Int→Option NodeD} {F:Nat→Option NodeD} {i d:Nat} {only:Bool}
theorem Zd8 (z:Nat):∀(k j:Nat),(ups z j k).Nodup:=by
 intro k
 induction k with
 |zero=>intro j;simp[ups]
 |succ k ih=>
  intro j;rw[ups,fU];refine⟨fun h=> ?_,ih _⟩;obtain⟨l,h1,h2,e⟩:=(Rp _ _ _).1 h;have:=lev_unique (anc_lev z (j+1)) (by rw[e];exact anc_lev z l);omega
theorem Zd9 (a:d≤16)(b:2*i+1<2^(d+1)):(upL d (i:Int)).Nodup:=by
 obtain⟨j,e2⟩:=Hk a;have f:=Mb (q:=2*i) (by omega) (by omega);have e2:2*(i:Int)=((2*i:Nat):Int):=(by omega);unfold upL;rw[e2,Yg a b,f,dL,fU];refine⟨fun h=> ?_,?_⟩
 ·rw[eN]at h;obtain⟨n,c,e⟩:=h;obtain⟨l,g,h2,e3⟩:=(Rp _ _ _).1 c;have h3:=anc_lev (2*i) l;rw[←e3,show n=2*i by omega]at h3;have:=lev_unique h3 (show IsLev (2*i) 0 from by unfold IsLev;simp);omega
 ·have:=Zd8 (2*i) d 0;unfold List.Nodup at this⊢;rw[List.pairwise_map];exact this.imp fun h e=>h (by omega)
theorem Zb (g:d≤16)(b:∀n:Nat,F n=FI (n:Int))(k:Cu F)(e:2*i+1<2^(d+1)):(Bt F i only d (2^d-1) 0 []).2.2=Kx FI d i only d:=by
 have O:=Zjk (only:=only) g b k e d lR;rw[anc_root (by omega)]at O;rw[fX,O.ok];unfold Kx;rw[cL,cM,fV,fV];constructor
 ·rintro⟨c,h2⟩;refine⟨fun y h=> ?_,?_⟩
  ·obtain⟨j,a,rfl⟩:=(Kw g e y).1 h;exact c j a
  ·cases f:only with
   |true=>exact .inl rfl
   |false=>exact .inr fun j a=>h2 f j (List.mem_range.1 a)
 ·rintro⟨c,h2⟩;refine⟨fun j a=>c _ ((Kw g e _).2 ⟨j,a,rfl⟩),fun f j a=> ?_⟩;rcases h2 with h2|h2
  ·rw[f]at h2;cases h2
  ·exact h2 j (List.mem_range.2 a)
theorem Ua (q:d≤16)(s:∀n:Nat,F n=FI (n:Int))(H:Cu F)(A:2*i+1<2^(d+1))(k:(Bt F i only d (2^d-1) 0 []).2.2=true):
  Jy (Ea FI d i only d)=(Bt F i only d (2^d-1) 0 []).1∧Jy (Hl (Ea FI d i only d))=(Bt F i only d (2^d-1) 0 []).2.1:=by
 obtain⟨R,e2⟩:=Hk q;have p:=k;rw[Zb q s H A,Kx,cL,cM,fV,fV]at p;have O:=Zjk (only:=only) q s H A d lR;rw[anc_root (by omega)]at O;have f:IsLev (2^d-1) d:=by
  have:=fK d;unfold IsLev;rw[aP];have:(2^d-1)%(2^d*2)=2^d-1:=Nat.mod_eq_of_lt (by omega);omega
 have S:=fK d;have u:=Ch (F:=F) (i:=i) (only:=only) d (2^d-1) 0 [] f (by omega);have L:=(Tx (F:=F) (i:=i) (only:=only) d (2^d-1) 0 [] f (by omega) k).2;have M:=O.mem k;generalize Bt F i only d (2^d-1) 0 []=v at u L M k⊢;have C:only=false→∀j,j<d→(Bx FI d j (Po (2*i) j)).1.Nodup∧∀y∈(Bx FI d j (Po (2*i) j)).1,∃m:Nat,y=(m:Int)∧inR j (Po (2*i) j) m:=by
  intro g j t;obtain⟨K,N⟩:=Wi q (z:=2*i) (j:=j) (by omega) t;have W:=Yx (i:=i) (only:=only) q s H j _ [] K N;have J:(Bx FI d j (Po (2*i) j)).2=true:=by
   rcases p.2 with h|h
   ·rw[g]at h;cases h
   ·exact h j (List.mem_range.2 t)
  exact⟨W.nd J,fun y E=>(Ch (F:=F) (i:=i) (only:=only) j _ 1 [] K (by omega)).op y ((W.mem J y).1 E)⟩
 have c:∀y,y∈Ea FI d i only d↔y∈v.1:=by
  intro y;rw[M y];unfold Ea;rw[fH,Kw q A];cases g:only with
  |true=>simp
  |false=>
   simp only[Bool.false_eq_true,if_false,fS,List.mem_range,true_and]
 have w:(Ea FI d i only d).Nodup:=by
  unfold Ea;rw[fQ];refine⟨Zd9 q A,?_,?_⟩
  ·split
   ·simp
   ·rename_i g
    rw[bN]at g;unfold List.Nodup;rw[fT];refine⟨fun j t=>(C g j (List.mem_range.1 t)).1,?_⟩;refine List.Pairwise.imp_of_mem (fun {a b} I o hlt x hx y E e=> ?_) List.pairwise_lt_range;obtain⟨m,Q,r⟩:=(C g a (List.mem_range.1 I)).2 x hx;obtain⟨P,e3,h3⟩:=(C g b (List.mem_range.1 o)).2 y E;obtain rfl:m=P:=(by omega);exact Zd6 hlt r h3
  ·intro a I b o e
   split at o
   ·cases o
   ·rename_i g
    rw[bN]at g;rw[fS]at o;obtain⟨j,t,o⟩:=o;obtain⟨m,Q,r⟩:=(C g j (List.mem_range.1 t)).2 b o;obtain⟨l,T,e3⟩:=(Kw q A a).1 I;have:m=anc (2*i) l:=(by omega);rw[this]at r;exact Zkn r
 have G:=Pq u.opr;have D:=Pq u.shr;refine⟨Go.Proofs.YtfofaiommeckbaaGreat.sortL_eq ((fW w G).2 c) u.opr,Go.Proofs.YtfofaiommeckbaaGreat.sortL_eq ((fW (Zbd w fun z B=> ?_) D).2 fun y=> ?_) u.shr⟩
 ·obtain⟨m,e,h⟩:=u.op z ((c z).1 B);exact⟨m,e,by unfold inR at h;omega⟩
 ·rw[Wj,L y,c y];constructor
  ·rintro⟨⟨z,B,r⟩,h2⟩;exact⟨⟨z,(c z).1 B,r⟩,h2⟩
  ·rintro⟨⟨z,B,r⟩,h2⟩;exact⟨⟨z,(c z).2 B,r⟩,h2⟩
end
end
end Go.Proofs.YtfofaiommeckbaaGreat
