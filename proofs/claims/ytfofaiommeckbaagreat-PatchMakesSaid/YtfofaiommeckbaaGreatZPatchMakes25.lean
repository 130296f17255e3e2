/- Plain: what slice.opens opens and shuts, in order; what the document's Opens tells. -/
import Derived.Test.YtfofaiommeckbaaGreatZPatchMakesB
import Derived.Test.YtfofaiommeckbaaGreatZPatchMakes24
import Derived.Test.YtfofaiommeckbaaGreatZPatchMakes17
open Nat renaming two_pow_pos → eU, pow_succ → aN, pow_le_pow_right → aY, sub_zero → dE, lt_or_ge → aB, div_add_mod → aU, mul_add → eY, mul_le_mul_left → aC
open List renaming append_assoc → bQ, pairwise_append → eE, singleton_append → eG, mem_cons → aE, mem_append → eN, mem_singleton → eZ, not_mem_nil → eQ, nodup_append → fA, mem_append_left → fB, mem_map → eM, mem_flatMap → fC, range → aF, pairwise_flatMap → fD, nodup_cons → fE, all_eq_true → bU, perm_ext_iff_of_nodup → fF
open Bool renaming and_eq_true → cC, eq_iff_iff → fG, or_eq_true → cD, not_eq_true → dA
set_option linter.unusedVariables false
set_option maxRecDepth 100000
set_option maxHeartbeats 40000000
namespace Go.Proofs.YtfofaiommeckbaaGreat
open Go.RowKit WalkM WireM
def Qx (k x:Nat)(L:List Int):Prop:=∀y∈L,∃m:Nat,y=(m:Int)∧inR k x m
theorem Fc (k x:Nat):inR k x x:=by have:=eU k;unfold inR;omega
theorem Be {k x y:Nat}(h:2^k≤x):inR (k+1) x y↔y=x∨inR k (x-2^k) y∨inR k (x+2^k) y:=by
 have e:2^(k+1)=2*2^k:=(by rw[aN];omega);have hp:=eU k;unfold inR;omega
theorem Hg {k x y:Nat}(h:2^k≤x)(hy:inR k (x-2^k) y):y<x:=by unfold inR at hy;omega
theorem Fr {k x y:Nat}(hy:inR k (x+2^k) y):x<y:=by unfold inR at hy;omega
structure SpanR (k x:Nat) (r:List Int×List Int×Bool):Prop where
 op:Qx k x r.1
 sh:Qx k x r.2.1
 opr:r.1.Pairwise (· < ·)
 shr:r.2.1.Pairwise (· < ·)
theorem Kv {V:Nat→Nat→List Int→List Int×List Int×Bool} {i:Nat} {only:Bool} {c k how:Nat} {d:NodeD} {late:List Int}(h:∀how late,SpanR k c (V c how late)):SpanR k c (Hf V i only c how d late):=by
 have hs:SpanR k c ([],[(c:Int)],true):=⟨fun y hy=>by simp at hy,fun y hy=>⟨c,by simpa using hy,Fc k c⟩,by simp,by simp⟩;unfold Hf
 split
 ·exact h _ _
 ·split
  ·exact hs
  ·split
   ·exact h _ _
   ·split
    ·exact h _ _
    ·exact hs
theorem Qy {k x:Nat} {A B:List Int}(hx:2^k≤x)(hA:Qx k (x-2^k) A)(hB:Qx k (x+2^k) B)(ra:A.Pairwise (· < ·))(rb:B.Pairwise (· < ·)):
  (A++[(x:Int)]++B).Pairwise (· < ·)∧(A++B).Pairwise (· < ·)∧Qx (k+1) x (A++[(x:Int)]++B)∧Qx (k+1) x (A++B):=by
 have lA:∀y∈A,y<(x:Int):=fun y hy=>(by obtain⟨m,e,h⟩:=hA y hy;have:=Hg hx h;omega);have lB:∀y∈B,(x:Int)<y:=fun y hy=>(by obtain⟨m,e,h⟩:=hB y hy;have:=Fr h;omega);have iA:Qx (k+1) x A:=fun y hy=>(by obtain⟨m,e,h⟩:=hA y hy;exact⟨m,e,(Be hx).2 (.inr (.inl h))⟩);have iB:Qx (k+1) x B:=fun y hy=>(by obtain⟨m,e,h⟩:=hB y hy;exact⟨m,e,(Be hx).2 (.inr (.inr h))⟩);refine⟨?_,?_,?_,?_⟩
 ·rw[bQ,eE];refine⟨ra,?_,?_⟩
  ·rw[eG,List.pairwise_cons];exact⟨lB,rb⟩
  ·intro a ha b hb;simp only[eG,aE]at hb;rcases hb with rfl|hb
   ·exact lA a ha
   ·have:=lA a ha;have:=lB b hb;omega
 ·rw[eE];exact⟨ra,rb,fun a ha b hb=>by have:=lA a ha;have:=lB b hb;omega⟩
 ·intro y hy;simp only[eN,eZ]at hy;rcases hy with(h|h)|h
  ·exact iA y h
  ·exact⟨x,h,Fc _ _⟩
  ·exact iB y h
 ·intro y hy;rw[eN]at hy;rcases hy with h|h
  ·exact iA y h
  ·exact iB y h
theorem Fd {x k M:Nat}(hl:IsLev x (k+1))(hx:x+2^(k+1)≤M)(hM:M≤131071):IsLev (x-2^k) k∧IsLev (x+2^k) k∧2^k≤x∧x-2^k+2^k≤M∧x+2^k+2^k≤M∧Do (x:Int)=((x-2^k:Nat):Int)∧Br (x:Int)=((x+2^k:Nat):Int):=by
 have hp:=eU k;have e:2^(k+1)=2*2^k:=(by rw[aN];omega);obtain⟨h1,h2,h3,h4,h5⟩:=Go.Proofs.YtfofaiommeckbaaGreat.kids_lev (by omega) hl;exact⟨h3,h4,h5,by omega,by omega,h1,h2⟩
theorem Dl {F:Nat→Option NodeD} {i:Nat} {only:Bool}:∀(k x how:Nat) (late:List Int),IsLev x k→x+2^k≤131071→SpanR k x (Cw F i only k x how late):=by
 intro k
 induction k with
 |zero=>
  intro x how late hl hx;cases hF:F x with
  |none=>rw[By hF];exact⟨fun y hy=>by simp at hy,fun y hy=>by simp at hy,by simp,by simp⟩
  |some d=>rw[Fp hF];exact⟨fun y hy=>⟨x,by simpa using hy,Fc _ _⟩,fun y hy=>by simp at hy,by simp,by simp⟩
 |succ k ih=>
  intro x how late hl hx;cases hF:F x with
  |none=>rw[By hF];exact⟨fun y hy=>by simp at hy,fun y hy=>by simp at hy,by simp,by simp⟩
  |some d=>
   rw[Eo hF];obtain⟨l1,l2,h0,h1,h2,-,-⟩:=Fd hl hx lR;have A:=Kv (i:=i) (only:=only) (how:=how) (d:=d) (late:=if how=1 then d.par.late else late) fun a b=>ih (x-2^k) a b l1 h1;have B:=Kv (i:=i) (only:=only) (how:=how) (d:=d) (late:=if how=1 then d.par.late else late) fun a b=>ih (x+2^k) a b l2 h2;obtain⟨j1,-,j3,-⟩:=Qy h0 A.op B.op A.opr B.opr;obtain⟨-,j2,-,j4⟩:=Qy h0 A.sh B.sh A.shr B.shr;exact⟨j3,j4,j1,j2⟩
def Na (z y:Int):Prop:=0≤y∧(y=Do z∨y=Br z)
def Ze4 (r:List Int×List Int×Bool):Prop:=∀y,y∈r.2.1↔(∃z∈r.1,Na z y)∧y∉r.1
theorem Pg {x:Nat}(hx:x≤131070)(hl:IsLev x 0):Do (x:Int)= -1∧Br (x:Int)= -1:=by
 have h:=Lu (x:=(x:Int)) (by
  have e:Kg (x:Int)=0:=by
   rw[Kg,if_pos (by unfold Az;rw[decide_eq_true_iff];omega),Int.toNat_natCast,lev_eq hx hl];rfl
  omega)
 exact h
def Zg9 (c:Nat)(r:List Int×List Int×Bool):Prop:=r.2.2=true→((c:Int)∈r.1∧Ze4 r)∨(r.1=[]∧r.2.1=[(c:Int)])
theorem Qz {V:Nat→Nat→List Int→List Int×List Int×Bool} {i:Nat} {only:Bool} {c how:Nat} {d:NodeD} {late:List Int}(h:∀how late,(V c how late).2.2=true→(c:Int)∈(V c how late).1∧Ze4 (V c how late)):Zg9 c (Hf V i only c how d late):=by
 unfold Hf
 split
 ·exact fun ho=> .inl (h _ _ ho)
 ·split
  ·exact fun _=> .inr ⟨rfl,rfl⟩
  ·split
   ·exact fun ho=> .inl (h _ _ ho)
   ·split
    ·exact fun ho=> .inl (h _ _ ho)
    ·exact fun _=> .inr ⟨rfl,rfl⟩
theorem Zac {F:Nat→Option NodeD} {i:Nat} {only:Bool}:∀(k x how:Nat) (late:List Int),IsLev x k→x+2^k≤131071→(Cw F i only k x how late).2.2=true→(x:Int)∈(Cw F i only k x how late).1∧Ze4 (Cw F i only k x how late):=by
 intro k
 induction k with
 |zero=>
  intro x how late hl hx;have hp:=eU 0;cases hF:F x with
  |none=>rw[By hF];intro h;cases h
  |some d=>
   rw[Fp hF];intro _;refine⟨by simp,fun y=> ?_⟩;obtain⟨e1,e2⟩:=Pg (by omega) hl;simp only[eQ,eZ,false_iff,not_and];rintro⟨z,rfl,h0,h1|h1⟩
   ·rw[e1]at h1;omega
   ·rw[e2]at h1;omega
 |succ k ih=>
  intro x how late hl hx;cases hF:F x with
  |none=>rw[By hF];intro h;cases h
  |some d=>
   rw[Eo hF];obtain⟨l1,l2,h0,h1,h2,kl,kr⟩:=Fd hl hx lR;have A:=Kv (i:=i) (only:=only) (how:=how) (d:=d) (late:=if how=1 then d.par.late else late) fun a b=>Dl (F:=F) (i:=i) (only:=only) k (x-2^k) a b l1 h1;have B:=Kv (i:=i) (only:=only) (how:=how) (d:=d) (late:=if how=1 then d.par.late else late) fun a b=>Dl (F:=F) (i:=i) (only:=only) k (x+2^k) a b l2 h2;have PA:=Qz (i:=i) (only:=only) (how:=how) (d:=d) (late:=if how=1 then d.par.late else late) fun a b=>ih (x-2^k) a b l1 h1;have PB:=Qz (i:=i) (only:=only) (how:=how) (d:=d) (late:=if how=1 then d.par.late else late) fun a b=>ih (x+2^k) a b l2 h2;generalize Hf (Cw F i only k) i only (x-2^k) how d (if how=1 then d.par.late else late)=a at A PA⊢;generalize Hf (Cw F i only k) i only (x+2^k) how d (if how=1 then d.par.late else late)=b at B PB⊢;intro hok;have hok':(a.2.2&&b.2.2)=true:=hok;rw[cC]at hok';refine⟨by simp[Th],fun y=> ?_⟩;show y∈a.2.1++b.2.1↔(∃z∈a.1++[(x:Int)]++b.1,Na z y)∧y∉a.1++[(x:Int)]++b.1;simp only[eN,eZ];have la:∀y∈a.1,y<(x:Int):=fun y hy=>(by obtain⟨m,e,h⟩:=A.op y hy;have:=Hg h0 h;omega);have lb:∀y∈b.1,(x:Int)<y:=fun y hy=>(by obtain⟨m,e,h⟩:=B.op y hy;have:=Fr h;omega);have sa:∀y∈a.2.1,y<(x:Int):=fun y hy=>(by obtain⟨m,e,h⟩:=A.sh y hy;have:=Hg h0 h;omega);have sb:∀y∈b.2.1,(x:Int)<y:=fun y hy=>(by obtain⟨m,e,h⟩:=B.sh y hy;have:=Fr h;omega);have hp:=eU k;have kx:∀y,Na (x:Int) y↔y=((x-2^k:Nat):Int)∨y=((x+2^k:Nat):Int):=by
    intro y;unfold Na;rw[kl,kr];constructor
    ·rintro⟨_,h⟩;exact h
    ·rintro(h|h)<;>omega
   constructor
   ·rintro(hy|hy)
    ·have hlt:=sa y hy;rcases PA hok'.1 with⟨_,hs⟩|⟨e1,e2⟩
     ·obtain⟨⟨z,hz,hk⟩,hn⟩:=(hs y).1 hy;refine⟨⟨z,.inl (.inl hz),hk⟩,?_⟩;rintro((h|h)|h)
      ·exact hn h
      ·omega
      ·have:=lb y h;omega
     ·rw[e2,eZ]at hy;refine⟨⟨x,.inl (.inr rfl),(kx y).2 (.inl hy)⟩,?_⟩;rintro((h|h)|h)
      ·rw[e1]at h;cases h
      ·omega
      ·have:=lb y h;omega
    ·have hlt:=sb y hy;rcases PB hok'.2 with⟨_,hs⟩|⟨e1,e2⟩
     ·obtain⟨⟨z,hz,hk⟩,hn⟩:=(hs y).1 hy;refine⟨⟨z,.inr hz,hk⟩,?_⟩;rintro((h|h)|h)
      ·have:=la y h;omega
      ·omega
      ·exact hn h
     ·rw[e2,eZ]at hy;refine⟨⟨x,.inl (.inr rfl),(kx y).2 (.inr hy)⟩,?_⟩;rintro((h|h)|h)
      ·have:=la y h;omega
      ·omega
      ·rw[e1]at h;cases h
   ·rintro⟨⟨z,hz,hk⟩,hn⟩;rcases hz with(hz|hz)|hz
    ·rcases PA hok'.1 with⟨_,hs⟩|⟨e1,e2⟩
     ·exact .inl ((hs y).2 ⟨⟨z,hz,hk⟩,fun h=>hn (.inl (.inl h))⟩)
     ·rw[e1]at hz;cases hz
    ·rw[hz]at hk;rcases(kx y).1 hk with e|e
     ·rcases PA hok'.1 with⟨h3,hs⟩|⟨e1,e2⟩
      ·rw[e]at hn;exact absurd (.inl (.inl h3)) hn
      ·rw[e2,e];exact .inl (by simp)
     ·rcases PB hok'.2 with⟨h3,hs⟩|⟨e1,e2⟩
      ·rw[e]at hn;exact absurd (.inr h3) hn
      ·rw[e2,e];exact .inr (by simp)
    ·rcases PB hok'.2 with⟨_,hs⟩|⟨e1,e2⟩
     ·exact .inr ((hs y).2 ⟨⟨z,hz,hk⟩,fun h=>hn (.inr h)⟩)
     ·rw[e1]at hz;cases hz
section
def upL (d:Nat)(u:Int):List Int:=(2*u)::(My (2*u) ((2^d:Nat):Int)).map fun n:Nat=>(n:Int)
def Xw (FI:Int→Option NodeD)(x:Int)(s:List Int×Bool)(y:Int):List Int×Bool:=
 if y≠x∧Bl y x=true∧y∉s.1 then(s.1++[y],s.2&&(FI y).isSome)else s
def Ma (FI:Int→Option NodeD)(x:Int)(s:List Int×Bool)(ys:List Int):List Int×Bool:=ys.foldl (Xw FI x) s
def Gt (FI:Int→Option NodeD)(d:Nat)(x:Int)(late:List Int):List Int×Bool:=Ma FI x ([x],true) (late.flatMap (upL d))
def Av (FI:Int→Option NodeD)(d:Nat):Nat→Nat→List Int×Bool
 |0,x=>match FI (x:Int)with
  |none=>([],false)
  |some y=>Gt FI d x y.par.late
 |k+1,x=>match FI (x:Int)with
  |none=>([],false)
  |some y=>if y.kind=0 then([(x:Int)]++(Av FI d k (x-2^k)).1++(Av FI d k (x+2^k)).1,(Av FI d k (x-2^k)).2&&(Av FI d k (x+2^k)).2)
   else Gt FI d x y.par.late
theorem Ep {FI:Int→Option NodeD} {d k x:Nat}(h:FI (x:Int)=none):Av FI d k x=([],false):=by
 cases k<;>simp only[Av,h]
theorem Gg {FI:Int→Option NodeD} {d x:Nat} {y:NodeD}(h:FI (x:Int)=some y):Av FI d 0 x=Gt FI d x y.par.late:=by simp only[Av,h]
theorem Ia {FI:Int→Option NodeD} {d k x:Nat} {y:NodeD}(h:FI (x:Int)=some y)(hk:y.kind≠0):Av FI d k x=Gt FI d x y.par.late:=by
 cases k with
 |zero=>exact Gg h
 |succ k=>simp only[Av,h];rw[if_neg hk]
theorem Gu {FI:Int→Option NodeD} {d k x:Nat} {y:NodeD}(h:FI (x:Int)=some y)(hk:y.kind=0):
  Av FI d (k+1) x=([(x:Int)]++(Av FI d k (x-2^k)).1++(Av FI d k (x+2^k)).1,(Av FI d k (x-2^k)).2&&(Av FI d k (x+2^k)).2):=by
 simp only[Av,h];rw[if_pos hk]
structure AddWP (FI:Int→Option NodeD) (x:Int) (ys:List Int) (s:List Int×Bool):Prop where
 nd:s.1.Nodup
 mem:∀y,y∈s.1↔y=x∨(y∈ys∧y≠x∧Bl y x=true)
 ok:s.2=true↔∀y∈ys,y≠x→Bl y x=true→(FI y).isSome=true
theorem Zad {FI:Int→Option NodeD} {x y:Int} {ys:List Int} {s:List Int×Bool}(h:AddWP FI x ys s):AddWP FI x (ys++[y]) (Xw FI x s y):=by
 unfold Xw
 split
 ·rename_i hc
  obtain⟨c1,c2,c3⟩:=hc;refine⟨?_,fun z=> ?_,?_⟩
  ·rw[fA];exact⟨h.nd,by simp,fun a ha b hb e=>by rw[eZ]at hb;subst e hb;exact c3 ha⟩
  ·simp only[eN,eZ,h.mem z];constructor
   ·rintro((e|⟨a,b,c⟩)|e)
    ·exact .inl e
    ·exact .inr ⟨.inl a,b,c⟩
    ·subst e;exact .inr ⟨.inr rfl,c1,c2⟩
   ·rintro(e|⟨a|a,b,c⟩)
    ·exact .inl (.inl e)
    ·exact .inl (.inr ⟨a,b,c⟩)
    ·exact .inr a
  ·show(s.2&&(FI y).isSome)=true↔_;rw[cC,h.ok];constructor
   ·rintro⟨a,b⟩ z hz;rw[eN,eZ]at hz;rcases hz with hz|rfl
    ·exact a z hz
    ·exact fun _ _=>b
   ·intro a;exact⟨fun z hz=>a z (fB _ hz),a y (by simp) c1 c2⟩
 ·rename_i hc
  have hin:y≠x→Bl y x=true→y∈s.1:=fun a b=>Decidable.byContradiction fun c=>hc ⟨a,b,c⟩;refine⟨h.nd,fun z=> ?_,?_⟩
  ·rw[h.mem z];simp only[eN,eZ];constructor
   ·rintro(e|⟨a,b,c⟩)
    ·exact .inl e
    ·exact .inr ⟨.inl a,b,c⟩
   ·rintro(e|⟨a|a,b,c⟩)
    ·exact .inl e
    ·exact .inr ⟨a,b,c⟩
    ·subst a;exact(h.mem z).1 (hin b c)
  ·rw[h.ok];constructor
   ·intro a z hz b c;rw[eN,eZ]at hz;rcases hz with hz|rfl
    ·exact a z hz b c
    ·rcases(h.mem z).1 (hin b c)with e|⟨e,_,_⟩
     ·exact absurd e b
     ·exact a z e b c
   ·exact fun a z hz=>a z (fB _ hz)
theorem Zc2 {FI:Int→Option NodeD} {x:Int}:∀(zs ys:List Int) (s:List Int×Bool),AddWP FI x ys s→AddWP FI x (ys++zs) (Ma FI x s zs):=by
 intro zs
 induction zs with
 |nil=>intro ys s h;simpa [Ma]using h
 |cons z zs ih=>
  intro ys s h;have:=ih (ys++[z]) _ (Zad (y:=z) h);rw[bQ,eG]at this;exact this
theorem Ze5 (FI:Int→Option NodeD)(d:Nat)(x:Int)(late:List Int):AddWP FI x (late.flatMap (upL d)) (Gt FI d x late):=by
 have h0:AddWP FI x [] ([x],true):=⟨by simp,fun y=>by simp,by simp⟩;have:=Zc2 (late.flatMap (upL d)) [] _ h0
 rwa [List.nil_append]at this
theorem Ph {z:Nat}:∀(k j:Nat) (y:Nat),y∈ups z j k↔∃l,j<l∧l≤j+k∧y=anc z l:=by
 intro k
 induction k with
 |zero=>
  intro j y;simp only[ups,eQ,false_iff,not_exists,not_and];intro l h1 h2;omega
 |succ k ih=>
  intro j y;rw[ups,aE,ih];constructor
  ·rintro(e|⟨l,h1,h2,e⟩)
   ·exact⟨j+1,by omega,by omega,e⟩
   ·exact⟨l,by omega,by omega,e⟩
  ·rintro⟨l,h1,h2,e⟩
   by_cases hl:l=j+1
   ·subst hl;exact .inl e
   ·exact .inr ⟨l,by omega,by omega,e⟩
theorem Jk {d m:Nat}(hd:d≤16)(hm:2*m+1<2^(d+1))(y:Int):y∈upL d (m:Int)↔∃j,j≤d∧y=((anc (2*m) j:Nat):Int):=by
 have h17:2^(d+1)≤2^17:=aY (by omega) (by omega);have h17':(2:Nat)^17=131072:=rfl;have hl:=Ip (q:=2*m) (by omega) (by omega);have ha:anc (2*m) 0=2*m:=anc_self (by unfold IsLev;simp);have e2:2*(m:Int)=((2*m:Nat):Int):=(by omega);unfold upL;rw[e2,Ov hd hm,hl,dE,aE,eM];constructor
 ·rintro(e|⟨n,hn,e⟩)
  ·exact⟨0,by omega,by rw[ha];exact e⟩
  ·obtain⟨l,h1,h2,e3⟩:=(Ph _ _ _).1 hn;exact⟨l,by omega,by rw[←e,e3]⟩
 ·rintro⟨j,hj,e⟩
  by_cases h0:j=0
  ·subst h0;rw[ha]at e;exact .inl e
  ·exact .inr ⟨anc (2*m) j,(Ph _ _ _).2 ⟨j,by omega,by omega,rfl⟩,e.symm⟩
def Ib (d:Nat)(late:List Int):Prop:=∀u∈late,∃m:Nat,u=(m:Int)∧2*m+1<2^(d+1)
theorem Zae {d m x:Nat}(hd:d≤16)(hm:2*m+1<2^(d+1))(hx:x+1<2^(d+1)):Bl (2*(m:Int)) (x:Int)=decide (x=anc (2*m) (lev x)):=by
 rw[Zg5];exact Zcr hd hm hx (by omega)
theorem Kw {d x:Nat} {late:List Int}(hd:d≤16)(hl:Ib d late)(hx:x+1<2^(d+1)):Im late (x:Int)=true↔∃m:Nat,(m:Int)∈late∧2*m+1<2^(d+1)∧x=anc (2*m) (lev x):=by
 unfold Im;rw[List.any_eq_true];constructor
 ·rintro⟨u,hu,h⟩;obtain⟨m,rfl,hm⟩:=hl u hu;rw[Zae hd hm hx,decide_eq_true_iff]at h;exact⟨m,hu,hm,h⟩
 ·rintro⟨m,hu,hm,h⟩;refine⟨m,hu,?_⟩;rw[Zae hd hm hx,decide_eq_true_iff];exact h
theorem Tj {x k y:Nat}(hl:IsLev x k)(hy:inR k x y):anc y k=x:=by
 have hs:=anc_self hl;have e1:2^(k+1)=2*2^k:=(by rw[aN];omega);have hp:=eU k;have hq:y/2^(k+1)=x/2^(k+1):=by
  unfold anc at hs;refine Nat.div_eq_of_lt_le ?_ ?_
  ·unfold inR at hy;omega
  ·rw[Nat.add_mul,Nat.one_mul];unfold inR at hy;omega
 unfold anc;rw[hq];exact hs
theorem Zd1 {x k y l:Nat}(hl:IsLev x k)(hm:IsLev y l)(hy:inR k x y):l≤k:=by
 rcases aB k l with h|h
 ·exfalso;have e1:2^(k+1)=2*2^k:=(by rw[aN];omega);have hp:=eU k;have hp2:=eU l;have e2:2^(l+1)=2*2^l:=(by rw[aN];omega);have d1:2^(k+1)∣y+1:=by
   unfold IsLev at hm;have hd:=aU y (2^(l+1));rw[hm]at hd;have e3:y+1=2^l*(2*(y/2^(l+1))+1):=by
    rw[eY,←Nat.mul_assoc,Nat.mul_comm (2^l) 2,←e2];omega
   rw[e3];exact Nat.dvd_trans (Nat.pow_dvd_pow 2 (by omega)) (Nat.dvd_mul_right _ _)
  obtain⟨c,hc⟩:=d1;unfold IsLev at hl;have hd:=aU x (2^(k+1));rw[hl]at hd;unfold inR at hy;rcases Nat.lt_trichotomy c (x/2^(k+1)+1)with h3|h3|h3
  ·have:=aC (2^(k+1)) (show c≤x/2^(k+1) by omega);omega
  ·rw[h3,eY]at hc;omega
  ·have:=aC (2^(k+1)) (show x/2^(k+1)+1+1≤c by omega);rw[eY,eY]at this;omega
 ·exact h
theorem Ze6 {d c k y:Nat} {late:List Int}(hd:d≤16)(hl:Ib d late)(hc:c+1<2^(d+1))(hy1:y+1<2^(d+1))(hlc:IsLev c k)(hy:inR k c y)(h:Im late (y:Int)=true):Im late (c:Int)=true:=by
 have h17:2^(d+1)≤2^17:=aY (by omega) (by omega);have h17':(2:Nat)^17=131072:=rfl;obtain⟨m,hm,hm2,e⟩:=(Kw hd hl hy1).1 h;refine(Kw hd hl hc).2 ⟨m,hm,hm2,?_⟩;have hly:=lev_is (x:=y) (by omega);have hle:=Zd1 hlc hly hy;rw[lev_eq (by omega) hlc,←anc_anc hle,←e];exact(Tj hlc hy).symm
section
variable {F:Nat→Option NodeD} {i d:Nat} {only:Bool}
structure BetwP (F:Nat→Option NodeD) (k c:Nat) (late:List Int) (r:List Int×List Int×Bool):Prop where
 ok:r.2.2=true↔∀y:Nat,inR k c y→Im late (y:Int)=true→(F y).isSome=true
 mem:r.2.2=true→∀y:Int,y∈r.1↔∃m:Nat,y=(m:Int)∧inR k c m∧Im late (m:Int)=true
theorem Tk {k c y M:Nat}(hc:c+2^k≤M)(hy:inR k c y):y+1≤M:=by unfold inR at hy;omega
theorem Kx {k c:Nat} {D:NodeD} {late:List Int} (hd:d≤16) (hl:Ib d late) (hlc:IsLev c k) (hc:c+2^k≤2*2^d-1)
  (ih:Im late (c:Int)=true→BetwP F k c late (Cw F i only k c 2 late)):BetwP F k c late (Hf (Cw F i only k) i only c 2 D late):=by
 have e2:2^(d+1)=2*2^d:=(by rw[aN];omega);have hp:=eU k;have ek:Hf (Cw F i only k) i only c 2 D late=if Im late (c:Int)=true then Cw F i only k c 2 late else([],[(c:Int)],true):=by
  unfold Hf;rw[if_neg (by omega),if_neg (by omega),if_neg (by omega)]
 rw[ek]
 by_cases h:Im late (c:Int)=true
 ·rw[if_pos h];exact ih h
 ·rw[if_neg h];have hno:∀y:Nat,inR k c y→¬Im late (y:Int)=true:=fun y hy hs=>h (Ze6 hd hl (by omega) (by have:=Tk hc hy;omega) hlc hy hs);exact⟨⟨fun _ y hy hs=>absurd hs (hno y hy),fun _=>rfl⟩,fun _ y=>⟨fun hy=>(by cases hy),fun⟨m,_,h1,h2⟩=>absurd h2 (hno m h1)⟩⟩
theorem Zaf {k c:Nat} {D:NodeD} {late:List Int} {a b:List Int×List Int×Bool}(hx:2^k≤c)(hF:F c=some D)(hs:Im late (c:Int)=true)(ha:BetwP F k (c-2^k) late a)(hb:BetwP F k (c+2^k) late b):BetwP F (k+1) c late (Th a c b):=by
 constructor
 ·show(a.2.2&&b.2.2)=true↔_;rw[cC,ha.ok,hb.ok];constructor
  ·rintro⟨h1,h2⟩ y hy hsy;rcases(Be hx).1 hy with rfl|h|h
   ·rw[hF];rfl
   ·exact h1 y h hsy
   ·exact h2 y h hsy
  ·intro h;exact⟨fun y hy=>h y ((Be hx).2 (.inr (.inl hy))),fun y hy=>h y ((Be hx).2 (.inr (.inr hy)))⟩
 ·intro hok y;have hok':(a.2.2&&b.2.2)=true:=hok;rw[cC]at hok';show y∈a.1++[(c:Int)]++b.1↔_;simp only[eN,eZ,ha.mem hok'.1 y,hb.mem hok'.2 y];constructor
  ·rintro((⟨m,e,h1,h2⟩|e)|⟨m,e,h1,h2⟩)
   ·exact⟨m,e,(Be hx).2 (.inr (.inl h1)),h2⟩
   ·exact⟨c,e,Fc _ _,hs⟩
   ·exact⟨m,e,(Be hx).2 (.inr (.inr h1)),h2⟩
  ·rintro⟨m,e,h1,h2⟩;rcases(Be hx).1 h1 with rfl|h|h
   ·exact .inl (.inr e)
   ·exact .inl (.inl ⟨m,e,h,h2⟩)
   ·exact .inr ⟨m,e,h,h2⟩
theorem Zg6 (hd:d≤16) {late:List Int}(hl:Ib d late):∀(k c:Nat),IsLev c k→c+2^k≤2*2^d-1→Im late (c:Int)=true→BetwP F k c late (Cw F i only k c 2 late):=by
 have hM:2*2^d-1≤131071:=by
  have h17:2^d≤2^16:=aY (by omega) hd;have h17':(2:Nat)^16=65536:=rfl;omega
 intro k
 induction k with
 |zero=>
  intro c hlc hc hs;have h0:∀y,inR 0 c y↔y=c:=fun y=>(by have e:2^0=1:=rfl;unfold inR;omega);cases hF:F c with
  |none=>
   rw[By hF];exact⟨⟨fun h=>(by cases h),fun h=>by have:=h c ((h0 c).2 rfl) hs;rw[hF]at this;cases this⟩,fun h=>by cases h⟩
  |some D=>
   rw[Fp hF];refine⟨⟨fun _ y hy _=>by rw[(h0 y).1 hy,hF];rfl,fun _=>rfl⟩,fun _ y=> ?_⟩;simp only[eZ];exact⟨fun e=>⟨c,e,(h0 c).2 rfl,hs⟩,fun⟨m,e,h,_⟩=>by rw[e,(h0 m).1 h]⟩
 |succ k ih=>
  intro c hlc hc hs;cases hF:F c with
  |none=>
   rw[By hF];exact⟨⟨fun h=>(by cases h),fun h=>by have:=h c (Fc _ _) hs;rw[hF]at this;cases this⟩,fun h=>by cases h⟩
  |some D=>
   obtain⟨l1,l2,h0,h1,h2,-,-⟩:=Fd hlc hc hM;rw[Eo hF,if_neg (by omega)];exact Zaf h0 hF hs (Kx hd hl l1 h1 (ih _ l1 h1)) (Kx hd hl l2 h2 (ih _ l2 h2))
def Ct (F:Nat→Option NodeD):Prop:=∀x D,F x=some D→∀u∈D.par.late,∃m:Nat,u=(m:Int)∧m<65536∧Bl (2*(m:Int)) (x:Int)=true
theorem Is (hd:d≤16)(hu:Ct F) {x k:Nat} {D:NodeD}(hF:F x=some D)(hl:IsLev x k)(hx:x+2^k≤2*2^d-1):Ib d D.par.late∧∀m:Nat,(m:Int)∈D.par.late→inR k x (2*m):=by
 have e2:2^(d+1)=2*2^d:=(by rw[aN];omega);have hM:2*2^d-1≤131071:=by
  have h17:2^d≤2^16:=aY (by omega) hd;have h17':(2:Nat)^16=65536:=rfl;omega
 have hp:=eU k;have key:∀m:Nat,(m:Int)∈D.par.late→inR k x (2*m):=by
  intro m hm;obtain⟨m',e,h1,h2⟩:=hu x D hF _ hm;have:m'=m:=(by omega);subst this;rw[Zg5]at h2;exact(Tf (by omega) (by omega) hl).1 h2
 refine⟨fun u hm=> ?_,key⟩;obtain⟨m,rfl,-,-⟩:=hu x D hF u hm;have:=Tk hx (key m hm);exact⟨m,rfl,by omega⟩
theorem Zgd (hd:d≤16) {late:List Int}(hl:Ib d late) {k x:Nat}(hlx:IsLev x k)(hx:x+2^k≤2*2^d-1)(y:Int):
  (y∈late.flatMap (upL d)∧Bl y (x:Int)=true)↔∃m:Nat,y=(m:Int)∧inR k x m∧Im late (m:Int)=true:=by
 have e2:2^(d+1)=2*2^d:=(by rw[aN];omega);have hM:2*2^d-1≤131071:=by
  have h17:2^d≤2^16:=aY (by omega) hd;have h17':(2:Nat)^16=65536:=rfl;omega
 have hp:=eU k;rw[fC];constructor
 ·rintro⟨⟨u,hu,hy⟩,hund⟩;obtain⟨m,rfl,hm⟩:=hl u hu;obtain⟨j,hj,rfl⟩:=(Jk hd hm y).1 hy;have hat:anc (2*m) j+1<2^(d+1):=anc_le (by omega) hj;refine⟨_,rfl,(Tf (by omega) (by omega) hlx).1 hund,(Kw hd hl hat).2 ⟨m,hu,hm,?_⟩⟩;rw[lev_eq (by omega) (anc_lev _ _)]
 ·rintro⟨n,rfl,h1,h2⟩;have hn:n+1<2^(d+1):=(by have:=Tk hx h1;omega);obtain⟨m,hm,hm2,e⟩:=(Kw hd hl hn).1 h2;have hlv:=(lev_root hn (lev_is (x:=n) (by omega))).1;exact⟨⟨m,hm,(Jk hd hm2 _).2 ⟨lev n,hlv,by rw[←e]⟩⟩,(Tf (by omega) (by omega) hlx).2 h1⟩
end
end
section
structure WholeP (v:List Int×List Int×Bool) (w:List Int×Bool):Prop where
 ok:v.2.2=w.2
 nd:w.2=true→w.1.Nodup
 mem:w.2=true→∀y,y∈w.1↔y∈v.1
theorem Zag {V:Nat→Nat→List Int→List Int×List Int×Bool} {i c:Nat} {only:Bool} {D:NodeD} {late:List Int}(hk:D.kind≠0):Hf V i only c 1 D late=Hf V i only c 2 D late:=by
 have e1:Hf V i only c 1 D late=if Im late (c:Int)=true then V c 2 late else([],[(c:Int)],true):=by
  unfold Hf;rw[if_neg (by omega),if_neg (by omega),if_neg (by omega)]
 have e2:Hf V i only c 2 D late=if Im late (c:Int)=true then V c 2 late else([],[(c:Int)],true):=by
  unfold Hf;rw[if_neg (by omega),if_neg (by omega),if_neg (by omega)]
 rw[e1,e2]
theorem Zah {V:Nat→Nat→List Int→List Int×List Int×Bool} {i c:Nat} {only:Bool} {D:NodeD} {late:List Int}(hk:D.kind=0):Hf V i only c 1 D late=V c 1 []:=by
 unfold Hf;rw[if_neg (by omega),if_neg (by omega),if_pos (.inr ⟨rfl,hk⟩)]
section
variable {FI:Int→Option NodeD} {F:Nat→Option NodeD} {i d:Nat} {only:Bool}
theorem Df (hd:d≤16):2*2^d-1≤131071∧2^(d+1)=2*2^d:=by
 have h17:2^d≤2^16:=aY (by omega) hd;have h17':(2:Nat)^16=65536:=rfl;exact⟨by omega,by rw[aN];omega⟩
theorem Nn (hd:d≤16) (hFI:∀n:Nat,F n=FI (n:Int)) {k x:Nat} {D:NodeD} {v:List Int×List Int×Bool} (hl:IsLev x k) (hx:x+2^k≤2*2^d-1) (hlt:Ib d D.par.late) (hF:F x=some D)
  (hok:v.2.2=true↔∀y:Nat,inR k x y→y≠x→Im D.par.late (y:Int)=true→(F y).isSome=true)
  (hmem:v.2.2=true→∀y:Int,y∈v.1↔y=(x:Int)∨∃m:Nat,y=(m:Int)∧inR k x m∧m≠x∧Im D.par.late (m:Int)=true):WholeP v (Gt FI d x D.par.late):=by
 have P:=Ze5 FI d (x:Int) D.par.late;have U:=Zgd hd hlt hl hx;have e:v.2.2=(Gt FI d x D.par.late).2:=by
  rw[fG,hok,P.ok];constructor
  ·intro h y hy hne hund;obtain⟨m,rfl,h1,h2⟩:=(U y).1 ⟨hy,hund⟩;rw[←hFI];exact h m h1 (fun e=>hne (by rw[e])) h2
  ·intro h y h1 hne h2;obtain⟨h3,h4⟩:=(U (y:Int)).2 ⟨y,rfl,h1,h2⟩;rw[hFI];exact h _ h3 (fun e=>hne (by omega)) h4
 refine⟨e,fun _=>P.nd,fun h y=> ?_⟩;rw[P.mem y,hmem (by rw[e];exact h) y];constructor
 ·rintro(h1|⟨h1,h2,h3⟩)
  ·exact .inl h1
  ·obtain⟨m,rfl,h4,h5⟩:=(U y).1 ⟨h1,h3⟩;exact .inr ⟨m,rfl,h4,fun e=>h2 (by rw[e]),h5⟩
 ·rintro(h1|⟨m,rfl,h4,h6,h5⟩)
  ·exact .inl h1
  ·obtain⟨h3,h2⟩:=(U (m:Int)).2 ⟨m,rfl,h4,h5⟩;exact .inr ⟨h3,fun e=>h6 (by omega),h2⟩
theorem Vg (hd:d≤16)(hFI:∀n:Nat,F n=FI (n:Int))(hu:Ct F):∀(k x:Nat) (late:List Int),IsLev x k→x+2^k≤2*2^d-1→WholeP (Cw F i only k x 1 late) (Av FI d k x):=by
 obtain⟨hM,e2⟩:=Df hd;intro k
 induction k with
 |zero=>
  intro x late hl hx;cases hF:F x with
  |none=>rw[By hF,Ep (by rw[←hFI];exact hF)];exact⟨rfl,fun h=>(by cases h),fun h=>(by cases h)⟩
  |some D=>
   have h0:∀y,inR 0 x y↔y=x:=fun y=>(by have e:2^0=1:=rfl;unfold inR;omega);rw[Fp hF,Gg (y:=D) (by rw[←hFI];exact hF)];refine Nn hd hFI hl hx (Is hd hu hF hl hx).1 hF ⟨fun _ y hy hne _=>absurd ((h0 y).1 hy) hne,fun _=>rfl⟩ fun _ y=> ?_;simp only[eZ];refine⟨fun e=> .inl e,fun h=> ?_⟩;rcases h with e|⟨m,e,h1,h2,_⟩
   ·exact e
   ·exact absurd ((h0 m).1 h1) h2
 |succ k ih=>
  intro x late hl hx;obtain⟨l1,l2,h0,h1,h2,-,-⟩:=Fd hl hx hM;cases hF:F x with
  |none=>rw[By hF,Ep (by rw[←hFI];exact hF)];exact⟨rfl,fun h=>(by cases h),fun h=>(by cases h)⟩
  |some D=>
   rw[Eo hF,if_pos rfl]
   by_cases hk:D.kind=0
   ·rw[Gu (y:=D) (by rw[←hFI];exact hF) hk,Zah hk,Zah hk];have A:=ih (x-2^k) [] l1 h1;have B:=ih (x+2^k) [] l2 h2;have SA:=Dl (F:=F) (i:=i) (only:=only) k (x-2^k) 1 [] l1 (by omega);have SB:=Dl (F:=F) (i:=i) (only:=only) k (x+2^k) 1 [] l2 (by omega);generalize Cw F i only k (x-2^k) 1 []=a at A SA⊢;generalize Cw F i only k (x+2^k) 1 []=b at B SB⊢;generalize Av FI d k (x-2^k)=p at A⊢;generalize Av FI d k (x+2^k)=q at B⊢;refine⟨by show(a.2.2&&b.2.2)=(p.2&&q.2);rw[A.ok,B.ok],fun hh=> ?_,fun hh y=> ?_⟩
    ·have hh':(p.2&&q.2)=true:=hh;rw[cC]at hh';show([(x:Int)]++p.1++q.1).Nodup;have la:∀y∈p.1,y<(x:Int):=fun y hy=>(by obtain⟨m,e,h⟩:=SA.op y ((A.mem hh'.1 y).1 hy);have:=Hg h0 h;omega);have lb:∀y∈q.1,(x:Int)<y:=fun y hy=>(by obtain⟨m,e,h⟩:=SB.op y ((B.mem hh'.2 y).1 hy);have:=Fr h;omega);rw[fA,fA];refine⟨⟨by simp,A.nd hh'.1,fun s hs t ht=> ?_⟩,B.nd hh'.2,fun s hs t ht=> ?_⟩
     ·rw[eZ]at hs;have:=la t ht;omega
     ·have:=lb t ht;rw[eN,eZ]at hs;rcases hs with hs|hs
      ·omega
      ·have:=la s hs;omega
    ·have hh':(p.2&&q.2)=true:=hh;rw[cC]at hh';show y∈[(x:Int)]++p.1++q.1↔y∈a.1++[(x:Int)]++b.1;simp only[eN,eZ,A.mem hh'.1 y,B.mem hh'.2 y];constructor
     ·rintro((h|h)|h)
      ·exact .inl (.inr h)
      ·exact .inl (.inl h)
      ·exact .inr h
     ·rintro((h|h)|h)
      ·exact .inl (.inr h)
      ·exact .inl (.inl h)
      ·exact .inr h
   ·rw[Ia (y:=D) (by rw[←hFI];exact hF) hk,Zag hk,Zag hk];have LI:=(Is hd hu hF hl hx).1;have A:=Kx (F:=F) (i:=i) (only:=only) (D:=D) hd LI l1 h1 (Zg6 hd LI k _ l1 h1);have B:=Kx (F:=F) (i:=i) (only:=only) (D:=D) hd LI l2 h2 (Zg6 hd LI k _ l2 h2);generalize Hf (Cw F i only k) i only (x-2^k) 2 D D.par.late=a at A⊢;generalize Hf (Cw F i only k) i only (x+2^k) 2 D D.par.late=b at B⊢;have hp:=eU k;refine Nn hd hFI hl hx LI hF ?_ fun hok y=> ?_
    ·show(a.2.2&&b.2.2)=true↔_;rw[cC,A.ok,B.ok];constructor
     ·rintro⟨g1,g2⟩ y hy hne hs;rcases(Be h0).1 hy with e|h|h
      ·exact absurd e hne
      ·exact g1 y h hs
      ·exact g2 y h hs
     ·intro h;exact⟨fun y hy hs=>h y ((Be h0).2 (.inr (.inl hy))) (by have:=Hg h0 hy;omega) hs,fun y hy hs=>h y ((Be h0).2 (.inr (.inr hy))) (by have:=Fr hy;omega) hs⟩
    ·have hok':(a.2.2&&b.2.2)=true:=hok;rw[cC]at hok';show y∈a.1++[(x:Int)]++b.1↔_;simp only[eN,eZ,A.mem hok'.1 y,B.mem hok'.2 y];constructor
     ·rintro((⟨m,e,g1,g2⟩|e)|⟨m,e,g1,g2⟩)
      ·exact .inr ⟨m,e,(Be h0).2 (.inr (.inl g1)),by have:=Hg h0 g1;omega,g2⟩
      ·exact .inl e
      ·exact .inr ⟨m,e,(Be h0).2 (.inr (.inr g1)),by have:=Fr g1;omega,g2⟩
     ·rintro(e|⟨m,e,g1,g3,g2⟩)
      ·exact .inl (.inr e)
      ·rcases(Be h0).1 g1 with h|h|h
       ·exact absurd h g3
       ·exact .inl (.inl ⟨m,e,h,g2⟩)
       ·exact .inr ⟨m,e,h,g2⟩
def Ic (z j:Nat):Nat:=if anc z j<anc z (j+1)then anc z (j+1)+2^j else anc z (j+1)-2^j
theorem Pi (z j:Nat):2^j≤anc z (j+1)∧((anc z j=anc z (j+1)-2^j∧Ic z j=anc z (j+1)+2^j)∨(anc z j=anc z (j+1)+2^j∧Ic z j=anc z (j+1)-2^j)):=by
 have h:=halves z j;have e0:=anc_plo z j;have e1:=anc_plo z (j+1);have p0:phi z j=plo z j+(2^(j+1)-2):=rfl;have hp:=eU j;have ee:2^(j+1)=2*2^j:=(by rw[aN];omega);refine⟨by omega,?_⟩;unfold Ic;rcases h with⟨h1,h2,h3⟩|⟨h1,h2,h3⟩
 ·left;rw[if_pos (by omega)];omega
 ·right;rw[if_neg (by omega)];omega
theorem Pj (z j y:Nat):inR (j+1) (anc z (j+1)) y↔y=anc z (j+1)∨inR j (anc z j) y∨inR j (Ic z j) y:=by
 obtain⟨h0,h⟩:=Pi z j;rw[Be h0];rcases h with⟨h1,h2⟩|⟨h1,h2⟩<;>rw[h1,h2]
 rw[or_comm (a:=inR j (anc z (j+1)-2^j) y)]
theorem Tl (z j y:Nat)(h:inR j (Ic z j) y):¬inR j (anc z j) y∧y≠anc z (j+1):=by
 obtain⟨h0,h1⟩:=Pi z j;unfold inR at h⊢;omega
theorem Vh (z y:Nat):∀(n j:Nat),inR j (anc z j) y→inR (j+n) (anc z (j+n)) y:=by
 intro n
 induction n with
 |zero=>intro j h;exact h
 |succ n ih=>
  intro j h;have:=(Pj z (j+n) y).2 (.inr (.inl (ih j h)));exact this
theorem Zai {z j l y:Nat}(hjl:j<l)(h:inR j (Ic z j) y):¬inR l (Ic z l) y:=by
 intro h2;have h3:=Vh z y (l-(j+1)) (j+1) ((Pj z j y).2 (.inr (.inr h)));rw[show j+1+(l-(j+1))=l by omega]at h3;exact(Tl z l y h2).1 h3
theorem Ze7 {z j l:Nat}(h:inR j (Ic z j) (anc z l)):False:=by
 rcases aB j l with hl|hl
 ·have h1:=(Pj z j (anc z l)).2 (.inr (.inr h));have h2:=Zd1 (anc_lev z (j+1)) (anc_lev z l) h1;have:l=j+1:=(by omega);subst this;exact(Tl z j _ h).2 rfl
 ·have h1:=Vh z (anc z l) (j-l) l (Fc _ _);rw[show l+(j-l)=j by omega]at h1;exact(Tl z j _ h).1 h1
theorem Mb (hd:d≤16) {z j:Nat}(hz:z+1<2^(d+1))(hj:j<d):IsLev (Ic z j) j∧Ic z j+2^j≤2*2^d-1:=by
 obtain⟨hM,e2⟩:=Df hd;obtain⟨h0,h⟩:=Pi z j;have hl:=anc_lev z (j+1);have ha:=anc_le (x:=z) (d:=d) (j:=j+1) (by omega) (by omega);have hu:=Oz ha hd;rw[lev_eq (by omega) hl]at hu;obtain⟨l1,l2,-,b1,b2,-,-⟩:=Fd (M:=2*2^d-1) hl (by omega) hM;rcases h with⟨h1,h2⟩|⟨h1,h2⟩
 ·rw[h2];exact⟨l2,b2⟩
 ·rw[h2];exact⟨l1,b1⟩
theorem Zge (hd:d≤16) {z j:Nat}(hz:z+1<2^(d+1))(hj:j≤d):anc z j+2^j≤2*2^d-1:=by
 obtain⟨hM,e2⟩:=Df hd;have ha:=anc_le (x:=z) (d:=d) (j:=j) (by omega) hj;have hu:=Oz ha hd;rw[lev_eq (by omega) (anc_lev z j)]at hu;omega
structure OwnS (FI:Int→Option NodeD) (d z:Nat) (only:Bool) (k:Nat) (v:List Int×List Int×Bool):Prop where
 ok:v.2.2=true↔(∀j,j≤k→(FI (anc z j:Nat)).isSome=true)∧(only=false→∀j,j<k→(Av FI d j (Ic z j)).2=true)
 mem:v.2.2=true→∀y:Int,y∈v.1↔(∃j,j≤k∧y=(anc z j:Nat))∨(only=false∧∃j,j<k∧y∈(Av FI d j (Ic z j)).1)
theorem Vi {z k:Nat} {v a b:List Int×List Int×Bool} (hF:(FI (anc z (k+1):Nat)).isSome=true) (hv:v.2.2=(a.2.2&&b.2.2)) (hm:∀y:Int,y∈v.1↔y∈a.1∨y=(anc z (k+1):Nat)∨y∈b.1) (ha:OwnS FI d z only k a)
  (hb:b.2.2=(only||(Av FI d k (Ic z k)).2)) (hbm:b.2.2=true→∀y,y∈b.1↔only=false∧y∈(Av FI d k (Ic z k)).1):OwnS FI d z only (k+1) v:=by
 constructor
 ·rw[hv,cC,ha.ok,hb,cD];constructor
  ·rintro⟨⟨h1,h2⟩,h3⟩;refine⟨fun j hj=> ?_,fun ho j hj=> ?_⟩
   ·by_cases e:j=k+1
    ·rw[e];exact hF
    ·exact h1 j (by omega)
   ·by_cases e:j=k
    ·rw[e];rcases h3 with h3|h3
     ·rw[ho]at h3;cases h3
     ·exact h3
    ·exact h2 ho j (by omega)
  ·rintro⟨h1,h2⟩;refine⟨⟨fun j hj=>h1 j (by omega),fun ho j hj=>h2 ho j (by omega)⟩,?_⟩;cases ho:only with
   |true=>exact .inl rfl
   |false=>exact .inr (h2 ho k (by omega))
 ·intro hok y;rw[hv,cC]at hok;rw[hm y,ha.mem hok.1 y,hbm hok.2 y];constructor
  ·rintro((⟨j,hj,e⟩|⟨ho,j,hj,e⟩)|e|⟨ho,e⟩)
   ·exact .inl ⟨j,by omega,e⟩
   ·exact .inr ⟨ho,j,by omega,e⟩
   ·exact .inl ⟨k+1,lR,e⟩
   ·exact .inr ⟨ho,k,by omega,e⟩
  ·rintro(⟨j,hj,e⟩|⟨ho,j,hj,e⟩)
   ·by_cases ej:j=k+1
    ·subst ej;exact .inr (.inl e)
    ·exact .inl (.inl ⟨j,by omega,e⟩)
   ·by_cases ej:j=k
    ·subst ej;exact .inr (.inr ⟨ho,e⟩)
    ·exact .inl (.inr ⟨ho,j,by omega,e⟩)
theorem Ra (hd:d≤16) {k c:Nat} {V:Nat→Nat→List Int→List Int×List Int×Bool} {D:NodeD} {late:List Int}(hi:2*i+1<2^(d+1))(hl:IsLev c k)(hc:c+2^k≤2*2^d-1):
  Hf V i only c 0 D late=if c=anc (2*i) k then V c 0 []else if only=true then([],[(c:Int)],true)else V c 1 []:=by
 obtain⟨hM,e2⟩:=Df hd;have hp:=eU k;have hu:=Zae hd hi (x:=c) (by omega);rw[lev_eq (by omega) hl]at hu;unfold Hf;rw[hu]
 by_cases h:c=anc (2*i) k
 ·rw[if_pos ⟨rfl,decide_eq_true h⟩,if_pos h]
 ·rw[if_neg (by rintro⟨_,h2⟩;exact h (of_decide_eq_true h2)),if_neg h]
  by_cases ho:only=true
  ·rw[if_pos ⟨rfl,ho⟩,if_pos ho]
  ·rw[if_neg (by rintro⟨_,h2⟩;exact ho h2),if_neg ho,if_pos (.inl rfl)]
theorem Zaj (hd:d≤16)(hFI:∀n:Nat,F n=FI (n:Int))(hu:Ct F) {k c:Nat}(hl:IsLev c k)(hc:c+2^k≤2*2^d-1):
  let b:List Int×List Int×Bool:=if only=true then([],[(c:Int)],true)else Cw F i only k c 1 []
  b.2.2=(only||(Av FI d k c).2)∧(b.2.2=true→∀y,y∈b.1↔only=false∧y∈(Av FI d k c).1):=by
 intro b;have W:=Vg (i:=i) (only:=only) hd hFI hu k c [] hl hc;cases ho:only with
 |true=>
  have e:b=([],[(c:Int)],true):=(by show(if only=true then _ else _)=_;rw[if_pos ho]);rw[e];exact⟨rfl,fun _ y=>by simp⟩
 |false=>
  have e:b=Cw F i only k c 1 []:=(by show(if only=true then _ else _)=_;rw[if_neg (by rw[ho];simp)]);rw[e];refine⟨by rw[W.ok,Bool.false_or],fun h y=> ?_⟩;rw[W.ok]at h;rw[←W.mem h y];exact⟨fun h=>⟨rfl,h⟩,fun h=>h.2⟩
theorem Zd2 (hd:d≤16)(hFI:∀n:Nat,F n=FI (n:Int))(hu:Ct F)(hi:2*i+1<2^(d+1)):∀k,k≤d→OwnS FI d (2*i) only k (Cw F i only k (anc (2*i) k) 0 []):=by
 obtain⟨hM,e2⟩:=Df hd;intro k
 induction k with
 |zero=>
  intro _;cases hF:F (anc (2*i) 0)with
  |none=>
   rw[By hF];refine⟨⟨fun h=>(by cases h),fun h=> ?_⟩,fun h=>by cases h⟩;have:=h.1 0 lR;rw[←hFI,hF]at this;cases this
  |some D=>
   rw[Fp hF];refine⟨⟨fun _=>⟨fun j hj=> ?_,fun _ j hj=>by omega⟩,fun _=>rfl⟩,fun _ y=> ?_⟩
   ·obtain rfl:j=0:=(by omega);rw[←hFI,hF];rfl
   ·simp only[eZ];constructor
    ·exact fun e=> .inl ⟨0,lR,e⟩
    ·rintro(⟨j,hj,e⟩|⟨_,j,hj,_⟩)
     ·obtain rfl:j=0:=(by omega);exact e
     ·omega
 |succ k ih=>
  intro hk;have hl:=anc_lev (2*i) (k+1);have hb:=Zge hd (z:=2*i) (j:=k+1) (by omega) hk;obtain⟨l1,l2,h0,h1,h2,-,-⟩:=Fd hl hb hM;cases hF:F (anc (2*i) (k+1))with
  |none=>
   rw[By hF];refine⟨⟨fun h=>(by cases h),fun h=> ?_⟩,fun h=>by cases h⟩;have:=h.1 (k+1) lR;rw[←hFI,hF]at this;cases this
  |some D=>
   rw[Eo hF,if_neg (by omega)];have HF:(FI (anc (2*i) (k+1):Nat)).isSome=true:=(by rw[←hFI,hF];rfl);have A:=ih (by omega);rw[Ra hd hi l1 h1,Ra hd hi l2 h2];have hp:=eU k;rcases(Pi (2*i) k).2 with⟨c1,c2⟩|⟨c1,c2⟩
   ·rw[if_pos c1.symm,if_neg (by omega),←c1,←c2];have hs:=Mb hd (z:=2*i) (j:=k) (by omega) (by omega);obtain⟨s1,s2⟩:=Zaj (F:=F) (FI:=FI) (i:=i) (only:=only) hd hFI hu hs.1 hs.2;refine Vi HF rfl (fun y=> ?_) A s1 s2;simp only[Th,eN,eZ];rw[or_assoc]
   ·rw[if_neg (by omega),if_pos c1.symm,←c1,←c2];have hs:=Mb hd (z:=2*i) (j:=k) (by omega) (by omega);obtain⟨s1,s2⟩:=Zaj (F:=F) (FI:=FI) (i:=i) (only:=only) hd hFI hu hs.1 hs.2;refine Vi HF (Bool.and_comm _ _) (fun y=> ?_) A s1 s2;simp only[Th,eN,eZ];constructor
    ·rintro((h|h)|h)
     ·exact .inr (.inr h)
     ·exact .inr (.inl h)
     ·exact .inl h
    ·rintro(h|h|h)
     ·exact .inr h
     ·exact .inl (.inr h)
     ·exact .inl (.inl h)
end
def Ac (FI:Int→Option NodeD)(d i:Nat)(only:Bool)(r:Nat):List Int:=upL d (i:Int)++if only=true then []else(aF r).flatMap fun j=>(Av FI d j (Ic (2*i) j)).1
def Bm (FI:Int→Option NodeD)(d i:Nat)(only:Bool)(r:Nat):Bool:=((upL d (i:Int)).all fun y=>(FI y).isSome)&&(only||(aF r).all fun j=>(Av FI d j (Ic (2*i) j)).2)
def Hu (out:List Int)(z:Int):List Int:=(if 0≤Do z∧Do z∉out then [Do z]else [])++(if 0≤Br z∧Br z∉out then [Br z]else [])
def Cv (out:List Int):List Int:=out.flatMap (Hu out)
def Ka (FI:Int→Option NodeD)(d i:Nat)(only:Bool):List Int×List Int×Bool:=(Du (Ac FI d i only d),Du (Cv (Ac FI d i only d)),Bm FI d i only d)
theorem Hh {out:List Int} {z y:Int}:y∈Hu out z↔Na z y∧y∉out:=by
 unfold Hu Na;rw[eN];constructor
 ·rintro(h|h)
  ·split at h
   ·rename_i hc;rw[eZ]at h;subst h;exact⟨⟨hc.1,.inl rfl⟩,hc.2⟩
   ·cases h
  ·split at h
   ·rename_i hc;rw[eZ]at h;subst h;exact⟨⟨hc.1,.inr rfl⟩,hc.2⟩
   ·cases h
 ·rintro⟨⟨h0,rfl|rfl⟩,h2⟩
  ·left;rw[if_pos ⟨h0,h2⟩];simp
  ·right;rw[if_pos ⟨h0,h2⟩];simp
theorem Tm {out:List Int} {y:Int}:y∈Cv out↔(∃z∈out,Na z y)∧y∉out:=by
 unfold Cv;rw[fC];constructor
 ·rintro⟨z,hz,h⟩;obtain⟨h1,h2⟩:=Hh.1 h;exact⟨⟨z,hz,h1⟩,h2⟩
 ·rintro⟨⟨z,hz,h1⟩,h2⟩;exact⟨z,hz,Hh.2 ⟨h1,h2⟩⟩
theorem Np {z:Nat} {y:Int}(hz:z≤131070)(h:Na (z:Int) y):∃m k:Nat,y=(m:Int)∧IsLev m k∧anc m (k+1)=z:=by
 obtain⟨h0,h⟩:=h;have hl:=lev_is hz;cases hk:lev z with
 |zero=>
  rw[hk]at hl;obtain⟨e1,e2⟩:=Pg hz hl;rw[e1,e2]at h;omega
 |succ k=>
  rw[hk]at hl;obtain⟨e1,e2,l1,l2,hx⟩:=Go.Proofs.YtfofaiommeckbaaGreat.kids_lev hz hl;have hp:=eU k;rw[e1,e2]at h;rcases h with h|h
  ·exact⟨_,k,h,l1,Tj hl ((Be hx).2 (.inr (.inl (Fc _ _))))⟩
  ·exact⟨_,k,h,l2,Tj hl ((Be hx).2 (.inr (.inr (Fc _ _))))⟩
theorem Ze8 {z z':Nat} {y:Int}(hz:z≤131070)(hz':z'≤131070)(h:Na (z:Int) y)(h':Na (z':Int) y):z=z':=by
 obtain⟨m,k,rfl,hl,e⟩:=Np hz h;obtain⟨m',k',e1,hl',e'⟩:=Np hz' h';obtain rfl:m=m':=(by omega);have:=lev_unique hl hl';rw[←e,←e',this]
theorem Xc {out:List Int} {z:Nat}(hz:z≤131070):(Hu out (z:Int)).Nodup:=by
 unfold Hu;rw[fA];refine⟨by split<;>simp,by split<;>simp,fun a ha b hb e=> ?_⟩
 split at ha
 ·split at hb
  ·rename_i c1 c2
   rw[eZ]at ha hb;have hl:=lev_is hz;cases hk:lev z with
   |zero=>
    rw[hk]at hl;obtain⟨e1,e2⟩:=Pg hz hl;omega
   |succ k=>
    rw[hk]at hl;obtain⟨e1,e2,l1,l2,hx⟩:=Go.Proofs.YtfofaiommeckbaaGreat.kids_lev hz hl;have hp:=eU k;omega
  ·cases hb
 ·cases ha
theorem Xd {out:List Int}(hn:out.Nodup)(ho:∀z∈out,∃n:Nat,z=(n:Int)∧n≤131070):(Cv out).Nodup:=by
 unfold Cv List.Nodup;rw[fD];refine⟨fun z hz=> ?_,?_⟩
 ·obtain⟨n,rfl,h⟩:=ho z hz;exact Xc h
 ·refine List.Pairwise.imp_of_mem (fun {a b} ha hb hne x hx y hy e=> ?_) hn;obtain⟨n,rfl,h1⟩:=ho a ha;obtain⟨m,rfl,h2⟩:=ho b hb;subst e;exact hne (by rw[Ze8 h1 h2 (Hh.1 hx).1 (Hh.1 hy).1])
theorem Nq {L:List Int}(h:L.Pairwise (· < ·)):L.Nodup:=by rw[List.nodup_iff_pairwise_ne];exact h.imp fun h e=>by omega
section
variable {FI:Int→Option NodeD} {F:Nat→Option NodeD} {i d:Nat} {only:Bool}
theorem Zak (z:Nat):∀(k j:Nat),(ups z j k).Nodup:=by
 intro k
 induction k with
 |zero=>intro j;simp[ups]
 |succ k ih=>
  intro j;rw[ups,fE];refine⟨fun h=> ?_,ih _⟩;obtain⟨l,h1,h2,e⟩:=(Ph _ _ _).1 h;have:=lev_unique (anc_lev z (j+1)) (by rw[e];exact anc_lev z l);omega
theorem Zal (hd:d≤16)(hi:2*i+1<2^(d+1)):(upL d (i:Int)).Nodup:=by
 obtain⟨hM,e2⟩:=Df hd;have hl:=Ip (q:=2*i) (by omega) (by omega);have e2:2*(i:Int)=((2*i:Nat):Int):=(by omega);unfold upL;rw[e2,Ov hd hi,hl,dE,fE];refine⟨fun h=> ?_,?_⟩
 ·rw[eM]at h;obtain⟨n,hn,e⟩:=h;obtain⟨l,h1,h2,e3⟩:=(Ph _ _ _).1 hn;have h3:=anc_lev (2*i) l;rw[←e3,show n=2*i by omega]at h3;have:=lev_unique h3 (show IsLev (2*i) 0 from by unfold IsLev;simp);omega
 ·have:=Zak (2*i) d 0;unfold List.Nodup at this⊢;rw[List.pairwise_map];exact this.imp fun h e=>h (by omega)
theorem Vj (hd:d≤16)(hFI:∀n:Nat,F n=FI (n:Int))(hu:Ct F)(hi:2*i+1<2^(d+1)):(Cw F i only d (2^d-1) 0 []).2.2=Bm FI d i only d:=by
 have O:=Zd2 (only:=only) hd hFI hu hi d lR;rw[anc_root (by omega)]at O;rw[fG,O.ok];unfold Bm;rw[cC,cD,bU,bU];constructor
 ·rintro⟨h1,h2⟩;refine⟨fun y hy=> ?_,?_⟩
  ·obtain⟨j,hj,rfl⟩:=(Jk hd hi y).1 hy;exact h1 j hj
  ·cases ho:only with
   |true=>exact .inl rfl
   |false=>exact .inr fun j hj=>h2 ho j (List.mem_range.1 hj)
 ·rintro⟨h1,h2⟩;refine⟨fun j hj=>h1 _ ((Jk hd hi _).2 ⟨j,hj,rfl⟩),fun ho j hj=> ?_⟩;rcases h2 with h2|h2
  ·rw[ho]at h2;cases h2
  ·exact h2 j (List.mem_range.2 hj)
theorem Zam (hd:d≤16)(hFI:∀n:Nat,F n=FI (n:Int))(hu:Ct F)(hi:2*i+1<2^(d+1))(hok:(Cw F i only d (2^d-1) 0 []).2.2=true):
  Du (Ac FI d i only d)=(Cw F i only d (2^d-1) 0 []).1∧Du (Cv (Ac FI d i only d))=(Cw F i only d (2^d-1) 0 []).2.1:=by
 obtain⟨hM,e2⟩:=Df hd;have hok2:=hok;rw[Vj hd hFI hu hi,Bm,cC,cD,bU,bU]at hok2;have O:=Zd2 (only:=only) hd hFI hu hi d lR;rw[anc_root (by omega)]at O;have hroot:IsLev (2^d-1) d:=by
  have:=eU d;unfold IsLev;rw[aN];have:(2^d-1)%(2^d*2)=2^d-1:=Nat.mod_eq_of_lt (by omega);omega
 have hp:=eU d;have SP:=Dl (F:=F) (i:=i) (only:=only) d (2^d-1) 0 [] hroot (by omega);have SH:=(Zac (F:=F) (i:=i) (only:=only) d (2^d-1) 0 [] hroot (by omega) hok).2;have OM:=O.mem hok;generalize Cw F i only d (2^d-1) 0 []=v at SP SH OM hok⊢;have WH:only=false→∀j,j<d→(Av FI d j (Ic (2*i) j)).1.Nodup∧∀y∈(Av FI d j (Ic (2*i) j)).1,∃m:Nat,y=(m:Int)∧inR j (Ic (2*i) j) m:=by
  intro ho j hj;obtain⟨s1,s2⟩:=Mb hd (z:=2*i) (j:=j) (by omega) hj;have W:=Vg (i:=i) (only:=only) hd hFI hu j _ [] s1 s2;have wk:(Av FI d j (Ic (2*i) j)).2=true:=by
   rcases hok2.2 with h|h
   ·rw[ho]at h;cases h
   ·exact h j (List.mem_range.2 hj)
  exact⟨W.nd wk,fun y hy=>(Dl (F:=F) (i:=i) (only:=only) j _ 1 [] s1 (by omega)).op y ((W.mem wk y).1 hy)⟩
 have hmem:∀y,y∈Ac FI d i only d↔y∈v.1:=by
  intro y;rw[OM y];unfold Ac;rw[eN,Jk hd hi];cases ho:only with
  |true=>simp
  |false=>
   simp only[Bool.false_eq_true,if_false,fC,List.mem_range,true_and]
 have hnd:(Ac FI d i only d).Nodup:=by
  unfold Ac;rw[fA];refine⟨Zal hd hi,?_,?_⟩
  ·split
   ·simp
   ·rename_i ho
    rw[dA]at ho;unfold List.Nodup;rw[fD];refine⟨fun j hj=>(WH ho j (List.mem_range.1 hj)).1,?_⟩;refine List.Pairwise.imp_of_mem (fun {a b} ha hb hlt x hx y hy e=> ?_) List.pairwise_lt_range;obtain⟨m,e1,h1⟩:=(WH ho a (List.mem_range.1 ha)).2 x hx;obtain⟨m',e3,h3⟩:=(WH ho b (List.mem_range.1 hb)).2 y hy;obtain rfl:m=m':=(by omega);exact Zai hlt h1 h3
  ·intro a ha b hb e
   split at hb
   ·cases hb
   ·rename_i ho
    rw[dA]at ho;rw[fC]at hb;obtain⟨j,hj,hb⟩:=hb;obtain⟨m,e1,h1⟩:=(WH ho j (List.mem_range.1 hj)).2 b hb;obtain⟨l,hl,e3⟩:=(Jk hd hi a).1 ha;have:m=anc (2*i) l:=(by omega);rw[this]at h1;exact Ze7 h1
 have hvn:=Nq SP.opr;have hvs:=Nq SP.shr;refine⟨Go.Proofs.YtfofaiommeckbaaGreat.sortL_eq ((fF hnd hvn).2 hmem) SP.opr,Go.Proofs.YtfofaiommeckbaaGreat.sortL_eq ((fF (Xd hnd fun z hz=> ?_) hvs).2 fun y=> ?_) SP.shr⟩
 ·obtain⟨m,e,h⟩:=SP.op z ((hmem z).1 hz);exact⟨m,e,by unfold inR at h;omega⟩
 ·rw[Tm,SH y,hmem y];constructor
  ·rintro⟨⟨z,hz,h1⟩,h2⟩;exact⟨⟨z,(hmem z).1 hz,h1⟩,h2⟩
  ·rintro⟨⟨z,hz,h1⟩,h2⟩;exact⟨⟨z,(hmem z).2 hz,h1⟩,h2⟩
end
end
end Go.Proofs.YtfofaiommeckbaaGreat
