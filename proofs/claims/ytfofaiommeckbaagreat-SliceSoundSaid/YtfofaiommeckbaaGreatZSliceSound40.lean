/- Plain: what the bytes of a sparse tree are read as, and that it has rising places and right nodes. -/
import Derived.Test.YtfofaiommeckbaaGreatZSliceSoundB
import Derived.Test.YtfofaiommeckbaaGreatZSliceSound39
import Derived.Test.YtfofaiommeckbaaGreatZSliceSound30
open List renaming length_nil → bW, length_cons → cB, mem_singleton → fP
open Nat renaming pow_zero → gX, zero_le → aA
set_option linter.unusedVariables false
set_option maxRecDepth 100000
set_option maxHeartbeats 40000000
namespace Go.Proofs.YtfofaiommeckbaaGreat
open Go.RowKit WalkM WireM
structure RdR where
 er:Nat
 op:List (Int×NodeD)
 sh:List (Int×List Nat)
 rest:List Nat
def Sf (e:Nat):RdR:=⟨e,[],[],[]⟩
def Kk (x:Nat)(M:List Nat)(K:NodeD→List Nat→RdR):RdR:=
 if(Bj M 0).1≠0 then Sf (Bj M 0).1 else
 if x%2=0∧(Bj M 0).2.1.kind=2∨x%2=1∧(Bj M 0).2.1.kind=1 then Sf 3 else K (Bj M 0).2.1 (Bj M 0).2.2.1
def Nx (x:Nat)(L:List Nat)(K:NodeD→List Nat→RdR):RdR:=
 match L with
 |[]=>Sf 4
 |b::M=>if 1<b then Sf 3 else if b=0 then(if M.length<32 then Sf 4 else⟨0,[],[((x:Int),M.take 32)],M.drop 32⟩)else Kk x M K
def Um (x:Nat)(d:NodeD)(l:RdR)(r:RdR):RdR:=
 if l.er≠0 then Sf l.er else if r.er≠0 then Sf r.er else⟨0,l.op++((x:Int),d)::r.op,l.sh++r.sh,r.rest⟩
def rdP:Nat→Nat→List Nat→RdR
 |0,x,L=>Nx x L fun d R=>⟨0,[((x:Int),d)],[],R⟩
 |k+1,x,L=>Nx x L fun d R=>Um x d (rdP k (x-2^k) R) (rdP k (x+2^k) (rdP k (x-2^k) R).rest)
structure RdOk (L:List Nat) (lo hi:Int) (r:RdR):Prop where
 sub:Sub r.rest L
 len:r.op.length+r.sh.length+r.rest.length≤L.length
 opIn:∀p∈r.op,lo<p.1∧p.1<hi
 shIn:∀p∈r.sh,lo<p.1∧p.1<hi
 opUp:r.op.Pairwise fun p q=>p.1<q.1
 shUp:r.sh.Pairwise fun p q=>p.1<q.1
 node:∀p∈r.op,Ao p.2=true∧4*p.2.par.late.length≤L.length∧((∀n∈L,n<256)→NodeOk p.2)
 hash:∀p∈r.sh,p.2.length=32∧Sub p.2 L
theorem Zr {α:Type} {R: α→α→Prop} {l m:List α}(hl:l.Pairwise R)(hm:m.Pairwise R)(h:∀a∈l,∀b∈m,R a b):(l++m).Pairwise R:=List.pairwise_append.2 ⟨hl,hm,h⟩
theorem Ze0 {x:Nat} {L:List Nat} {K:NodeD→List Nat→RdR} {f g:Int} (j:f<x) (u:(x:Int)<g) (h:(Nx x L K).er=0)
  (s:∀M d R,TkOk M d R→L.length=M.length+1→(K d R).er=0→RdOk M f g (K d R)):RdOk L f g (Nx x L K):=by
 unfold Nx at h⊢;cases L with
 |nil=>cases h
 |cons b M=>
  have c:Sub M (b::M):=⟨by simp,fun x hx=>List.mem_cons_of_mem _ hx⟩;simp only at h⊢
  by_cases c1:1<b
  ·rw[if_pos c1]at h;cases h
  ·rw[if_neg c1]at h⊢
   by_cases c2:b=0
   ·rw[if_pos c2]at h⊢
    by_cases c3:M.length<32
    ·rw[if_pos c3]at h;cases h
    ·rw[if_neg c3];exact⟨(Sub.drop _ _).trans c,by simp only[bW,cB,List.length_drop];omega,fun p a=>(by simp at a),fun p a=>by simp only[fP]at a;rw[a];exact⟨j,u⟩,List.Pairwise.nil,by simp,fun p a=>(by simp at a),fun p a=>by simp only[fP]at a;rw[a];exact⟨by simp only[List.length_take];omega,(Sub.take _ _).trans c⟩⟩
   ·rw[if_neg c2]at h⊢;unfold Kk at h⊢
    by_cases c3:(Bj M 0).1≠0
    ·rw[if_pos c3]at h;exact absurd h c3
    ·rw[if_neg c3]at h⊢;have hk:=Nw (L:=M) (by omega)
     split at h
     ·cases h
     ·rename_i c4
      rw[if_neg c4];obtain⟨m,v,t,r,o,k,e,i⟩:=s M _ _ hk.2 (by simp) h;exact⟨m.trans c,by simp only[cB];omega,t,r,o,k,fun p a=>⟨(e p a).1,by have:=(e p a).2.1;simp only[cB];omega,fun l=>(e p a).2.2 fun n q=>l n (c.2 n q)⟩,fun p a=>⟨(i p a).1,(i p a).2.trans c⟩⟩
theorem Un:∀k x (L:List Nat),2^k≤x+1→(rdP k x L).er=0→RdOk L ((x:Int)-((2^k:Nat):Int)) ((x:Int)+((2^k:Nat):Int)) (rdP k x L):=by
 intro k
 induction k with
 |zero=>
  intro x L hx h;unfold rdP at h⊢;refine Ze0 (by simp only[gX];omega) (by simp only[gX];omega) h fun M d R b I _=> ?_;exact⟨b.sub,by have:=b.len;simp only[cB,bW];omega,fun p a=>by simp only[fP]at a;rw[a];simp only[gX];omega,fun p a=>by simp at a,by simp,List.Pairwise.nil,fun p a=>by simp only[fP]at a;rw[a];exact⟨b.right,b.late,b.ok⟩,fun p a=>by simp at a⟩
 |succ k ih=>
  intro x L hx h;have e2:2^(k+1)=2*2^k:=(by rw[Nat.pow_succ];omega);have a:=Nat.two_pow_pos k;unfold rdP at h⊢;refine Ze0 (by omega) (by omega) h fun M d R b I f=> ?_;unfold Um at f⊢
  split at f
  ·rename_i c;exact absurd f c
  ·rename_i c1
   split at f
   ·rename_i c;exact absurd f c
   ·rename_i c2
    rw[if_neg c1,if_neg c2];generalize hl1:rdP k (x-2^k) R=l at c1 c2⊢;have z:=ih (x-2^k) R (by omega) (by rw[hl1];omega);rw[hl1]at z;generalize hr1:rdP k (x+2^k) l.rest=r at c2⊢;have h2:=ih (x+2^k) l.rest (by omega) (by rw[hr1];omega);rw[hr1]at h2;have e3:((x-2^k:Nat):Int)+((2^k:Nat):Int)=(x:Int):=(by omega);have D:((x+2^k:Nat):Int)-((2^k:Nat):Int)=(x:Int):=(by omega);have H:((x-2^k:Nat):Int)-((2^k:Nat):Int)=(x:Int)-((2^(k+1):Nat):Int):=(by omega);have A:((x+2^k:Nat):Int)+((2^k:Nat):Int)=(x:Int)+((2^(k+1):Nat):Int):=(by omega);obtain⟨g,O,i,u,F,B,s,y⟩:=z;obtain⟨J,N,j,v,E,G,m,w⟩:=h2;rw[e3,H]at i u;rw[D,A]at j v;have C:=J.trans g;have K:=b.len;have g2:=b.sub;have g3:=g.1;refine⟨C.trans g2,by simp only[List.length_append,cB];omega,fun p a=> ?_,fun p a=> ?_,?_,?_,fun p a=> ?_,fun p a=> ?_⟩
    ·rcases List.mem_append.1 a with a|a
     ·have:=i p a;omega
     ·rcases List.mem_cons.1 a with rfl|a
      ·simp only;omega
      ·have:=j p a;omega
    ·rcases List.mem_append.1 a with a|a
     ·have:=u p a;omega
     ·have:=v p a;omega
    ·refine Zr F (List.pairwise_cons.2 ⟨fun q e=>(j q e).1,E⟩) fun p a q e=> ?_;rcases List.mem_cons.1 e with rfl|e
     ·exact(i p a).2
     ·have:=(i p a).2;have:=(j q e).1;omega
    ·refine Zr B G fun p a q e=> ?_;have:=(u p a).2;have:=(v q e).1;omega
    ·rcases List.mem_append.1 a with a|a
     ·exact⟨(s p a).1,by have:=(s p a).2.1;omega,fun o=>(s p a).2.2 fun n t=>o n (g2.2 n t)⟩
     ·rcases List.mem_cons.1 a with rfl|a
      ·exact⟨b.right,b.late,b.ok⟩
      ·exact⟨(m p a).1,by have:=(m p a).2.1;omega,fun o=>(m p a).2.2 fun n t=>o n (g2.2 n (g.2 n t))⟩
    ·rcases List.mem_append.1 a with a|a
     ·exact⟨(y p a).1,(y p a).2.trans g2⟩
     ·exact⟨(w p a).1,(w p a).2.trans (g.trans g2)⟩
def Ji (L:List Nat):Nat:=Ds (L.take 4)
def Ja:SparseD:=⟨0,0,[],[]⟩
def ofS (only:Bool)(m:Nat)(b:List Nat):Nat×SparseD:=
 if 1048576<b.length then(6,Ja)else
 match b with
 |[]=>(4,Ja)
 |c::L=>if c≠m then(3,Ja)else
  if L.length<4 then(4,Ja)else
  if fits (Ji L)=false then(3,Ja)else
  if L.length<8 then(4,Ja)else
  if Ji L≤Ji (L.drop 4)then(3,Ja)else
  let r:=rdP (Nat.log2 (Ji L)) (Ji L-1) (L.drop 8)
  if r.er≠0 then(r.er,Ja)else
  if r.rest≠[]then(5,Ja)else
  if Ar ⟨Ji L,Ji (L.drop 4),r.op,r.sh⟩ only=true then(0,⟨Ji L,Ji (L.drop 4),r.op,r.sh⟩)else(3,Ja)
end Go.Proofs.YtfofaiommeckbaaGreat
namespace Go.Proofs.YtfofaiommeckbaaGreat
open Go.RowKit WireM
open WalkM
theorem Ze1 {L:List Nat} {er:Nat} {n:Int}(h:er≤6):(Cm L er n).2.2≤6:=by
 unfold Cm
 split
 ·exact h
 ·split
  ·show 1≤6;omega
  ·split
   ·show 4≤6;omega
   ·exact aA _
theorem Zl4 {L:List Nat} {er:Nat} {n:Int}(h:er≤6):(Fe L er n).2.2≤6:=Ze1 h
theorem Zl5 (b:Nat)(M:List Nat):(Of b M).2.2≤6:=by
 unfold Of
 split
 ·show 3≤6;omega
 ·split
  ·show 4≤6;omega
  ·split
   ·exact aA _
   ·show 3≤6;omega
theorem Lm {L:List Nat} {er:Nat}(h:er≤6):(By L er).2.2≤6:=by
 have hl:(Br L er).2.2≤6:=by
  unfold Br
  split
  ·exact h
  ·split
   ·show 4≤6;omega
   ·exact Zl5 _ _
 unfold By
 split
 ·rename_i M e hm;rw[hm]at hl;exact hl
 ·rename_i n M e hm;rw[hm]at hl;exact Ze1 hl
theorem Zih (L:List Nat):(Cw L 0).1≤6:=by
 unfold Cw;simp only;have c:(By L 0).2.2≤6:=Lm (aA _);generalize By L 0=r1 at c⊢;have h2:(By r1.2.1 r1.2.2).2.2≤6:=Lm c;generalize By r1.2.1 r1.2.2=r2 at h2⊢;have h3:(By r2.2.1 r2.2.2).2.2≤6:=Lm h2;generalize By r2.2.1 r2.2.2=r3 at h3⊢;have a:(Fe r3.2.1 r3.2.2 1).2.2≤6:=Zl4 h3;generalize Fe r3.2.1 r3.2.2 1=r4 at a⊢;have b:(if Ds r4.1=3 then By r4.2.1 r4.2.2 else([],r4.2)).2.2≤6:=by
  split
  ·exact Lm a
  ·exact a
 generalize(if Ds r4.1=3 then By r4.2.1 r4.2.2 else([],r4.2))=r5 at b⊢;have d:(By r5.2.1 r5.2.2).2.2≤6:=Lm b;generalize By r5.2.1 r5.2.2=r6 at d⊢
 split
 ·exact a
 ·split
  ·show 3≤6;omega
  ·split
   ·exact d
   ·split
    ·exact aA _
    ·show 3≤6;omega
theorem Zk1 (L:List Nat):(Fp L 0).1≤6:=by
 unfold Fp;simp only;have a:(By L 0).2.2≤6:=Lm (aA _);generalize By L 0=r1 at a⊢;have h2:(By r1.2.1 r1.2.2).2.2≤6:=Lm a;generalize By r1.2.1 r1.2.2=r2 at h2⊢;have h3:(By r2.2.1 r2.2.2).2.2≤6:=Lm h2;generalize By r2.2.1 r2.2.2=r3 at h3⊢
 split
 ·exact h3
 ·split
  ·exact aA _
  ·show 3≤6;omega
theorem Zii (L:List Nat):(Bj L 0).1≤6:=by
 unfold Bj;simp only[Fz];cases L with
 |nil=>show 4≤6;omega
 |cons b M=>
  simp only[ne_eq,not_true_eq_false,if_false]
  split
  ·exact aA _
  ·split
   ·split
    ·exact aA _
    ·exact Zih M
   ·split
    ·split
     ·exact aA _
     ·exact Zk1 M
    ·show 3≤6;omega
theorem Zij {x:Nat} {M:List Nat} {K:NodeD→List Nat→RdR}(h:∀d R,(K d R).er≤6):(Kk x M K).er≤6:=by
 unfold Kk
 split
 ·exact Zii M
 ·split
  ·show 3≤6;omega
  ·exact h _ _
theorem Zjr {x:Nat} {L:List Nat} {K:NodeD→List Nat→RdR}(h:∀d R,(K d R).er≤6):(Nx x L K).er≤6:=by
 unfold Nx
 split
 ·show 4≤6;omega
 ·split
  ·show 3≤6;omega
  ·split
   ·split
    ·show 4≤6;omega
    ·exact aA _
   ·exact Zij h
theorem Zm2:∀k x L,(rdP k x L).er≤6:=by
 intro k
 induction k with
 |zero=>intro x L;unfold rdP;exact Zjr fun _ _=>aA _
 |succ k ih=>
  intro x L;unfold rdP;refine Zjr fun d R=> ?_;unfold Um
  split
  ·exact ih _ _
  ·split
   ·exact ih _ _
   ·exact aA _
theorem Zm3 (only:Bool)(m:Nat)(b:List Nat):(ofS only m b).1≤6:=by
 unfold ofS
 split
 ·show 6≤6;omega
 ·split
  ·show 4≤6;omega
  ·split
   ·show 3≤6;omega
   ·split
    ·show 4≤6;omega
    ·split
     ·show 3≤6;omega
     ·split
      ·show 4≤6;omega
      ·split
       ·show 3≤6;omega
       ·simp only
        split
        ·exact Zm2 _ _ _
        ·split
         ·show 5≤6;omega
         ·split
          ·exact aA _
          ·show 3≤6;omega
end Go.Proofs.YtfofaiommeckbaaGreat
