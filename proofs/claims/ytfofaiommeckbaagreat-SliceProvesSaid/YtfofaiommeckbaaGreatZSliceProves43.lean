import Derived.Test.YtfofaiommeckbaaGreatZSliceProves42
import Derived.Test.YtfofaiommeckbaaGreatZSliceProves33
open List renaming length_nil → bT, length_cons → bY, mem_singleton → fS
set_option linter.unusedVariables false
set_option maxRecDepth 100000
set_option maxHeartbeats 40000000
namespace Go.Proofs.YtfofaiommeckbaaGreat
open Go.RowKit WalkM WireM
structure RdR where
 er:Nat
 op:List (Int×NodeD)
 sh:List (Int×List Nat)
 rest:List Nat
def Rc (e:Nat):RdR:=⟨e,[],[],[]⟩
def Pb (x:Nat)(M:List Nat)(K:NodeD→List Nat→RdR):RdR:=
 if(Cz M 0).1≠0 then Rc (Cz M 0).1 else
 if x%2=0∧(Cz M 0).2.1.kind=2∨x%2=1∧(Cz M 0).2.1.kind=1 then Rc 3 else K (Cz M 0).2.1 (Cz M 0).2.2.1
def Zcu (x:Nat)(L:List Nat)(K:NodeD→List Nat→RdR):RdR:=
 match L with
 |[]=>Rc 4
 |b::M=>if 1<b then Rc 3 else if b=0 then(if M.length<32 then Rc 4 else⟨0,[],[((x:Int),M.take 32)],M.drop 32⟩)else Pb x M K
def Zch (x:Nat)(d:NodeD)(l:RdR)(r:RdR):RdR:=
 if l.er≠0 then Rc l.er else if r.er≠0 then Rc r.er else⟨0,l.op++((x:Int),d)::r.op,l.sh++r.sh,r.rest⟩
def rdP:Nat→Nat→List Nat→RdR
 |0,x,L=>Zcu x L fun d R=>⟨0,[((x:Int),d)],[],R⟩
 |k+1,x,L=>Zcu x L fun d R=>Zch x d (rdP k (x-2^k) R) (rdP k (x+2^k) (rdP k (x-2^k) R).rest)
structure RdOk (L:List Nat) (lo hi:Int) (r:RdR):Prop where
 sub:Sub r.rest L
 len:r.op.length+r.sh.length+r.rest.length≤L.length
 opIn:∀p∈r.op,lo<p.1∧p.1<hi
 shIn:∀p∈r.sh,lo<p.1∧p.1<hi
 opUp:r.op.Pairwise fun p q=>p.1<q.1
 shUp:r.sh.Pairwise fun p q=>p.1<q.1
 node:∀p∈r.op,At p.2=true∧4*p.2.par.late.length≤L.length∧((∀n∈L,n<256)→NodeOk p.2)
 hash:∀p∈r.sh,p.2.length=32∧Sub p.2 L
theorem Zaq {α:Type} {R: α→α→Prop} {l m:List α}(hl:l.Pairwise R)(hm:m.Pairwise R)(h:∀a∈l,∀b∈m,R a b):(l++m).Pairwise R:=List.pairwise_append.2 ⟨hl,hm,h⟩
theorem Zf7 {x:Nat} {L:List Nat} {K:NodeD→List Nat→RdR} {e f:Int} (h0:e<x) (h1:(x:Int)<f) (h:(Zcu x L K).er=0)
  (q:∀M d R,TkOk M d R→L.length=M.length+1→(K d R).er=0→RdOk M e f (K d R)):RdOk L e f (Zcu x L K):=by
 unfold Zcu at h⊢;cases L with
 |nil=>cases h
 |cons b M=>
  have c:Sub M (b::M):=⟨by simp,fun x hx=>List.mem_cons_of_mem _ hx⟩;simp only at h⊢
  by_cases c1:1<b
  ·rw[if_pos c1]at h;cases h
  ·rw[if_neg c1]at h⊢
   by_cases c2:b=0
   ·rw[if_pos c2]at h⊢
    by_cases c3:M.length<32
    ·rw[if_pos c3]at h;cases h
    ·rw[if_neg c3];exact⟨(Sub.drop _ _).trans c,by simp only[bT,bY,List.length_drop];omega,fun p a=>(by simp at a),fun p a=>by simp only[fS]at a;rw[a];exact⟨h0,h1⟩,List.Pairwise.nil,by simp,fun p a=>(by simp at a),fun p a=>by simp only[fS]at a;rw[a];exact⟨by simp only[List.length_take];omega,(Sub.take _ _).trans c⟩⟩
   ·rw[if_neg c2]at h⊢;unfold Pb at h⊢
    by_cases c3:(Cz M 0).1≠0
    ·rw[if_pos c3]at h;exact absurd h c3
    ·rw[if_neg c3]at h⊢;have hk:=Vv (L:=M) (by omega)
     split at h
     ·cases h
     ·rename_i c4
      rw[if_neg c4];obtain⟨o,t,l,m,r,j,g,i⟩:=q M _ _ hk.2 (by simp) h;exact⟨o.trans c,by simp only[bY];omega,l,m,r,j,fun p a=>⟨(g p a).1,by have:=(g p a).2.1;simp only[bY];omega,fun k=>(g p a).2.2 fun n s=>k n (c.2 n s)⟩,fun p a=>⟨(i p a).1,(i p a).2.trans c⟩⟩
theorem Zar:∀k x (L:List Nat),2^k≤x+1→(rdP k x L).er=0→RdOk L ((x:Int)-((2^k:Nat):Int)) ((x:Int)+((2^k:Nat):Int)) (rdP k x L):=by
 intro k
 induction k with
 |zero=>
  intro x L hx h;unfold rdP at h⊢;refine Zf7 (by simp only[Nat.pow_zero];omega) (by simp only[Nat.pow_zero];omega) h fun M d R b G _=> ?_;exact⟨b.sub,by have:=b.len;simp only[bY,bT];omega,fun p a=>by simp only[fS]at a;rw[a];simp only[Nat.pow_zero];omega,fun p a=>by simp at a,by simp,List.Pairwise.nil,fun p a=>by simp only[fS]at a;rw[a];exact⟨b.right,b.late,b.ok⟩,fun p a=>by simp at a⟩
 |succ k ih=>
  intro x L hx h;have e2:2^(k+1)=2*2^k:=(by rw[Nat.pow_succ];omega);have a:=Nat.two_pow_pos k;unfold rdP at h⊢;refine Zf7 (by omega) (by omega) h fun M d R b G f=> ?_;unfold Zch at f⊢
  split at f
  ·rename_i c;exact absurd f c
  ·rename_i c1
   split at f
   ·rename_i c;exact absurd f c
   ·rename_i c2
    rw[if_neg c1,if_neg c2];generalize hl1:rdP k (x-2^k) R=l at c1 c2⊢;have h1:=ih (x-2^k) R (by omega) (by rw[hl1];omega);rw[hl1]at h1;generalize hr1:rdP k (x+2^k) l.rest=r at c2⊢;have h2:=ih (x+2^k) l.rest (by omega) (by rw[hr1];omega);rw[hr1]at h2;have e3:((x-2^k:Nat):Int)+((2^k:Nat):Int)=(x:Int):=(by omega);have H:((x+2^k:Nat):Int)-((2^k:Nat):Int)=(x:Int):=(by omega);have D:((x-2^k:Nat):Int)-((2^k:Nat):Int)=(x:Int)-((2^(k+1):Nat):Int):=(by omega);have z:((x+2^k:Nat):Int)+((2^k:Nat):Int)=(x:Int)+((2^(k+1):Nat):Int):=(by omega);obtain⟨i,J,g,t,F,A,u,y⟩:=h1;obtain⟨E,N,j,m,C,B,o,w⟩:=h2;rw[e3,D]at g t;rw[H,z]at j m;have I:=E.trans i;have K:=b.len;have g2:=b.sub;have g3:=i.1;refine⟨I.trans g2,by simp only[List.length_append,bY];omega,fun p a=> ?_,fun p a=> ?_,?_,?_,fun p a=> ?_,fun p a=> ?_⟩
    ·rcases List.mem_append.1 a with a|a
     ·have:=g p a;omega
     ·rcases List.mem_cons.1 a with rfl|a
      ·simp only;omega
      ·have:=j p a;omega
    ·rcases List.mem_append.1 a with a|a
     ·have:=t p a;omega
     ·have:=m p a;omega
    ·refine Zaq F (List.pairwise_cons.2 ⟨fun q e=>(j q e).1,C⟩) fun p a q e=> ?_;rcases List.mem_cons.1 e with rfl|e
     ·exact(g p a).2
     ·have:=(g p a).2;have:=(j q e).1;omega
    ·refine Zaq A B fun p a q e=> ?_;have:=(t p a).2;have:=(m q e).1;omega
    ·rcases List.mem_append.1 a with a|a
     ·exact⟨(u p a).1,by have:=(u p a).2.1;omega,fun s=>(u p a).2.2 fun n v=>s n (g2.2 n v)⟩
     ·rcases List.mem_cons.1 a with rfl|a
      ·exact⟨b.right,b.late,b.ok⟩
      ·exact⟨(o p a).1,by have:=(o p a).2.1;omega,fun s=>(o p a).2.2 fun n v=>s n (g2.2 n (i.2 n v))⟩
    ·rcases List.mem_append.1 a with a|a
     ·exact⟨(y p a).1,(y p a).2.trans g2⟩
     ·exact⟨(w p a).1,(w p a).2.trans (i.trans g2)⟩
def Js (L:List Nat):Nat:=Gr (L.take 4)
def Kd:SparseD:=⟨0,0,[],[]⟩
def ofS (only:Bool)(m:Nat)(b:List Nat):Nat×SparseD:=
 if 1048576<b.length then(6,Kd)else
 match b with
 |[]=>(4,Kd)
 |c::L=>if c≠m then(3,Kd)else
  if L.length<4 then(4,Kd)else
  if fits (Js L)=false then(3,Kd)else
  if L.length<8 then(4,Kd)else
  if Js L≤Js (L.drop 4)then(3,Kd)else
  let r:=rdP (Nat.log2 (Js L)) (Js L-1) (L.drop 8)
  if r.er≠0 then(r.er,Kd)else
  if r.rest≠[]then(5,Kd)else
  if Ay ⟨Js L,Js (L.drop 4),r.op,r.sh⟩ only=true then(0,⟨Js L,Js (L.drop 4),r.op,r.sh⟩)else(3,Kd)
end Go.Proofs.YtfofaiommeckbaaGreat
namespace Go.Proofs.YtfofaiommeckbaaGreat
open Go.RowKit WireM
open WalkM
end Go.Proofs.YtfofaiommeckbaaGreat
