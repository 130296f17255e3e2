import Derived.Test.YtfofaiommeckbaaGreatZTr28
open Go.Obj renaming cells -> rK
open Go.Ending renaming returned -> rM
open Go.Value renaming slice -> rD, int -> rE, pointer -> rF
open Go.IntKind renaming i64 -> rG, u8 -> rH
open Option renaming none -> rJ
open Go.Proofs.Tryz
open Bool renaming and_eq_true -> cK, or_false -> dO, or_true -> dP
open List renaming length_map -> eE, getElem_map -> hQ, cons_append -> iM, length_append -> aD, take_append_of_le_length -> iT, take_of_length_le -> bV, drop_append_of_le_length -> iU, drop_of_length_le -> iV, nil_append -> iO, mem_append -> dZ, mem_singleton -> gA, append_assoc -> cY, map_map -> iW, map_id -> iX, map_congr_left -> iK, drop_drop -> iQ, pairwise_map -> fU, getElem?_toArray -> bY, getElem?_cons_zero -> bZ, getElem?_cons_succ -> cA, replicate -> cJ, filterMap_cons -> dG, filterMap_nil -> dH, contains_cons -> dJ, contains_nil -> dK
open Nat renaming log2 -> aY, log2_two_pow -> iD, le_trans -> eN, pow_le_pow_right -> aZ, mod_eq_of_lt -> aT, two_pow_pos -> fK, pow_succ -> aN, le_of_lt -> fE, zero_add -> cX
open Int renaming toNat_natCast -> cD, toNat_of_nonneg -> iY
open Option renaming getD_some -> cO
set_option linter.unusedVariables false
set_option maxRecDepth 100000
set_option maxHeartbeats 40000000
namespace Go.Proofs.YtfofaiommeckbaaGreat
open Go.RowKit Go.Maps WalkM WireM
theorem Xv {d:NodeD}(h:Aq d=true)(b:d.par.late.length<=1000):Cb d=true:=by
 unfold Aq at h;simp only at h;unfold Cb;rw[dI]
 split at h
 ·rw[cK]at h;have a:=oD h.1;have h2:=oD h.2;omega
 ·split at h
  ·rw[cK]at h;have a:=oD h.1;have h2:=oD h.2;omega
  ·split at h
   ·rw[cK]at h;have a:=oD h.1;have h2:=h.2;unfold rpB at h2;rw[cK]at h2;have h3:=oD h2.2;omega
   ·cases h
theorem Mz {α:Type} {l:List (Int×α)}(h:l.Pairwise fun p q=>p.1<q.1):(l.map (·.1)).Pairwise (· < ·):=List.pairwise_map.2 h
theorem Vd {k x n i:Nat} {L:List Nat}(e:∀y∈L,y<256)(c:L.length<=4000\/Bx ⟨0,0,(rdP k x L).op,(rdP k x L).sh⟩=true)(hx:2^k<=x+1)(j:x+2^k<=131071)(m:n<=4294967296)(b:i<=4294967296)(h:(rdP k x L).er=0):
  SparseOk ⟨(n:Int),(i:Int),(rdP k x L).op,(rdP k x L).sh⟩/\Bx ⟨(n:Int),(i:Int),(rdP k x L).op,(rdP k x L).sh⟩=true/\Bt ⟨(n:Int),(i:Int),(rdP k x L).op,(rdP k x L).sh⟩=true:=by
 have o:=Zal k x L hx h;generalize rdP k x L=r at o c|-;have g:=o.len;refine⟨⟨by unfold inI;simp only;omega,by unfold inI;simp only;omega,fun p a=> ?_,fun p a=> ?_⟩,?_,?_⟩
 ·have:=o.opIn p a;exact⟨by unfold inI;omega,(o.node p a).2.2 e⟩
 ·have:=o.shIn p a;exact⟨by unfold inI;omega,fun y d=>e y ((o.hash p a).2.2 y d)⟩
 ·rcases c with c|c
  rotate_left
  ·exact c
  unfold Bx;simp only[cK,decide_eq_true_eq];refine⟨⟨⟨by omega,by omega⟩,List.all_eq_true.2 fun p a=>Xv (o.node p a).1 (by have:=(o.node p a).2.1;omega)⟩,List.all_eq_true.2 fun p a=>dT (by have:=(o.hash p a).1;omega)⟩
 ·unfold Bt;rw[cK];constructor
  ·have:=In (l:=r.op.map (·.1)) (f:=spK r.op) (fun i b=>by
    rw[eE]at b;unfold spK;rw[Lr b,hQ]) (Mz o.opUp) (fun y d=>by
    obtain⟨p,a,rfl⟩:=List.mem_map.1 d;have:=(o.opIn p a).1;omega)
   rwa [eE]at this
  ·have:=In (l:=r.sh.map (·.1)) (f:=stK r.sh) (fun i b=>by
    rw[eE]at b;unfold stK;rw[Ls b,hQ]) (Mz o.shUp) (fun y d=>by
    obtain⟨p,a,rfl⟩:=List.mem_map.1 d;have:=(o.shIn p a).1;omega)
   rwa [eE]at this
def Zme (mk:Nat)(L:List Nat):RdR:=rdP (aY (Fk (Fk L 1 fun n=>n==mk).2.2.1 4 fits).1) ((Fk (Fk L 1 fun n=>n==mk).2.2.1 4 fits).1-1) (Fk (Fk (Fk L 1 fun n=>n==mk).2.2.1 4 fits).2.2.1 4 fun i=>decide (i<(Fk (Fk L 1 fun n=>n==mk).2.2.1 4 fits).1)).2.2.1
def BL (mk:Nat)(L:List Nat):Prop:=L.length<=1000000/\(L.length<=4000\/Bx ⟨0,0,(Zme mk L).op,(Zme mk L).sh⟩=true)
theorem Zjv (s:SparseD)(only:Bool)(ob sb:Nat)(W:World)(b:SparseOk s)(f:Bx s=true)(d:Bt s=true)(h:PieceN W ob s.op.length (Aj s.op))(h2:PieceH W sb s.sh.length (Ay s.sh)):
  Calls prog 123 #[.agg #[rE rG s.leaves,rE rG s.own,.map (some ob),.map (some sb)],.bool only] W fun e w'=>e=rM (.bool (Ah s only))/\Below W.heap.size W w':=by
 obtain⟨j,k⟩:=Li f;have a:=d;unfold Bt at a;rw[cK]at a;have:=Qf s.leaves s.own ob sb s.op.length s.sh.length (Aj s.op) (Ay s.sh) (s.op.map (·.1)) (s.sh.map (·.1)) only W h h2 (by omega) (by omega) (Lu b f) (Kj (g:=spK s.op) (fun i c=>by unfold spK;rw[Lr c]) a.1) (fun x=>Ki) (Kj (g:=stK s.sh) (fun i c=>by unfold stK;rw[Ls c]) a.2) (fun x=>Gp) (by simp;omega) (by simp;omega) b.leaves b.own;have e:=Kk s only;rw[d,Bool.true_and]at e
 rwa [e]at this
end Go.Proofs.YtfofaiommeckbaaGreat
namespace Go.Proofs.YtfofaiommeckbaaGreat
open Go.RowKit WalkM WireM
section
theorem Zgk {s:SparseD} {only:Bool}(h:Ah s only=true):∃d i:Nat,d<=16/\s.leaves=((2^d:Nat):Int)/\s.own=(i:Int)/\i<2^d/\Bt s=true/\
  Bf (fun n:Nat=>Aj s.op n) i only d (2^d-1) 0 []=(s.op.map (·.1),s.sh.map (·.1),true)/\(∀p∈s.sh,p.2.length=32)/\((Aj s.op (2*i:Nat)).getD Ap).kind=1:=by
 have h2:=Kk s only;rw[h,cK]at h2;obtain⟨m,h3⟩:=h2;unfold Ce at h3;simp only[cK]at h3;obtain⟨⟨⟨⟨⟨l,j⟩,hk⟩,-⟩,-⟩,⟨g,b⟩,c⟩:=h3;have j:=oD j;have hk:=oD hk;have b:=oD b;have c:=oD c;obtain⟨d,k,e⟩:=(fits_iff _).1 l;have a:s.leaves=((2^d:Nat):Int):=(by omega);unfold Ah at h;simp only[cK]at h;refine⟨d,s.own.toNat,k,a,by omega,by omega,m,?_,fun p f=>oD (List.all_eq_true.1 h.1.2 p f),?_⟩
 ·rw[a,cD,iD]at g b c;exact Prod.ext b (Prod.ext c g)
 ·have e2:((2*s.own.toNat:Nat):Int)=2*s.own:=(by omega);rw[e2];exact hk
section
variable {F:Int->Option NodeD} {H:Int->Option (List Nat)} {i:Nat} {only:Bool}
def Zgl (F:Int->Option NodeD)(O:List Int):List (Int×NodeD):=O.map fun y=>(y,(F y).getD Ap)
def Zgm (H:Int->Option (List Nat))(S:List Int):List (Int×List Nat):=S.map fun y=>(y,(H y).getD [])
def RdV (F:Int->Option NodeD)(H:Int->Option (List Nat))(k x:Nat)(v:List Int×List Int×Bool):Prop:=
 v.2.2=true->(∀y:Nat,inR k x y->(F (y:Int)).isSome=true->(y:Int)∈v.1)->(∀y:Nat,(y:Int)∈v.2.1->(Es H y).length=32)->
  ∀R,rdP k x (putS F H k x++R)=⟨0,Zgl F v.1,Zgm H v.2.1,R⟩
theorem Zao {k c:Nat}:RdV F H k c ([],[(c:Int)],true):=by
 intro _ g h R;have b:F (c:Int)=none:=by
  cases e:F (c:Int)with
  |none=>rfl
  |some d=>exact absurd (g c (Dp _ _) (by rw[e];rfl)) (by simp)
 have a:=h c (by simp);obtain⟨K,f⟩:=Zam k c (putS F H k c++R);rw[f,Gn b,iM];show(if 1<0 then Ql 3 else if 0=0 then(if(Es H c++R).length<32 then Ql 4 else⟨0,[],[((c:Int),(Es H c++R).take 32)],(Es H c++R).drop 32⟩)else Ol c (Es H c++R) K)=_;rw[iN (by omega),iP rfl,iN (by rw[aD];omega),iT (by omega),bV (by omega),iU (by omega),iV (by omega),iO]
 rfl
theorem Zgn {V:Nat->Nat->List Int->List Int×List Int×Bool} {k c how:Nat} {d:NodeD} {late:List Int}(h:∀how late,RdV F H k c (V c how late)):RdV F H k c (Ds V i only c how d late):=by
 unfold Ds
 split
 ·exact h _ _
 ·split
  ·exact Zao
  ·split
   ·exact h _ _
   ·split
    ·exact h _ _
    ·exact Zao
theorem Zgo {x:Nat} {d:NodeD}(h:Aq d=true)(g:d.par.late.length<=200)(c:x%2=0->d.kind≠2)(f:x%2=1->d.kind≠1)(R:List Nat)(K:NodeD->List Nat->RdR):Zcv x (1::(Bk d++R)) K=K d R:=by
 have e:Zcv x (1::(Bk d++R)) K=Ol x (Bk d++R) K:=rfl;rw[e];unfold Ol;rw[Zch h g];simp only[ne_eq,not_true_eq_false,if_false];rw[iN];rintro(⟨a,b⟩|⟨a,b⟩)
 ·exact c a b
 ·exact f a b
theorem Zl3 (D:∀(x:Nat) d,F (x:Int)=some d->Aq d=true/\d.par.late.length<=200/\(x%2=0->d.kind≠2)/\(x%2=1->d.kind≠1)):
  ∀(k x how:Nat) (late:List Int),IsLev x k->x+2^k<=131071->RdV F H k x (Bf (fun n:Nat=>F n) i only k x how late):=by
 intro k
 induction k with
 |zero=>
  intro x how late E hx f h j R;cases hF:F (x:Int)with
  |none=>rw[Av (F:=fun n:Nat=>F n) hF]at f;cases f
  |some d=>
   obtain⟨s,t,u,v⟩:=D x d hF;rw[Cd (F:=fun n:Nat=>F n) hF,Kf hF,iM,rdP,Zgo s t u v];simp[Zgl,Zgm,hF]
 |succ k ih=>
  intro x how late E hx f h j R;cases hF:F (x:Int)with
  |none=>rw[Av (F:=fun n:Nat=>F n) hF]at f;cases f
  |some d=>
   obtain⟨s,t,u,v⟩:=D x d hF;rw[Br (F:=fun n:Nat=>F n) hF]at f h j|-;obtain⟨G,I,l,C,h2,-,-⟩:=Er E hx lR;have A:=Ij (i:=i) (only:=only) (how:=how) (d:=d) (late:=if how=1 then d.par.late else late) fun a b=>Ci (F:=fun n:Nat=>F n) (i:=i) (only:=only) k (x-2^k) a b G C;have B:=Ij (i:=i) (only:=only) (how:=how) (d:=d) (late:=if how=1 then d.par.late else late) fun a b=>Ci (F:=fun n:Nat=>F n) (i:=i) (only:=only) k (x+2^k) a b I h2;have w:=Zgn (i:=i) (only:=only) (how:=how) (d:=d) (late:=if how=1 then d.par.late else late) fun a b=>ih (x-2^k) a b G C;have z:=Zgn (i:=i) (only:=only) (how:=how) (d:=d) (late:=if how=1 then d.par.late else late) fun a b=>ih (x+2^k) a b I h2;generalize Ds (Bf (fun n:Nat=>F n) i only k) i only (x-2^k) how d (if how=1 then d.par.late else late)=a at f h j A w|-;generalize Ds (Bf (fun n:Nat=>F n) i only k) i only (x+2^k) how d (if how=1 then d.par.late else late)=b at f h j B z|-;have f:(a.2.2&&b.2.2)=true:=f;rw[cK]at f;have h:∀y:Nat,inR (k+1) x y->(F (y:Int)).isSome=true->(y:Int)∈a.1++[(x:Int)]++b.1:=h;have j:∀y:Nat,(y:Int)∈a.2.1++b.2.1->(Es H y).length=32:=j;have o:∀y:Nat,inR k (x-2^k) y->(F (y:Int)).isSome=true->(y:Int)∈a.1:=fun y g r=>by
    have c:=h y ((Az l).2 (.inr (.inl g))) r;have q:=Fq l g;simp only[dZ,gA]at c;rcases c with(c|c)|c
    ·exact c
    ·omega
    ·obtain⟨m,e,c⟩:=B.op _ c;have:=Eg c;omega
   have p:∀y:Nat,inR k (x+2^k) y->(F (y:Int)).isSome=true->(y:Int)∈b.1:=fun y g r=>by
    have c:=h y ((Az l).2 (.inr (.inr g))) r;have q:=Eg g;simp only[dZ,gA]at c;rcases c with(c|c)|c
    ·obtain⟨m,e,c⟩:=A.op _ c;have:=Fq l c;omega
    ·omega
    ·exact c
   have J:=w f.1 o fun y g=>j y (List.mem_append_left _ g);have K:=z f.2 p fun y g=>j y (List.mem_append_right _ g);rw[Kg hF,iM,iM,cY,cY,rdP,Zgo s t u v,J];simp only;rw[K];unfold Zcl Ky;simp[Zgl,Zgm,hF]
end
theorem Zjw {l:List (Int×NodeD)}(h:(l.map (·.1)).Pairwise (· < ·)):Zgl (Aj l) (l.map (·.1))=l:=by
 unfold Zgl;rw[iW]
 conv=>rhs;rw[<-iX l]
 refine iK fun p hp=> ?_;show(p.1,(Aj l p.1).getD Ap)=p;rw[Hx h hp];rfl
theorem Zjx {l:List (Int×List Nat)}(h:(l.map (·.1)).Pairwise (· < ·)):Zgm (Ay l) (l.map (·.1))=l:=by
 unfold Zgm;rw[iW]
 conv=>rhs;rw[<-iX l]
 refine iK fun p hp=> ?_;show(p.1,(Ay l p.1).getD [])=p;rw[Gq h hp];rfl
theorem Zco {s:SparseD} {only:Bool}(h:Ah s only=true) {x:Nat} {d:NodeD}(f:Aj s.op (x:Int)=some d):Aq d=true/\(x%2=0->d.kind≠2)/\(x%2=1->d.kind≠1)/\x<=131070:=by
 unfold Ah at h;simp only[cK]at h;obtain⟨⟨⟨⟨i,l⟩,a⟩,k⟩,-⟩:=h;obtain⟨b,h2,h3,c,-⟩:=Lt (List.all_eq_true.1 a _ (Cv f));have b:0<=(x:Int)/\(x:Int)<=2*s.leaves-2:=b;obtain⟨d,g,e⟩:=(fits_iff _).1 i;have j:2^d<=65536:=eN (aZ (by omega) g) (by decide);exact⟨h2,fun e hk=>h3 ⟨show(x:Int)%2=0 by omega,hk⟩,fun e hk=>c ⟨show(x:Int)%2=1 by omega,hk⟩,by omega⟩
theorem Na {n:Nat}(hn:n<4294967296)(R:List Nat):Iv (beN 4 n++R)=n:=by
 unfold Iv;rw[iT (by rw[beN_len];omega),bV (by rw[beN_len];omega),Yy];exact aT (by simpa using hn)
theorem Zap {s:SparseD} {only:Bool}(h:Ah s only=true)(J:∀p∈s.op,p.2.par.late.length<=200)(m:Nat)(G:(bytesOf s m).length<=1048576):ofS only m (bytesOf s m)=(0,s)/\Zme m (bytesOf s m)=⟨0,s.op,s.sh,[]⟩:=by
 obtain⟨d,i,z,j,how,I,V,r,q,-⟩:=Zgk h;have M:2^d<=65536:=eN (aZ (by omega) z) (by decide);have K:=fK d;have u:=Ci (F:=fun n:Nat=>Aj s.op n) (i:=i) (only:=only) d (2^d-1) 0 [] (Bs d) (by omega);have S:(s.op.map (·.1)).Pairwise (· < ·):=(by have:=u.opr;rwa [r]at this);have T:(s.sh.map (·.1)).Pairwise (· < ·):=(by have:=u.shr;rwa [r]at this);have k:=Zl3 (F:=Aj s.op) (H:=Ay s.sh) (i:=i) (only:=only) (fun x d v=>by
  obtain⟨a,b,c,-⟩:=Zco h v;exact⟨a,J _ (Cv v),b,c⟩) d (2^d-1) 0 [] (Bs d) (by omega)
 rw[r]at k;have rd:=k rfl (fun y _ N=>Ki.2 N) (fun y O=>by
  obtain⟨L,w⟩:=Option.isSome_iff_exists.1 (Gp.1 O);unfold Es;rw[w];exact q _ (Ka w)) []
 rw[Zjw S,Zjx T,List.append_nil]at rd;have g:aY s.leaves.toNat=d:=(by rw[j,cD,iD]);have o:s.own.toNat=i:=(by omega);have C:bytesOf s m=m::(beN 4 (2^d)++(beN 4 i++putS (Aj s.op) (Ay s.sh) d (2^d-1))):=by
  unfold bytesOf Qh;rw[g,o];simp[cY]
 rw[C]at G|-;have e:fits (2^d)=true:=(fits_iff _).2 ⟨d,z,rfl⟩;have U:(beN 4 (2^d)).length=4:=beN_len _ _;have E:(beN 4 i).length=4:=beN_len _ _;have d4:(beN 4 (2^d)++(beN 4 i++putS (Aj s.op) (Ay s.sh) d (2^d-1))).drop 4=beN 4 i++putS (Aj s.op) (Ay s.sh) d (2^d-1):=by
  rw[iU (by omega),iV (by omega),iO]
 have l:(beN 4 (2^d)++(beN 4 i++putS (Aj s.op) (Ay s.sh) d (2^d-1))).drop 8=putS (Aj s.op) (Ay s.sh) d (2^d-1):=by
  rw[show 8=4+4 from rfl,<-iQ,d4,iU (by omega),iV (by omega),iO]
 constructor
 ·unfold ofS;rw[iN (by omega)];simp only;rw[iN (by omega),iN (by simp only[aD];omega),Na (by omega),e,iN (by decide),iN (by simp only[aD];omega),d4,Na (by omega),iN (by omega),l,iD,rd];have D:(⟨((2^d:Nat):Int),((i:Nat):Int),s.op,s.sh⟩:SparseD)=s:=(by rw[<-j,<-how]);simp only[ne_eq,not_true_eq_false,if_false];rw[D,iP h]
 ·have f:8<=(beN 4 (2^d)++(beN 4 i++putS (Aj s.op) (Ay s.sh) d (2^d-1))).length:=(by simp only[aD];omega);have B:Iv (beN 4 (2^d)++(beN 4 i++putS (Aj s.op) (Ay s.sh) d (2^d-1)))=2^d:=Na (by omega) _;have t:Iv (beN 4 i++putS (Aj s.op) (Ay s.sh) d (2^d-1))=i:=Na (by omega) _;rw[<-d4]at t;rw[show 8=4+4 from rfl,<-iQ]at l;generalize beN 4 (2^d)++(beN 4 i++putS (Aj s.op) (Ay s.sh) d (2^d-1))=A at f B t l|-;have P:Fk (m::A) 1 (fun n=>n==m)=(m,0,A,0):=(by rw[Zan];simp);have Q:Fk A 4 fits=(2^d,0,A.drop 4,0):=(by rw[Ko,iN (by omega),B,e,iP rfl]);have R:Fk (A.drop 4) 4 (fun i=>decide (i<2^d))=(i,0,(A.drop 4).drop 4,0):=(by rw[Ko,iN (by rw[List.length_drop];omega),t,iP (dT I)]);unfold Zme;rw[P];simp only;rw[Q];simp only;rw[R];simp only;rw[iD,l,rd]
theorem Zjy {s:SparseD} {only:Bool}(h:Ah s only=true)(hs:Bx s=true)(hl:∀p∈s.op,p.2.par.late.length<=200)(m:Nat)(hb:(bytesOf s m).length<=1000000):BL m (bytesOf s m):=by
 refine⟨hb,.inr ?_⟩;rw[(Zap h hl m (by omega)).2];exact hs
end
open ShaM
theorem Zaq {F F':Nat->Option NodeD} {i c how:Nat} {only:Bool} {d:NodeD} {late:List Int} {V e:Nat->Nat->List Int->List Int×List Int×Bool}
  (b:∀how late,(V c how late).2.2=true->(∀y:Nat,(y:Int)∈(V c how late).1->F' y=F y)->e c how late=V c how late)
  (h:(Ds V i only c how d late).2.2=true) (a:∀y:Nat,(y:Int)∈(Ds V i only c how d late).1->F' y=F y):Ds e i only c how d late=Ds V i only c how d late:=by
 unfold Ds at h a|-
 by_cases c1:how=0/\Bu (2*(i:Int)) (c:Int)=true
 ·rw[iP c1]at h a|-;rw[iP c1];exact b _ _ h a
 ·rw[iN c1]at h a|-;rw[iN c1]
  by_cases c2:how=0/\only=true
  ·rw[iP c2,iP c2]
  ·rw[iN c2]at h a|-;rw[iN c2]
   by_cases c3:how=0\/(how=1/\d.kind=0)
   ·rw[iP c3]at h a|-;rw[iP c3];exact b _ _ h a
   ·rw[iN c3]at h a|-;rw[iN c3]
    by_cases c4:Jb late (c:Int)=true
    ·rw[iP c4]at h a|-;rw[iP c4];exact b _ _ h a
    ·rw[iN c4,iN c4]
theorem Zgp {F F':Nat->Option NodeD} {i:Nat} {only:Bool}:∀(k x how:Nat) (late:List Int),(Bf F i only k x how late).2.2=true->(∀y:Nat,(y:Int)∈(Bf F i only k x how late).1->F' y=F y)->
  Bf F' i only k x how late=Bf F i only k x how late:=by
 intro k
 induction k with
 |zero=>
  intro x how late h c;cases e:F x with
  |none=>rw[Av e]at h;cases h
  |some d=>
   rw[Cd e]at c|-;exact Cd ((c x (by simp)).trans e)
 |succ k ih=>
  intro x how late h c;cases e:F x with
  |none=>rw[Av e]at h;cases h
  |some d=>
   rw[Br e]at h c|-;unfold Ky at h c;simp only[cK]at h;have e2:F' x=some d:=(c x (by simp)).trans e;rw[Br e2];rw[Zaq (F:=F) (F':=F') (fun a b=>ih (x-2^k) a b) h.1 fun y f=>c y (by simp only[dZ];exact .inl (.inl f)),
    Zaq (F:=F) (F':=F') (fun a b=>ih (x+2^k) a b) h.2 fun y f=>c y (by simp only[dZ];exact .inr f)]
theorem Sm {t:List NodeD} {M m:Nat} {OL SL:List Nat}(a:OL.Pairwise (· < ·))(b:SL.Pairwise (· < ·)):
  (∀x:Nat,x∈OL->Aj (Fr t M m OL SL).op (x:Int)=some (nd t x))/\(∀x:Nat,x∈SL->Ay (Fr t M m OL SL).sh (x:Int)=some (Dg (nd t) x))/\
  (∀(x:Nat) d,Aj (Fr t M m OL SL).op (x:Int)=some d->d=nd t x)/\(∀(x:Nat) L,Ay (Fr t M m OL SL).sh (x:Int)=some L->L=Dg (nd t) x):=by
 have c:((Fr t M m OL SL).op.map (·.1)).Pairwise (· < ·):=by
  show((OL.map _).map _).Pairwise _;rw[iW,fU];exact a.imp fun h=>by simpa using h
 have f:((Fr t M m OL SL).sh.map (·.1)).Pairwise (· < ·):=by
  show((SL.map _).map _).Pairwise _;rw[iW,fU];exact b.imp fun h=>by simpa using h
 refine⟨fun x hx=> ?_,fun x hx=> ?_,fun x d h=> ?_,fun x L h=> ?_⟩
 ·exact Hx c (p:=((x:Int),nd t x)) (List.mem_map.2 ⟨x,hx,rfl⟩)
 ·exact Gq f (p:=((x:Int),Dg (nd t) x)) (List.mem_map.2 ⟨x,hx,rfl⟩)
 ·obtain⟨y,-,e⟩:=List.mem_map.1 (Cv h);simp only[Prod.mk.injEq]at e;rw[<-e.2,show y=x by omega]
 ·obtain⟨y,-,e⟩:=List.mem_map.1 (Ka h);simp only[Prod.mk.injEq]at e;rw[<-e.2,show y=x by omega]
theorem Zgq {t:List NodeD} (Q:Bc t=true) (k:Bm t=true) {G m d:Nat} {only:Bool} {OL SL:List Nat} (I:t.length=2*G+1) (F:d<=16) (O:G+1=2^d) (W:2*m<t.length) (hk:(nd t (2*m)).kind=1)
  (C:(Bf (atT t) m only d (2^d-1) 0 []).1=OL.map (fun m:Nat=>(m:Int))) (N:(Bf (atT t) m only d (2^d-1) 0 []).2.1=SL.map (fun m:Nat=>(m:Int))) (D:OL.Pairwise (· < ·)) (E:SL.Pairwise (· < ·))
  (L:∀x∈OL,x<t.length) (Z:∀x∈SL,x<t.length) (s:2*m∈OL):Ah (Fr t (2^d) m OL SL) only=true:=by
 obtain⟨o,f2,f3,V⟩:=Sm (t:=t) (M:=2^d) (m:=m) D E;have J:=fK d;have P:2^d<=65536:=eN (aZ (by omega) F) (by decide);have H:=Bb Q;have w:=(Fc t).1 (by rw[Bm,cK,cK]at k;exact k.2.1);have q:=Ig (t:=t) (by rw[Bm,cK,cK,cK]at k;exact k.2.2.2);have g:(Bf (atT t) m only d (2^d-1) 0 []).2.2=true:=Sj d (2^d-1) 0 [] (Bs d) (by omega) fun y a=>by
  unfold inR at a;unfold atT;rw[iP (by omega)];rfl
 have S:Bf (fun n:Nat=>Aj (Fr t (2^d) m OL SL).op n) m only d (2^d-1) 0 []=Bf (atT t) m only d (2^d-1) 0 []:=Zgp d (2^d-1) 0 [] g fun y a=>by
  rw[C]at a;obtain⟨z,K,e⟩:=List.mem_map.1 a;have:z=y:=(by omega);subst this;rw[o z K];unfold atT;rw[iP (L z K)]
 have A:(Fr t (2^d) m OL SL).op.map (·.1)=OL.map fun m:Nat=>(m:Int):=by
  show(OL.map _).map _=_;rw[iW];rfl
 have B:(Fr t (2^d) m OL SL).sh.map (·.1)=SL.map fun m:Nat=>(m:Int):=by
  show(SL.map _).map _=_;rw[iW];rfl
 have X:(Fr t (2^d) m OL SL).op.length=OL.length:=eE ..;have Y:(Fr t (2^d) m OL SL).sh.length=SL.length:=eE ..;rw[<-Kk,cK];constructor
 ·unfold Bt;rw[cK];constructor
  ·have:=In (l:=(Fr t (2^d) m OL SL).op.map (·.1)) (f:=spK (Fr t (2^d) m OL SL).op) (fun i b=>by
    rw[eE]at b;unfold spK;rw[Lr b,hQ]) (by rw[A,fU];exact D.imp fun h=>by simpa using h) (fun y a=>by
    rw[A]at a;obtain⟨p,J,rfl⟩:=List.mem_map.1 a
    omega)
   rwa [eE]at this
  ·have:=In (l:=(Fr t (2^d) m OL SL).sh.map (·.1)) (f:=stK (Fr t (2^d) m OL SL).sh) (fun i b=>by
    rw[eE]at b;unfold stK;rw[Ls b,hQ]) (by rw[B,fU];exact E.imp fun h=>by simpa using h) (fun y a=>by
    rw[B]at a;obtain⟨p,J,rfl⟩:=List.mem_map.1 a
    omega)
   rwa [eE]at this
 ·have c:aY (Fr t (2^d) m OL SL).leaves.toNat=d:=by
   show aY (((2^d:Nat):Int)).toNat=d;rw[cD,iD]
  have v:(Fr t (2^d) m OL SL).own.toNat=m:=cD m;have r:(Fr t (2^d) m OL SL).leaves=((2^d:Nat):Int):=rfl;have how:(Fr t (2^d) m OL SL).own=(m:Int):=rfl;unfold Ce;rw[c,v,S,g,C,N,A,B,r,how];simp only[cK,decide_eq_true_eq];refine⟨⟨⟨⟨⟨?_,by omega,by omega⟩,?_⟩,?_⟩,?_⟩,by simp⟩
  ·rw[cD];exact(fits_iff _).2 ⟨d,F,rfl⟩
  ·have e:(2:Int)*(m:Int)=((2*m:Nat):Int):=(by omega);rw[e,o _ s];exact hk
  ·refine List.all_eq_true.2 fun y a=> ?_;obtain⟨x,hx,rfl⟩:=List.mem_map.1 a;rw[o x hx,cO];have j:=L x hx;obtain⟨T,U⟩:=w x j;have lt:=If (q x j);unfold Bz;rw[cK,cK];refine⟨U,?_,?_⟩
   ·rw[decide_eq_true_eq];intro e;refine T (e.trans ?_);unfold Ziz Dl;rw[Int.tmod_eq_emod_of_nonneg (by omega)]
    by_cases hx2:x%2=1
    ·rw[iP hx2,iP (by omega)]
    ·rw[iN hx2,iN (by omega)]
   ·rw[Bool.not_eq_true',List.any_eq_false];intro u R;rw[(lt u R).2.1];decide
  ·refine List.all_eq_true.2 fun y a=> ?_;obtain⟨x,hx,rfl⟩:=List.mem_map.1 a;rw[f2 x hx,cO,Kn];rfl
theorem Zgr {T:Nat->NodeD} {F:Int->Option NodeD} {H:Int->Option (List Nat)}(i:∀(x:Nat) d,F (x:Int)=some d->d=T x)(l:∀(x:Nat) L,H (x:Int)=some L->L=Dg T x)(j:PieceCov F H):
  ∀k x,IsLev x k->x+2^k<=131071->Zmd F H x->Fz F H k x=Ff T k x:=by
 have a:∀(k x:Nat),IsLev x k->x<=131070->F (x:Int)=none->Zmd F H x->Fz F H k x=Ff T k x:=by
  intro k x b hx e c;rw[Gr e];rcases c with h|h
  ·rw[e]at h;cases h
  ·unfold Es at h|-;cases eh:H (x:Int)with
   |none=>rw[eh]at h;simp at h
   |some L=>
    rw[cO,l x L eh];unfold Dg;rw[lev_eq hx b]
 intro k
 induction k with
 |zero=>
  intro x b hx c;cases e:F (x:Int)with
  |none=>exact a 0 x b (by omega) e c
  |some d=>
   rw[Ex e,Kl,i x d e,Hi,Gk]
 |succ k ih=>
  intro x b hx c;have m:=fK k;have e2:2^(k+1)=2*2^k:=(by rw[aN];omega);cases e:F (x:Int)with
  |none=>exact a (k+1) x b (by omega) e c
  |some d=>
   obtain⟨-,-,f,g,n⟩:=kids_lev (by omega) b;obtain⟨c1,c2⟩:=j.kids k x d e b (by omega);rw[Ex e,Km,ih (x-2^k) f (by omega) c1,ih (x+2^k) g (by omega) c2,i x d e,Hi T (k+1),Gl]
end Go.Proofs.YtfofaiommeckbaaGreat
namespace Go.Proofs.YtfofaiommeckbaaGreat
open Go.RowKit Go.Maps WalkM WireM
theorem PcS.made {w:World} {ob sb g:Nat}(h1:MapF w ob 0 fun _=>none)(h2:MapF w sb 0 fun _=>none):PcS w ob sb g 0 0 (fun _=>none) fun _=>none:=⟨⟨_,h1,fun _=>rfl⟩,⟨_,h2,fun _=>rfl⟩⟩
theorem Sn {L:List Nat} {s:Int} {P:Nat->Bool}(h:(Fk L s P).2.1=0):P (Fk L s P).1=true/\(Fk L s P).2.2.2=0:=by
 unfold Fk at h|-
 split at h
 ·rename_i h1;exact absurd h h1
 ·rename_i h1
  split at h
  ·rename_i h2;rw[iN h1,iP h2];exact⟨h2,by simpa using h1⟩
  ·cases h
theorem Ip (L:List Nat)(s:Int)(P:Nat->Bool):Sub (Fk L s P).2.2.1 L:=by
 have h:=(Gs L 0 s).2.1;unfold Fk
 split
 ·exact h
 ·split<;>exact h
theorem So {L:List Nat} {s:Int} {P:Nat->Bool}(hL:∀n∈L,n<256)(hs:s=1\/s=4):(Fk L s P).1<4294967296:=by
 have h:=Zgg hL hs;unfold Fk
 split
 ·exact(by decide:0<4294967296)
 ·split
  ·exact h
  ·exact(by decide:0<4294967296)
theorem Zgs {n:Nat}(h:fits n=true):n=2^aY n/\n<=65536/\aY n<=16/\Ne (n:Int)=((n-1:Nat):Int)/\IsLev (n-1) (aY n):=by
 obtain⟨d,b,rfl⟩:=(fits_iff n).1 h;have a:2^d<=65536:=eN (aZ (by omega) b) (by decide);have c:=fK d;rw[iD];refine⟨rfl,a,b,by rw[Ne,iP (by rw[cD];exact h)];omega,?_⟩;unfold IsLev;rw[aT (by rw[aN];omega)]
theorem Zjz (l:List (Int×NodeD)):Lw (fun _=>none) l=Aj l:=by funext y;unfold Lw;cases Aj l y<;>rfl
theorem Zj0 (l:List (Int×List Nat)):Pd (fun _=>none) l=Ay l:=by funext y;unfold Pd;cases Ay l y<;>rfl
theorem Zgt (a:Option Addr) (cp:Nat) (L L1 L2 L3:List Nat) (mk nn u C A e2 e3 f1 f2 f3 k x:Nat) (only:Bool) (l:RdR) (F:Nat×SparseD) (w:World) (h:Rd w (.slice a L.length cp) (bvs L)) (hl:L.length<=1000000) (bA:((mk:Int)==2)=only)
  (C1:∀(B g:Nat) (W:World),RS W B L 0->Blk W g 3 #[rE rG (mk:Nat)]->g≠B->Calls prog 118 #[rF (some ⟨B,0,rJ⟩),rE rG 1,.func (.func 119) #[] #[rF (some ⟨g,0,rJ⟩)]] W (Zge B W (nn,A,L1,f1)))
  (C2:A=0->∀(B:Nat) (W:World),RS W B L1 f1->Calls prog 118 #[rF (some ⟨B,0,rJ⟩),rE rG 4,.func (.func 113) #[] #[]] W (Zge B W (u,e2,L2,f2)))
  (C3:A=0->e2=0->∀(B g:Nat) (W:World) (y1 y2 y3:Value),RS W B L2 f2->Blk W g 101 #[rE rG (u:Nat),y1,y2,y3]->g≠B->Calls prog 118 #[rF (some ⟨B,0,rJ⟩),rE rG 4,.func (.func 120) #[] #[rF (some ⟨g,0,rJ⟩)]] W (Zge B W (C,e3,L3,f3)))
  (C4:A=0->e2=0->e3=0->∀(B ob sb g:Nat) (W:World),B<ob->B<sb->ob≠sb->ob<g->sb<g->g<=W.heap.size->RS W B L3 f3->PcS W ob sb g 0 0 (fun _=>none) (fun _=>none)->
   Calls prog 121 #[.agg #[rE rG (u:Nat),rE rG (C:Nat),.map (some ob),.map (some sb)],rF (some ⟨B,0,rJ⟩),rE rG (x:Nat)] W (Zga B ob sb g 0 0 (fun _=>none) (fun _=>none) l W))
  (CR:A=0->e2=0->∀W:World,Calls prog 61 #[rE rG (u:Nat)] W fun e w'=>e=rM (rE rG (x:Nat))/\W=w')
  (C6:A=0->e2=0->e3=0->l.er=0->∀(ob sb:Nat) (W:World),PieceN W ob l.op.length (Aj l.op)->PieceH W sb l.sh.length (Ay l.sh)->Calls prog 123 #[.agg #[rE rG (u:Nat),rE rG (C:Nat),.map (some ob),.map (some sb)],.bool only] W fun e w'=>e=rM (.bool (Ah ⟨(u:Int),(C:Int),l.op,l.sh⟩ only))/\Below W.heap.size W w')
  (X1:A≠0->F=(A,Iq)) (X2:A=0->e2≠0->F=(e2,Iq)) (X3:A=0->e2=0->e3≠0->F=(e3,Iq)) (X4:A=0->e2=0->e3=0->l.er≠0->F=(l.er,Iq))
  (X5:A=0->e2=0->e3=0->l.er=0->Zhe l.rest 0≠0->F=(Zhe l.rest 0,Iq))
  (X6:A=0->e2=0->e3=0->l.er=0->Zhe l.rest 0=0->∀b,Ah ⟨(u:Int),(C:Int),l.op,l.sh⟩ only=b->F=if b=true then(0,⟨(u:Int),(C:Int),l.op,l.sh⟩)else(3,Iq)):
  Calls prog 66 #[.slice a L.length cp,rE rG (mk:Nat)] w (Zju F w):=by
 have aF:=Hd fun(W:World) (hw:Below w.heap.size w W)=>Jg _ L W (h.below hw lR);have bC:=Hd C1;have bD:=Hd C2;have bE:=Hd C3;have bF:=Hd C4;have bH:=Hd CR;have bG:=Hd C6;have bO:=Hd X1;have bP:=Hd X2;have bQ:=Hd X3;have bS:=Hd X4;have bT:=Hd X5;have bU:=Hd X6;have bI:=Hd fun(B:Nat) (W:World) (hW:RS W B l.rest 0)=>Zkq B l.rest 0 W hW;have a4:=Hd bA;obtain⟨g,hg⟩:=eX (w.heap.size+1);have HG:=Hd hg;obtain⟨w0,J⟩:=eX ((w.alloc (rK #[rE rG (mk:Nat)] 3)).alloc (rK #[rE rG 0,rE rG 0,.map none,.map none] 101));have aK:Below w.heap.size w w0:=(by rw[J];exact((Below.refl w.heap.size w).alloc lR _).alloc (by simp) _);have b6:w0.heap.size=w.heap.size+2:=(by rw[J];simp);have a9:Blk w0 w.heap.size 3 #[rE rG (mk:Nat)]:=(by rw[J];exact(Blk.new w _ _).alloc _);have a6:Blk w0 g 101 #[rE rG 0,rE rG 0,.map none,.map none]:=by
  rw[J,hg];have e:(w.alloc (rK #[rE rG (mk:Nat)] 3)).heap.size=w.heap.size+1:=(by simp);rw[<-e];exact Blk.new _ _ _
 have a7:decide ((L.length:Int)>1048576)=false:=dF (by omega);obtain⟨ln,a8⟩:=eX L.length;rw[<-a8]at a7 aF|-;have a3:=Hd (aF.out w0 aK);have bM:=Hd J;clear h hl C1 C2 C3 C4 CR C6 X1 X2 X3 X4 X5 X6 bA aF a8;have cN:∀w,(Instr.makeMap 98 none).run prog w=.ok (.map (some w.heap.size)) (w.alloc (.map #[] 0)):=fun w=>rfl;have cO:∀w,(Instr.makeMap 99 none).run prog w=.ok (.map (some w.heap.size)) (w.alloc (.map #[] 0)):=fun w=>rfl;go_in;go_wp2_with fail;rw[<-bM.out,<-HG.out];refine a3.out.mono ?_;rintro e S ⟨rfl,t,s⟩;obtain⟨B,hB⟩:=eX w0.heap.size;rw[<-hB]at t s|-;have aL:Below w.heap.size w S:=aK.trans (s.mono (by omega));have b5:=t.lt;obtain⟨ob,Q⟩:=eX S.heap.size;obtain⟨sb,X⟩:=eX (ob+1);obtain⟨p,hp⟩:=eX (sb+1);obtain⟨w2,G⟩:=eX (((S.alloc (.map #[] 0)).alloc (.map #[] 0)).alloc (rK #[rE rG 0,rE rG 0,.map (some ob),.map (some sb)] 101));have ea:(S.alloc (.map #[] 0)).heap.size=sb:=(by simp[X,Q]);have eb:((S.alloc (.map #[] 0)).alloc (.map #[] 0)).heap.size=p:=(by simp[hp,X,Q]);have E:Below S.heap.size S w2:=(by rw[G];exact(((Below.refl _ S).alloc lR _).alloc (by simp) _).alloc (by simp;omega) _);have d:=Hd (show w.heap.size+1=g/\g<B/\B<ob/\ob<sb/\sb<p by omega);have aR:=Hd (aL.trans (E.mono aL.size));have G2:=Hd ((a6.below s (by omega)).below E (by omega));have M2:=Hd ((a9.below s (by omega)).below E (by omega));have P2:=Hd (show Blk w2 p 101 #[rE rG 0,rE rG 0,.map (some ob),.map (some sb)] by rw[G,<-eb];exact Blk.new _ _ _);have R2:=Hd (t.below E);have S2:=Hd (show PcS w2 ob sb (p+1) 0 0 (fun _=>none) (fun _=>none)from PcS.made
  (by rw[G,Q];exact((MapF.made S).alloc _).alloc _) (by rw[G,<-ea];exact(MapF.made _).alloc _))
 have bV:=Hd (show p+1<=w2.heap.size by rw[G];simp[hp,X,Q]);have aG:=Hd (show S.heap.size=ob/\ob+1=sb/\sb+1=p by omega);have bN:=Hd G;clear t s aK b6 a9 a6 aL b5 ea eb E G Q X hp hB hg J;go_wp2_with fail;simp only[aG.out.1,aG.out.2.1,aG.out.2.2];rw[<-bN.out];refine(bC.out B w.heap.size w2 R2.out M2.out (by have:=d.out;omega)).mono ?_;rintro e w3 ⟨rfl,t,c⟩;have aC:=Hd (aR.out.trans (c.below (by have:=d.out;omega) aR.out.size));have G3:=Hd (G2.out.only c (by have:=d.out;omega));have M3:=Hd (M2.out.only c (by have:=d.out;omega));have P3:=Hd (P2.out.only c (by have:=d.out;omega));have S3:=Hd (S2.out.only c (by have:=d.out;omega) (by have:=d.out;omega) (by have:=d.out;omega));have R3:=Hd t;have bW:=Hd (eN bV.out c.size);clear t c
 by_cases ha:A=0
 ·have z:=Hd ha;have b7:((A:Int)==0)=true:=(by rw[beq_iff_eq];omega);have b8:((A:Int) !=0)=false:=(by rw[bne_eq_false_iff_eq];omega);clear ha;have aV:=Hd (bD.out z.out);have y0:=P3.out.cell 0;have z0:=P3.out.frozen 0;simp only[bY,bZ]at y0;go_wp2_with fail;refine(aV.out B w3 R3.out).mono ?_;rintro e w4 ⟨rfl,t,c⟩;have aS:=Hd (aC.out.trans (c.below (by have:=d.out;omega) aC.out.size));have G4:=Hd (G3.out.only c (by have:=d.out;omega));have M4:=Hd (M3.out.only c (by have:=d.out;omega));have P4:=Hd (P3.out.only c (by have:=d.out;omega));have S4:=Hd (S3.out.only c (by have:=d.out;omega) (by have:=d.out;omega) (by have:=d.out;omega));have R4:=Hd t;have bX:=Hd (eN bW.out c.size);clear t c y0 z0;have y0:=P4.out.cell 0;have z0:=P4.out.frozen 0;simp only[bY,bZ]at y0;have o:Only p w4 (w4.setCell ⟨p,0,rJ⟩ (rE rG (u:Nat))):=Only.set 0 _;have P5:=Hd (show Blk (w4.setCell ⟨p,0,rJ⟩ (rE rG (u:Nat))) p 101 #[rE rG (u:Nat),rE rG 0,.map (some ob),.map (some sb)]from by simpa using P4.out.set 0 (rE rG (u:Nat)));obtain⟨w5,aP⟩:=eX (w4.setCell ⟨p,0,rJ⟩ (rE rG (u:Nat)));rw[<-aP]at o P5;have aH:=Hd aP;have aD:=Hd (aS.out.trans (o.below (by have:=d.out;omega) aS.out.size));have G5:=Hd (G4.out.only o (by have:=d.out;omega));have M5:=Hd (M4.out.only o (by have:=d.out;omega));have S5:=Hd (S4.out.only o (by omega) (by have:=d.out;omega) (by have:=d.out;omega));have R5:=Hd (R4.out.only o (by have:=d.out;omega) (fE P4.out.lt));have b0:=Hd (eN bX.out o.size);clear o aP
  by_cases s:e2=0
  ·have D:=Hd s;have b9:((e2:Int)==0)=true:=(by rw[beq_iff_eq];omega);have cB:((e2:Int) !=0)=false:=(by rw[bne_eq_false_iff_eq];omega);clear s;have aW:=Hd (bE.out z.out D.out);go_wp2_with fail;rw[<-aH.out];refine(aW.out B p w5 _ _ _ R5.out P5.out (by have:=d.out;omega)).mono ?_;rintro e w6 ⟨rfl,t,c⟩;have aT:=Hd (aD.out.trans (c.below (by have:=d.out;omega) aD.out.size));have G6:=Hd (G5.out.only c (by have:=d.out;omega));have M6:=Hd (M5.out.only c (by have:=d.out;omega));have P6:=Hd (P5.out.only c (by have:=d.out;omega));have S6:=Hd (S5.out.only c (by have:=d.out;omega) (by have:=d.out;omega) (by have:=d.out;omega));have R6:=Hd t;have b1:=Hd (eN b0.out c.size);clear t c y0 z0;have y1:=P6.out.cell 1;have z1:=P6.out.frozen 1;simp only[bY,bZ,cA]at y1;have o:Only p w6 (w6.setCell ⟨p,1,rJ⟩ (rE rG (C:Nat))):=Only.set 1 _;have P7:=Hd (show Blk (w6.setCell ⟨p,1,rJ⟩ (rE rG (C:Nat))) p 101 #[rE rG (u:Nat),rE rG (C:Nat),.map (some ob),.map (some sb)]from by simpa using P6.out.set 1 (rE rG (C:Nat)));obtain⟨w7,aQ⟩:=eX (w6.setCell ⟨p,1,rJ⟩ (rE rG (C:Nat)));rw[<-aQ]at o P7;have aI:=Hd aQ;have aE:=Hd (aT.out.trans (o.below (by have:=d.out;omega) aT.out.size));have G7:=Hd (G6.out.only o (by have:=d.out;omega));have M7:=Hd (M6.out.only o (by have:=d.out;omega));have S7:=Hd (S6.out.only o (by omega) (by have:=d.out;omega) (by have:=d.out;omega));have R7:=Hd (R6.out.only o (by have:=d.out;omega) (fE P6.out.lt));have b2:=Hd (eN b1.out o.size);clear o aQ
   by_cases hc:e3=0
   ·have O:=Hd hc;have cC:((e3:Int)==0)=true:=(by rw[beq_iff_eq];omega);have cD:((e3:Int) !=0)=false:=(by rw[bne_eq_false_iff_eq];omega);clear hc;have aX:=Hd (bF.out z.out D.out O.out);have a0:=Hd (bH.out z.out D.out);have aY:=Hd (bG.out z.out D.out O.out);go_wp2_with fail;rw[<-aI.out];clear y1 z1;refine Bp [eF (.agg #[rE rG (u:Nat),rE rG (C:Nat),.map (some ob),.map (some sb)]),eF (rF (some ⟨B,0,rJ⟩)),eF (rF (some ⟨p,0,rJ⟩)),eF (rE rG (u:Nat)),eF (rE rG (x:Nat)),fun v w'=>v=rE rH (l.er:Nat)/\(l.er=0->RS w' B l.rest 0/\PcS w' ob sb (p+1) (0+l.op.length) (0+l.sh.length) (Lw (fun _=>none) l.op) (Pd (fun _=>none) l.sh)),eF (rE rH (l.er:Nat))]
     (cJ 7 true) (fun x=>On3 B ob sb w7 x) (fun x y=>On3 B ob sb x y) (some 5) (by kernel_rfl) ?_ ⟨rfl,rfl,rfl,lR,fun _ _ _ _ _=>rfl⟩ (fun x y _ h=>On3.below h) (fun x y hx hs=>hx.trans hs) (by kernel_rfl) (by kernel_rfl) ?_ ?_
    ·exact kE (kE (kE (kE (kE (Cw (fun v x y h _ s=>⟨h.1,fun e=>⟨(h.2 e).1.below s,(h.2 e).2.below s⟩⟩) (Ag (fun _ _ _ h _ _=>h) Ae))))))
    ·refine gO ?_ (gP ?_ rfl (gP ?_ rfl (gO ?_ (gO ?_ (gOw (by kernel_rfl) ?_ (gP ?_ rfl .nil))))));all_goals
      intro a2 wx V aM ho hf;have V:On3 B ob sb w7 wx:=V;refine⟨rfl,?_⟩;intro K hK;try have b3:a2.tmps[7]?.getD undef=rF (some ⟨p,0,rJ⟩):=ho 7 (by kernel_rfl)
      try have cP:a2.tmps[6]?.getD undef=rF (some ⟨B,0,rJ⟩):=ho 6 (by kernel_rfl)
      try have cI:=eqn hf.1
      try have cK:=eqn hf.2.1
      try have cL:=eqn hf.2.2.1
      try(refine Hd ?_;go_simp;exact hK _ rfl)
     ·have aN:=P7.out.on3 V (by have:=d.out;omega) (by have:=d.out;omega) (by have:=d.out;omega);exact wp_load_row 101 (.tmp 7) rfl _ (evs b3) _ _ (0,0) _ aN underlying101 rfl (by kernel_rfl) (hK _ _ rfl (Af rfl bR))
     ·have aN:=P7.out.on3 V (by have:=d.out;omega) (by have:=d.out;omega) (by have:=d.out;omega);have c0:=aN.cell 0;simp only[bY,bZ]at c0;go_simp;exact hK _ _ rfl (Af rfl bR)
     ·go_simp;refine(a0.out wx).mono ?_;rintro e w8 ⟨rfl,rfl⟩;exact hK _ _ rfl (Af rfl bR)
     ·go_simp;refine(aX.out B ob sb (p+1) wx (by have:=d.out;omega) (by have:=d.out;omega) (by have:=d.out;omega) (by have:=d.out;omega) (by have:=d.out;omega) (by have:=b2.out;have:=aM.size;omega) (R7.out.below aM) (S7.out.below aM)).mono ?_;rintro e w8 ⟨rfl,h2,h3⟩;exact hK _ _ ⟨rfl,h3⟩ (Cc rfl h2)
     ·refine Hd ?_;have cM:a2.tmps[49]?.getD undef=rE rH (l.er:Nat):=hf.1.1;go_simp;exact hK _ rfl
    ·rintro f w8 s P;have s:On3 B ob sb w7 w8:=s;have R:l.er=0->RS w8 B l.rest 0/\PcS w8 ob sb (p+1) (0+l.op.length) (0+l.sh.length) (Lw (fun _=>none) l.op) (Pd (fun _=>none) l.sh):=P.2.2.2.2.2.1.2;have Sr:f 9=rE rH (l.er:Nat):=P.2.2.2.2.2.2.1;clear P;simp only[Ak,At,Ei,dG,dH,dJ,dK,Nat.reduceBEq,Nat.reduceAdd,dO,dP,cond_true,cond_false];rw[Sr];clear Sr;have T:=Hd (aE.out.trans (s.low (by have:=d.out;omega) (by have:=d.out;omega) (by have:=d.out;omega) aE.out.size));have G8:=Hd (G7.out.on3 s (by have:=d.out;omega) (by have:=d.out;omega) (by have:=d.out;omega));have M8:=Hd (M7.out.on3 s (by have:=d.out;omega) (by have:=d.out;omega) (by have:=d.out;omega));have P8:=Hd (P7.out.on3 s (by have:=d.out;omega) (by have:=d.out;omega) (by have:=d.out;omega));have bK:=Hd R;clear s R
     by_cases hd:l.er=0
     ·have U:=Hd hd;have cE:((l.er:Int)==0)=true:=(by rw[beq_iff_eq];omega);have cF:((l.er:Int) !=0)=false:=(by rw[bne_eq_false_iff_eq];omega);clear hd;have aZ:=Hd (aY.out U.out);obtain⟨bB,aO⟩:=bK.out U.out;rw[cX,cX,Zjz,Zj0]at aO;have a1:=Hd (bI.out B w8 bB);have S8:=Hd aO;have Z:=Hd (bT.out z.out D.out O.out U.out);have aA:=Hd (bU.out z.out D.out O.out U.out);clear bB aO;obtain⟨e5,a5⟩:=eX (Zhe l.rest 0);rw[<-a5]at a1 Z aA;clear a5;go_wp2_with fail;refine a1.out.mono ?_;rintro e w' ⟨rfl,rfl⟩
      by_cases he:e5=0
      ·have bJ:=Hd he;have cG:((e5:Int)==0)=true:=(by rw[beq_iff_eq];omega);have cH:((e5:Int) !=0)=false:=(by rw[bne_eq_false_iff_eq];omega);clear he;have c0:=M8.out.cell 0;simp only[bY,bZ]at c0;obtain⟨om,I⟩:=eX (((mk:Int)==2));have cQ:((mk:Int)==2)=om:=I.symm;have N:=aZ.out ob sb w8 S8.out.pieceN S8.out.pieceH;rw[<-a4.out,<-I]at N;have Y:=Hd N;obtain⟨RB,aJ⟩:=eX (Ah ⟨(u:Int),(C:Int),l.op,l.sh⟩ om);have bL:=Hd (show Ah ⟨(u:Int),(C:Int),l.op,l.sh⟩ only=RB by rw[aJ,I,a4.out]);rw[<-aJ]at Y;clear I N aJ;go_wp2_with (refine As rfl 101 (.tmp 7) rfl p rfl 101 #[rE rG (u:Nat),rE rG (C:Nat),.map (some ob),.map (some sb)] (0,0) _ P8.out underlying101 rfl (by kernel_rfl) ?_);refine Y.out.mono ?_;rintro e w9 ⟨rfl,s⟩;have aU:=Hd (T.out.trans (s.mono T.out.size));have G9:=Hd (G8.out.below s G8.out.lt);have P9:=Hd (P8.out.below s P8.out.lt);have S9:=Hd (S8.out.below s);clear s c0;have aB:=Hd (aA.out bJ.out RB bL.out);cases RB with
       |true=>
        go_wp2_with (first
         |(refine As rfl 101 (.tmp 7) rfl p rfl 101 #[rE rG (u:Nat),rE rG (C:Nat),.map (some ob),.map (some sb)] (0,0) _ P9.out underlying101 rfl (by kernel_rfl) ?_)
         |(refine Aa rfl 101 (.tmp 4) (.tmp 66) rfl g #[rE rG (u:Nat),rE rG (C:Nat),.map (some ob),.map (some sb)] rfl rfl 101 #[rE rG 0,rE rG 0,.map none,.map none] G9.out (by kernel_rfl) rfl rfl ?_))
        rintro M i m n j;have r:=Hd i;have q:=Hd (aU.out.trans (m w.heap.size (by have:=d.out;omega)));have b4:=Hd (S9.out.only (Only.storeQ m n) (by have:=d.out;omega) (by have:=d.out;omega) (by have:=d.out;omega));clear i m n j;go_wp2_with fail;refine bodyPost_ret (v:=.tuple #[.agg #[rE rG (u:Nat),rE rG (C:Nat),.map (some ob),.map (some sb)],rE rH 0]) (Ad results66 _ _ g _ _ _ rfl r.out underlying101 rfl (by kernel_rfl)) rfl ?_;rw[aB.out.trans (iP trivial)];refine⟨q.out,?_⟩;rw[iP rfl];exact⟨ob,sb,p+1,rfl,by have:=d.out;omega,by have:=d.out;omega,by have:=d.out;omega,by have:=d.out;omega,by have:=d.out;omega,b4.out⟩
       |false=>
        go_wp2_with (refine Aa rfl 101 (.tmp 4) (.tmp 65) rfl g #[rE rG 0,rE rG 0,.map none,.map none] rfl rfl 101 #[rE rG 0,rE rG 0,.map none,.map none] G9.out (by kernel_rfl) rfl rfl ?_);rintro M i m n j;have r:=Hd i;have q:=Hd (aU.out.trans (m w.heap.size (by have:=d.out;omega)));clear i m n j;go_wp2_with fail;refine bodyPost_ret (v:=.tuple #[.agg #[rE rG 0,rE rG 0,.map none,.map none],rE rH 3]) (Ad results66 _ _ g _ _ _ rfl r.out underlying101 rfl (by kernel_rfl)) rfl ?_;rw[aB.out];exact⟨q.out,rfl⟩
      ·have H:=Hd he;have cG:((e5:Int)==0)=false:=(by rw[qN];omega);have cH:((e5:Int) !=0)=true:=(by rw[bne_iff_ne];omega);clear he;go_wp2_with (refine Aa rfl 101 (.tmp 4) (.tmp 57) rfl g #[rE rG 0,rE rG 0,.map none,.map none] rfl rfl 101 #[rE rG 0,rE rG 0,.map none,.map none] G8.out (by kernel_rfl) rfl rfl ?_);rintro M i m n j;have r:=Hd i;have q:=Hd (T.out.trans (m w.heap.size (by have:=d.out;omega)));clear i m n j;go_wp2_with fail;refine bodyPost_ret (v:=.tuple #[.agg #[rE rG 0,rE rG 0,.map none,.map none],rE rH (e5:Nat)]) (Ad results66 _ _ g _ _ _ rfl r.out underlying101 rfl (by kernel_rfl)) rfl ?_;rw[Z.out H.out];exact⟨q.out,by rw[iN H.out]⟩
     ·have H:=Hd hd;have cE:((l.er:Int)==0)=false:=(by rw[qN];omega);have cF:((l.er:Int) !=0)=true:=(by rw[bne_iff_ne];omega);clear hd;go_wp2_with (refine Aa rfl 101 (.tmp 4) (.tmp 57) rfl g #[rE rG 0,rE rG 0,.map none,.map none] rfl rfl 101 #[rE rG 0,rE rG 0,.map none,.map none] G8.out (by kernel_rfl) rfl rfl ?_);rintro M i m n j;have r:=Hd i;have q:=Hd (T.out.trans (m w.heap.size (by have:=d.out;omega)));clear i m n j;go_wp2_with fail;refine bodyPost_ret (v:=.tuple #[.agg #[rE rG 0,rE rG 0,.map none,.map none],rE rH (l.er:Nat)]) (Ad results66 _ _ g _ _ _ rfl r.out underlying101 rfl (by kernel_rfl)) rfl ?_;rw[bS.out z.out D.out O.out H.out];exact⟨q.out,by rw[iN H.out]⟩
   ·have H:=Hd hc;have cC:((e3:Int)==0)=false:=(by rw[qN];omega);have cD:((e3:Int) !=0)=true:=(by rw[bne_iff_ne];omega);clear hc;go_wp2_with (refine Aa rfl 101 (.tmp 4) (.tmp 57) rfl g #[rE rG 0,rE rG 0,.map none,.map none] rfl rfl 101 #[rE rG 0,rE rG 0,.map none,.map none] (by rw[<-aI.out];exact G7.out) (by kernel_rfl) rfl rfl ?_);rintro M i m n j;simp only[<-aI.out]at m;have r:=Hd i;have q:=Hd (aE.out.trans (m w.heap.size (by have:=d.out;omega)));clear i m n j;go_wp2_with fail;refine bodyPost_ret (v:=.tuple #[.agg #[rE rG 0,rE rG 0,.map none,.map none],rE rH (e3:Nat)]) (Ad results66 _ _ g _ _ _ rfl r.out underlying101 rfl (by kernel_rfl)) rfl ?_;rw[bQ.out z.out D.out H.out];exact⟨q.out,by rw[iN H.out]⟩
  ·have H:=Hd s;have b9:((e2:Int)==0)=false:=(by rw[qN];omega);have cB:((e2:Int) !=0)=true:=(by rw[bne_iff_ne];omega);clear s;go_wp2_with (refine Aa rfl 101 (.tmp 4) (.tmp 57) rfl g #[rE rG 0,rE rG 0,.map none,.map none] rfl rfl 101 #[rE rG 0,rE rG 0,.map none,.map none] (by rw[<-aH.out];exact G5.out) (by kernel_rfl) rfl rfl ?_);rintro M i m n j;simp only[<-aH.out]at m;have r:=Hd i;have q:=Hd (aD.out.trans (m w.heap.size (by have:=d.out;omega)));clear i m n j;go_wp2_with fail;refine bodyPost_ret (v:=.tuple #[.agg #[rE rG 0,rE rG 0,.map none,.map none],rE rH (e2:Nat)]) (Ad results66 _ _ g _ _ _ rfl r.out underlying101 rfl (by kernel_rfl)) rfl ?_;rw[bP.out z.out H.out];exact⟨q.out,by rw[iN H.out]⟩
 ·have H:=Hd ha;have b7:((A:Int)==0)=false:=(by rw[qN];omega);have b8:((A:Int) !=0)=true:=(by rw[bne_iff_ne];omega);clear ha;go_wp2_with (refine Aa rfl 101 (.tmp 4) (.tmp 57) rfl g #[rE rG 0,rE rG 0,.map none,.map none] rfl rfl 101 #[rE rG 0,rE rG 0,.map none,.map none] G3.out (by kernel_rfl) rfl rfl ?_);rintro M i m n j;have r:=Hd i;have q:=Hd (aC.out.trans (m w.heap.size (by have:=d.out;omega)));clear i m n j;go_wp2_with fail;refine bodyPost_ret (v:=.tuple #[.agg #[rE rG 0,rE rG 0,.map none,.map none],rE rH (A:Nat)]) (Ad results66 _ _ g _ _ _ rfl r.out underlying101 rfl (by kernel_rfl)) rfl ?_;rw[bO.out H.out];exact⟨q.out,by rw[iN H.out]⟩
theorem Zar (v:Value)(L:List Nat)(mk:Nat)(only:Bool)(w:World)(h:Rd w v (bvs L))(A:BL mk L)(y:∀n∈L,n<256)(C:((mk:Int)==2)=only)(hm:mk<256):
  Calls prog 66 #[v,rE rG (mk:Nat)] w (Zju (ofT only mk L) w):=by
 obtain⟨a,cp,rfl,-,-⟩:=id h;rw[bvs_len]at h|-;unfold ofT Zm8 Zm7 Zm6;obtain⟨A,d⟩:=A;unfold Zme at d;rw[iN (by omega)];have z:=Ip L 1 fun n=>n==mk;have V:=fun h=>Sn (L:=L) (s:=1) (P:=fun n=>n==mk) h;have O:=fun(B g:Nat) (W:World) (c:RS W B L 0) (o:Blk W g 3 #[rE rG (mk:Nat)]) (m:g≠B)=>Qm 119 (rF (some ⟨g,0,rJ⟩)) (fun _ _=>rfl) B L 1 (fun n=>n==mk) W c (.inl rfl) y fun n p l j=>Zgi n g mk p (by have:=(o.only j m).cell 0;simpa using this);generalize Fk L 1 (fun n=>n==mk)=r1 at z V O d|-;have r:∀n∈r1.2.2.1,n<256:=fun n l=>y n (z.2 n l);have g2:=(Ip r1.2.2.1 4 fits).trans z;have J:=fun h=>Sn (L:=r1.2.2.1) (s:=4) (P:=fits) h;have Z:=So (P:=fits) r (.inr rfl);have Q:=fun(B:Nat) (W:World) (c:RS W B r1.2.2.1 0)=>Zgh 113 (fun _ _=>rfl) B r1.2.2.1 4 fits W c (.inr rfl) r fun n p l j=>by
  have:=Je (n:Int) p (by omega) (by omega);rw[cD]at this;exact this.mono fun e w' h=>⟨h.1,h.2.symm⟩
 generalize Fk r1.2.2.1 4 fits=r2 at g2 J Z Q d|-;have t:∀n∈r2.2.2.1,n<256:=fun n l=>y n (g2.2 n l);have g3:=(Ip r2.2.2.1 4 fun i=>decide (i<r2.1)).trans g2;have X:=fun h=>Sn (L:=r2.2.2.1) (s:=4) (P:=fun i=>decide (i<r2.1)) h;have b3:=So (P:=fun i=>decide (i<r2.1)) t (.inr rfl);have R:=fun(B g:Nat) (W:World) (K M N:Value) (c:RS W B r2.2.2.1 0) (o:Blk W g 101 #[rE rG (r2.1:Nat),K,M,N]) (m:g≠B)=>Qm 120 (rF (some ⟨g,0,rJ⟩)) (fun _ _=>rfl) B r2.2.2.1 4 (fun i=>decide (i<r2.1)) W c (.inr rfl) t fun n p l j=>Zgj n g r2.1 p (by have:=(o.only j m).cell 0;simpa using this);generalize Fk r2.2.2.1 4 (fun i=>decide (i<r2.1))=r3 at g3 X b3 R d|-;have u:∀n∈r3.2.2.1,n<256:=fun n l=>y n (g3.2 n l);have f:=fun(h:r2.2.1=0)=>Zgs (J h).1;have S:=fun(h2:r2.2.1=0) (B ob sb g:Nat) (W:World) (D:B<ob) (E:B<sb) (F:ob≠sb) (G:ob<g) (H:sb<g) (I:g<=W.heap.size) (c:RS W B r3.2.2.1 0) (hS:PcS W ob sb g 0 0 (fun _=>none) (fun _=>none))=>
  Zjt (aY r2.1) (f h2).2.2.1 (r2.1-1) (r2.1:Nat) (r3.1:Nat) B ob sb g 0 0 r3.2.2.1 (fun _=>none) (fun _=>none) W (f h2).2.2.2.2 (by have:=(f h2).1;have:=(f h2).2.1;omega) (by have:=(f h2).1;omega) D E F G H I c hS (by have:=g3.1;omega) u
 have Y:=fun(h2:r2.2.1=0) (W:World)=>(show Calls prog 61 #[rE rG (r2.1:Nat)] W fun e w'=>e=rM (rE rG ((r2.1-1:Nat):Int))/\W=w' from by
  have:=Jf (r2.1:Int) W (by omega) (by omega)
  rwa [(f h2).2.2.2.1]at this)
 have T:=fun(h2:r2.2.1=0) (h4:(rdP (aY r2.1) (r2.1-1) r3.2.2.1).er=0)=>Vd (k:=aY r2.1) (x:=r2.1-1) (n:=r2.1) (i:=r3.1) u (d.imp (fun h=>by have:=g3.1;omega) id) (by have:=(f h2).1;omega) (by have:=(f h2).1;have:=(f h2).2.1;omega) (by omega) (by omega) h4;generalize hrr:rdP (aY r2.1) (r2.1-1) r3.2.2.1=rr at S T|-;refine Zgt a cp L r1.2.2.1 r2.2.2.1 r3.2.2.1 mk r1.1 r2.1 r3.1 r1.2.1 r2.2.1 r3.2.1 r1.2.2.2 r2.2.2.2 r3.2.2.2 0 (r2.1-1) only rr _ w h A C O (fun e B W c=> ?_) (fun e e2 B g W K M N c=> ?_) (fun e e2 e3 B ob sb g W D E F G H I c=> ?_) (fun e e2=>Y e2) (fun e e2 e3 q ob sb W h1 h2=> ?_) (fun e=> ?_) (fun e e2=> ?_) (fun e e2 e3=> ?_) (fun e e2 e3 q=> ?_) (fun e e2 e3 q U=> ?_) (fun e e2 e3 q U b o=> ?_)
 ·rw[(V e).2]at c;exact Q B W c
 ·rw[(J e2).2]at c;exact R B g W K M N c
 ·rw[(X e3).2]at c;exact S e2 B ob sb g W D E F G H I c
 ·obtain⟨q1,q2,q3⟩:=T e2 q;exact Zjv ⟨(r2.1:Int),(r3.1:Int),rr.op,rr.sh⟩ only ob sb W q1 q2 q3 h1 h2
 ·rw[iP e]
 ·rw[iN (by omega),iP e2]
 ·rw[iN (by omega),iN (by omega),iP e3]
 ·rw[iN (by omega),iN (by omega),iN (by omega),iP q]
 ·rw[iN (by omega),iN (by omega),iN (by omega),iN (by omega),iP U]
 ·rw[iN (by omega),iN (by omega),iN (by omega),iN (by omega),iN (by omega)]
  by_cases hb2:b=true
  ·rw[iP (o.trans hb2),iP hb2]
  ·rw[iN (fun hc=>hb2 (o.symm.trans hc)),iN hb2]
structure SpGood (s:SparseD):Prop where
 ok:SparseOk s
 small:Bx s=true
 piece:Bt s=true
 opPos:∀p∈s.op,0<=p.1
 shPos:∀p∈s.sh,0<=p.1
 opUp:(s.op.map (·.1)).Pairwise (· < ·)
 shUp:(s.sh.map (·.1)).Pairwise (· < ·)
theorem Zl4 {k x n i:Nat} {L:List Nat}(d:∀y∈L,y<256)(f:L.length<=4000\/Bx ⟨0,0,(rdP k x L).op,(rdP k x L).sh⟩=true)(hx:2^k<=x+1)(b:x+2^k<=131071)(g:n<=4294967296)(e:i<=4294967296)(h:(rdP k x L).er=0):
  SpGood ⟨(n:Int),(i:Int),(rdP k x L).op,(rdP k x L).sh⟩:=by
 obtain⟨c,h2,h3⟩:=Vd (n:=n) (i:=i) d f hx b g e h;have o:=Zal k x L hx h;exact⟨c,h2,h3,fun p a=>by have:=(o.opIn p a).1;omega,fun p a=>by have:=(o.shIn p a).1;omega,Mz o.opUp,Mz o.shUp⟩
theorem Sp {only:Bool} {mk:Nat} {L:List Nat}(f:∀y∈L,y<256)(l:BL mk L)(h:(ofT only mk L).1=0):SpGood (ofT only mk L).2/\Ah (ofT only mk L).2 only=true:=by
 unfold ofT Zm8 Zm7 Zm6 at h|-;obtain⟨l,a⟩:=l;unfold Zme at a;rw[iN (by omega)]at h|-;have e:=Ip L 1 fun n=>n==mk;generalize Fk L 1 (fun n=>n==mk)=r1 at e a h|-
 split at h
 ·rename_i c;exact absurd h c
 ·rename_i c1
  rw[iN c1];have g:∀n∈r1.2.2.1,n<256:=fun n b=>f n (e.2 n b);have g2:=(Ip r1.2.2.1 4 fits).trans e;have m:=fun h=>Sn (L:=r1.2.2.1) (s:=4) (P:=fits) h;have o:=So (P:=fits) g (.inr rfl);generalize Fk r1.2.2.1 4 fits=r2 at g2 m o a h|-
  split at h
  ·rename_i c;exact absurd h c
  ·rename_i c2
   rw[iN c2];have j:∀n∈r2.2.2.1,n<256:=fun n b=>f n (g2.2 n b);have g3:=(Ip r2.2.2.1 4 fun i=>decide (i<r2.1)).trans g2;have p:=So (P:=fun i=>decide (i<r2.1)) j (.inr rfl);generalize Fk r2.2.2.1 4 (fun i=>decide (i<r2.1))=r3 at g3 p a h|-
   split at h
   ·rename_i c;exact absurd h c
   ·rename_i c3
    rw[iN c3];have d:=Zgs (m (by omega)).1;have G:=fun(q:(rdP (aY r2.1) (r2.1-1) r3.2.2.1).er=0)=>Zl4 (k:=aY r2.1) (x:=r2.1-1) (n:=r2.1) (i:=r3.1) (fun n b=>f n (g3.2 n b)) (a.imp (fun h=>by have:=g3.1;omega) id) (by have:=d.1;omega) (by have:=d.1;have:=d.2.1;omega) (by omega) (by omega) q;generalize rdP (aY r2.1) (r2.1-1) r3.2.2.1=rr at G h|-
    split at h
    ·rename_i c;exact absurd h c
    ·rename_i c4
     rw[iN c4]
     split at h
     ·rename_i c;exact absurd h c
     ·rename_i c5
      rw[iN c5]
      split at h
      ·rename_i c6
       rw[iP c6];exact⟨G (by omega),c6⟩
      ·cases h
theorem Zl5 {only:Bool} {mk:Nat} {L:List Nat}(h:(ofT only mk L).1≠0):(ofT only mk L).2=Iq:=by
 unfold ofT Zm8 Zm7 Zm6 at h|-
 split at h
 ·rename_i c;rw[iP c]
 ·rename_i c0
  rw[iN c0]
  split at h
  ·rename_i c;rw[iP c]
  ·rename_i c1
   rw[iN c1]
   split at h
   ·rename_i c;rw[iP c]
   ·rename_i c2
    rw[iN c2]
    split at h
    ·rename_i c;rw[iP c]
    ·rename_i c3
     rw[iN c3]
     split at h
     ·rename_i c;rw[iP c]
     ·rename_i c4
      rw[iN c4]
      split at h
      ·rename_i c;rw[iP c]
      ·rename_i c5
       rw[iN c5]
       split at h
       ·exact absurd rfl h
       ·rename_i c6;rw[iN c6]
theorem Zas {α:Type} {l:List (Int×α)} {D:Nat->α}(hp:∀p∈l,0<=p.1)(hD:∀p∈l,D p.1.toNat=p.2):(l.map fun p=>p.1.toNat).map (fun m:Nat=>((m:Int),D m))=l:=by
 rw[iW]
 conv=>rhs;rw[<-iX l]
 refine iK fun p hp2=> ?_;show(((p.1.toNat:Nat):Int),D p.1.toNat)=p;rw[hD p hp2,iY (hp p hp2)]
theorem Zat {α:Type} {l:List (Int×α)}(hp:∀p∈l,0<=p.1):((l.map fun p=>p.1.toNat).map fun m:Nat=>(m:Int))=l.map (·.1):=by
 rw[iW];refine iK fun p hp2=> ?_;show((p.1.toNat:Nat):Int)=p.1;exact iY (hp p hp2)
theorem Zgu {w:World} {G:Int->Option Value} {H:Int->Option (List Nat)}(h:RunsH w G H)(x:Int):(G x).isSome=(H x).isSome:=by
 have:=h x;cases e:H x with
 |none=>rw[e]at this;have this:G x=none:=this;rw[this];rfl
 |some L=>rw[e]at this;obtain⟨v,h1,h2⟩:=this;rw[h1];rfl
theorem Zau (s:SparseD)(b:SpGood s)(ob sb:Nat)(w:World)(v:PieceN w ob s.op.length (Aj s.op))(h2:PieceH w sb s.sh.length (Ay s.sh)):
  Calls prog 67 #[.agg #[rE rG s.leaves,rE rG s.own,.map (some ob),.map (some sb)]] w fun e w'=>∃v',e=rM v'/\SparseR w' v' s/\Below w.heap.size w w'/\∀(g:Nat) (W:World),g<w.heap.size->Only g w' W->SparseR W v' s:=by
 obtain⟨G,i,j⟩:=v;obtain⟨q,k,d⟩:=h2;have j:NodesG w G (Aj s.op):=j;have d:RunsH w q (Ay s.sh):=d;obtain⟨y,z⟩:=Li b.small;have f:=b.small;unfold Bx at f;simp only[cK,decide_eq_true_eq]at f;have t:=fun p (a:p∈s.op)=>Hx b.opUp a;have r:=fun p (a:p∈s.sh)=>Gq b.shUp a;have u:=Zas (l:=s.op) (D:=fun m:Nat=>(Aj s.op m).getD Ap) b.opPos fun p a=>by
  show(Aj s.op ((p.1.toNat:Nat):Int)).getD Ap=p.2;rw[iY (b.opPos p a),t p a];rfl
 have e2:=Zas (l:=s.sh) (D:=fun m:Nat=>(Ay s.sh m).getD []) b.shPos fun p a=>by
  show(Ay s.sh ((p.1.toNat:Nat):Int)).getD []=p.2;rw[iY (b.shPos p a),r p a];rfl
 have A:=Zat b.opPos;have B:=Zat b.shPos;have:=Qj s.leaves s.own ob sb s.op.length s.sh.length G q (s.op.map fun p=>p.1.toNat) (s.sh.map fun p=>p.1.toNat) (fun m=>(Aj s.op m).getD Ap) (fun m=>(Ay s.sh m).getD []) w i k (by omega) (by omega)
  (by rw[A];exact⟨b.opUp,fun x=>by rw[Ki,(j.val x).2]⟩)
  (by rw[B];exact⟨b.shUp,fun x=>by rw[Gp,Zgu d x]⟩)
  (fun m i=>by
   obtain⟨p,a,rfl⟩:=List.mem_map.1 i;have h:=j ((p.1.toNat:Nat):Int);rw[iY (b.opPos p a),t p a]at h|-;obtain⟨c,n,o⟩:=h;exact⟨(b.ok.op p a).1,List.all_eq_true.1 f.1.2 p a,c,n,o⟩)
  (fun m i=>by
   obtain⟨p,a,rfl⟩:=List.mem_map.1 i;have h:=d ((p.1.toNat:Nat):Int);rw[iY (b.shPos p a),r p a]at h|-;obtain⟨c,n,o⟩:=h;exact⟨(b.ok.sh p a).1,by have:=oD (List.all_eq_true.1 f.2 p a);show p.2.length<=_;omega,c,n,o⟩)
  (by rw[eE];omega) (by rw[eE];omega)
 rw[u,e2]at this;exact this
theorem Zkl (w:World):SparseR w (.agg #[rE rG 0,rE rG 0,rD rJ 0 0,rD rJ 0 0]) Iq:=⟨_,_,rfl,SpotsR.nil w,StubsR.nil w⟩
end Go.Proofs.YtfofaiommeckbaaGreat
namespace Go.Proofs.YtfofaiommeckbaaGreat
open Go.RowKit WalkM ShaM WireM
section
section
variable {T:Nat->NodeD} {F:Int->Option NodeD} {H:Int->Option (List Nat)} {i n:Nat} {only:Bool}
end
end
end Go.Proofs.YtfofaiommeckbaaGreat
namespace Go.Proofs.YtfofaiommeckbaaGreat
open Go.RowKit WalkM WireM
section
section
variable {F:Int->Option NodeD} {H:Int->Option (List Nat)}
end
end
open Go.Maps
theorem Zj1 (v:Value)(L:List Nat)(w:World)(h:Rd w v (bvs L))(hl:BL 1 L)(hL:∀n∈L,n<256):
  Calls prog 22 #[v] w fun e w'=>(∃c,e=rM (.tuple #[.agg c,rE rH ((ofT false 1 L).1:Nat)])/\SparseR w' (.agg c) (ofT false 1 L).2)/\Below w.heap.size w w':=by
 have RD:=fun(W:World) (hw:Below w.heap.size w W)=>Zar v L 1 false W (h.below hw lR) hl hL rfl (by omega);have O:=fun h=>(Sp (only:=false) (mk:=1) hL hl h).1;have N:=fun h=>Zl5 (only:=false) (mk:=1) (L:=L) h;obtain⟨R,hR⟩:=eX ((ofT false 1 L));rw[<-hR]at RD O N|-;obtain⟨g,hg⟩:=eX w.heap.size;have S:=Hd hg;have X:=Hd (RD (w.alloc (rK #[rE rG 0,rE rG 0,rD rJ 0 0,rD rJ 0 0] 25)) ((Below.refl w.heap.size w).alloc lR _));have G0:=Hd (show Blk (w.alloc (rK #[rE rG 0,rE rG 0,rD rJ 0 0,rD rJ 0 0] 25)) g 25 #[rE rG 0,rE rG 0,rD rJ 0 0,rD rJ 0 0] by rw[hg];exact Blk.new _ _ _);have t:=Hd ((Below.refl w.heap.size w).alloc lR (rK #[rE rG 0,rE rG 0,rD rJ 0 0,rD rJ 0 0] 25));have T:=Hd O;have u:=Hd N;obtain⟨er,p⟩:=eX R.1;rw[<-p];have Q:=Hd p;clear RD O N hR hg p h hl hL;go_in;go_wp2_with fail;refine X.out.mono ?_;rintro e q ⟨o,G⟩;have j:=Hd (t.out.trans (o.mono t.out.size));have r:=Hd (G0.out.below o G0.out.lt);rw[<-S.out];rw[<-Q.out]at G;clear o
 by_cases h0:er=0
 ·rw[iP h0]at G;have aA:((er:Int) !=0)=false:=(by rw[bne_eq_false_iff_eq];omega);have z:=Hd (T.out (by rw[<-Q.out];exact h0));obtain⟨ob,sb,gg,rfl,h1,h2,h3,-,-,m⟩:=G;have hN:=m.pieceN;have hH:=m.pieceH;clear m;obtain⟨s,I⟩:=eX R.2;rw[<-I]at hN hH z;have Y:=Hd I;rw[<-I];have B:=Hd fun(W:World) (H:Below q.heap.size q W)=>Zau s z.out ob sb W (hN.below H lR) (hH.below H lR);obtain⟨lv,C⟩:=eX s.leaves;obtain⟨ow,how⟩:=eX s.own;rw[<-C,<-how]at B|-;have aB:er=0:=h0;subst aB;clear h0 h1 h2 h3 hN hH I C how;go_wp2_with fail;refine(B.out _ ((Below.refl q.heap.size q).alloc lR _)).mono ?_;rintro e w2 ⟨v,rfl,l,o,F⟩;have k:=(Below.refl q.heap.size q).alloc lR (rK #[rE rG lv,rE rG ow,.map (some ob),.map (some sb)] 101);have P:=Hd (j.out.trans (((k).trans (o.mono k.size)).mono j.out.size));have G2:=Hd ((r.out.below k r.out.lt).below o (by have:=r.out.lt;simp;omega));have V:=Hd fun(W:World) (H:Only g w2 W)=>F g W (by have:=r.out.lt;simp;omega) H;obtain⟨J,K,rfl,-,-⟩:=id l;have D:J.oneCell'=true:=(by obtain⟨x,y,e,q1,-⟩:=l;cases e;obtain⟨a,c,rfl,-⟩:=q1;rfl);have E:K.oneCell'=true:=(by obtain⟨x,y,e,-,q1⟩:=l;cases e;obtain⟨a,c,rfl,-⟩:=q1;rfl);have A:=Hd (show(#[rE rG s.leaves,rE rG s.own,J,K]:Array Value).toList.all (·.oneCell')=true by simp only[List.all_cons,List.all_nil,D,E];rfl);clear l o F k D E;go_wp2_with (refine Aa rfl 25 (.tmp 2) (.tmp 16) rfl g #[rE rG s.leaves,rE rG s.own,J,K] rfl rfl 25 #[rE rG 0,rE rG 0,rD rJ 0 0,rD rJ 0 0] G2.out (by kernel_rfl) rfl A.out ?_);rintro w3 b i f d;have Z:=Hd b;have S3:=Hd (V.out w3 (Only.storeQ i f));have M:=Hd (P.out.trans (i w.heap.size (by rw[S.out];exact lR)));clear b i f d;go_wp2_with fail;refine bodyPost_ret (v:=.tuple #[.agg #[rE rG s.leaves,rE rG s.own,J,K],rE rH 0]) (Ad results22 _ _ g _ _ _ rfl Z.out underlying25 rfl (by kernel_rfl)) rfl ?_;exact⟨⟨_,rfl,by rw[<-Y.out];exact S3.out⟩,M.out⟩
 ·rw[iN h0]at G;have aA:((er:Int) !=0)=true:=(by rw[bne_iff_ne];omega);have U:=Hd (u.out (by rw[<-Q.out];exact h0));obtain rfl:=G;clear h0;go_wp2_with (refine Aa rfl 25 (.tmp 2) (.tmp 13) rfl g #[rE rG 0,rE rG 0,rD rJ 0 0,rD rJ 0 0] rfl rfl 25 #[rE rG 0,rE rG 0,rD rJ 0 0,rD rJ 0 0] (r.out.alloc _) (by kernel_rfl) rfl rfl ?_);rintro w3 b i f d;have Z:=Hd b;have M:=Hd ((j.out.alloc j.out.size _).trans (i w.heap.size (by rw[S.out];exact lR)));clear b i f d;go_wp2_with fail;refine bodyPost_ret (v:=.tuple #[.agg #[rE rG 0,rE rG 0,rD rJ 0 0,rD rJ 0 0],rE rH (er:Nat)]) (Ad results22 _ _ g _ _ _ rfl Z.out underlying25 rfl (by kernel_rfl)) rfl ?_;exact⟨⟨_,rfl,by rw[U.out];exact Zkl _⟩,M.out⟩
end Go.Proofs.YtfofaiommeckbaaGreat
namespace Go.Proofs.YtfofaiommeckbaaGreat
open Go.RowKit WireM
def Ss:NodeD:=⟨1,⟨cJ 32 0,cJ 32 0,[1],1,[],cJ 64 0⟩,noParD⟩
theorem Qn {n:Nat} {N:Int}(d:N=(n:Int))(g:n<=4000000):∀w:World,(Instr.makeSlice 28 (rE rG N) (rE rG N)).run prog w=.ok (rD (some ⟨w.heap.size,0,rJ⟩) n n) (w.alloc (.cells (madeCells (Value.int .u8 0).cells (n*1)) 5)):=by
 intro w;subst d;obtain⟨i,e,f,b,a⟩:∃i,prog.info? 5=some i/\i.zero=some (rE rH 0)/\i.size=1/\i.bytes=1:=info_parts (by kernel_rfl);have c:=run_make (P:=prog) w 28 5 i (rE rH 0) underlying28 e f .i64 .i64 n n (by omega) (by omega) (by rw[a];omega) (by omega);simp only[cD,b]at c;exact c
theorem Sq (w:World)(n:Nat)(a:n<=4000000:=by omega):Own (w.alloc (.cells (madeCells (Value.int .u8 0).cells (n*1)) 5)) w.heap.size 5 (rD (some ⟨w.heap.size,0,rJ⟩) n n) (bvs (cJ n 0)):=by
 have e:bvs (cJ n 0)=(madeCells (Value.int .u8 0).cells (n*1)).toList:=by
  rw[Nat.mul_one];have:=toList_madeCells_one (rE rH 0) n;rw[show(Value.int .u8 0).cells=#[rE rH 0]from rfl,this];simp[bvs]
 rw[e];exact Own.full (B:=w.heap.size) rfl lR (by unfold maxLen;simp[madeCells];omega) (by simp[madeCells])
theorem Zj2 {w:World} {B:Nat} {x1 x2 x3 x4:Value}(e:Own w B 5 x1 (bvs (cJ 32 0)))(f:Own w B 5 x2 (bvs (cJ 32 0)))(g:Own w B 5 x3 (bvs [1]))(h:Own w B 5 x4 (bvs (cJ 64 0))):
  TreeR (w.alloc (rK #[rE rH 1,x1,x2,x3,rE rH 1,rD rJ 0 0,x4,rD rJ 0 0,rD rJ 0 0,rD rJ 0 0] 52)) (rD (some ⟨w.heap.size,0,rJ⟩) 1 1) [Ss]:=by
 have a:NodeO (w.alloc (rK #[rE rH 1,x1,x2,x3,rE rH 1,rD rJ 0 0,x4,rD rJ 0 0,rD rJ 0 0,rD rJ 0 0] 52)) B Ss #[rE rH 1,x1,x2,x3,rE rH 1,rD rJ 0 0,x4,rD rJ 0 0,rD rJ 0 0,rD rJ 0 0]:=
  ⟨_,_,_,_,_,_,_,_,rfl,e.alloc _,f.alloc _,g.alloc _,Own.nil _ _ _,h.alloc _,Own.nil _ _ _,Own.nil _ _ _,Own.nil _ _ _⟩
 refine⟨_,1,rfl,lR,by unfold maxLen;omega,fun i b=>⟨w.heap.size,0,#[rE rH 1,x1,x2,x3,rE rH 1,rD rJ 0 0,x4,rD rJ 0 0,rD rJ 0 0,rD rJ 0 0],rfl,by simp,?_,?_⟩⟩
 ·have:i=0:=(by simpa using b);subst this;exact a.c
 ·have:i=0:=(by simpa using b);subst this;intro j u d;have:=(Blk.new w 52 #[rE rH 1,x1,x2,x3,rE rH 1,rD rJ 0 0,x4,rD rJ 0 0,rD rJ 0 0,rD rJ 0 0]).cell j;rw[show 0+0*10+j=j by omega,this];simpa using d
open WalkM
theorem Xw:Bc [Ss]=true:=by decide
theorem Zav:TreeOk [Ss]:=by
 intro d hd;rw[gA]at hd;subst hd;refine⟨by decide,by decide,?_,?_,?_,?_,?_,?_,?_,?_⟩<;>decide
theorem Xx:Bm [Ss]=true:=by decide+kernel
def Zmf:SparseD:=Fr [Ss] (2^0) 0 [0] []
theorem Zcp:Ah Zmf false=true:=by decide+kernel
theorem Zcq:Bx Zmf=true:=by decide+kernel
theorem Zl6:SparseOk Zmf:=by
 refine⟨by unfold inI;decide,by unfold inI;decide,fun p hp=> ?_,fun p hp=>by cases hp⟩;have:p=(((0:Nat):Int),Ss):=(by simpa [Zmf,Fr,nd]using hp);subst this;exact⟨by unfold inI;decide,Zav Ss (by simp)⟩
theorem Zl7 (w:World):Calls prog 21 #[] w fun e w'=>e=rM (.bool true)/\Below w.heap.size w w':=by
 have u:=Hd (Qn (n:=32) (N:=32) rfl (by omega));have z:=Hd (Qn (n:=64) (N:=64) rfl (by omega));obtain⟨aC,aA⟩:=eX (madeCells (Value.int .u8 0).cells (32*1));obtain⟨Z64,aB⟩:=eX (madeCells (Value.int .u8 0).cells (64*1));have I:=Hd fun(v:Value) (W:World) (hw:TreeR W v [Ss])=>Uz v [Ss] 0 0 0 [0] [] W hw Xw Zav Xx rfl (by decide) (by omega) rfl (by decide+kernel) (by decide+kernel) (by decide+kernel) (by simp) (by simp) (by simp) (by simp) (by simp) (by simp) (fun x=>by rw[Kn];omega);have J:=Hd fun(v:Value) (W:World) (hw:SparseR W v Zmf)=>Xj v Zmf W hw Zl6 Zcq;rw[Zcp]at J;go_in;go_wp2_with fail;refine Cx [fun v w'=>Own w' w.heap.size 5 v (bvs (cJ 32 0)),fun v w'=>Own w' w.heap.size 5 v (bvs (cJ 32 0)),fun v w'=>Own w' w.heap.size 5 v (bvs [1]),fun v w'=>Own w' w.heap.size 5 v (bvs (cJ 64 0)),fun v w'=>∃x1 x2 x3 x4,v=.agg #[x1,x2,x3,rE rH 1,rD rJ 0 0,x4]/\Own w' w.heap.size 5 x1 (bvs (cJ 32 0))/\Own w' w.heap.size 5 x2 (bvs (cJ 32 0))/\Own w' w.heap.size 5 x3 (bvs [1])/\Own w' w.heap.size 5 x4 (bvs (cJ 64 0)),fun v w'=>∃x1 x2 x3 x4,v=.agg #[rE rH 1,x1,x2,x3,rE rH 1,rD rJ 0 0,x4,rD rJ 0 0,rD rJ 0 0,rD rJ 0 0]/\Own w' w.heap.size 5 x1 (bvs (cJ 32 0))/\Own w' w.heap.size 5 x2 (bvs (cJ 32 0))/\Own w' w.heap.size 5 x3 (bvs [1])/\Own w' w.heap.size 5 x4 (bvs (cJ 64 0)),fun v w'=>TreeR w' v [Ss],fun v w'=>TreeR w' v [Ss]] (by kernel_rfl) (by kernel_rfl) (by kernel_rfl) (Ag (fun v x y h _ c=>Own.below h c lR) (Ag (fun v x y h _ c=>Own.below h c lR) (Ag (fun v x y h _ c=>Own.below h c lR) (Ag (fun v x y h _ c=>Own.below h c lR) (Ag (fun v x y h _ c=>let⟨x1,x2,x3,x4,e,p,q,r,s⟩:=h;⟨x1,x2,x3,x4,e,p.below c lR,q.below c lR,r.below c lR,s.below c lR⟩) (Ag (fun v x y h _ c=>let⟨x1,x2,x3,x4,e,p,q,r,s⟩:=h;⟨x1,x2,x3,x4,e,p.below c lR,q.below c lR,r.below c lR,s.below c lR⟩) (Ag (fun v x y h _ c=>TreeR.below h c lR) (Ag (fun v x y h _ c=>TreeR.below h c lR) (Ae))))))))) ?_ ?_
 ·refine gB ?_ (gB ?_ (gB ?_ (gB ?_ (gB ?_ (gB ?_ (gB ?_ (gB ?_ .nil)))))));all_goals
   intro a d m ho A;refine⟨rfl,?_⟩;intro K k;try have D0:=u.out
   try have D1:=z.out
   try(refine Hd ?_;go_simp;exact k _ rfl)
  ·go_simp;exact k _ _ ((Sq d 32).mono m.size) (bR.alloc lR _)
  ·go_simp;exact k _ _ ((Sq d 32).mono m.size) (bR.alloc lR _)
  ·
   go_simp;exact k _ _ (Own.full (B:=w.heap.size) (cs:=#[rE rH 1]) rfl (m.size) (by unfold maxLen;simp) rfl) (bR.alloc lR _)
  ·go_simp;exact k _ _ ((Sq d 64).mono m.size) (bR.alloc lR _)
  ·have i:Own d w.heap.size 5 (a.tmps[4]?.getD undef) (bvs (cJ 32 0)):=A.1;obtain⟨v0,b⟩:=eX (a.tmps[4]?.getD undef);rw[<-b]at i;have Y:=b.symm;clear b;have o1:Own d w.heap.size 5 (a.tmps[5]?.getD undef) (bvs (cJ 32 0)):=A.2.1;obtain⟨v1,C⟩:=eX (a.tmps[5]?.getD undef);rw[<-C]at o1;have Z:=C.symm;clear C;have o2:Own d w.heap.size 5 (a.tmps[6]?.getD undef) (bvs [1]):=A.2.2.1;obtain⟨v2,D⟩:=eX (a.tmps[6]?.getD undef);rw[<-D]at o2;have e2:=D.symm;clear D;have o3:Own d w.heap.size 5 (a.tmps[7]?.getD undef) (bvs (cJ 64 0)):=A.2.2.2.1;obtain⟨v3,E⟩:=eX (a.tmps[7]?.getD undef);rw[<-E]at o3;have e3:=E.symm;clear E;obtain⟨M,m1,d1,rfl⟩:=Da i;obtain⟨O,m2,d2,rfl⟩:=Da o1;obtain⟨a3,m3,d3,rfl⟩:=Da o2;obtain⟨a4,m4,d4,rfl⟩:=Da o3;go_simp;exact k _ _ ⟨_,_,_,_,rfl,i,o1,o2,o3⟩ bR
  ·have i:∃x1 x2 x3 x4,(a.tmps[8]?.getD undef)=.agg #[x1,x2,x3,rE rH 1,rD rJ 0 0,x4]/\Own d w.heap.size 5 x1 (bvs (cJ 32 0))/\Own d w.heap.size 5 x2 (bvs (cJ 32 0))/\Own d w.heap.size 5 x3 (bvs [1])/\Own d w.heap.size 5 x4 (bvs (cJ 64 0)):=A.1;obtain⟨v0,b⟩:=eX (a.tmps[8]?.getD undef);rw[<-b]at i;have Y:=b.symm;clear b;obtain⟨x1,x2,x3,x4,rfl,p,q,r,s⟩:=i;obtain⟨M,m1,d1,rfl⟩:=Da p;obtain⟨O,m2,d2,rfl⟩:=Da q;obtain⟨a3,m3,d3,rfl⟩:=Da r;obtain⟨a4,m4,d4,rfl⟩:=Da s;go_simp;exact k _ _ ⟨_,_,_,_,rfl,p,q,r,s⟩ bR
  ·have i:∃x1 x2 x3 x4,(a.tmps[9]?.getD undef)=.agg #[rE rH 1,x1,x2,x3,rE rH 1,rD rJ 0 0,x4,rD rJ 0 0,rD rJ 0 0,rD rJ 0 0]/\Own d w.heap.size 5 x1 (bvs (cJ 32 0))/\Own d w.heap.size 5 x2 (bvs (cJ 32 0))/\Own d w.heap.size 5 x3 (bvs [1])/\Own d w.heap.size 5 x4 (bvs (cJ 64 0)):=A.1;obtain⟨v0,b⟩:=eX (a.tmps[9]?.getD undef);rw[<-b]at i;have Y:=b.symm;clear b;obtain⟨x1,x2,x3,x4,rfl,p,q,r,s⟩:=i;have HT:=Zj2 p q r s;obtain⟨M,m1,d1,rfl⟩:=Da p;obtain⟨O,m2,d2,rfl⟩:=Da q;obtain⟨a3,m3,d3,rfl⟩:=Da r;obtain⟨a4,m4,d4,rfl⟩:=Da s;go_simp;exact k _ _ HT (bR.alloc lR _)
  ·have i:TreeR d (a.tmps[10]?.getD undef) [Ss]:=A.1;obtain⟨v0,b⟩:=eX (a.tmps[10]?.getD undef);rw[<-b]at i;have Y:=b.symm;clear b;go_simp;exact k _ _ i bR
 ·rintro f w9 l t;have l:Below w.heap.size w w9:=l;have X:TreeR w9 (f 1) [Ss]:=t.2.2.2.2.2.2.2.1;clear t;simp only[Ak,At,Ei,dG,dH,dJ,dK,Nat.reduceBEq,Nat.reduceAdd,dO,dP,cond_true];obtain⟨u1,S⟩:=eX (f 1);rw[<-S]at X|-;clear S;have V:=Hd X;have G:=Hd l;clear X l;go_wp2_with fail;refine(I.out _ _ V.out).mono ?_;rintro e w1 ⟨vr,rfl,R,P⟩;have L:=Hd R;have F:=Hd (G.out.trans (P.mono G.out.size));obtain⟨o,g,rfl,ho,hg⟩:=R;obtain⟨M,c1,rfl,-⟩:=ho;obtain⟨O,c2,rfl,-⟩:=hg;have el:(Fr [Ss] (2^0) 0 [0] []).leaves=1:=rfl;have eo:(Fr [Ss] (2^0) 0 [0] []).own=0:=rfl;have Z:(Fr [Ss] (2^0) 0 [0] []).op.length=1:=rfl;have e2:(Fr [Ss] (2^0) 0 [0] []).sh.length=0:=rfl;rw[el,eo,Z,e2]at L|-;clear el eo Z e2 P;have HA:=Hd ((Below.refl w1.heap.size w1).alloc lR (rK #[rE rG 1,rE rG 0,rD M 1 c1,rD O 0 c2] 25));have U:=Hd (J.out _ _ (L.out.below HA.out lR));have H:=Hd (F.out.trans (HA.out.mono F.out.size));have j:=Blk.new w1 25 #[rE rG 1,rE rG 0,rD M 1 c1,rD O 0 c2];have d0:=j.cell 0;have d1:=j.cell 1;have d2:=j.cell 2;have d3:=j.cell 3;simp only[bY,bZ,cA]at d0 d1 d2 d3;clear j;go_wp2_with fail;refine(U.out).mono ?_;rintro e w5 ⟨rfl,Q⟩;have T:=Hd (H.out.trans (Q.mono H.out.size));clear Q;go_wp2_with fail;go_ret;exact⟨rfl,T.out⟩
theorem Ve (v:Value)(t:List NodeD)(x:Nat)(w:World)(h:TreeR w v t)(d:Bc t=true)(a:TreeOk t)(c:Bm t=true)(hx:x<t.length):
  Calls prog 50 #[v,rE rG (x:Nat)] w fun e w'=>∃v',e=rM v'/\Own w' w.heap.size 3 v' (ivs .i64 (Zmc t x))/\Below w.heap.size w w':=by
 have b:=Zk3 (by have:=Bb d;omega) c hx;exact Zie t d a (Rl c) (lev x) x v w h b.1 b.2
theorem Zcr (u u':Value)(L:List Int)(W:World)(hu:Rd W u (ivs .i64 L))(hu':Rd W u' (ivs .i64 L)):Calls prog 49 #[u,u'] W fun e w'=>e=rM (.bool true)/\∃n,w'=W.drewN n:=by
 have:=Sv u u' L L W hu hu';rw[dT rfl]at this;exact this
