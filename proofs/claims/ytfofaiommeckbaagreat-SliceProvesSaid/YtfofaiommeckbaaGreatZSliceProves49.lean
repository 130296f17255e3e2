import Derived.Test.YtfofaiommeckbaaGreatZSliceProves46
import Derived.Test.YtfofaiommeckbaaGreatZSliceProves41
import Derived.Test.YtfofaiommeckbaaGreatZSliceProves48
open Go.Value renaming slice → q9, int → rA, pointer → rB
open Go.IntKind renaming i64 → rC, u8 → rD
open Option renaming none → rF
open Go.Proofs.Tryz
open Bool renaming and_eq_true → cJ, or_false → dB, or_true → dC
open List renaming length_map → gE, getElem_map → gW, cons_append → iH, length_append → aG, take_append_of_le_length → iN, take_of_length_le → bU, drop_append_of_le_length → iO, drop_of_length_le → iP, nil_append → iI, mem_append → eY, mem_singleton → fS, append_assoc → bW, map_map → iQ, map_id → iR, map_congr_left → gK, drop_drop → iK, pairwise_map → iE, getElem?_toArray → bZ, getElem?_cons_zero → cA, getElem?_cons_succ → cB, replicate → cI, filterMap_cons → cX, filterMap_nil → cY, contains_cons → cZ, contains_nil → dA
open Nat renaming log2 → aX, log2_two_pow → gY, le_trans → bM, pow_le_pow_right → aY, mod_eq_of_lt → aS, two_pow_pos → fB, pow_succ → aN, le_of_lt → dW, zero_add → cW
open Int renaming toNat_natCast → dG
open Option renaming getD_some → cN
set_option linter.unusedVariables false
set_option maxRecDepth 100000
set_option maxHeartbeats 40000000
namespace Go.Proofs.YtfofaiommeckbaaGreat
open Go.RowKit Go.Maps WalkM WireM
theorem Yf {d:NodeD}(h:At d=true)(a:d.par.late.length≤1000):Cd d=true:=by
 unfold At at h;simp only at h;unfold Cd;rw[decide_eq_true_iff]
 split at h
 ·rw[cJ]at h;have h1:=of_decide_eq_true h.1;have h2:=of_decide_eq_true h.2;omega
 ·split at h
  ·rw[cJ]at h;have h1:=of_decide_eq_true h.1;have h2:=of_decide_eq_true h.2;omega
  ·split at h
   ·rw[cJ]at h;have h1:=of_decide_eq_true h.1;have h2:=h.2;unfold rpB at h2;rw[cJ]at h2;have h3:=of_decide_eq_true h2.2;omega
   ·cases h
theorem Nq {α:Type} {l:List (Int×α)}(h:l.Pairwise fun p q=>p.1<q.1):(l.map (·.1)).Pairwise (· < ·):=List.pairwise_map.2 h
theorem Vz {k x n i:Nat} {L:List Nat}(e:∀y∈L,y<256)(d:L.length≤4000∨Dh ⟨0,0,(rdP k x L).op,(rdP k x L).sh⟩=true)(hx:2^k≤x+1)(j:x+2^k≤131071)(m:n≤4294967296)(b:i≤4294967296)(h:(rdP k x L).er=0):
  SparseOk ⟨(n:Int),(i:Int),(rdP k x L).op,(rdP k x L).sh⟩∧Dh ⟨(n:Int),(i:Int),(rdP k x L).op,(rdP k x L).sh⟩=true∧Ct ⟨(n:Int),(i:Int),(rdP k x L).op,(rdP k x L).sh⟩=true:=by
 have o:=Zar k x L hx h;generalize rdP k x L=r at o d⊢;have g:=o.len;refine⟨⟨by unfold inI;simp only;omega,by unfold inI;simp only;omega,fun p a=> ?_,fun p a=> ?_⟩,?_,?_⟩
 ·have:=o.opIn p a;exact⟨by unfold inI;omega,(o.node p a).2.2 e⟩
 ·have:=o.shIn p a;exact⟨by unfold inI;omega,fun y c=>e y ((o.hash p a).2.2 y c)⟩
 ·rcases d with d|d
  rotate_left
  ·exact d
  unfold Dh;simp only[cJ,decide_eq_true_eq];refine⟨⟨⟨by omega,by omega⟩,List.all_eq_true.2 fun p a=>Yf (o.node p a).1 (by have:=(o.node p a).2.1;omega)⟩,List.all_eq_true.2 fun p a=>decide_eq_true (by have:=(o.hash p a).1;omega)⟩
 ·unfold Ct;rw[cJ];constructor
  ·have:=Jh (l:=r.op.map (·.1)) (f:=spK r.op) (fun i b=>by
    rw[gE]at b;unfold spK;rw[Mi b,gW]) (Nq o.opUp) (fun y c=>by
    obtain⟨p,a,rfl⟩:=List.mem_map.1 c;have:=(o.opIn p a).1;omega)
   rwa [gE]at this
  ·have:=Jh (l:=r.sh.map (·.1)) (f:=stK r.sh) (fun i b=>by
    rw[gE]at b;unfold stK;rw[Mj b,gW]) (Nq o.shUp) (fun y c=>by
    obtain⟨p,a,rfl⟩:=List.mem_map.1 c;have:=(o.shIn p a).1;omega)
   rwa [gE]at this
def Zmb (mk:Nat)(L:List Nat):RdR:=rdP (aX (Fy (Fy L 1 fun n=>n==mk).2.2.1 4 fits).1) ((Fy (Fy L 1 fun n=>n==mk).2.2.1 4 fits).1-1) (Fy (Fy (Fy L 1 fun n=>n==mk).2.2.1 4 fits).2.2.1 4 fun i=>decide (i<(Fy (Fy L 1 fun n=>n==mk).2.2.1 4 fits).1)).2.2.1
def BL (mk:Nat)(L:List Nat):Prop:=L.length≤1000000∧(L.length≤4000∨Dh ⟨0,0,(Zmb mk L).op,(Zmb mk L).sh⟩=true)
theorem Zjq (s:SparseD)(only:Bool)(ob sb:Nat)(W:World)(b:SparseOk s)(d:Dh s=true)(f:Ct s=true)(h1:Vk W ob s.op.length (Ag s.op))(h2:Vl W sb s.sh.length (Ax s.sh)):
  Calls prog 123 #[.agg #[rA rC s.leaves,rA rC s.own,.map (some ob),.map (some sb)],.bool only] W fun e w'=>e=.returned (.bool (Ay s only))∧Below W.heap.size W w':=by
 obtain⟨j,h⟩:=Qx d;have a:=f;unfold Ct at a;rw[cJ]at a;have:=Qw s.leaves s.own ob sb s.op.length s.sh.length (Ag s.op) (Ax s.sh) (s.op.map (·.1)) (s.sh.map (·.1)) only W h1 h2 (by omega) (by omega) (Ml b d) (Lb (g:=spK s.op) (fun i c=>by unfold spK;rw[Mi c]) a.1) (fun x=>Nm) (Lb (g:=stK s.sh) (fun i c=>by unfold stK;rw[Mj c]) a.2) (fun x=>Jg) (by simp;omega) (by simp;omega) b.leaves b.own;have e:=Ld s only;rw[f,Bool.true_and]at e
 rwa [e]at this
end Go.Proofs.YtfofaiommeckbaaGreat
namespace Go.Proofs.YtfofaiommeckbaaGreat
open Go.RowKit WalkM WireM
section
theorem Wa {s:SparseD} {only:Bool}(h:Ay s only=true):∃d i:Nat,d≤16∧s.leaves=((2^d:Nat):Int)∧s.own=(i:Int)∧i<2^d∧Ct s=true∧
  By (fun n:Nat=>Ag s.op n) i only d (2^d-1) 0 []=(s.op.map (·.1),s.sh.map (·.1),true)∧(∀p∈s.sh,p.2.length=32)∧((Ag s.op (2*i:Nat)).getD Aq).kind=1:=by
 have h2:=Ld s only;rw[h,cJ]at h2;obtain⟨m,h3⟩:=h2;unfold Ch at h3;simp only[cJ]at h3;obtain⟨⟨⟨⟨⟨l,j⟩,hk⟩,-⟩,-⟩,⟨g,c⟩,b⟩:=h3;have j:=of_decide_eq_true j;have hk:=of_decide_eq_true hk;have c:=of_decide_eq_true c;have b:=of_decide_eq_true b;obtain⟨d,k,e⟩:=(fits_iff _).1 l;have a:s.leaves=((2^d:Nat):Int):=(by omega);unfold Ay at h;simp only[cJ]at h;refine⟨d,s.own.toNat,k,a,by omega,by omega,m,?_,fun p f=>of_decide_eq_true (List.all_eq_true.1 h.1.2 p f),?_⟩
 ·rw[a,dG,gY]at g c b;exact Prod.ext c (Prod.ext b g)
 ·have e2:((2*s.own.toNat:Nat):Int)=2*s.own:=(by omega);rw[e2];exact hk
section
variable {F:Int→Option NodeD} {H:Int→Option (List Nat)} {i:Nat} {only:Bool}
def Zgo (F:Int→Option NodeD)(O:List Int):List (Int×NodeD):=O.map fun y=>(y,(F y).getD Aq)
def Zgp (H:Int→Option (List Nat))(S:List Int):List (Int×List Nat):=S.map fun y=>(y,(H y).getD [])
def RdV (F:Int→Option NodeD)(H:Int→Option (List Nat))(k x:Nat)(v:List Int×List Int×Bool):Prop:=
 v.2.2=true→(∀y:Nat,inR k x y→(F (y:Int)).isSome=true→(y:Int)∈v.1)→(∀y:Nat,(y:Int)∈v.2.1→(Ev H y).length=32)→
  ∀R,rdP k x (putS F H k x++R)=⟨0,Zgo F v.1,Zgp H v.2.1,R⟩
theorem Zaw {k c:Nat}:RdV F H k c ([],[(c:Int)],true):=by
 intro _ b f R;have a:F (c:Int)=none:=by
  cases e:F (c:Int)with
  |none=>rfl
  |some d=>exact absurd (b c (Ea _ _) (by rw[e];rfl)) (by simp)
 have g:=f c (by simp);obtain⟨K,h⟩:=Zat k c (putS F H k c++R);rw[h,Fu a,iH];show(if 1<0 then Rc 3 else if 0=0 then(if(Ev H c++R).length<32 then Rc 4 else⟨0,[],[((c:Int),(Ev H c++R).take 32)],(Ev H c++R).drop 32⟩)else Pb c (Ev H c++R) K)=_;rw[if_neg (by omega),if_pos rfl,if_neg (by rw[aG];omega),iN (by omega),bU (by omega),iO (by omega),iP (by omega),iI]
 rfl
theorem Zgq {V:Nat→Nat→List Int→List Int×List Int×Bool} {k c how:Nat} {d:NodeD} {late:List Int}(h:∀how late,RdV F H k c (V c how late)):RdV F H k c (Fr V i only c how d late):=by
 unfold Fr
 split
 ·exact h _ _
 ·split
  ·exact Zaw
  ·split
   ·exact h _ _
   ·split
    ·exact h _ _
    ·exact Zaw
theorem Zgr {x:Nat} {d:NodeD}(f:At d=true)(c:d.par.late.length≤200)(h0:x%2=0→d.kind≠2)(h1:x%2=1→d.kind≠1)(R:List Nat)(K:NodeD→List Nat→RdR):Zcu x (1::(Bm d++R)) K=K d R:=by
 have e:Zcu x (1::(Bm d++R)) K=Pb x (Bm d++R) K:=rfl;rw[e];unfold Pb;rw[Zce f c];simp only[ne_eq,not_true_eq_false,if_false];rw[if_neg];rintro(⟨a,b⟩|⟨a,b⟩)
 ·exact h0 a b
 ·exact h1 a b
theorem Zl3 (v:∀(x:Nat) d,F (x:Int)=some d→At d=true∧d.par.late.length≤200∧(x%2=0→d.kind≠2)∧(x%2=1→d.kind≠1)):
  ∀(k x how:Nat) (late:List Int),IsLev x k→x+2^k≤131071→RdV F H k x (By (fun n:Nat=>F n) i only k x how late):=by
 intro k
 induction k with
 |zero=>
  intro x how late D hx f j h R;cases hF:F (x:Int)with
  |none=>rw[Bl (F:=fun n:Nat=>F n) hF]at f;cases f
  |some d=>
   obtain⟨t,r,u,s⟩:=v x d hF;rw[De (F:=fun n:Nat=>F n) hF,Il hF,iH,rdP,Zgr t r u s];simp[Zgo,Zgp,hF]
 |succ k ih=>
  intro x how late D hx f j h R;cases hF:F (x:Int)with
  |none=>rw[Bl (F:=fun n:Nat=>F n) hF]at f;cases f
  |some d=>
   obtain⟨t,r,u,s⟩:=v x d hF;rw[Cr (F:=fun n:Nat=>F n) hF]at f j h⊢;obtain⟨w,z,h0,h1,h2,-,-⟩:=Ep D hx lR;have A:=Jb (i:=i) (only:=only) (how:=how) (d:=d) (late:=if how=1 then d.par.late else late) fun a b=>Cs (F:=fun n:Nat=>F n) (i:=i) (only:=only) k (x-2^k) a b w h1;have B:=Jb (i:=i) (only:=only) (how:=how) (d:=d) (late:=if how=1 then d.par.late else late) fun a b=>Cs (F:=fun n:Nat=>F n) (i:=i) (only:=only) k (x+2^k) a b z h2;have E:=Zgq (i:=i) (only:=only) (how:=how) (d:=d) (late:=if how=1 then d.par.late else late) fun a b=>ih (x-2^k) a b w h1;have C:=Zgq (i:=i) (only:=only) (how:=how) (d:=d) (late:=if how=1 then d.par.late else late) fun a b=>ih (x+2^k) a b z h2;generalize Fr (By (fun n:Nat=>F n) i only k) i only (x-2^k) how d (if how=1 then d.par.late else late)=a at f j h A E⊢;generalize Fr (By (fun n:Nat=>F n) i only k) i only (x+2^k) how d (if how=1 then d.par.late else late)=b at f j h B C⊢;have f:(a.2.2&&b.2.2)=true:=f;rw[cJ]at f;have j:∀y:Nat,inR (k+1) x y→(F (y:Int)).isSome=true→(y:Int)∈a.1++[(x:Int)]++b.1:=j;have h:∀y:Nat,(y:Int)∈a.2.1++b.2.1→(Ev H y).length=32:=h;have l:∀y:Nat,inR k (x-2^k) y→(F (y:Int)).isSome=true→(y:Int)∈a.1:=fun y g q=>by
    have c:=j y ((Bd h0).2 (.inr (.inl g))) q;have p:=Gg h0 g;simp only[eY,fS]at c;rcases c with(c|c)|c
    ·exact c
    ·omega
    ·obtain⟨m,e,c⟩:=B.op _ c;have:=Eu c;omega
   have o:∀y:Nat,inR k (x+2^k) y→(F (y:Int)).isSome=true→(y:Int)∈b.1:=fun y g q=>by
    have c:=j y ((Bd h0).2 (.inr (.inr g))) q;have p:=Eu g;simp only[eY,fS]at c;rcases c with(c|c)|c
    ·obtain⟨m,e,c⟩:=A.op _ c;have:=Gg h0 c;omega
    ·omega
    ·exact c
   have G:=E f.1 l fun y g=>h y (List.mem_append_left _ g);have I:=C f.2 o fun y g=>h y (List.mem_append_right _ g);rw[Im hF,iH,iH,bW,bW,rdP,Zgr t r u s,G];simp only;rw[I];unfold Zch Pn;simp[Zgo,Zgp,hF]
end
theorem Zjr {l:List (Int×NodeD)}(h:(l.map (·.1)).Pairwise (· < ·)):Zgo (Ag l) (l.map (·.1))=l:=by
 unfold Zgo;rw[iQ]
 conv=>rhs;rw[←iR l]
 refine gK fun p hp=> ?_;show(p.1,(Ag l p.1).getD Aq)=p;rw[Lc h hp];rfl
theorem Zjs {l:List (Int×List Nat)}(h:(l.map (·.1)).Pairwise (· < ·)):Zgp (Ax l) (l.map (·.1))=l:=by
 unfold Zgp;rw[iQ]
 conv=>rhs;rw[←iR l]
 refine gK fun p hp=> ?_;show(p.1,(Ax l p.1).getD [])=p;rw[Ji h hp];rfl
theorem Zcm {s:SparseD} {only:Bool}(h:Ay s only=true) {x:Nat} {d:NodeD}(c:Ag s.op (x:Int)=some d):At d=true∧(x%2=0→d.kind≠2)∧(x%2=1→d.kind≠1)∧x≤131070:=by
 unfold Ay at h;simp only[cJ]at h;obtain⟨⟨⟨⟨j,k⟩,a⟩,i⟩,-⟩:=h;obtain⟨h1,h2,h3,f,-⟩:=Ox (List.all_eq_true.1 a _ (Br c));have h1:0≤(x:Int)∧(x:Int)≤2*s.leaves-2:=h1;obtain⟨d,b,e⟩:=(fits_iff _).1 j;have g:2^d≤65536:=bM (aY (by omega) b) (by decide);exact⟨h2,fun e hk=>h3 ⟨show(x:Int)%2=0 by omega,hk⟩,fun e hk=>f ⟨show(x:Int)%2=1 by omega,hk⟩,by omega⟩
theorem Nr {n:Nat}(hn:n<4294967296)(R:List Nat):Js (beN 4 n++R)=n:=by
 unfold Js;rw[iN (by rw[beN_len];omega),bU (by rw[beN_len];omega),Zh];exact aS (by simpa using hn)
theorem Zax {s:SparseD} {only:Bool}(h:Ay s only=true)(Q:∀p∈s.op,p.2.par.late.length≤200)(m:Nat)(R:(bytesOf s m).length≤1048576):ofS only m (bytesOf s m)=(0,s)∧Zmb m (bytesOf s m)=⟨0,s.op,s.sh,[]⟩:=by
 obtain⟨d,i,u,g,how,N,V,r,o,-⟩:=Wa h;have I:2^d≤65536:=bM (aY (by omega) u) (by decide);have K:=fB d;have B:=Cs (F:=fun n:Nat=>Ag s.op n) (i:=i) (only:=only) d (2^d-1) 0 [] (Ca d) (by omega);have C:(s.op.map (·.1)).Pairwise (· < ·):=(by have:=B.opr;rwa [r]at this);have S:(s.sh.map (·.1)).Pairwise (· < ·):=(by have:=B.shr;rwa [r]at this);have j:=Zl3 (F:=Ag s.op) (H:=Ax s.sh) (i:=i) (only:=only) (fun x d v=>by
  obtain⟨a,b,c,-⟩:=Zcm h v;exact⟨a,Q _ (Br v),b,c⟩) d (2^d-1) 0 [] (Ca d) (by omega)
 rw[r]at j;have rd:=j rfl (fun y _ J=>Nm.2 J) (fun y E=>by
  obtain⟨L,w⟩:=Option.isSome_iff_exists.1 (Jg.1 E);unfold Ev;rw[w];exact o _ (Ij w)) []
 rw[Zjr C,Zjs S,List.append_nil]at rd;have f:aX s.leaves.toNat=d:=(by rw[g,dG,gY]);have q:s.own.toNat=i:=(by omega);have O:bytesOf s m=m::(beN 4 (2^d)++(beN 4 i++putS (Ag s.op) (Ax s.sh) d (2^d-1))):=by
  unfold bytesOf Le;rw[f,q];simp[bW]
 rw[O]at R⊢;have e:fits (2^d)=true:=(fits_iff _).2 ⟨d,u,rfl⟩;have U:(beN 4 (2^d)).length=4:=beN_len _ _;have G:(beN 4 i).length=4:=beN_len _ _;have d4:(beN 4 (2^d)++(beN 4 i++putS (Ag s.op) (Ax s.sh) d (2^d-1))).drop 4=beN 4 i++putS (Ag s.op) (Ax s.sh) d (2^d-1):=by
  rw[iO (by omega),iP (by omega),iI]
 have l:(beN 4 (2^d)++(beN 4 i++putS (Ag s.op) (Ax s.sh) d (2^d-1))).drop 8=putS (Ag s.op) (Ax s.sh) d (2^d-1):=by
  rw[show 8=4+4 from rfl,←iK,d4,iO (by omega),iP (by omega),iI]
 constructor
 ·unfold ofS;rw[if_neg (by omega)];simp only;rw[if_neg (by omega),if_neg (by simp only[aG];omega),Nr (by omega),e,if_neg (by decide),if_neg (by simp only[aG];omega),d4,Nr (by omega),if_neg (by omega),l,gY,rd];have D:(⟨((2^d:Nat):Int),((i:Nat):Int),s.op,s.sh⟩:SparseD)=s:=(by rw[←g,←how]);simp only[ne_eq,not_true_eq_false,if_false];rw[D,if_pos h]
 ·have k:8≤(beN 4 (2^d)++(beN 4 i++putS (Ag s.op) (Ax s.sh) d (2^d-1))).length:=(by simp only[aG];omega);have z:Js (beN 4 (2^d)++(beN 4 i++putS (Ag s.op) (Ax s.sh) d (2^d-1)))=2^d:=Nr (by omega) _;have t:Js (beN 4 i++putS (Ag s.op) (Ax s.sh) d (2^d-1))=i:=Nr (by omega) _;rw[←d4]at t;rw[show 8=4+4 from rfl,←iK]at l;generalize beN 4 (2^d)++(beN 4 i++putS (Ag s.op) (Ax s.sh) d (2^d-1))=A at k z t l⊢;have P:Fy (m::A) 1 (fun n=>n==m)=(m,0,A,0):=(by rw[Zau];simp);have M:Fy A 4 fits=(2^d,0,A.drop 4,0):=(by rw[Lf,if_neg (by omega),z,e,if_pos rfl]);have T:Fy (A.drop 4) 4 (fun i=>decide (i<2^d))=(i,0,(A.drop 4).drop 4,0):=(by rw[Lf,if_neg (by rw[List.length_drop];omega),t,if_pos (decide_eq_true N)]);unfold Zmb;rw[P];simp only;rw[M];simp only;rw[T];simp only;rw[gY,l,rd]
theorem Zjt {s:SparseD} {only:Bool}(h:Ay s only=true)(hs:Dh s=true)(hl:∀p∈s.op,p.2.par.late.length≤200)(m:Nat)(hb:(bytesOf s m).length≤1000000):BL m (bytesOf s m):=by
 refine⟨hb,.inr ?_⟩;rw[(Zax h hl m (by omega)).2];exact hs
end
open ShaM
theorem Zay {F F':Nat→Option NodeD} {i c how:Nat} {only:Bool} {d:NodeD} {late:List Int} {V e:Nat→Nat→List Int→List Int×List Int×Bool}
  (b:∀how late,(V c how late).2.2=true→(∀y:Nat,(y:Int)∈(V c how late).1→F' y=F y)→e c how late=V c how late)
  (h:(Fr V i only c how d late).2.2=true) (a:∀y:Nat,(y:Int)∈(Fr V i only c how d late).1→F' y=F y):Fr e i only c how d late=Fr V i only c how d late:=by
 unfold Fr at h a⊢
 by_cases c1:how=0∧Bx (2*(i:Int)) (c:Int)=true
 ·rw[if_pos c1]at h a⊢;rw[if_pos c1];exact b _ _ h a
 ·rw[if_neg c1]at h a⊢;rw[if_neg c1]
  by_cases c2:how=0∧only=true
  ·rw[if_pos c2,if_pos c2]
  ·rw[if_neg c2]at h a⊢;rw[if_neg c2]
   by_cases c3:how=0∨(how=1∧d.kind=0)
   ·rw[if_pos c3]at h a⊢;rw[if_pos c3];exact b _ _ h a
   ·rw[if_neg c3]at h a⊢;rw[if_neg c3]
    by_cases c4:Kc late (c:Int)=true
    ·rw[if_pos c4]at h a⊢;rw[if_pos c4];exact b _ _ h a
    ·rw[if_neg c4,if_neg c4]
theorem Zgs {F F':Nat→Option NodeD} {i:Nat} {only:Bool}:∀(k x how:Nat) (late:List Int),(By F i only k x how late).2.2=true→(∀y:Nat,(y:Int)∈(By F i only k x how late).1→F' y=F y)→
  By F' i only k x how late=By F i only k x how late:=by
 intro k
 induction k with
 |zero=>
  intro x how late h c;cases e:F x with
  |none=>rw[Bl e]at h;cases h
  |some d=>
   rw[De e]at c⊢;exact De ((c x (by simp)).trans e)
 |succ k ih=>
  intro x how late h c;cases e:F x with
  |none=>rw[Bl e]at h;cases h
  |some d=>
   rw[Cr e]at h c⊢;unfold Pn at h c;simp only[cJ]at h;have e2:F' x=some d:=(c x (by simp)).trans e;rw[Cr e2];rw[Zay (F:=F) (F':=F') (fun a b=>ih (x-2^k) a b) h.1 fun y f=>c y (by simp only[eY];exact .inl (.inl f)),
    Zay (F:=F) (F':=F') (fun a b=>ih (x+2^k) a b) h.2 fun y f=>c y (by simp only[eY];exact .inr f)]
theorem Te {t:List NodeD} {M m:Nat} {a b:List Nat}(f:a.Pairwise (· < ·))(g:b.Pairwise (· < ·)):
  (∀x:Nat,x∈a→Ag (Ed t M m a b).op (x:Int)=some (nd t x))∧(∀x:Nat,x∈b→Ax (Ed t M m a b).sh (x:Int)=some (Cx (nd t) x))∧
  (∀(x:Nat) d,Ag (Ed t M m a b).op (x:Int)=some d→d=nd t x)∧(∀(x:Nat) L,Ax (Ed t M m a b).sh (x:Int)=some L→L=Cx (nd t) x):=by
 have c:((Ed t M m a b).op.map (·.1)).Pairwise (· < ·):=by
  show((a.map _).map _).Pairwise _;rw[iQ,iE];exact f.imp fun h=>by simpa using h
 have i:((Ed t M m a b).sh.map (·.1)).Pairwise (· < ·):=by
  show((b.map _).map _).Pairwise _;rw[iQ,iE];exact g.imp fun h=>by simpa using h
 refine⟨fun x hx=> ?_,fun x hx=> ?_,fun x d h=> ?_,fun x L h=> ?_⟩
 ·exact Lc c (p:=((x:Int),nd t x)) (List.mem_map.2 ⟨x,hx,rfl⟩)
 ·exact Ji i (p:=((x:Int),Cx (nd t) x)) (List.mem_map.2 ⟨x,hx,rfl⟩)
 ·obtain⟨y,-,e⟩:=List.mem_map.1 (Br h);simp only[Prod.mk.injEq]at e;rw[←e.2,show y=x by omega]
 ·obtain⟨y,-,e⟩:=List.mem_map.1 (Ij h);simp only[Prod.mk.injEq]at e;rw[←e.2,show y=x by omega]
theorem Zgt {t:List NodeD} (T:Bc t=true) (q:Bi t=true) {I m d:Nat} {only:Bool} {a b:List Nat} (L:t.length=2*I+1) (F:d≤16) (U:I+1=2^d) (Y:2*m<t.length) (hk:(nd t (2*m)).kind=1)
  (N:(By (atT t) m only d (2^d-1) 0 []).1=a.map (fun m:Nat=>(m:Int))) (P:(By (atT t) m only d (2^d-1) 0 []).2.1=b.map (fun m:Nat=>(m:Int))) (K:a.Pairwise (· < ·)) (G:b.Pairwise (· < ·))
  (H:∀x∈a,x<t.length) (lS:∀x∈b,x<t.length) (B:2*m∈a):Ay (Ed t (2^d) m a b) only=true:=by
 obtain⟨w,f2,f3,f4⟩:=Te (t:=t) (M:=2^d) (m:=m) K G;have O:=fB d;have Q:2^d≤65536:=bM (aY (by omega) F) (by decide);have E:=Bg T;have s:=(Fo t).1 (by rw[Bi,cJ,cJ]at q;exact q.2.1);have r:=Iy (t:=t) (by rw[Bi,cJ,cJ,cJ]at q;exact q.2.2.2);have k:(By (atT t) m only d (2^d-1) 0 []).2.2=true:=Xx d (2^d-1) 0 [] (Ca d) (by omega) fun y c=>by
  unfold inR at c;unfold atT;rw[if_pos (by omega)];rfl
 have W:By (fun n:Nat=>Ag (Ed t (2^d) m a b).op n) m only d (2^d-1) 0 []=By (atT t) m only d (2^d-1) 0 []:=Zgs d (2^d-1) 0 [] k fun y c=>by
  rw[N]at c;obtain⟨z,J,e⟩:=List.mem_map.1 c;have:z=y:=(by omega);subst this;rw[w z J];unfold atT;rw[if_pos (H z J)]
 have C:(Ed t (2^d) m a b).op.map (·.1)=a.map fun m:Nat=>(m:Int):=by
  show(a.map _).map _=_;rw[iQ];rfl
 have v:(Ed t (2^d) m a b).sh.map (·.1)=b.map fun m:Nat=>(m:Int):=by
  show(b.map _).map _=_;rw[iQ];rfl
 have X:(Ed t (2^d) m a b).op.length=a.length:=gE ..;have Z:(Ed t (2^d) m a b).sh.length=b.length:=gE ..;rw[←Ld,cJ];constructor
 ·unfold Ct;rw[cJ];constructor
  ·have:=Jh (l:=(Ed t (2^d) m a b).op.map (·.1)) (f:=spK (Ed t (2^d) m a b).op) (fun i o=>by
    rw[gE]at o;unfold spK;rw[Mi o,gW]) (by rw[C,iE];exact K.imp fun h=>by simpa using h) (fun y c=>by
    rw[C]at c;obtain⟨p,O,rfl⟩:=List.mem_map.1 c
    omega)
   rwa [gE]at this
  ·have:=Jh (l:=(Ed t (2^d) m a b).sh.map (·.1)) (f:=stK (Ed t (2^d) m a b).sh) (fun i o=>by
    rw[gE]at o;unfold stK;rw[Mj o,gW]) (by rw[v,iE];exact G.imp fun h=>by simpa using h) (fun y c=>by
    rw[v]at c;obtain⟨p,O,rfl⟩:=List.mem_map.1 c
    omega)
   rwa [gE]at this
 ·have j:aX (Ed t (2^d) m a b).leaves.toNat=d:=by
   show aX (((2^d:Nat):Int)).toNat=d;rw[dG,gY]
  have A:(Ed t (2^d) m a b).own.toNat=m:=dG m;have D:(Ed t (2^d) m a b).leaves=((2^d:Nat):Int):=rfl;have how:(Ed t (2^d) m a b).own=(m:Int):=rfl;unfold Ch;rw[j,A,W,k,N,P,C,v,D,how];simp only[cJ,decide_eq_true_eq];refine⟨⟨⟨⟨⟨?_,by omega,by omega⟩,?_⟩,?_⟩,?_⟩,by simp⟩
  ·rw[dG];exact(fits_iff _).2 ⟨d,F,rfl⟩
  ·have e:(2:Int)*(m:Int)=((2*m:Nat):Int):=(by omega);rw[e,w _ B];exact hk
  ·refine List.all_eq_true.2 fun y c=> ?_;obtain⟨x,hx,rfl⟩:=List.mem_map.1 c;rw[w x hx,cN];have g:=H x hx;obtain⟨R,S⟩:=s x g;have lt:=Iw (r x g);unfold Cc;rw[cJ,cJ];refine⟨S,?_,?_⟩
   ·rw[decide_eq_true_eq];intro e;refine R (e.trans ?_);unfold Ziy Dw;rw[Int.tmod_eq_emod_of_nonneg (by omega)]
    by_cases hx2:x%2=1
    ·rw[if_pos hx2,if_pos (by omega)]
    ·rw[if_neg hx2,if_neg (by omega)]
   ·rw[Bool.not_eq_true',List.any_eq_false];intro u V;rw[(lt u V).2.1];decide
  ·refine List.all_eq_true.2 fun y c=> ?_;obtain⟨x,hx,rfl⟩:=List.mem_map.1 c;rw[f2 x hx,cN,Oz];rfl
theorem Zgu {T:Nat→NodeD} {F:Int→Option NodeD} {H:Int→Option (List Nat)}(i:∀(x:Nat) d,F (x:Int)=some d→d=T x)(j:∀(x:Nat) L,H (x:Int)=some L→L=Cx T x)(l:PieceCov F H):
  ∀k x,IsLev x k→x+2^k≤131071→Zma F H x→Gk F H k x=Fq T k x:=by
 have a:∀(k x:Nat),IsLev x k→x≤131070→F (x:Int)=none→Zma F H x→Gk F H k x=Fq T k x:=by
  intro k x b hx e c;rw[He e];rcases c with h|h
  ·rw[e]at h;cases h
  ·unfold Ev at h⊢;cases eh:H (x:Int)with
   |none=>rw[eh]at h;simp at h
   |some L=>
    rw[cN,j x L eh];unfold Cx;rw[lev_eq hx b]
 intro k
 induction k with
 |zero=>
  intro x b hx c;cases e:F (x:Int)with
  |none=>exact a 0 x b (by omega) e c
  |some d=>
   rw[Fj e,Lg,i x d e,Ht,Gw]
 |succ k ih=>
  intro x b hx c;have n:=fB k;have e2:2^(k+1)=2*2^k:=(by rw[aN];omega);cases e:F (x:Int)with
  |none=>exact a (k+1) x b (by omega) e c
  |some d=>
   obtain⟨-,-,g,f,m⟩:=kids_lev (by omega) b;obtain⟨c1,c2⟩:=l.kids k x d e b (by omega);rw[Fj e,Lh,ih (x-2^k) g (by omega) c1,ih (x+2^k) f (by omega) c2,i x d e,Ht T (k+1),Gx]
end Go.Proofs.YtfofaiommeckbaaGreat
namespace Go.Proofs.YtfofaiommeckbaaGreat
open Go.RowKit Go.Maps WalkM WireM
theorem PcS.made {w:World} {ob sb g:Nat}(h1:MapF w ob 0 fun _=>none)(h2:MapF w sb 0 fun _=>none):PcS w ob sb g 0 0 (fun _=>none) fun _=>none:=⟨⟨_,h1,fun _=>rfl⟩,⟨_,h2,fun _=>rfl⟩⟩
theorem Tf {L:List Nat} {s:Int} {P:Nat→Bool}(h:(Fy L s P).2.1=0):P (Fy L s P).1=true∧(Fy L s P).2.2.2=0:=by
 unfold Fy at h⊢
 split at h
 ·rename_i h1;exact absurd h h1
 ·rename_i h1
  split at h
  ·rename_i h2;rw[if_neg h1,if_pos h2];exact⟨h2,by simpa using h1⟩
  ·cases h
theorem Jk (L:List Nat)(s:Int)(P:Nat→Bool):Sub (Fy L s P).2.2.1 L:=by
 have h:=(Hc L 0 s).2.1;unfold Fy
 split
 ·exact h
 ·split<;>exact h
theorem Tg {L:List Nat} {s:Int} {P:Nat→Bool}(hL:∀n∈L,n<256)(hs:s=1∨s=4):(Fy L s P).1<4294967296:=by
 have h:=Zgi hL hs;unfold Fy
 split
 ·exact(by decide:0<4294967296)
 ·split
  ·exact h
  ·exact(by decide:0<4294967296)
theorem Zgv {n:Nat}(h:fits n=true):n=2^aX n∧n≤65536∧aX n≤16∧Nu (n:Int)=((n-1:Nat):Int)∧IsLev (n-1) (aX n):=by
 obtain⟨d,b,rfl⟩:=(fits_iff n).1 h;have a:2^d≤65536:=bM (aY (by omega) b) (by decide);have c:=fB d;rw[gY];refine⟨rfl,a,b,by rw[Nu,if_pos (by rw[dG];exact h)];omega,?_⟩;unfold IsLev;rw[aS (by rw[aN];omega)]
theorem Zju (l:List (Int×NodeD)):Mn (fun _=>none) l=Ag l:=by funext y;unfold Mn;cases Ag l y<;>rfl
theorem Zjv (l:List (Int×List Nat)):Ps (fun _=>none) l=Ax l:=by funext y;unfold Ps;cases Ax l y<;>rfl
theorem Zgw (a:Option Addr) (cp:Nat) (L L1 L2 L3:List Nat) (mk nn u A e1 e2 e3 f1 f2 f3 k x:Nat) (only:Bool) (l:RdR) (F:Nat×SparseD) (w:World) (h:Rd w (.slice a L.length cp) (bvs L)) (hl:L.length≤1000000) (a6:((mk:Int)==2)=only)
  (C1:∀(B g:Nat) (W:World),RS W B L 0→Blk W g 3 #[rA rC (mk:Nat)]→g≠B→Calls prog 118 #[rB (some ⟨B,0,rF⟩),rA rC 1,.func (.func 119) #[] #[rB (some ⟨g,0,rF⟩)]] W (Zgg B W (nn,e1,L1,f1)))
  (C2:e1=0→∀(B:Nat) (W:World),RS W B L1 f1→Calls prog 118 #[rB (some ⟨B,0,rF⟩),rA rC 4,.func (.func 113) #[] #[]] W (Zgg B W (u,e2,L2,f2)))
  (C3:e1=0→e2=0→∀(B g:Nat) (W:World) (y1 y2 y3:Value),RS W B L2 f2→Blk W g 101 #[rA rC (u:Nat),y1,y2,y3]→g≠B→Calls prog 118 #[rB (some ⟨B,0,rF⟩),rA rC 4,.func (.func 120) #[] #[rB (some ⟨g,0,rF⟩)]] W (Zgg B W (A,e3,L3,f3)))
  (C4:e1=0→e2=0→e3=0→∀(B ob sb g:Nat) (W:World),B<ob→B<sb→ob≠sb→ob<g→sb<g→g≤W.heap.size→RS W B L3 f3→PcS W ob sb g 0 0 (fun _=>none) (fun _=>none)→
   Calls prog 121 #[.agg #[rA rC (u:Nat),rA rC (A:Nat),.map (some ob),.map (some sb)],rB (some ⟨B,0,rF⟩),rA rC (x:Nat)] W (Zgc B ob sb g 0 0 (fun _=>none) (fun _=>none) l W))
  (CR:e1=0→e2=0→∀W:World,Calls prog 61 #[rA rC (u:Nat)] W fun e w'=>e=.returned (rA rC (x:Nat))∧W=w')
  (C6:e1=0→e2=0→e3=0→l.er=0→∀(ob sb:Nat) (W:World),Vk W ob l.op.length (Ag l.op)→Vl W sb l.sh.length (Ax l.sh)→Calls prog 123 #[.agg #[rA rC (u:Nat),rA rC (A:Nat),.map (some ob),.map (some sb)],.bool only] W fun e w'=>e=.returned (.bool (Ay ⟨(u:Int),(A:Int),l.op,l.sh⟩ only))∧Below W.heap.size W w')
  (X1:e1≠0→F=(e1,Kd)) (X2:e1=0→e2≠0→F=(e2,Kd)) (X3:e1=0→e2=0→e3≠0→F=(e3,Kd)) (X4:e1=0→e2=0→e3=0→l.er≠0→F=(l.er,Kd))
  (X5:e1=0→e2=0→e3=0→l.er=0→Zhb l.rest 0≠0→F=(Zhb l.rest 0,Kd))
  (X6:e1=0→e2=0→e3=0→l.er=0→Zhb l.rest 0=0→∀b,Ay ⟨(u:Int),(A:Int),l.op,l.sh⟩ only=b→F=if b=true then(0,⟨(u:Int),(A:Int),l.op,l.sh⟩)else(3,Kd)):
  Calls prog 66 #[.slice a L.length cp,rA rC (mk:Nat)] w (Zjo F w):=by
 have aM:=Hd fun(W:World) (hw:Below w.heap.size w W)=>Kk _ L W (h.below hw lR);have bD:=Hd C1;have b5:=Hd C2;have bU:=Hd C3;have b4:=Hd C4;have bJ:=Hd CR;have cF:=Hd C6;have b2:=Hd X1;have b8:=Hd X2;have bL:=Hd X3;have bY:=Hd X4;have cD:=Hd X5;have cE:=Hd X6;have bI:=Hd fun(B:Nat) (W:World) (hW:RS W B l.rest 0)=>Zkm B l.rest 0 W hW;have aT:=Hd a6;obtain⟨g,hg⟩:=eX (w.heap.size+1);have HG:=Hd hg;obtain⟨w0,I⟩:=eX ((w.alloc (.cells #[rA rC (mk:Nat)] 3)).alloc (.cells #[rA rC 0,rA rC 0,.map none,.map none] 101));have aO:Below w.heap.size w w0:=(by rw[I];exact((Below.refl w.heap.size w).alloc lR _).alloc (by simp) _);have b7:w0.heap.size=w.heap.size+2:=(by rw[I];simp);have aZ:Blk w0 w.heap.size 3 #[rA rC (mk:Nat)]:=(by rw[I];exact(Blk.new w _ _).alloc _);have a0:Blk w0 g 101 #[rA rC 0,rA rC 0,.map none,.map none]:=by
  rw[I,hg];have e:(w.alloc (.cells #[rA rC (mk:Nat)] 3)).heap.size=w.heap.size+1:=(by simp);rw[←e];exact Blk.new _ _ _
 have a5:decide ((L.length:Int)>1048576)=false:=decide_eq_false (by omega);obtain⟨ln,aV⟩:=eX L.length;rw[←aV]at a5 aM⊢;have a3:=Hd (aM.out w0 aO);have bS:=Hd I;clear h hl C1 C2 C3 C4 CR C6 X1 X2 X3 X4 X5 X6 a6 aM aV;have cN:∀w,(Instr.makeMap 98 none).run prog w=.ok (.map (some w.heap.size)) (w.alloc (.map #[] 0)):=fun w=>rfl;have cJ:∀w,(Instr.makeMap 99 none).run prog w=.ok (.map (some w.heap.size)) (w.alloc (.map #[] 0)):=fun w=>rfl;go_enter func66,ntmps66;go_wp2_with fail;rw[←bS.out,←HG.out];refine a3.out.mono ?_;rintro e R ⟨rfl,r,t⟩;obtain⟨B,hB⟩:=eX w0.heap.size;rw[←hB]at r t⊢;have aK:Below w.heap.size w R:=aO.trans (t.mono (by omega));have b3:=r.lt;obtain⟨ob,N⟩:=eX R.heap.size;obtain⟨sb,V⟩:=eX (ob+1);obtain⟨p,hp⟩:=eX (sb+1);obtain⟨w2,E⟩:=eX (((R.alloc (.map #[] 0)).alloc (.map #[] 0)).alloc (.cells #[rA rC 0,rA rC 0,.map (some ob),.map (some sb)] 101));have ea:(R.alloc (.map #[] 0)).heap.size=sb:=(by simp[V,N]);have eb:((R.alloc (.map #[] 0)).alloc (.map #[] 0)).heap.size=p:=(by simp[hp,V,N]);have D:Below R.heap.size R w2:=(by rw[E];exact(((Below.refl _ R).alloc lR _).alloc (by simp) _).alloc (by simp;omega) _);have d:=Hd (show w.heap.size+1=g∧g<B∧B<ob∧ob<sb∧sb<p by omega);have aU:=Hd (aK.trans (D.mono aK.size));have G2:=Hd ((a0.below t (by omega)).below D (by omega));have M2:=Hd ((aZ.below t (by omega)).below D (by omega));have P2:=Hd (show Blk w2 p 101 #[rA rC 0,rA rC 0,.map (some ob),.map (some sb)] by rw[E,←eb];exact Blk.new _ _ _);have R2:=Hd (r.below D);have S2:=Hd (show PcS w2 ob sb (p+1) 0 0 (fun _=>none) (fun _=>none)from PcS.made
  (by rw[E,N];exact((MapF.made R).alloc _).alloc _) (by rw[E,←ea];exact(MapF.made _).alloc _))
 have bQ:=Hd (show p+1≤w2.heap.size by rw[E];simp[hp,V,N]);have aF:=Hd (show R.heap.size=ob∧ob+1=sb∧sb+1=p by omega);have bW:=Hd E;clear r t aO b7 aZ a0 aK b3 ea eb D E N V hp hB hg I;go_wp2_with fail;simp only[aF.out.1,aF.out.2.1,aF.out.2.2];rw[←bW.out];refine(bD.out B w.heap.size w2 R2.out M2.out (by have:=d.out;omega)).mono ?_;rintro e w3 ⟨rfl,r,c⟩;have aI:=Hd (aU.out.trans (c.below (by have:=d.out;omega) aU.out.size));have G3:=Hd (G2.out.only c (by have:=d.out;omega));have M3:=Hd (M2.out.only c (by have:=d.out;omega));have P3:=Hd (P2.out.only c (by have:=d.out;omega));have S3:=Hd (S2.out.only c (by have:=d.out;omega) (by have:=d.out;omega) (by have:=d.out;omega));have R3:=Hd r;have cH:=Hd (bM bQ.out c.size);clear r c
 by_cases ha:e1=0
 ·have z:=Hd ha;have bH:((e1:Int)==0)=true:=(by rw[beq_iff_eq];omega);have bC:((e1:Int) !=0)=false:=(by rw[bne_eq_false_iff_eq];omega);clear ha;have a7:=Hd (b5.out z.out);have y0:=P3.out.cell 0;have z0:=P3.out.frozen 0;simp only[bZ,cA]at y0;go_wp2_with fail;refine(a7.out B w3 R3.out).mono ?_;rintro e w4 ⟨rfl,r,c⟩;have aQ:=Hd (aI.out.trans (c.below (by have:=d.out;omega) aI.out.size));have G4:=Hd (G3.out.only c (by have:=d.out;omega));have M4:=Hd (M3.out.only c (by have:=d.out;omega));have P4:=Hd (P3.out.only c (by have:=d.out;omega));have S4:=Hd (S3.out.only c (by have:=d.out;omega) (by have:=d.out;omega) (by have:=d.out;omega));have R4:=Hd r;have bT:=Hd (bM cH.out c.size);clear r c y0 z0;have y0:=P4.out.cell 0;have z0:=P4.out.frozen 0;simp only[bZ,cA]at y0;have o:Only p w4 (w4.setCell ⟨p,0,rF⟩ (rA rC (u:Nat))):=Only.set 0 _;have P5:=Hd (show Blk (w4.setCell ⟨p,0,rF⟩ (rA rC (u:Nat))) p 101 #[rA rC (u:Nat),rA rC 0,.map (some ob),.map (some sb)]from by simpa using P4.out.set 0 (rA rC (u:Nat)));obtain⟨w5,aN⟩:=eX (w4.setCell ⟨p,0,rF⟩ (rA rC (u:Nat)));rw[←aN]at o P5;have aE:=Hd aN;have aL:=Hd (aQ.out.trans (o.below (by have:=d.out;omega) aQ.out.size));have G5:=Hd (G4.out.only o (by have:=d.out;omega));have M5:=Hd (M4.out.only o (by have:=d.out;omega));have S5:=Hd (S4.out.only o (by omega) (by have:=d.out;omega) (by have:=d.out;omega));have R5:=Hd (R4.out.only o (by have:=d.out;omega) (dW P4.out.lt));have bO:=Hd (bM bT.out o.size);clear o aN
  by_cases t:e2=0
  ·have C:=Hd t;have bE:((e2:Int)==0)=true:=(by rw[beq_iff_eq];omega);have b1:((e2:Int) !=0)=false:=(by rw[bne_eq_false_iff_eq];omega);clear t;have aW:=Hd (bU.out z.out C.out);go_wp2_with fail;rw[←aE.out];refine(aW.out B p w5 _ _ _ R5.out P5.out (by have:=d.out;omega)).mono ?_;rintro e w6 ⟨rfl,r,c⟩;have aR:=Hd (aL.out.trans (c.below (by have:=d.out;omega) aL.out.size));have G6:=Hd (G5.out.only c (by have:=d.out;omega));have M6:=Hd (M5.out.only c (by have:=d.out;omega));have P6:=Hd (P5.out.only c (by have:=d.out;omega));have S6:=Hd (S5.out.only c (by have:=d.out;omega) (by have:=d.out;omega) (by have:=d.out;omega));have R6:=Hd r;have b0:=Hd (bM bO.out c.size);clear r c y0 z0;have y1:=P6.out.cell 1;have z1:=P6.out.frozen 1;simp only[bZ,cA,cB]at y1;have o:Only p w6 (w6.setCell ⟨p,1,rF⟩ (rA rC (A:Nat))):=Only.set 1 _;have P7:=Hd (show Blk (w6.setCell ⟨p,1,rF⟩ (rA rC (A:Nat))) p 101 #[rA rC (u:Nat),rA rC (A:Nat),.map (some ob),.map (some sb)]from by simpa using P6.out.set 1 (rA rC (A:Nat)));obtain⟨w7,aH⟩:=eX (w6.setCell ⟨p,1,rF⟩ (rA rC (A:Nat)));rw[←aH]at o P7;have aP:=Hd aH;have aG:=Hd (aR.out.trans (o.below (by have:=d.out;omega) aR.out.size));have G7:=Hd (G6.out.only o (by have:=d.out;omega));have M7:=Hd (M6.out.only o (by have:=d.out;omega));have S7:=Hd (S6.out.only o (by omega) (by have:=d.out;omega) (by have:=d.out;omega));have R7:=Hd (R6.out.only o (by have:=d.out;omega) (dW P6.out.lt));have bX:=Hd (bM b0.out o.size);clear o aH
   by_cases hc:e3=0
   ·have O:=Hd hc;have bG:((e3:Int)==0)=true:=(by rw[beq_iff_eq];omega);have cG:((e3:Int) !=0)=false:=(by rw[bne_eq_false_iff_eq];omega);clear hc;have a4:=Hd (b4.out z.out C.out O.out);have aX:=Hd (bJ.out z.out C.out);have a8:=Hd (cF.out z.out C.out O.out);go_wp2_with fail;rw[←aP.out];clear y1 z1;refine Bt [eF (.agg #[rA rC (u:Nat),rA rC (A:Nat),.map (some ob),.map (some sb)]),eF (rB (some ⟨B,0,rF⟩)),eF (rB (some ⟨p,0,rF⟩)),eF (rA rC (u:Nat)),eF (rA rC (x:Nat)),fun v w'=>v=rA rD (l.er:Nat)∧(l.er=0→RS w' B l.rest 0∧PcS w' ob sb (p+1) (0+l.op.length) (0+l.sh.length) (Mn (fun _=>none) l.op) (Ps (fun _=>none) l.sh)),eF (rA rD (l.er:Nat))]
     (cI 7 true) (fun x=>On3 B ob sb w7 x) (fun x y=>On3 B ob sb x y) (some 5) (by kernel_rfl) ?_ ⟨rfl,rfl,rfl,lR,fun _ _ _ _ _=>rfl⟩ (fun x y _ h=>On3.below h) (fun x y hx hs=>hx.trans hs) (by kernel_rfl) (by kernel_rfl) ?_ ?_
    ·exact kE (kE (kE (kE (kE (Cl (fun v x y h _ t=>⟨h.1,fun e=>⟨(h.2 e).1.below t,(h.2 e).2.below t⟩⟩) (Ai (fun _ _ _ h _ _=>h) Ah))))))
    ·refine gO ?_ (gP ?_ rfl (gP ?_ rfl (gO ?_ (gO ?_ (gOw (by kernel_rfl) ?_ (gP ?_ rfl .nil))))));all_goals
      intro a2 wx T aD ho hf;have T:On3 B ob sb w7 wx:=T;refine⟨rfl,?_⟩;intro K hK;try have bF:a2.tmps[7]?.getD undef=rB (some ⟨p,0,rF⟩):=ho 7 (by kernel_rfl)
      try have cL:a2.tmps[6]?.getD undef=rB (some ⟨B,0,rF⟩):=ho 6 (by kernel_rfl)
      try have cO:=eqn hf.1
      try have cQ:=eqn hf.2.1
      try have cK:=eqn hf.2.2.1
      try(refine Hd ?_;go_simp;exact hK _ rfl)
     ·have aC:=P7.out.on3 T (by have:=d.out;omega) (by have:=d.out;omega) (by have:=d.out;omega);exact wp_load_row 101 (.tmp 7) rfl _ (evs bF) _ _ (0,0) _ aC underlying101 rfl (by kernel_rfl) (hK _ _ rfl (Af rfl bR))
     ·have aC:=P7.out.on3 T (by have:=d.out;omega) (by have:=d.out;omega) (by have:=d.out;omega);have c0:=aC.cell 0;simp only[bZ,cA]at c0;go_simp;exact hK _ _ rfl (Af rfl bR)
     ·go_simp;refine(aX.out wx).mono ?_;rintro e w8 ⟨rfl,rfl⟩;exact hK _ _ rfl (Af rfl bR)
     ·go_simp;refine(a4.out B ob sb (p+1) wx (by have:=d.out;omega) (by have:=d.out;omega) (by have:=d.out;omega) (by have:=d.out;omega) (by have:=d.out;omega) (by have:=bX.out;have:=aD.size;omega) (R7.out.below aD) (S7.out.below aD)).mono ?_;rintro e w8 ⟨rfl,h2,h3⟩;exact hK _ _ ⟨rfl,h3⟩ (Bv rfl h2)
     ·refine Hd ?_;have cP:a2.tmps[49]?.getD undef=rA rD (l.er:Nat):=hf.1.1;go_simp;exact hK _ rfl
    ·rintro f w8 t Q;have t:On3 B ob sb w7 w8:=t;have P:l.er=0→RS w8 B l.rest 0∧PcS w8 ob sb (p+1) (0+l.op.length) (0+l.sh.length) (Mn (fun _=>none) l.op) (Ps (fun _=>none) l.sh):=Q.2.2.2.2.2.1.2;have Sr:f 9=rA rD (l.er:Nat):=Q.2.2.2.2.2.2.1;clear Q;simp only[Am,Az,Ex,cX,cY,cZ,dA,Nat.reduceBEq,Nat.reduceAdd,dB,dC,cond_true,cond_false];rw[Sr];clear Sr;have S:=Hd (aG.out.trans (t.low (by have:=d.out;omega) (by have:=d.out;omega) (by have:=d.out;omega) aG.out.size));have G8:=Hd (G7.out.on3 t (by have:=d.out;omega) (by have:=d.out;omega) (by have:=d.out;omega));have M8:=Hd (M7.out.on3 t (by have:=d.out;omega) (by have:=d.out;omega) (by have:=d.out;omega));have P8:=Hd (P7.out.on3 t (by have:=d.out;omega) (by have:=d.out;omega) (by have:=d.out;omega));have b9:=Hd P;clear t P
     by_cases hd:l.er=0
     ·have U:=Hd hd;have bP:((l.er:Int)==0)=true:=(by rw[beq_iff_eq];omega);have cC:((l.er:Int) !=0)=false:=(by rw[bne_eq_false_iff_eq];omega);clear hd;have bA:=Hd (a8.out U.out);obtain⟨a1,aB⟩:=b9.out U.out;rw[cW,cW,Zju,Zjv]at aB;have a9:=Hd (bI.out B w8 a1);have S8:=Hd aB;have aA:=Hd (cD.out z.out C.out O.out U.out);have X:=Hd (cE.out z.out C.out O.out U.out);clear a1 aB;obtain⟨e5,aS⟩:=eX (Zhb l.rest 0);rw[←aS]at a9 aA X;clear aS;go_wp2_with fail;refine a9.out.mono ?_;rintro e w' ⟨rfl,rfl⟩
      by_cases he:e5=0
      ·have bB:=Hd he;have bN:((e5:Int)==0)=true:=(by rw[beq_iff_eq];omega);have b6:((e5:Int) !=0)=false:=(by rw[bne_eq_false_iff_eq];omega);clear he;have c0:=M8.out.cell 0;simp only[bZ,cA]at c0;obtain⟨om,G⟩:=eX (((mk:Int)==2));have cM:((mk:Int)==2)=om:=G.symm;have M:=bA.out ob sb w8 S8.out.pieceN S8.out.pieceH;rw[←aT.out,←G]at M;have Y:=Hd M;obtain⟨RB,aJ⟩:=eX (Ay ⟨(u:Int),(A:Int),l.op,l.sh⟩ om);have bK:=Hd (show Ay ⟨(u:Int),(A:Int),l.op,l.sh⟩ only=RB by rw[aJ,G,aT.out]);rw[←aJ]at Y;clear G M aJ;go_wp2_with (refine Aw rfl 101 (.tmp 7) rfl p rfl 101 #[rA rC (u:Nat),rA rC (A:Nat),.map (some ob),.map (some sb)] (0,0) _ P8.out underlying101 rfl (by kernel_rfl) ?_);refine Y.out.mono ?_;rintro e w9 ⟨rfl,t⟩;have aY:=Hd (S.out.trans (t.mono S.out.size));have G9:=Hd (G8.out.below t G8.out.lt);have P9:=Hd (P8.out.below t P8.out.lt);have S9:=Hd (S8.out.below t);clear t c0;have Z:=Hd (X.out bB.out RB bK.out);cases RB with
       |true=>
        go_wp2_with (first
         |(refine Aw rfl 101 (.tmp 7) rfl p rfl 101 #[rA rC (u:Nat),rA rC (A:Nat),.map (some ob),.map (some sb)] (0,0) _ P9.out underlying101 rfl (by kernel_rfl) ?_)
         |(refine Aa rfl 101 (.tmp 4) (.tmp 66) rfl g #[rA rC (u:Nat),rA rC (A:Nat),.map (some ob),.map (some sb)] rfl rfl 101 #[rA rC 0,rA rC 0,.map none,.map none] G9.out (by kernel_rfl) rfl rfl ?_))
        rintro J i m n j;have q:=Hd i;have s:=Hd (aY.out.trans (m w.heap.size (by have:=d.out;omega)));have bV:=Hd (S9.out.only (Only.storeQ m n) (by have:=d.out;omega) (by have:=d.out;omega) (by have:=d.out;omega));clear i m n j;go_wp2_with fail;refine bodyPost_ret (v:=.tuple #[.agg #[rA rC (u:Nat),rA rC (A:Nat),.map (some ob),.map (some sb)],rA rD 0]) (Ad results66 _ _ g _ _ _ rfl q.out underlying101 rfl (by kernel_rfl)) rfl ?_;rw[Z.out.trans (if_pos trivial)];refine⟨s.out,?_⟩;rw[if_pos rfl];exact⟨ob,sb,p+1,rfl,by have:=d.out;omega,by have:=d.out;omega,by have:=d.out;omega,by have:=d.out;omega,by have:=d.out;omega,bV.out⟩
       |false=>
        go_wp2_with (refine Aa rfl 101 (.tmp 4) (.tmp 65) rfl g #[rA rC 0,rA rC 0,.map none,.map none] rfl rfl 101 #[rA rC 0,rA rC 0,.map none,.map none] G9.out (by kernel_rfl) rfl rfl ?_);rintro J i m n j;have q:=Hd i;have s:=Hd (aY.out.trans (m w.heap.size (by have:=d.out;omega)));clear i m n j;go_wp2_with fail;refine bodyPost_ret (v:=.tuple #[.agg #[rA rC 0,rA rC 0,.map none,.map none],rA rD 3]) (Ad results66 _ _ g _ _ _ rfl q.out underlying101 rfl (by kernel_rfl)) rfl ?_;rw[Z.out];exact⟨s.out,rfl⟩
      ·have H:=Hd he;have bN:((e5:Int)==0)=false:=(by rw[beq_eq_false_iff_ne];omega);have b6:((e5:Int) !=0)=true:=(by rw[bne_iff_ne];omega);clear he;go_wp2_with (refine Aa rfl 101 (.tmp 4) (.tmp 57) rfl g #[rA rC 0,rA rC 0,.map none,.map none] rfl rfl 101 #[rA rC 0,rA rC 0,.map none,.map none] G8.out (by kernel_rfl) rfl rfl ?_);rintro J i m n j;have q:=Hd i;have s:=Hd (S.out.trans (m w.heap.size (by have:=d.out;omega)));clear i m n j;go_wp2_with fail;refine bodyPost_ret (v:=.tuple #[.agg #[rA rC 0,rA rC 0,.map none,.map none],rA rD (e5:Nat)]) (Ad results66 _ _ g _ _ _ rfl q.out underlying101 rfl (by kernel_rfl)) rfl ?_;rw[aA.out H.out];exact⟨s.out,by rw[if_neg H.out]⟩
     ·have H:=Hd hd;have bP:((l.er:Int)==0)=false:=(by rw[beq_eq_false_iff_ne];omega);have cC:((l.er:Int) !=0)=true:=(by rw[bne_iff_ne];omega);clear hd;go_wp2_with (refine Aa rfl 101 (.tmp 4) (.tmp 57) rfl g #[rA rC 0,rA rC 0,.map none,.map none] rfl rfl 101 #[rA rC 0,rA rC 0,.map none,.map none] G8.out (by kernel_rfl) rfl rfl ?_);rintro J i m n j;have q:=Hd i;have s:=Hd (S.out.trans (m w.heap.size (by have:=d.out;omega)));clear i m n j;go_wp2_with fail;refine bodyPost_ret (v:=.tuple #[.agg #[rA rC 0,rA rC 0,.map none,.map none],rA rD (l.er:Nat)]) (Ad results66 _ _ g _ _ _ rfl q.out underlying101 rfl (by kernel_rfl)) rfl ?_;rw[bY.out z.out C.out O.out H.out];exact⟨s.out,by rw[if_neg H.out]⟩
   ·have H:=Hd hc;have bG:((e3:Int)==0)=false:=(by rw[beq_eq_false_iff_ne];omega);have cG:((e3:Int) !=0)=true:=(by rw[bne_iff_ne];omega);clear hc;go_wp2_with (refine Aa rfl 101 (.tmp 4) (.tmp 57) rfl g #[rA rC 0,rA rC 0,.map none,.map none] rfl rfl 101 #[rA rC 0,rA rC 0,.map none,.map none] (by rw[←aP.out];exact G7.out) (by kernel_rfl) rfl rfl ?_);rintro J i m n j;simp only[←aP.out]at m;have q:=Hd i;have s:=Hd (aG.out.trans (m w.heap.size (by have:=d.out;omega)));clear i m n j;go_wp2_with fail;refine bodyPost_ret (v:=.tuple #[.agg #[rA rC 0,rA rC 0,.map none,.map none],rA rD (e3:Nat)]) (Ad results66 _ _ g _ _ _ rfl q.out underlying101 rfl (by kernel_rfl)) rfl ?_;rw[bL.out z.out C.out H.out];exact⟨s.out,by rw[if_neg H.out]⟩
  ·have H:=Hd t;have bE:((e2:Int)==0)=false:=(by rw[beq_eq_false_iff_ne];omega);have b1:((e2:Int) !=0)=true:=(by rw[bne_iff_ne];omega);clear t;go_wp2_with (refine Aa rfl 101 (.tmp 4) (.tmp 57) rfl g #[rA rC 0,rA rC 0,.map none,.map none] rfl rfl 101 #[rA rC 0,rA rC 0,.map none,.map none] (by rw[←aE.out];exact G5.out) (by kernel_rfl) rfl rfl ?_);rintro J i m n j;simp only[←aE.out]at m;have q:=Hd i;have s:=Hd (aL.out.trans (m w.heap.size (by have:=d.out;omega)));clear i m n j;go_wp2_with fail;refine bodyPost_ret (v:=.tuple #[.agg #[rA rC 0,rA rC 0,.map none,.map none],rA rD (e2:Nat)]) (Ad results66 _ _ g _ _ _ rfl q.out underlying101 rfl (by kernel_rfl)) rfl ?_;rw[b8.out z.out H.out];exact⟨s.out,by rw[if_neg H.out]⟩
 ·have H:=Hd ha;have bH:((e1:Int)==0)=false:=(by rw[beq_eq_false_iff_ne];omega);have bC:((e1:Int) !=0)=true:=(by rw[bne_iff_ne];omega);clear ha;go_wp2_with (refine Aa rfl 101 (.tmp 4) (.tmp 57) rfl g #[rA rC 0,rA rC 0,.map none,.map none] rfl rfl 101 #[rA rC 0,rA rC 0,.map none,.map none] G3.out (by kernel_rfl) rfl rfl ?_);rintro J i m n j;have q:=Hd i;have s:=Hd (aI.out.trans (m w.heap.size (by have:=d.out;omega)));clear i m n j;go_wp2_with fail;refine bodyPost_ret (v:=.tuple #[.agg #[rA rC 0,rA rC 0,.map none,.map none],rA rD (e1:Nat)]) (Ad results66 _ _ g _ _ _ rfl q.out underlying101 rfl (by kernel_rfl)) rfl ?_;rw[b2.out H.out];exact⟨s.out,by rw[if_neg H.out]⟩
theorem Zjw (v:Value)(L:List Nat)(mk:Nat)(only:Bool)(w:World)(h:Rd w v (bvs L))(K:BL mk L)(y:∀n∈L,n<256)(E:((mk:Int)==2)=only)(hm:mk<256):
  Calls prog 66 #[v,rA rC (mk:Nat)] w (Zjo (ofT only mk L) w):=by
 obtain⟨a,Z,rfl,-,-⟩:=id h;rw[bvs_len]at h⊢;unfold ofT Zna Zm9 Zm8;obtain⟨K,d⟩:=K;unfold Zmb at d;rw[if_neg (by omega)];have H:=Jk L 1 fun n=>n==mk;have U:=fun h=>Tf (L:=L) (s:=1) (P:=fun n=>n==mk) h;have O:=fun(B g:Nat) (W:World) (c:RS W B L 0) (o:Blk W g 3 #[rA rC (mk:Nat)]) (m:g≠B)=>Re 119 (rB (some ⟨g,0,rF⟩)) (fun _ _=>rfl) B L 1 (fun n=>n==mk) W c (.inl rfl) y fun n p l j=>Zgk n g mk p (by have:=(o.only j m).cell 0;simpa using this);generalize Fy L 1 (fun n=>n==mk)=r1 at H U O d⊢;have q:∀n∈r1.2.2.1,n<256:=fun n l=>y n (H.2 n l);have g2:=(Jk r1.2.2.1 4 fits).trans H;have D:=fun h=>Tf (L:=r1.2.2.1) (s:=4) (P:=fits) h;have b2:=Tg (P:=fits) q (.inr rfl);have X:=fun(B:Nat) (W:World) (c:RS W B r1.2.2.1 0)=>Zgj 113 (fun _ _=>rfl) B r1.2.2.1 4 fits W c (.inr rfl) q fun n p l j=>by
  have:=Kg (n:Int) p (by omega) (by omega);rw[dG]at this;exact this.mono fun e w' h=>⟨h.1,h.2.symm⟩
 generalize Fy r1.2.2.1 4 fits=r2 at g2 D b2 X d⊢;have r:∀n∈r2.2.2.1,n<256:=fun n l=>y n (g2.2 n l);have g3:=(Jk r2.2.2.1 4 fun i=>decide (i<r2.1)).trans g2;have V:=fun h=>Tf (L:=r2.2.2.1) (s:=4) (P:=fun i=>decide (i<r2.1)) h;have b3:=Tg (P:=fun i=>decide (i<r2.1)) r (.inr rfl);have S:=fun(B g:Nat) (W:World) (N J A:Value) (c:RS W B r2.2.2.1 0) (o:Blk W g 101 #[rA rC (r2.1:Nat),N,J,A]) (m:g≠B)=>Re 120 (rB (some ⟨g,0,rF⟩)) (fun _ _=>rfl) B r2.2.2.1 4 (fun i=>decide (i<r2.1)) W c (.inr rfl) r fun n p l j=>Zgl n g r2.1 p (by have:=(o.only j m).cell 0;simpa using this);generalize Fy r2.2.2.1 4 (fun i=>decide (i<r2.1))=r3 at g3 V b3 S d⊢;have t:∀n∈r3.2.2.1,n<256:=fun n l=>y n (g3.2 n l);have f:=fun(h:r2.2.1=0)=>Zgv (D h).1;have T:=fun(h2:r2.2.1=0) (B ob sb g:Nat) (W:World) (C:B<ob) (z:B<sb) (G:ob≠sb) (F:ob<g) (M:sb<g) (I:g≤W.heap.size) (c:RS W B r3.2.2.1 0) (hS:PcS W ob sb g 0 0 (fun _=>none) (fun _=>none))=>
  Zjn (aX r2.1) (f h2).2.2.1 (r2.1-1) (r2.1:Nat) (r3.1:Nat) B ob sb g 0 0 r3.2.2.1 (fun _=>none) (fun _=>none) W (f h2).2.2.2.2 (by have:=(f h2).1;have:=(f h2).2.1;omega) (by have:=(f h2).1;omega) C z G F M I c hS (by have:=g3.1;omega) t
 have Y:=fun(h2:r2.2.1=0) (W:World)=>(show Calls prog 61 #[rA rC (r2.1:Nat)] W fun e w'=>e=.returned (rA rC ((r2.1-1:Nat):Int))∧W=w' from by
  have:=Mx (r2.1:Int) W (by omega) (by omega)
  rwa [(f h2).2.2.2.1]at this)
 have Q:=fun(h2:r2.2.1=0) (h4:(rdP (aX r2.1) (r2.1-1) r3.2.2.1).er=0)=>Vz (k:=aX r2.1) (x:=r2.1-1) (n:=r2.1) (i:=r3.1) t (d.imp (fun h=>by have:=g3.1;omega) id) (by have:=(f h2).1;omega) (by have:=(f h2).1;have:=(f h2).2.1;omega) (by omega) (by omega) h4;generalize hrr:rdP (aX r2.1) (r2.1-1) r3.2.2.1=rr at T Q⊢;refine Zgw a Z L r1.2.2.1 r2.2.2.1 r3.2.2.1 mk r1.1 r2.1 r3.1 r1.2.1 r2.2.1 r3.2.1 r1.2.2.2 r2.2.2.2 r3.2.2.2 0 (r2.1-1) only rr _ w h K E O (fun e B W c=> ?_) (fun e e2 B g W N J A c=> ?_) (fun e e2 e3 B ob sb g W C z G F M I c=> ?_) (fun e e2=>Y e2) (fun e e2 e3 u ob sb W h1 h2=> ?_) (fun e=> ?_) (fun e e2=> ?_) (fun e e2 e3=> ?_) (fun e e2 e3 u=> ?_) (fun e e2 e3 u R=> ?_) (fun e e2 e3 u R b o=> ?_)
 ·rw[(U e).2]at c;exact X B W c
 ·rw[(D e2).2]at c;exact S B g W N J A c
 ·rw[(V e3).2]at c;exact T e2 B ob sb g W C z G F M I c
 ·obtain⟨q1,q2,q3⟩:=Q e2 u;exact Zjq ⟨(r2.1:Int),(r3.1:Int),rr.op,rr.sh⟩ only ob sb W q1 q2 q3 h1 h2
 ·rw[if_pos e]
 ·rw[if_neg (by omega),if_pos e2]
 ·rw[if_neg (by omega),if_neg (by omega),if_pos e3]
 ·rw[if_neg (by omega),if_neg (by omega),if_neg (by omega),if_pos u]
 ·rw[if_neg (by omega),if_neg (by omega),if_neg (by omega),if_neg (by omega),if_pos R]
 ·rw[if_neg (by omega),if_neg (by omega),if_neg (by omega),if_neg (by omega),if_neg (by omega)]
  by_cases hb2:b=true
  ·rw[if_pos (o.trans hb2),if_pos hb2]
  ·rw[if_neg (fun hc=>hb2 (o.symm.trans hc)),if_neg hb2]
structure SpGood (s:SparseD):Prop where
 ok:SparseOk s
 small:Dh s=true
 piece:Ct s=true
 opPos:∀p∈s.op,0≤p.1
 shPos:∀p∈s.sh,0≤p.1
 opUp:(s.op.map (·.1)).Pairwise (· < ·)
 shUp:(s.sh.map (·.1)).Pairwise (· < ·)
theorem Zl4 {k x n i:Nat} {L:List Nat}(d:∀y∈L,y<256)(c:L.length≤4000∨Dh ⟨0,0,(rdP k x L).op,(rdP k x L).sh⟩=true)(hx:2^k≤x+1)(a:x+2^k≤131071)(f:n≤4294967296)(e:i≤4294967296)(h:(rdP k x L).er=0):
  SpGood ⟨(n:Int),(i:Int),(rdP k x L).op,(rdP k x L).sh⟩:=by
 obtain⟨h1,h2,h3⟩:=Vz (n:=n) (i:=i) d c hx a f e h;have o:=Zar k x L hx h;exact⟨h1,h2,h3,fun p b=>by have:=(o.opIn p b).1;omega,fun p b=>by have:=(o.shIn p b).1;omega,Nq o.opUp,Nq o.shUp⟩
theorem Zaz {only:Bool} {mk:Nat} {L:List Nat}(e:∀y∈L,y<256)(m:BL mk L)(h:(ofT only mk L).1=0):SpGood (ofT only mk L).2∧Ay (ofT only mk L).2 only=true:=by
 unfold ofT Zna Zm9 Zm8 at h⊢;obtain⟨m,a⟩:=m;unfold Zmb at a;rw[if_neg (by omega)]at h⊢;have j:=Jk L 1 fun n=>n==mk;generalize Fy L 1 (fun n=>n==mk)=r1 at j a h⊢
 split at h
 ·rename_i c;exact absurd h c
 ·rename_i c1
  rw[if_neg c1];have d:∀n∈r1.2.2.1,n<256:=fun n b=>e n (j.2 n b);have g2:=(Jk r1.2.2.1 4 fits).trans j;have l:=fun h=>Tf (L:=r1.2.2.1) (s:=4) (P:=fits) h;have q:=Tg (P:=fits) d (.inr rfl);generalize Fy r1.2.2.1 4 fits=r2 at g2 l q a h⊢
  split at h
  ·rename_i c;exact absurd h c
  ·rename_i c2
   rw[if_neg c2];have f:∀n∈r2.2.2.1,n<256:=fun n b=>e n (g2.2 n b);have g3:=(Jk r2.2.2.1 4 fun i=>decide (i<r2.1)).trans g2;have p:=Tg (P:=fun i=>decide (i<r2.1)) f (.inr rfl);generalize Fy r2.2.2.1 4 (fun i=>decide (i<r2.1))=r3 at g3 p a h⊢
   split at h
   ·rename_i c;exact absurd h c
   ·rename_i c3
    rw[if_neg c3];have g:=Zgv (l (by omega)).1;have G:=fun(o:(rdP (aX r2.1) (r2.1-1) r3.2.2.1).er=0)=>Zl4 (k:=aX r2.1) (x:=r2.1-1) (n:=r2.1) (i:=r3.1) (fun n b=>e n (g3.2 n b)) (a.imp (fun h=>by have:=g3.1;omega) id) (by have:=g.1;omega) (by have:=g.1;have:=g.2.1;omega) (by omega) (by omega) o;generalize rdP (aX r2.1) (r2.1-1) r3.2.2.1=rr at G h⊢
    split at h
    ·rename_i c;exact absurd h c
    ·rename_i c4
     rw[if_neg c4]
     split at h
     ·rename_i c;exact absurd h c
     ·rename_i c5
      rw[if_neg c5]
      split at h
      ·rename_i c6
       rw[if_pos c6];exact⟨G (by omega),c6⟩
      ·cases h
end Go.Proofs.YtfofaiommeckbaaGreat
namespace Go.Proofs.YtfofaiommeckbaaGreat
open Go.RowKit WalkM ShaM WireM
section
section
variable {T:Nat→NodeD} {F:Int→Option NodeD} {H:Int→Option (List Nat)} {i n:Nat} {only:Bool}
end
end
end Go.Proofs.YtfofaiommeckbaaGreat
namespace Go.Proofs.YtfofaiommeckbaaGreat
open Go.RowKit WalkM WireM
section
section
variable {F:Int→Option NodeD} {H:Int→Option (List Nat)}
end
end
end Go.Proofs.YtfofaiommeckbaaGreat
namespace Go.Proofs.YtfofaiommeckbaaGreat
open Go.RowKit WireM
def Ti:NodeD:=⟨1,⟨cI 32 0,cI 32 0,[1],1,[],cI 64 0⟩,noParD⟩
theorem Rg {n:Nat} {N:Int}(e:N=(n:Int))(g:n≤4000000):∀w:World,(Instr.makeSlice 28 (rA rC N) (rA rC N)).run prog w=.ok (q9 (some ⟨w.heap.size,0,rF⟩) n n) (w.alloc (.cells (madeCells (Value.int .u8 0).cells (n*1)) 5)):=by
 intro w;subst e;obtain⟨i,f,d,b,a⟩:∃i,prog.info? 5=some i∧i.zero=some (rA rD 0)∧i.size=1∧i.bytes=1:=info_parts (by kernel_rfl);have c:=run_make (P:=prog) w 28 5 i (rA rD 0) underlying28 f d .i64 .i64 n n (by omega) (by omega) (by rw[a];omega) (by omega);simp only[dG,b]at c;exact c
theorem Th (w:World)(n:Nat)(a:n≤4000000:=by omega):Own (w.alloc (.cells (madeCells (Value.int .u8 0).cells (n*1)) 5)) w.heap.size 5 (q9 (some ⟨w.heap.size,0,rF⟩) n n) (bvs (cI n 0)):=by
 have e:bvs (cI n 0)=(madeCells (Value.int .u8 0).cells (n*1)).toList:=by
  rw[Nat.mul_one];have:=toList_madeCells_one (rA rD 0) n;rw[show(Value.int .u8 0).cells=#[rA rD 0]from rfl,this];simp[bvs]
 rw[e];exact Own.full (B:=w.heap.size) rfl lR (by unfold maxLen;simp[madeCells];omega) (by simp[madeCells])
theorem Zjx {w:World} {B:Nat} {x1 x2 x3 x4:Value}(f:Own w B 5 x1 (bvs (cI 32 0)))(d:Own w B 5 x2 (bvs (cI 32 0)))(g:Own w B 5 x3 (bvs [1]))(h:Own w B 5 x4 (bvs (cI 64 0))):
  TreeR (w.alloc (.cells #[rA rD 1,x1,x2,x3,rA rD 1,q9 rF 0 0,x4,q9 rF 0 0,q9 rF 0 0,q9 rF 0 0] 52)) (q9 (some ⟨w.heap.size,0,rF⟩) 1 1) [Ti]:=by
 have a:NodeO (w.alloc (.cells #[rA rD 1,x1,x2,x3,rA rD 1,q9 rF 0 0,x4,q9 rF 0 0,q9 rF 0 0,q9 rF 0 0] 52)) B Ti #[rA rD 1,x1,x2,x3,rA rD 1,q9 rF 0 0,x4,q9 rF 0 0,q9 rF 0 0,q9 rF 0 0]:=
  ⟨_,_,_,_,_,_,_,_,rfl,f.alloc _,d.alloc _,g.alloc _,Own.nil _ _ _,h.alloc _,Own.nil _ _ _,Own.nil _ _ _,Own.nil _ _ _⟩
 refine⟨_,1,rfl,lR,by unfold maxLen;omega,fun i b=>⟨w.heap.size,0,#[rA rD 1,x1,x2,x3,rA rD 1,q9 rF 0 0,x4,q9 rF 0 0,q9 rF 0 0,q9 rF 0 0],rfl,by simp,?_,?_⟩⟩
 ·have:i=0:=(by simpa using b);subst this;exact a.c
 ·have:i=0:=(by simpa using b);subst this;intro j u e;have:=(Blk.new w 52 #[rA rD 1,x1,x2,x3,rA rD 1,q9 rF 0 0,x4,q9 rF 0 0,q9 rF 0 0,q9 rF 0 0]).cell j;rw[show 0+0*10+j=j by omega,this];simpa using e
open WalkM
theorem Yg:Bc [Ti]=true:=by decide
theorem Za0:TreeOk [Ti]:=by
 intro d hd;rw[fS]at hd;subst hd;refine⟨by decide,by decide,?_,?_,?_,?_,?_,?_,?_,?_⟩<;>decide
theorem Yh:Bi [Ti]=true:=by decide+kernel
def Zmc:SparseD:=Ed [Ti] (2^0) 0 [0] []
theorem Zcn:Ay Zmc false=true:=by decide+kernel
theorem Zco:Dh Zmc=true:=by decide+kernel
theorem Zl5:SparseOk Zmc:=by
 refine⟨by unfold inI;decide,by unfold inI;decide,fun p hp=> ?_,fun p hp=>by cases hp⟩;have:p=(((0:Nat):Int),Ti):=(by simpa [Zmc,Ed,nd]using hp);subst this;exact⟨by unfold inI;decide,Za0 Ti (by simp)⟩
theorem Zl6 (w:World):Calls prog 21 #[] w fun e w'=>e=.returned (.bool true)∧Below w.heap.size w w':=by
 have C:=Hd (Rg (n:=32) (N:=32) rfl (by omega));have D:=Hd (Rg (n:=64) (N:=64) rfl (by omega));obtain⟨aE,aD⟩:=eX (madeCells (Value.int .u8 0).cells (32*1));obtain⟨Z64,aC⟩:=eX (madeCells (Value.int .u8 0).cells (64*1));have L:=Hd fun(v:Value) (W:World) (hw:TreeR W v [Ti])=>Zfz v [Ti] 0 0 0 [0] [] W hw Yg Za0 Yh rfl (by decide) (by omega) rfl (by decide+kernel) (by decide+kernel) (by decide+kernel) (by simp) (by simp) (by simp) (by simp) (by simp) (by simp) (fun x=>by rw[Oz];omega);have R:=Hd fun(v:Value) (W:World) (hw:SparseR W v Zmc)=>Xu v Zmc W hw Zl5 Zco;rw[Zcn]at R;go_enter func21,ntmps21;go_wp2_with fail;refine Dv [fun v w'=>Own w' w.heap.size 5 v (bvs (cI 32 0)),fun v w'=>Own w' w.heap.size 5 v (bvs (cI 32 0)),fun v w'=>Own w' w.heap.size 5 v (bvs [1]),fun v w'=>Own w' w.heap.size 5 v (bvs (cI 64 0)),fun v w'=>∃x1 x2 x3 x4,v=.agg #[x1,x2,x3,rA rD 1,q9 rF 0 0,x4]∧Own w' w.heap.size 5 x1 (bvs (cI 32 0))∧Own w' w.heap.size 5 x2 (bvs (cI 32 0))∧Own w' w.heap.size 5 x3 (bvs [1])∧Own w' w.heap.size 5 x4 (bvs (cI 64 0)),fun v w'=>∃x1 x2 x3 x4,v=.agg #[rA rD 1,x1,x2,x3,rA rD 1,q9 rF 0 0,x4,q9 rF 0 0,q9 rF 0 0,q9 rF 0 0]∧Own w' w.heap.size 5 x1 (bvs (cI 32 0))∧Own w' w.heap.size 5 x2 (bvs (cI 32 0))∧Own w' w.heap.size 5 x3 (bvs [1])∧Own w' w.heap.size 5 x4 (bvs (cI 64 0)),fun v w'=>TreeR w' v [Ti],fun v w'=>TreeR w' v [Ti]] (by kernel_rfl) (by kernel_rfl) (by kernel_rfl) (Ai (fun v x y h _ c=>Own.below h c lR) (Ai (fun v x y h _ c=>Own.below h c lR) (Ai (fun v x y h _ c=>Own.below h c lR) (Ai (fun v x y h _ c=>Own.below h c lR) (Ai (fun v x y h _ c=>let⟨x1,x2,x3,x4,e,r,k,l,s⟩:=h;⟨x1,x2,x3,x4,e,r.below c lR,k.below c lR,l.below c lR,s.below c lR⟩) (Ai (fun v x y h _ c=>let⟨x1,x2,x3,x4,e,r,k,l,s⟩:=h;⟨x1,x2,x3,x4,e,r.below c lR,k.below c lR,l.below c lR,s.below c lR⟩) (Ai (fun v x y h _ c=>TreeR.below h c lR) (Ai (fun v x y h _ c=>TreeR.below h c lR) (Ah))))))))) ?_ ?_
 ·refine gB ?_ (gB ?_ (gB ?_ (gB ?_ (gB ?_ (gB ?_ (gB ?_ (gB ?_ .nil)))))));all_goals
   intro a d m ho z;refine⟨rfl,?_⟩;intro K p;try have D0:=C.out
   try have D1:=D.out
   try(refine Hd ?_;go_simp;exact p _ rfl)
  ·go_simp;exact p _ _ ((Th d 32).mono m.size) (bR.alloc lR _)
  ·go_simp;exact p _ _ ((Th d 32).mono m.size) (bR.alloc lR _)
  ·
   go_simp;exact p _ _ (Own.full (B:=w.heap.size) (cs:=#[rA rD 1]) rfl (m.size) (by unfold maxLen;simp) rfl) (bR.alloc lR _)
  ·go_simp;exact p _ _ ((Th d 64).mono m.size) (bR.alloc lR _)
  ·have i:Own d w.heap.size 5 (a.tmps[4]?.getD undef) (bvs (cI 32 0)):=z.1;obtain⟨v0,b⟩:=eX (a.tmps[4]?.getD undef);rw[←b]at i;have Z:=b.symm;clear b;have o1:Own d w.heap.size 5 (a.tmps[5]?.getD undef) (bvs (cI 32 0)):=z.2.1;obtain⟨v1,E⟩:=eX (a.tmps[5]?.getD undef);rw[←E]at o1;have e1:=E.symm;clear E;have U:Own d w.heap.size 5 (a.tmps[6]?.getD undef) (bvs [1]):=z.2.2.1;obtain⟨v2,u⟩:=eX (a.tmps[6]?.getD undef);rw[←u]at U;have e2:=u.symm;clear u;have V:Own d w.heap.size 5 (a.tmps[7]?.getD undef) (bvs (cI 64 0)):=z.2.2.2.1;obtain⟨v3,A⟩:=eX (a.tmps[7]?.getD undef);rw[←A]at V;have e3:=A.symm;clear A;obtain⟨O,m1,d1,rfl⟩:=Co i;obtain⟨F,m2,d2,rfl⟩:=Co o1;obtain⟨a3,m3,d3,rfl⟩:=Co U;obtain⟨a4,m4,d4,rfl⟩:=Co V;go_simp;exact p _ _ ⟨_,_,_,_,rfl,i,o1,U,V⟩ bR
  ·have i:∃x1 x2 x3 x4,(a.tmps[8]?.getD undef)=.agg #[x1,x2,x3,rA rD 1,q9 rF 0 0,x4]∧Own d w.heap.size 5 x1 (bvs (cI 32 0))∧Own d w.heap.size 5 x2 (bvs (cI 32 0))∧Own d w.heap.size 5 x3 (bvs [1])∧Own d w.heap.size 5 x4 (bvs (cI 64 0)):=z.1;obtain⟨v0,b⟩:=eX (a.tmps[8]?.getD undef);rw[←b]at i;have Z:=b.symm;clear b;obtain⟨x1,x2,x3,x4,rfl,r,k,l,s⟩:=i;obtain⟨O,m1,d1,rfl⟩:=Co r;obtain⟨F,m2,d2,rfl⟩:=Co k;obtain⟨a3,m3,d3,rfl⟩:=Co l;obtain⟨a4,m4,d4,rfl⟩:=Co s;go_simp;exact p _ _ ⟨_,_,_,_,rfl,r,k,l,s⟩ bR
  ·have i:∃x1 x2 x3 x4,(a.tmps[9]?.getD undef)=.agg #[rA rD 1,x1,x2,x3,rA rD 1,q9 rF 0 0,x4,q9 rF 0 0,q9 rF 0 0,q9 rF 0 0]∧Own d w.heap.size 5 x1 (bvs (cI 32 0))∧Own d w.heap.size 5 x2 (bvs (cI 32 0))∧Own d w.heap.size 5 x3 (bvs [1])∧Own d w.heap.size 5 x4 (bvs (cI 64 0)):=z.1;obtain⟨v0,b⟩:=eX (a.tmps[9]?.getD undef);rw[←b]at i;have Z:=b.symm;clear b;obtain⟨x1,x2,x3,x4,rfl,r,k,l,s⟩:=i;have HT:=Zjx r k l s;obtain⟨O,m1,d1,rfl⟩:=Co r;obtain⟨F,m2,d2,rfl⟩:=Co k;obtain⟨a3,m3,d3,rfl⟩:=Co l;obtain⟨a4,m4,d4,rfl⟩:=Co s;go_simp;exact p _ _ HT (bR.alloc lR _)
  ·have i:TreeR d (a.tmps[10]?.getD undef) [Ti]:=z.1;obtain⟨v0,b⟩:=eX (a.tmps[10]?.getD undef);rw[←b]at i;have Z:=b.symm;clear b;go_simp;exact p _ _ i bR
 ·rintro f w9 q t;have q:Below w.heap.size w w9:=q;have T:TreeR w9 (f 1) [Ti]:=t.2.2.2.2.2.2.2.1;clear t;simp only[Am,Az,Ex,cX,cY,cZ,dA,Nat.reduceBEq,Nat.reduceAdd,dB,dC,cond_true];obtain⟨u1,H⟩:=eX (f 1);rw[←H]at T⊢;clear H;have aA:=Hd T;have I:=Hd q;clear T q;go_wp2_with fail;refine(L.out _ _ aA.out).mono ?_;rintro e X ⟨vr,rfl,J,P⟩;have Q:=Hd J;have S:=Hd (I.out.trans (P.mono I.out.size));obtain⟨o,g,rfl,ho,hg⟩:=J;obtain⟨O,c1,rfl,-⟩:=ho;obtain⟨F,c2,rfl,-⟩:=hg;have el:(Ed [Ti] (2^0) 0 [0] []).leaves=1:=rfl;have eo:(Ed [Ti] (2^0) 0 [0] []).own=0:=rfl;have e1:(Ed [Ti] (2^0) 0 [0] []).op.length=1:=rfl;have e2:(Ed [Ti] (2^0) 0 [0] []).sh.length=0:=rfl;rw[el,eo,e1,e2]at Q⊢;clear el eo e1 e2 P;have HA:=Hd ((Below.refl X.heap.size X).alloc lR (.cells #[rA rC 1,rA rC 0,q9 O 1 c1,q9 F 0 c2] 25));have Y:=Hd (R.out _ _ (Q.out.below HA.out lR));have G:=Hd (S.out.trans (HA.out.mono S.out.size));have j:=Blk.new X 25 #[rA rC 1,rA rC 0,q9 O 1 c1,q9 F 0 c2];have d0:=j.cell 0;have d1:=j.cell 1;have d2:=j.cell 2;have d3:=j.cell 3;simp only[bZ,cA,cB]at d0 d1 d2 d3;clear j;go_wp2_with fail;refine(Y.out).mono ?_;rintro e w5 ⟨rfl,M⟩;have aB:=Hd (G.out.trans (M.mono G.out.size));clear M;go_wp2_with fail;go_ret;exact⟨rfl,aB.out⟩
theorem NodeC.leaf {w:World} {d:NodeD} {c:Array Value}(h:NodeC w d c):∃c6:Array Value,LeafC w d.leaf c6∧c6.size=6∧∀j u,c6.toList[j]? =some u→c.toList[j+1]? =some u:=by
 obtain⟨k,c1,b,c2,f,c3,i,c4,l,c5,n,e1,q,e2,o,e3,rfl,h1,h2,h3,g,e,m,p,r⟩:=h;refine⟨_,⟨k,c1,b,c2,f,c3,i,c4,l,c5,rfl,h1,h2,h3,g,e⟩,rfl,?_⟩;intro j u a
 match j,a with
 |0,a=>exact a
 |1,a=>exact a
 |2,a=>exact a
 |3,a=>exact a
 |4,a=>exact a
 |5,a=>exact a
 |j+6,a=>simp at a
end Go.Proofs.YtfofaiommeckbaaGreat
