import Derived.Test.YtfofaiommeckbaaGreatZCk21
import Derived.Test.YtfofaiommeckbaaGreatZCk16
open Go.Obj renaming cells -> rJ
open Go.Ending renaming returned -> rK
open Go.Value renaming slice -> rC, int -> rD, pointer -> rE
open Go.IntKind renaming i64 -> rF, u8 -> rG, u64 -> rH
open Option renaming none -> rI
open Go.Proofs.Tryz
open List renaming length_nil -> cO, length_cons -> dB, length_drop -> dZ, mem_singleton -> fU, length_append -> bA, getElem?_toArray -> cR, getElem?_cons_zero -> cS, getElem?_cons_succ -> aP, drop_drop -> iG, getElem?_append_left -> iH, getD_eq_getElem?_getD -> aS, getElem?_append_right -> iI
open Nat renaming pow_zero -> iJ, zero_le -> aA
set_option linter.unusedVariables false
set_option maxRecDepth 100000
set_option maxHeartbeats 40000000
namespace Go.Proofs.YtfofaiommeckbaaGreat
open Go.RowKit WalkM WireM
structure RdR where
 er:Nat
 op:List (Int×NodeD)
 sh:List (Int×List Nat)
 rest:List Nat
def Iw (e:Nat):RdR:=⟨e,[],[],[]⟩
def Kt (x:Nat)(M:List Nat)(K:NodeD->List Nat->RdR):RdR:=
 if(Au M 0).1≠0 then Iw (Au M 0).1 else
 if x%2=0/\(Au M 0).2.1.kind=2\/x%2=1/\(Au M 0).2.1.kind=1 then Iw 3 else K (Au M 0).2.1 (Au M 0).2.2.1
def Sz (x:Nat)(L:List Nat)(K:NodeD->List Nat->RdR):RdR:=
 match L with
 |[]=>Iw 4
 |b::M=>if 1<b then Iw 3 else if b=0 then(if M.length<32 then Iw 4 else⟨0,[],[((x:Int),M.take 32)],M.drop 32⟩)else Kt x M K
def Ml (x:Nat)(d:NodeD)(l:RdR)(r:RdR):RdR:=
 if l.er≠0 then Iw l.er else if r.er≠0 then Iw r.er else⟨0,l.op++((x:Int),d)::r.op,l.sh++r.sh,r.rest⟩
def rdP:Nat->Nat->List Nat->RdR
 |0,x,L=>Sz x L fun d R=>⟨0,[((x:Int),d)],[],R⟩
 |k+1,x,L=>Sz x L fun d R=>Ml x d (rdP k (x-2^k) R) (rdP k (x+2^k) (rdP k (x-2^k) R).rest)
structure RdOk (L:List Nat) (lo hi:Int) (r:RdR):Prop where
 sub:Sub r.rest L
 len:r.op.length+r.sh.length+r.rest.length<=L.length
 opIn:∀p∈r.op,lo<p.1/\p.1<hi
 shIn:∀p∈r.sh,lo<p.1/\p.1<hi
 opUp:r.op.Pairwise fun p q=>p.1<q.1
 shUp:r.sh.Pairwise fun p q=>p.1<q.1
 node:∀p∈r.op,At p.2=true/\4*p.2.par.late.length<=L.length/\((∀n∈L,n<256)->NodeOk p.2)
 hash:∀p∈r.sh,p.2.length=32/\Sub p.2 L
theorem Zs {α:Type} {R: α->α->Prop} {l m:List α}(hl:l.Pairwise R)(hm:m.Pairwise R)(h:∀a∈l,∀b∈m,R a b):(l++m).Pairwise R:=List.pairwise_append.2 ⟨hl,hm,h⟩
theorem Zfe {x:Nat} {L:List Nat} {K:NodeD->List Nat->RdR} {g f:Int} (h0:g<x) (h1:(x:Int)<f) (h:(Sz x L K).er=0)
  (q:∀M d R,TkOk M d R->L.length=M.length+1->(K d R).er=0->RdOk M g f (K d R)):RdOk L g f (Sz x L K):=by
 unfold Sz at h|-;cases L with
 |nil=>cases h
 |cons b M=>
  have c:Sub M (b::M):=⟨by simp,fun x hx=>List.mem_cons_of_mem _ hx⟩;simp only at h|-
  by_cases c1:1<b
  ·rw[iP c1]at h;cases h
  ·rw[iN c1]at h|-
   by_cases c2:b=0
   ·rw[iP c2]at h|-
    by_cases c3:M.length<32
    ·rw[iP c3]at h;cases h
    ·rw[iN c3];exact⟨(Sub.drop _ _).trans c,by simp only[cO,dB,dZ];omega,fun p a=>(by simp at a),fun p a=>by simp only[fU]at a;rw[a];exact⟨h0,h1⟩,List.Pairwise.nil,by simp,fun p a=>(by simp at a),fun p a=>by simp only[fU]at a;rw[a];exact⟨by simp only[List.length_take];omega,(Sub.take _ _).trans c⟩⟩
   ·rw[iN c2]at h|-;unfold Kt at h|-
    by_cases c3:(Au M 0).1≠0
    ·rw[iP c3]at h;exact absurd h c3
    ·rw[iN c3]at h|-;have hk:=Vf (L:=M) (by omega)
     split at h
     ·cases h
     ·rename_i c4
      rw[iN c4];obtain⟨j,t,k,l,m,o,e,i⟩:=q M _ _ hk.2 (by simp) h;exact⟨j.trans c,by simp only[dB];omega,k,l,m,o,fun p a=>⟨(e p a).1,by have:=(e p a).2.1;simp only[dB];omega,fun r=>(e p a).2.2 fun n s=>r n (c.2 n s)⟩,fun p a=>⟨(i p a).1,(i p a).2.trans c⟩⟩
theorem Vh:∀k x (L:List Nat),2^k<=x+1->(rdP k x L).er=0->RdOk L ((x:Int)-((2^k:Nat):Int)) ((x:Int)+((2^k:Nat):Int)) (rdP k x L):=by
 intro k
 induction k with
 |zero=>
  intro x L hx h;unfold rdP at h|-;refine Zfe (by simp only[iJ];omega) (by simp only[iJ];omega) h fun M d R b G _=> ?_;exact⟨b.sub,by have:=b.len;simp only[dB,cO];omega,fun p a=>by simp only[fU]at a;rw[a];simp only[iJ];omega,fun p a=>by simp at a,by simp,List.Pairwise.nil,fun p a=>by simp only[fU]at a;rw[a];exact⟨b.right,b.late,b.ok⟩,fun p a=>by simp at a⟩
 |succ k ih=>
  intro x L hx h;have e2:2^(k+1)=2*2^k:=(by rw[Nat.pow_succ];omega);have a:=Nat.two_pow_pos k;unfold rdP at h|-;refine Zfe (by omega) (by omega) h fun M d R b G f=> ?_;unfold Ml at f|-
  split at f
  ·rename_i c;exact absurd f c
  ·rename_i c1
   split at f
   ·rename_i c;exact absurd f c
   ·rename_i c2
    rw[iN c1,iN c2];generalize hl1:rdP k (x-2^k) R=l at c1 c2|-;have h1:=ih (x-2^k) R (by omega) (by rw[hl1];omega);rw[hl1]at h1;generalize hr1:rdP k (x+2^k) l.rest=r at c2|-;have h2:=ih (x+2^k) l.rest (by omega) (by rw[hr1];omega);rw[hr1]at h2;have e3:((x-2^k:Nat):Int)+((2^k:Nat):Int)=(x:Int):=(by omega);have D:((x+2^k:Nat):Int)-((2^k:Nat):Int)=(x:Int):=(by omega);have E:((x-2^k:Nat):Int)-((2^k:Nat):Int)=(x:Int)-((2^(k+1):Nat):Int):=(by omega);have F:((x+2^k:Nat):Int)+((2^k:Nat):Int)=(x:Int)+((2^(k+1):Nat):Int):=(by omega);obtain⟨g,I,i,m,z,A,o,w⟩:=h1;obtain⟨b1,J,j,s,B,C,t,y⟩:=h2;rw[e3,E]at i m;rw[D,F]at j s;have H:=b1.trans g;have K:=b.len;have g2:=b.sub;have g3:=g.1;refine⟨H.trans g2,by simp only[bA,dB];omega,fun p a=> ?_,fun p a=> ?_,?_,?_,fun p a=> ?_,fun p a=> ?_⟩
    ·rcases List.mem_append.1 a with a|a
     ·have:=i p a;omega
     ·rcases List.mem_cons.1 a with rfl|a
      ·simp only;omega
      ·have:=j p a;omega
    ·rcases List.mem_append.1 a with a|a
     ·have:=m p a;omega
     ·have:=s p a;omega
    ·refine Zs z (List.pairwise_cons.2 ⟨fun q e=>(j q e).1,B⟩) fun p a q e=> ?_;rcases List.mem_cons.1 e with rfl|e
     ·exact(i p a).2
     ·have:=(i p a).2;have:=(j q e).1;omega
    ·refine Zs A C fun p a q e=> ?_;have:=(m p a).2;have:=(s q e).1;omega
    ·rcases List.mem_append.1 a with a|a
     ·exact⟨(o p a).1,by have:=(o p a).2.1;omega,fun u=>(o p a).2.2 fun n v=>u n (g2.2 n v)⟩
     ·rcases List.mem_cons.1 a with rfl|a
      ·exact⟨b.right,b.late,b.ok⟩
      ·exact⟨(t p a).1,by have:=(t p a).2.1;omega,fun u=>(t p a).2.2 fun n v=>u n (g2.2 n (g.2 n v))⟩
    ·rcases List.mem_append.1 a with a|a
     ·exact⟨(w p a).1,(w p a).2.trans g2⟩
     ·exact⟨(y p a).1,(y p a).2.trans (g.trans g2)⟩
def Hw (L:List Nat):Nat:=Du (L.take 4)
def Ef:SparseD:=⟨0,0,[],[]⟩
def ofS (only:Bool)(m:Nat)(b:List Nat):Nat×SparseD:=
 if 1048576<b.length then(6,Ef)else
 match b with
 |[]=>(4,Ef)
 |c::L=>if c≠m then(3,Ef)else
  if L.length<4 then(4,Ef)else
  if fits (Hw L)=false then(3,Ef)else
  if L.length<8 then(4,Ef)else
  if Hw L<=Hw (L.drop 4)then(3,Ef)else
  let r:=rdP (Nat.log2 (Hw L)) (Hw L-1) (L.drop 8)
  if r.er≠0 then(r.er,Ef)else
  if r.rest≠[]then(5,Ef)else
  if Ar ⟨Hw L,Hw (L.drop 4),r.op,r.sh⟩ only=true then(0,⟨Hw L,Hw (L.drop 4),r.op,r.sh⟩)else(3,Ef)
end Go.Proofs.YtfofaiommeckbaaGreat
namespace Go.Proofs.YtfofaiommeckbaaGreat
open Go.RowKit WireM
theorem Ap {P:Program} {b:Func} {p q r:Tmp} {ty:TypeId} (h:b.results=#[.cell p ty,.tmp q,.tmp r]) (tmps:Array Value) (w:World) (g:Nat) (t:TypeId) (cs:Array Value) (d:TypeDesc)
  (i:tmps.getD p undef=rE (some ⟨g,0,rI⟩)) (e:Blk w g t cs)
  (j:P.underlying ty=some d) (c:(match d with| .struct _| .array _ _=>true|_=>false)=true) (f:(P.info? ty).map (·.size)=some cs.size):
  (results b tmps).run P w=.ok (.tuple #[.agg cs,tmps.getD q undef,tmps.getD r undef]) w:=by
 have a:tmps[p]?.getD undef=rE (some ⟨g,0,rI⟩):=(by simpa using i);simp[results,h,a,asAddr,run_loadVar_row w g t ty cs (0,0) d e j c f]
theorem Zbv (v:Value)(L:List Nat)(p:Nat)(w:World)(h:Rd w v (bvs L))(Q:∀n∈L,n<256)(R:L.length<=1000000000)(S:p<=L.length):
  Calls prog 224 #[v,rD rF (p:Nat),.agg #[rD rF 1,rD rF 0,rD rH 0,rC rI 0 0,rC rI 0 0]] w fun e w'=>∃a n c,e=rK (.tuple #[.agg #[rD rF 1,rD rF 0,rD rH 0,rC a n c,rC rI 0 0],rD rF ((Ow L p).2.1:Nat),rD rF ((Ow L p).2.2:Nat)])/\(∀W,Rd W v (bvs L)->Rd W (rC a n c) (bvs (Ow L p).1))/\Below w.heap.size w w':=by
 have b:=fun(W:World) (hw:Below w.heap.size w W)=>Zfb v L p W (h.below hw lR) Q R S;obtain⟨a,cap,rfl,-,-⟩:=id h;rw[bvs_len]at h b|-;obtain⟨r,T⟩:=eX (Ow L p);rw[<-T]at b|-;obtain⟨xs,nx,er⟩:=r;obtain⟨ln,z⟩:=eX L.length;rw[<-z]at h b|-;have HR:=Hd b;clear b;obtain⟨g,H⟩:=eX (w.heap.size+1);obtain⟨q,I⟩:=eX (w.heap.size+1+1);obtain⟨w0,d⟩:=eX (((w.alloc (rJ #[rD rF 1,rD rF 0,rD rH 0,rC rI 0 0,rC rI 0 0] 241)).alloc (rJ #[rD rF 0,rD rF 0,rD rH 0,rC rI 0 0,rC rI 0 0] 241)).alloc (rJ #[rD rF 1,rD rF 0,rD rH 0,rC rI 0 0,rC rI 0 0] 241));have O:(w.alloc (rJ #[rD rF 1,rD rF 0,rD rH 0,rC rI 0 0,rC rI 0 0] 241)).heap.size=g:=(by simp[H]);have P:((w.alloc (rJ #[rD rF 1,rD rF 0,rD rH 0,rC rI 0 0,rC rI 0 0] 241)).alloc (rJ #[rD rF 0,rD rF 0,rD rH 0,rC rI 0 0,rC rI 0 0] 241)).heap.size=q:=(by simp[I]);have l:=Hd (show Below w.heap.size w w0 by rw[d];exact(((Below.refl w.heap.size w).alloc lR _).alloc (by simp) _).alloc (by simp;omega) _);have M:=Hd (show Blk w0 g 241 #[rD rF 0,rD rF 0,rD rH 0,rC rI 0 0,rC rI 0 0] by rw[d,<-O];exact(Blk.new _ _ _).alloc _);have N:=Hd (show Blk w0 q 241 #[rD rF 1,rD rF 0,rD rH 0,rC rI 0 0,rC rI 0 0] by rw[d,<-P];exact Blk.new _ _ _);have m:=Hd (show w.heap.size<g/\g<q by omega);have F:=Hd d;have Y:=Hd H;have Z:=Hd I;have E:=Hd h;clear h Q R S T z H I d O P;go_in;go_wp2_with fail;rw[<-F.out,<-Z.out,<-Y.out];refine(HR.out w0 l.out).mono ?_;rintro e w1 ⟨u,rfl,J,A⟩;obtain⟨t,y,x,rfl⟩:∃a n c,u=.slice a n c:=(by obtain⟨a,c,e,_⟩:=J w E.out;exact⟨_,_,_,e⟩);have HU:=Hd J;have B:=Hd (l.out.trans (A.mono l.out.size));have V:=Hd (M.out.below A M.out.lt);have G:=Hd (N.out.below A N.out.lt);clear J A;have U:=G.out.cell 3;have z3:=G.out.frozen 3;simp only[cR,cS,aP]at U;obtain⟨K,f⟩:=eX (w1.setCell ⟨q,3,rI⟩ (rC t y x));have i:=Hd f;have Q2:=Hd (show Blk K q 241 #[rD rF 1,rD rF 0,rD rH 0,rC t y x,rC rI 0 0] by rw[f];simpa using G.out.set 3 (rC t y x));have X:=Hd (show Blk K g 241 #[rD rF 0,rD rF 0,rD rH 0,rC rI 0 0,rC rI 0 0] by rw[f];exact V.out.far (p:=⟨q,3,rI⟩) (by have:=m.out;simp only;omega) _);have C:=Hd (show Below w.heap.size w K by rw[f];exact B.out.setCell (by have:=m.out;simp only;omega) _);clear f;go_wp2_with (first
  |(refine Af rfl 241 (.tmp 9) rfl q rfl 241 #[rD rF 1,rD rF 0,rD rH 0,rC t y x,rC rI 0 0] (0,0) _ (by rw[<-i.out];exact Q2.out) underlying241 rfl (by kernel_rfl) ?_)
  |(refine Aa rfl 241 (.tmp 6) (.tmp 93) rfl g #[rD rF 1,rD rF 0,rD rH 0,rC t y x,rC rI 0 0] rfl rfl 241 #[rD rF 0,rD rF 0,rD rH 0,rC rI 0 0,rC rI 0 0] (by rw[<-i.out];exact X.out) (by kernel_rfl) rfl rfl ?_))
 rintro w3 j o k s;rw[<-i.out]at k;simp only[<-i.out]at o;have P3:=Hd j;have D:=Hd (C.out.trans (o w.heap.size (by have:=m.out;omega)));clear j o k s U z3;go_wp2_with fail;refine bodyPost_ret (v:=.tuple #[.agg #[rD rF 1,rD rF 0,rD rH 0,rC t y x,rC rI 0 0],rD rF (nx:Nat),rD rF (er:Nat)]) (Ap results224 _ _ g _ _ _ rfl P3.out underlying241 rfl (by kernel_rfl)) rfl ?_;exact⟨_,_,_,rfl,HU.out,D.out⟩
def Bh:Nat->List Nat->List (List Nat)×List Nat×Nat
 |0,M=>([],M,0)
 |r+1,M=>if(Bh r M).2.2≠0 then Bh r M else if(Bg (Bh r M).2.1 0).2.2≠0 then([],[],(Bg (Bh r M).2.1 0).2.2)else((Bh r M).1++[(Bg (Bh r M).2.1 0).1],(Bg (Bh r M).2.1 0).2.1,0)
theorem Zio (N:List Nat)(h:(Bg N 0).2.2=0):(Bg N 0).2.1=N.drop (N.length-(Bg N 0).2.1.length)/\(Bg N 0).2.1.length<=N.length:=by
 have c:=(Az N 0).2.1.1;refine⟨?_,c⟩;have a:=Jp N;have b:=(Jo N 0).1;unfold Bg at h c|-;rcases hq:Bl N 0 with⟨n,M,e⟩;rw[hq]at h a b c;cases n with
 |none=>exact absurd h (a.1 rfl)
 |some n=>
  obtain⟨f,d,-⟩:=a.2 n rfl;simp only at f d b;subst f;simp only at h c|-;have ht:=(Sq h).2.2.2;rw[ht]at c|-;simp only[Int.toNat_natCast]at c|-;have e2:M=N.drop (N.length-M.length):=d
  conv=>lhs;rw[e2,iG]
  congr 1
  have:=(Sq h).2.2.1;rw[dZ];omega
theorem Ox (L:List Nat)(p:Nat)(b:p<=L.length):∀r,(Bh r (L.drop p)).2.2=0->(Bh r (L.drop p)).2.1=L.drop (L.length-(Bh r (L.drop p)).2.1.length)/\(Bh r (L.drop p)).2.1.length<=L.length/\(Bh r (L.drop p)).1.length=r:=by
 intro r
 induction r with
 |zero=>intro _;refine⟨?_,by show(L.drop p).length<=_;rw[dZ];omega,rfl⟩;show L.drop p=_;congr 1;show p=L.length-(L.drop p).length;rw[dZ];omega
 |succ r ih=>
  intro h;unfold Bh at h|-
  split at h
  ·rename_i c;exact absurd h c
  ·rename_i c1
   rw[iN c1];obtain⟨a,i2,i3⟩:=ih (by simpa using c1)
   split at h
   ·rename_i c;exact absurd h c
   ·rename_i c2
    rw[iN c2];obtain⟨j1,j2⟩:=Zio _ (by simpa using c2);refine⟨?_,Nat.le_trans j2 i2,by simp[i3]⟩;show(Bg (Bh r (L.drop p)).2.1 0).2.1=_;generalize hq:Bg (Bh r (L.drop p)).2.1 0=q at j1 j2|-;show q.2.1=L.drop (L.length-q.2.1.length);exact j1.trans ((congrArg (List.drop ((Bh r (L.drop p)).2.1.length-q.2.1.length)) a).trans (by rw[iG];congr 1;omega))
def RowsR (v:Value)(L:List Nat)(w:World)(u:Value)(vs:List (List Nat)):Prop:=∃us:List Value,us.length=vs.length/\Rd w u us/\∀i,i<vs.length->∃a n c,us[i]? =some (rC a n c)/\∀W,Rd W v (bvs L)->Rd W (rC a n c) (bvs (vs.getD i []))
theorem Zff (v:Value)(L:List Nat)(p n:Nat)(w:World)(h:Rd w v (bvs L))(hL:∀n∈L,n<256)(hl:L.length<=1000000000)(hp:p<=L.length)(hn:n<=3):
  Calls prog 187 #[v,rD rF (p:Nat),rD rF (n:Nat)] w fun e w'=>∃u nx,e=rK (.tuple #[u,rD rF nx,rD rF ((Bh n (L.drop p)).2.2:Nat)])/\((Bh n (L.drop p)).2.2=0->nx=((L.length-(Bh n (L.drop p)).2.1.length:Nat):Int)/\RowsR v L w' u (Bh n (L.drop p)).1)/\Below w.heap.size w w':=by
 have TK:=fun(q:Nat) (hq:q<=L.length) (W:World) (hw:Below w.heap.size w W)=>Zbv v L q W (h.below hw lR) hL hl hq;have s:=Ox L p hp;have ST:∀r,(Bh r (L.drop p)).2.2=0->Ow L (L.length-(Bh r (L.drop p)).2.1.length)=if(Bg (Bh r (L.drop p)).2.1 0).2.2=0 then((Bg (Bh r (L.drop p)).2.1 0).1,L.length-(Bg (Bh r (L.drop p)).2.1 0).2.1.length,0)else([],L.length-(Bh r (L.drop p)).2.1.length,(Bg (Bh r (L.drop p)).2.1 0).2.2):=by
  intro r F;unfold Ow;rw[<-(s r F).1]
 have NX:∀r,Bh (r+1) (L.drop p)=if(Bh r (L.drop p)).2.2≠0 then Bh r (L.drop p)else if(Bg (Bh r (L.drop p)).2.1 0).2.2≠0 then([],[],(Bg (Bh r (L.drop p)).2.1 0).2.2)else((Bh r (L.drop p)).1++[(Bg (Bh r (L.drop p)).2.1 0).1],(Bg (Bh r (L.drop p)).2.1 0).2.1,0):=fun r=>rfl;have o:∀r,(Bh r (L.drop p)).2.2≠0->∀k,Bh (r+k) (L.drop p)=Bh r (L.drop p):=by
  intro r F k
  induction k with
  |zero=>rfl
  |succ k ih=>rw[<-Nat.add_assoc,NX,ih,iP F]
 have Z0:Bh 0 (L.drop p)=([],L.drop p,0):=rfl;have E:(L.drop p).length=L.length-p:=dZ;obtain⟨S,hS⟩:∃S:Nat->List (List Nat)×List Nat×Nat,S=fun r=>Bh r (L.drop p):=⟨_,rfl⟩;have V:∀r,Bh r (L.drop p)=S r:=fun r=>(by rw[hS]);simp only[V]at s ST NX o Z0|-;obtain⟨av,cap,rfl,-,-⟩:=id h;rw[bvs_len]at h TK|-;obtain⟨ln,aA⟩:=eX L.length;rw[<-aA]at h s ST TK hl hp E|-;have aL:=Hd TK;have T:=Hd s;have aK:=Hd ST;have aH:=Hd NX;have D:=Hd o;have HZ:=Hd (show(S 0).1=[]/\ln-(S 0).2.1.length=p/\(S 0).2.2=0 by rw[Z0];exact⟨rfl,by simp only[E];omega,rfl⟩);clear h hL TK s ST NX o Z0 hS V E aA;go_in;go_wp2_with fail
 go_loopg [1,9,10] n (fun q pv ov iv wr=>∃r:Nat,r+q=n/\iv=rD rF (r:Nat)/\(S r).2.2=0/\pv=rD rF ((ln-(S r).2.1.length:Nat):Int)/\(∃N:List Value,N.length=(S r).1.length/\Own wr w.heap.size 28 ov N/\∀i,i<(S r).1.length->∃a n c,N[i]? =some (rC a n c)/\∀W,Rd W (rC av ln cap) (bvs L)->Rd W (rC a n c) (bvs ((S r).1.getD i [])))/\Below w.heap.size w wr)
 case atStart=>exact⟨0,by omega,rfl,HZ.out.2.2,by rw[HZ.out.2.1],⟨[],by rw[HZ.out.1];rfl,Own.nil _ _ _,fun i Z=>by rw[HZ.out.1]at Z;simp at Z⟩,bR⟩
 case round=>
  obtain⟨r,F,rfl,y,rfl,⟨N,G,g,H⟩,t⟩:=hrel;have HR:=Hd F;have aF:=Hd y;have P:=Hd t;have Q:=Hd g;have U:=Hd H;have m:=Hd G;obtain⟨s1,s2,s3⟩:=T.out r y;have C:=aK.out r y;have b:=aH.out r;obtain⟨pr,B⟩:=eX (ln-(S r).2.1.length);rw[<-B]at C|-;have A:pr<=ln:=by omega
  by_cases hlt:r<n
  ·have aB:decide (r<n)=true:=dT hlt;have aC:decide ((r:Int)<(n:Int))=true:=dT (by omega);have d:=Hd (aL.out pr A wr t);rw[C]at d;rw[iN (by omega)]at b;obtain⟨q,hq⟩:=eX (Bg (S r).2.1 0);rw[<-hq]at d b;obtain⟨x,M,er⟩:=q;simp only at d b;obtain⟨p1,p2,p3,rfl⟩:=Cx g;have l:=Hd hlt;clear F y g H G t C B A s1 s2 hq hlt
   by_cases he:er=0
   ·have aM:((er:Int) !=0)=false:=(by rw[bne_eq_false_iff_eq];omega);rw[iP he]at d;rw[iN (by omega)]at b;have f:=Hd b;subst he;clear b;go_wp2_with fail;refine d.out.mono ?_;rintro e O ⟨I,K,J,rfl,hu,t⟩;have j:=Hd (P.out.trans (t.mono P.out.size));have HU:=Hd hu;have R:=Hd (Q.out.below t lR);clear hu t;go_wp2_with (at_builtin;refine An rfl (.tmp 31) (.tmp 34) 64 rfl w.heap.size 28 _ 24 Zm2 _ _ rfl ((R.out.alloc _).alloc _) ⟨O.heap.size+1,0,rI⟩ (rC I K J) rfl ?c1 rfl ?c2 ?c3 ?_);case c1=>
     have e1:(O.alloc (rJ #[rD rF 1,rD rF 0,rD rH 0,rC I K J,rC rI 0 0] 241)).heap.size=O.heap.size+1:=(by simp);rw[<-e1];exact Aq rfl
    case c2=>have:=m.out;have:=l.out;omega
    case c3=>have:=j.out.size;simp;omega
    rintro v' w3 z-X;have Y:=((Below.refl O.heap.size O).alloc lR (rJ #[rD rF 1,rD rF 0,rD rH 0,rC I K J,rC rI 0 0] 241)).alloc (by simp) (rJ #[rC I K J] 28);have aI:=Hd z;have aD:=Hd ((j.out.trans (Y.mono j.out.size)).trans X);clear z X Y;go_wp2_with fail;go_roundg (gk-1);case measure=>have:=HR.out;have:=l.out;omega
    case rel=>
     refine⟨r+1,by have:=HR.out;have:=l.out;omega,by have:=l.out;have e:=(show wrap64 ((r:Int)+1)=(r:Int)+1 by unfold wrap64;omega);go_num,by rw[f.out],by rw[f.out],⟨N++[rC I K J],by rw[f.out,bA,bA,m.out];rfl,aI.out,fun i Z=> ?_⟩,aD.out⟩;rw[f.out]at Z|-;simp only[bA,dB,cO]at Z
     by_cases e:i<(S r).1.length
     ·obtain⟨a',n',c',h1,h2⟩:=U.out i e;refine⟨a',n',c',by rw[iH (by rw[m.out];exact e)];exact h1,?_⟩;intro W hW;have:=h2 W hW;rw[aS]at this|-;rw[iH e];exact this
     ·obtain rfl:i=(S r).1.length:=(by omega);refine⟨I,K,J,by rw[<-m.out,iI lR];simp,?_⟩;intro W hW;have:=HU.out W hW;rw[aS,iI lR];simpa using this
   ·have aM:((er:Int) !=0)=true:=(by rw[bne_iff_ne];omega);rw[iN he]at d;rw[iP (by omega)]at b;have aG:=Hd (show S n=([],[],er)from by
     have h1:=D.out (r+1) (by rw[b];exact he) (n-(r+1));rw[show r+1+(n-(r+1))=n by have:=l.out;omega]at h1;rw[h1,b])
    have aE:=Hd he;clear b he;go_wp2_with fail;refine d.out.mono ?_;rintro e O ⟨I,K,J,rfl,hu,t⟩;have j:=Hd (P.out.trans (t.mono P.out.size));clear hu t;go_wp2_with fail
    go_ret3
    rw[aG.out];exact⟨_,_,rfl,fun h=>absurd h aE.out,j.out.alloc j.out.size _⟩
  ·obtain rfl:r=n:=(by omega);have aB:decide (r<r)=false:=dF hlt;have aC:decide ((r:Int)<(r:Int))=false:=dF (by omega);have aJ:=Hd B;clear F y g H G t C B A s1 s2 b hlt;go_wp2_with fail
   go_ret3
   exact⟨_,_,by rw[aF.out];rfl,fun _=>⟨by rw[aJ.out],N,m.out,Q.out.rd,U.out⟩,P.out⟩
def VcP (v:Value)(L:List Nat)(w:World)(xs:List (List Nat))(n er:Nat)(e:Ending)(w':World):Prop:=
 ∃u nx,e=rK (.tuple #[u,rD rF nx,rD rF (er:Nat)])/\(er=0->nx=(n:Int)/\RowsR v L w' u xs)/\Below w.heap.size w w'
theorem RowsR.nth {v:Value} {L:List Nat} {w:World} {u:Value} {xs:List (List Nat)}(h:RowsR v L w u xs)(k:Rd w v (bvs L))(h0:0<xs.length):
  ∃b d cap,b<w.heap.size/\u=rC (some ⟨b,d,rI⟩) xs.length cap/\∀i,i<xs.length->∃a c,w.cell? ⟨b,d+i,rI⟩=some (.slice a (xs.getD i []).length c)/\∀W,Rd W v (bvs L)->Rd W (.slice a (xs.getD i []).length c) (bvs (xs.getD i [])):=by
 obtain⟨l,h1,h2,h3⟩:=h;obtain⟨o,cap,rfl,-,-⟩:=id h2;have hx:∀i,i<xs.length->∃a c,l[i]? =some (.slice a (xs.getD i []).length c)/\∀W,Rd W v (bvs L)->Rd W (.slice a (xs.getD i []).length c) (bvs (xs.getD i [])):=by
  intro i f;obtain⟨a,n,c,e1,e2⟩:=h3 i f;obtain⟨m,q,e3,-⟩:=e2 w k;rw[bvs_len]at e3;simp only[Value.slice.injEq]at e3;obtain⟨-,rfl,-⟩:=e3;exact⟨a,c,e1,e2⟩
 obtain⟨a,c,e1,-⟩:=hx 0 h0;obtain⟨b,d,rfl,g,-⟩:=h2.get e1;refine⟨b,d,cap,g,by rw[h1],fun i f=> ?_⟩;obtain⟨a,c,e1,e2⟩:=hx i f;obtain⟨p,off',e,-,j⟩:=h2.get e1;cases e;exact⟨a,c,j,e2⟩
theorem RowsR.one {v:Value} {L:List Nat} {w:World} {u:Value} {x:List Nat}(h:RowsR v L w u [x])(g:Rd w v (bvs L)):
  ∃b d cap a c,b<w.heap.size/\u=rC (some ⟨b,d,rI⟩) 1 cap/\w.cell? ⟨b,d,rI⟩=some (.slice a x.length c)/\∀W,Rd W v (bvs L)->Rd W (.slice a x.length c) (bvs x):=by
 obtain⟨b,d,cap,e,f,hx⟩:=h.nth g (by simp);obtain⟨a,c,h1,h2⟩:=hx 0 (by simp);exact⟨b,d,cap,a,c,e,f,h1,h2⟩
theorem RowsR.three {v:Value} {L:List Nat} {w:World} {u:Value} {x y z:List Nat}(h:RowsR v L w u [x,y,z])(i:Rd w v (bvs L)):
  ∃b a cap c c1 d c2 e c3,b<w.heap.size/\u=rC (some ⟨b,a,rI⟩) 3 cap/\(w.cell? ⟨b,a,rI⟩=some (.slice c x.length c1)/\w.cell? ⟨b,a+1,rI⟩=some (.slice d y.length c2)/\w.cell? ⟨b,a+2,rI⟩=some (.slice e z.length c3))/\
   (∀W,Rd W v (bvs L)->Rd W (.slice c x.length c1) (bvs x))/\(∀W,Rd W v (bvs L)->Rd W (.slice d y.length c2) (bvs y))/\∀W,Rd W v (bvs L)->Rd W (.slice e z.length c3) (bvs z):=by
 obtain⟨b,a,cap,f,g,hx⟩:=h.nth i (by simp);obtain⟨c,c1,j,m⟩:=hx 0 (by simp);obtain⟨d,c2,k,n⟩:=hx 1 (by simp);obtain⟨e,c3,l,o⟩:=hx 2 (by simp);exact⟨b,a,cap,c,c1,d,c2,e,c3,f,g,⟨j,k,l⟩,m,n,o⟩
def LeafW (v:Value)(L:List Nat)(d:LeafD)(c:Array Value):Prop:=
 ∃a1 c1 a2 c2 a3 c3 a4 c4 a5 c5,c=#[.slice a1 d.box.length c1,.slice a2 d.sign.length c2,.slice a3 d.ident.length c3,rD rG (d.source:Nat),.slice a4 d.par.length c4,.slice a5 d.sig.length c5]/\
  ∀W,Rd W v (bvs L)->Rd W (.slice a1 d.box.length c1) (bvs d.box)/\Rd W (.slice a2 d.sign.length c2) (bvs d.sign)/\Rd W (.slice a3 d.ident.length c3) (bvs d.ident)/\Rd W (.slice a4 d.par.length c4) (bvs d.par)/\Rd W (.slice a5 d.sig.length c5) (bvs d.sig)
theorem Cf (w:World):Rd w (rC rI 0 0) (bvs []):=⟨none,0,rfl,lR,aA _,.inl ⟨rfl,fun _=>rfl⟩⟩
theorem LeafW.none (v:Value)(L:List Nat):LeafW v L noLeafD #[rC rI 0 0,rC rI 0 0,rC rI 0 0,rD rG 0,rC rI 0 0,rC rI 0 0]:=⟨_,_,_,_,_,_,_,_,_,_,rfl,fun W _=>⟨Cf W,Cf W,Cf W,Cf W,Cf W⟩⟩
def Zms (v:Value)(L:List Nat)(w:World)(r:Nat×LeafD×Nat)(e:Ending)(w':World):Prop:=
 ∃c nx,e=rK (.tuple #[.agg c,rD rF nx,rD rF (r.1:Nat)])/\(r.1=0->nx=(r.2.2:Int))/\LeafW v L r.2.1 c/\Below w.heap.size w w'
theorem Hx (v:Value) (L x1 x2 x3 x5 x6:List Nat) (p n1 n5 n6 e1 e5 e6 s:Nat) (r:Nat×LeafD×Nat) (w:World) (h:Rd w v (bvs L)) (hl:L.length<=1000000000)
  (C1:∀W,Below w.heap.size w W->Calls prog 187 #[v,rD rF (p:Nat),rD rF 3] W (VcP v L W [x1,x2,x3] n1 e1))
  (C5:e1=0->n1<L.length->s=3->∀W,Below w.heap.size w W->Calls prog 187 #[v,rD rF ((n1+1:Nat):Int),rD rF 1] W (VcP v L W [x5] n5 e5))
  (N5:s≠3->x5=[]/\n5=n1+1/\e5=0)
  (C6:e1=0->n1<L.length->e5=0->∀W,Below w.heap.size w W->Calls prog 187 #[v,rD rF (n5:Nat),rD rF 1] W (VcP v L W [x6] n6 e6))
  (hs:e1=0->n1<L.length->(bvs L)[n1]? =some (rD rG (s:Nat))) (bH:s<256)
  (X1:e1≠0->r=(e1,noLeafD,0)) (X2:e1=0->L.length<=n1->r=(4,noLeafD,0)) (XS:e1=0->n1<L.length->s<1\/3<s->r=(3,noLeafD,0))
  (X5:e1=0->n1<L.length->¬(s<1\/3<s)->e5≠0->r=(e5,noLeafD,0)) (X6:e1=0->n1<L.length->¬(s<1\/3<s)->e5=0->e6≠0->r=(e6,noLeafD,0))
  (XB:e1=0->n1<L.length->¬(s<1\/3<s)->e5=0->e6=0->∀b,rlB x1.length x2.length x3.length s x5.length x6.length=b->r=if b=true then(0,⟨x1,x2,x3,s,x5,x6⟩,n6)else(3,noLeafD,0)):
  Calls prog 186 #[v,rD rF (p:Nat)] w (Zms v L w r):=by
 obtain⟨av,cap,rfl,-,-⟩:=id h;rw[bvs_len]at h C1 C5 C6|-;obtain⟨ln,bE⟩:=eX L.length;rw[<-bE]at h hl C1 C5 C6 hs X2 XS X5 X6 XB|-;obtain⟨g,hg⟩:=eX w.heap.size;have O:=Hd hg;obtain⟨w0,aF⟩:=eX (w.alloc (rJ #[rC rI 0 0,rC rI 0 0,rC rI 0 0,rD rG 0,rC rI 0 0,rC rI 0 0] 44));have bO:=Hd aF;have G0:=Hd (show Blk w0 g 44 #[rC rI 0 0,rC rI 0 0,rC rI 0 0,rD rG 0,rC rI 0 0,rC rI 0 0] by rw[aF,hg];exact Blk.new _ _ _);have B0:=Hd (show Below w.heap.size w w0 by rw[aF];exact bR.alloc lR _);have aB:=Hd h;have bL:=Hd C1;have bM:=Hd C5;have aE:=Hd N5;have aU:=Hd C6;have bP:=Hd X1;have bQ:=Hd X2;have bT:=Hd XS;have bS:=Hd X5;have aY:=Hd X6;have aZ:=Hd XB;have bN:=Hd hs;have cB:=Hd bH;have aX:=Hd @Iy;obtain⟨S,hS⟩:=eX (Zms (rC av ln cap) L w r);rw[<-hS];have HS:=Hd (show∀(e:Ending) (w':World) {c:Array Value} {nx:Int} {k:Nat} {d:LeafD} {n:Nat},e=rK (.tuple #[.agg c,rD rF nx,rD rF (k:Nat)])->r=(k,d,n)->(k=0->nx=(n:Int))->LeafW (rC av ln cap) L d c->Below w.heap.size w w'->S e w' from by
  rintro e w' c nx k d n rfl rfl h1 h2 h3;rw[hS];exact⟨c,nx,rfl,h1,h2,h3⟩)
 clear h hg aF C1 C5 N5 C6 X1 X2 XS X5 X6 XB hS hs bH bE;go_in;go_wp2_with fail;rw[<-bO.out,<-O.out];refine(bL.out w0 B0.out).mono ?_;rintro e w1 ⟨u1,cG,rfl,aQ,A⟩;have B1:=Hd (B0.out.trans (A.mono B0.out.size));have G1:=Hd (G0.out.below A G0.out.lt);clear A
 by_cases h1:e1=0
 ·have B:=Hd h1;have a0:((e1:Int) !=0)=false:=(by rw[bne_eq_false_iff_eq];omega);obtain⟨rfl,u⟩:=aQ h1;obtain⟨ub,uo,uc,F,c1,G,c2,H,c3,E,rfl,⟨k1,k2,k3⟩,q1,q2,q3⟩:=u.three (aB.out.below B1.out lR);have X1:=Hd q1;have X2:=Hd q2;have X3:=Hd q3;clear u q1 q2 q3 h1 aQ
  by_cases h2:n1<ln
  ·have V:=Hd h2;have a8:decide ((n1:Int)>=(ln:Int))=false:=dF (by omega);have a9:decide ((ln:Int)<=(n1:Int))=false:=dF (by omega);have bA:decide (ln<=n1)=false:=dF (by omega);obtain⟨vb,vo,rfl,bI,a4⟩:=(aB.out.below B1.out lR).get (bN.out B.out h2);clear h2;go_wp2_with fail;clear a0;refine Bd [eF (rC (some ⟨ub,uo,rI⟩) 3 uc),eF (rE (some ⟨ub,uo,rI⟩)),eF (.slice F x1.length c1),eF (rC (some ⟨ub,uo,rI⟩) 3 uc),eF (rE (some ⟨ub,uo+1,rI⟩)),eF (.slice G x2.length c2),eF (rC (some ⟨ub,uo,rI⟩) 3 uc),eF (rE (some ⟨ub,uo+2,rI⟩)),eF (.slice H x3.length c3),eF (rC (some ⟨vb,vo,rI⟩) ln cap),eF (rD rF (n1:Nat)),eF (rE (some ⟨vb,vo+n1,rI⟩)),eF (rD rG (s:Nat)),eF (.agg #[.slice F x1.length c1,.slice G x2.length c2,.slice H x3.length c3,rD rG (s:Nat),rC rI 0 0,rC rI 0 0]),fun v w'=>∃g cs,v=rE (some ⟨g,0,rI⟩)/\w1.heap.size<=g/\Blk w' g 44 cs/\cs.size=6,fun v w'=>∃g,v=rE (some ⟨g,0,rI⟩)/\w1.heap.size<=g/\Blk w' g 44 #[.slice F x1.length c1,.slice G x2.length c2,.slice H x3.length c3,rD rG (s:Nat),rC rI 0 0,rC rI 0 0]]
    (List.replicate 16 true) (fun X=>Below w1.heap.size w1 X) (fun X Y=>(∀g t cs,Blk X g t cs->∃Z,Blk Y g t Z/\Z.size=cs.size)/\Below w1.heap.size X Y) (some 15) (by kernel_rfl) ?_ (⟨rfl,rfl,rfl,lR,fun _ _=>rfl⟩) (fun X Y hx h=>⟨fun g t cs k=>⟨cs,k.below h k.lt,rfl⟩,h.mono hx.size⟩) (fun X Y hx hs=>hx.trans hs.2) (by kernel_rfl) (by kernel_rfl) ?_ ?_
   ·exact kE (kE (kE (kE (kE (kE (kE (kE (kE (kE (kE (kE (kE (kE (Cw (fun v x y h hi hs=>let⟨g,cs,e,hg,k,hc⟩:=h;let⟨Z,k2,e2⟩:=hs.1 g _ cs k;⟨g,Z,e,hg,k2,e2.trans hc⟩) (Cp (fun v x y h hi hs=>let⟨g,e,hg,k⟩:=h;⟨g,e,hg,k.below hs k.lt⟩) (Ag))))))))))))))))
   ·refine gPw (by kernel_rfl) ?_ rfl (gPw (by kernel_rfl) ?_ rfl (gPw (by kernel_rfl) ?_ rfl (gPw (by kernel_rfl) ?_ rfl (gPw (by kernel_rfl) ?_ rfl (gPw (by kernel_rfl) ?_ rfl (gPw (by kernel_rfl) ?_ rfl (gPw (by kernel_rfl) ?_ rfl (gPw (by kernel_rfl) ?_ rfl (gPw (by kernel_rfl) ?_ rfl (gPw (by kernel_rfl) ?_ rfl (gPw (by kernel_rfl) ?_ rfl (gPw (by kernel_rfl) ?_ rfl (gPw (by kernel_rfl) ?_ rfl (gOw (by kernel_rfl) ?_ (gOw (by kernel_rfl) ?_ .nil)))))))))))))));all_goals
     intro a wx Q cF ho hf;have Q:Below w1.heap.size w1 wx:=Q;refine⟨rfl,?_⟩;intro K hK;try have cC:a.tmps[0]?.getD undef=rC (some ⟨vb,vo,rI⟩) ln cap:=ho 0 (by kernel_rfl)
     try have cD:a.tmps[7]?.getD undef=rC (some ⟨ub,uo,rI⟩) 3 uc:=ho 7 (by kernel_rfl)
     try have cE:a.tmps[8]?.getD undef=rD rF (n1:Nat):=ho 8 (by kernel_rfl)
     try have b8:=eqn hf.1
     try have bK:=eqn hf.2.1
     try have b9:=eqn hf.2.2.1
     try have cA:=eqn hf.2.2.2.1
     try have b3:=(Q.cell (p:=⟨ub,uo,rI⟩) E).trans k1
     try have b4:=(Q.cell (p:=⟨ub,uo+1,rI⟩) E).trans k2
     try have b5:=(Q.cell (p:=⟨ub,uo+2,rI⟩) E).trans k3
     try have b6:n1<ln:=V.out
     try have b7:=(Q.cell (p:=⟨vb,vo+n1,rI⟩) bI).trans a4
     try(refine Hd ?_;go_simp;exact hK _ rfl)
    ·
     go_simp;exact hK _ _ ⟨_,_,rfl,Q.size,Blk.new _ _ _,rfl⟩ (Ai rfl (bR.alloc lR _))
    ·have o0:∃g cs,(a.tmps[10]?.getD undef)=rE (some ⟨g,0,rI⟩)/\w1.heap.size<=g/\Blk wx g 44 cs/\cs.size=6:=hf.1;obtain⟨v0,aS⟩:=eX (a.tmps[10]?.getD undef);rw[<-aS]at o0;have e0:=aS.symm;clear aS;obtain⟨g,cs,hv,hg,j,a7⟩:=o0;refine wp_store_row 44 (.tmp 10) (.tmp 42) rfl g #[.slice F x1.length c1,.slice G x2.length c2,.slice H x3.length c3,rD rG (s:Nat),rC rI 0 0,rC rI 0 0] (evs (e0.trans hv)) (evs bK) _ cs j (by kernel_rfl) (by rw[a7];rfl) (by rw[<-Array.all_toList];rfl) ?_;refine hK undef _ ⟨g,by first|exact e0.trans hv|exact hv,hg,setRow_heap wx g cs _ _ _ j⟩ (Bu rfl ⟨fun g2 t Z k2=> ?_,⟨rfl,rfl,rfl,by simp,fun i hi=>setRow_other wx g i _ (by omega)⟩⟩)
     by_cases e:g2=g
     ·subst e;have bC:=j.symm.trans k2;simp only[Option.some.injEq,Obj.cells.injEq]at bC;obtain⟨rfl,rfl,-⟩:=bC;exact⟨_,setRow_heap wx g2 cs _ _ _ j,a7.symm⟩
     ·exact⟨Z,(setRow_other wx g g2 _ e).trans k2,rfl⟩
   ·rintro f w9 aD aI;have aD:Below w1.heap.size w1 w9:=aD;have bU:∃g,(f 10)=rE (some ⟨g,0,rI⟩)/\w1.heap.size<=g/\Blk w9 g 44 #[.slice F x1.length c1,.slice G x2.length c2,.slice H x3.length c3,rD rG (s:Nat),rC rI 0 0,rC rI 0 0]:=aI.2.2.2.2.2.2.2.2.2.2.2.2.2.2.2.1;clear aI;simp only[Ao,Av,Ej,List.filterMap_cons,List.filterMap_nil,List.contains_cons,List.contains_nil,Nat.reduceBEq,Nat.reduceAdd,Bool.or_false,Bool.or_true,cond_true,cond_false];obtain⟨q,bG,aO,j⟩:=bU;rw[bG];have U:=Hd (show g<q/\w1.heap.size<=q from⟨Nat.lt_of_lt_of_le G1.out.lt aO,aO⟩);have B2:=Hd (B1.out.trans (aD.mono B1.out.size));have G2:=Hd (G1.out.below aD G1.out.lt);have Q2:=Hd j;clear j bG aO aD k1 k2 k3 a4 a8 a9 bA E bI;generalize w9=w2 at*;have y3:=Q2.out.cell 3;simp only[cR,cS,aP]at y3
    by_cases hs1:s<1\/3<s
    ·have aH:=Hd (bT.out B.out V.out hs1)
     by_cases hs0:s=0
     ·have bD:((s:Int)==0)=true:=(by rw[beq_iff_eq];omega);clear hs0 hs1;go_wp2_with (refine Aa rfl 44 (.tmp 4) (.tmp 51) rfl g #[rC rI 0 0,rC rI 0 0,rC rI 0 0,rD rG 0,rC rI 0 0,rC rI 0 0] rfl rfl 44 #[rC rI 0 0,rC rI 0 0,rC rI 0 0,rD rG 0,rC rI 0 0,rC rI 0 0] G2.out (by kernel_rfl) rfl rfl ?_);rintro w9 j m o l;have M:=Hd j;have I:=Hd (B2.out.trans (m w.heap.size (by rw[O.out];exact lR)));clear j m o l;go_wp2_with fail;refine bodyPost_ret (v:=.tuple #[.agg #[rC rI 0 0,rC rI 0 0,rC rI 0 0,rD rG 0,rC rI 0 0,rC rI 0 0],rD rF (p:Nat),rD rF 3]) (Ap results186 _ _ g _ _ _ rfl M.out underlying44 rfl (by kernel_rfl)) rfl ?_;exact HS.out _ _ rfl aH.out (fun h=>absurd h (by decide)) (LeafW.none _ _) I.out
     ·have bD:((s:Int)==0)=false:=(by rw[qN];omega);have bW:decide ((s:Int)>3)=true:=dT (by omega);clear hs0 hs1;go_wp2_with (refine Aa rfl 44 (.tmp 4) (.tmp 51) rfl g #[rC rI 0 0,rC rI 0 0,rC rI 0 0,rD rG 0,rC rI 0 0,rC rI 0 0] rfl rfl 44 #[rC rI 0 0,rC rI 0 0,rC rI 0 0,rD rG 0,rC rI 0 0,rC rI 0 0] G2.out (by kernel_rfl) rfl rfl ?_);rintro w9 j m o l;have M:=Hd j;have I:=Hd (B2.out.trans (m w.heap.size (by rw[O.out];exact lR)));clear j m o l;go_wp2_with fail;refine bodyPost_ret (v:=.tuple #[.agg #[rC rI 0 0,rC rI 0 0,rC rI 0 0,rD rG 0,rC rI 0 0,rC rI 0 0],rD rF (p:Nat),rD rF 3]) (Ap results186 _ _ g _ _ _ rfl M.out underlying44 rfl (by kernel_rfl)) rfl ?_;exact HS.out _ _ rfl aH.out (fun h=>absurd h (by decide)) (LeafW.none _ _) I.out
    ·have bD:((s:Int)==0)=false:=(by rw[qN];omega);have bW:decide ((s:Int)>3)=false:=dF (by omega);have aC:=Hd hs1;have aW:=Hd (show wrap64 ((n1:Int)+1)=((n1+1:Nat):Int) by have:=V.out;unfold wrap64;omega)
     by_cases hs3:s=3
     ·have bX:((s:Int)==3)=true:=(by rw[beq_iff_eq];omega);have aT:=Hd (bM.out B.out V.out hs3);clear hs1 hs3;go_wp2_with fail;rw[aW.out];refine(aT.out w2 B2.out).mono ?_;rintro e w3 ⟨u5,cH,rfl,aR,A⟩;have B3:=Hd (B2.out.trans (A.mono B2.out.size));have G3:=Hd (G2.out.below A G2.out.lt);have Q3:=Hd (Q2.out.below A Q2.out.lt);clear A
      by_cases h5:e5=0
      ·have N:=Hd h5;have bV:((e5:Int) !=0)=false:=(by rw[bne_eq_false_iff_eq];omega);obtain⟨rfl,u⟩:=aR h5;obtain⟨cI,cK,cJ,a5,c5,E,rfl,k1,q1⟩:=u.one (aB.out.below B3.out lR);have X5:=Hd q1;have y:=Q3.out.cell 4;have z:=Q3.out.frozen 4;simp only[cR,cS,aP]at y;clear u q1 h5 aR E;have Q4:=Hd (show Blk (w3.setCell ⟨q,4,rI⟩ (.slice a5 x5.length c5)) q 44 #[.slice F x1.length c1,.slice G x2.length c2,.slice H x3.length c3,rD rG (s:Nat),.slice a5 x5.length c5,rC rI 0 0]from by simpa using Q3.out.set 4 (.slice a5 x5.length c5));have G4:=Hd (G3.out.far (p:=⟨q,4,rI⟩) (by have:=U.out;simp only;omega) (.slice a5 x5.length c5));have B4:=Hd (B3.out.setCell (p:=⟨q,4,rI⟩) (by have:=U.out;have:=O.out;simp only;omega) (.slice a5 x5.length c5));generalize hwk:w3.setCell ⟨q,4,rI⟩ (.slice a5 x5.length c5)=w4 at Q4 G4 B4;have T:=Hd hwk;clear hwk;go_wp2_with fail;rw[T.out];clear y z k1;refine(aU.out B.out V.out N.out w4 B4.out).mono ?_;rintro e w5 ⟨u6,bY,rfl,R,A⟩;have B5:=Hd (B4.out.trans (A.mono B4.out.size));have G5:=Hd (G4.out.below A G4.out.lt);have Q5:=Hd (Q4.out.below A Q4.out.lt);clear A
       by_cases h6:e6=0
       ·have aK:=Hd h6;have aN:((e6:Int) !=0)=false:=(by rw[bne_eq_false_iff_eq];omega);obtain⟨rfl,u⟩:=R h6;obtain⟨bZ,b1,b0,C,D,E,rfl,k1,q1⟩:=u.one (aB.out.below B5.out lR);have X6:=Hd q1;have y:=Q5.out.cell 5;have z:=Q5.out.frozen 5;simp only[cR,cS,aP]at y;clear u q1 h6 R E;have Q6:=Hd (show Blk (w5.setCell ⟨q,5,rI⟩ (.slice C x6.length D)) q 44 #[.slice F x1.length c1,.slice G x2.length c2,.slice H x3.length c3,rD rG (s:Nat),.slice a5 x5.length c5,.slice C x6.length D]from by simpa using Q5.out.set 5 (.slice C x6.length D));have G6:=Hd (G5.out.far (p:=⟨q,5,rI⟩) (by have:=U.out;simp only;omega) (.slice C x6.length D));have B6:=Hd (B5.out.setCell (p:=⟨q,5,rI⟩) (by have:=U.out;have:=O.out;simp only;omega) (.slice C x6.length D));generalize hwk:w5.setCell ⟨q,5,rI⟩ (.slice C x6.length D)=w6 at Q6 G6 B6;have aG:=Hd hwk;clear hwk;go_wp2_with (refine Af rfl 44 (.tmp 10) rfl q rfl 44 #[.slice F x1.length c1,.slice G x2.length c2,.slice H x3.length c3,rD rG (s:Nat),.slice a5 x5.length c5,.slice C x6.length D] (0,0) _ (by rw[aG.out];exact Q6.out) underlying44 rfl (by kernel_rfl) ?_);rw[aG.out];clear y z k1;refine(aX.out F G H a5 C x1.length x2.length x3.length x5.length x6.length c1 c2 c3 c5 D s _).mono ?_;rintro e w7 ⟨rfl,A⟩;have B7:=Hd (B6.out.trans (A.mono B6.out.size));have G7:=Hd (G6.out.below A G6.out.lt);have Q7:=Hd (Q6.out.below A Q6.out.lt);clear A;obtain⟨RB,P⟩:=eX (rlB x1.length x2.length x3.length s x5.length x6.length);rw[<-P];have J:=Hd (aZ.out B.out V.out aC.out N.out aK.out RB (by rw[P]));clear P;cases RB with
        |false=>
         go_wp2_with (refine Aa rfl 44 (.tmp 4) (.tmp 93) rfl g #[rC rI 0 0,rC rI 0 0,rC rI 0 0,rD rG 0,rC rI 0 0,rC rI 0 0] rfl rfl 44 #[rC rI 0 0,rC rI 0 0,rC rI 0 0,rD rG 0,rC rI 0 0,rC rI 0 0] G7.out (by kernel_rfl) rfl rfl ?_);rintro w9 j m o l;have M:=Hd j;have I:=Hd (B7.out.trans (m w.heap.size (by rw[O.out];exact lR)));clear j m o l;go_wp2_with fail;refine bodyPost_ret (v:=.tuple #[.agg #[rC rI 0 0,rC rI 0 0,rC rI 0 0,rD rG 0,rC rI 0 0,rC rI 0 0],rD rF (p:Nat),rD rF 3]) (Ap results186 _ _ g _ _ _ rfl M.out underlying44 rfl (by kernel_rfl)) rfl ?_;exact HS.out _ _ rfl J.out (fun h=>absurd h (by decide)) (LeafW.none _ _) I.out
        |true=>
         go_wp2_with (first|(refine Af rfl 44 (.tmp 10) rfl q rfl 44 #[.slice F x1.length c1,.slice G x2.length c2,.slice H x3.length c3,rD rG (s:Nat),.slice a5 x5.length c5,.slice C x6.length D] (0,0) _ Q7.out underlying44 rfl (by kernel_rfl) ?_)|(refine Aa rfl 44 (.tmp 4) (.tmp 95) rfl g #[.slice F x1.length c1,.slice G x2.length c2,.slice H x3.length c3,rD rG (s:Nat),.slice a5 x5.length c5,.slice C x6.length D] rfl rfl 44 #[rC rI 0 0,rC rI 0 0,rC rI 0 0,rD rG 0,rC rI 0 0,rC rI 0 0] G7.out (by kernel_rfl) rfl rfl ?_));rintro b2 j m o l;have aM:=Hd j;have aJ:=Hd (B7.out.trans (m w.heap.size (by rw[O.out];exact lR)));clear j m o l;go_wp2_with fail;refine bodyPost_ret (v:=.tuple #[.agg #[.slice F x1.length c1,.slice G x2.length c2,.slice H x3.length c3,rD rG (s:Nat),.slice a5 x5.length c5,.slice C x6.length D],rD rF (n6:Nat),rD rF 0]) (Ap results186 _ _ g _ _ _ rfl aM.out underlying44 rfl (by kernel_rfl)) rfl ?_;refine HS.out _ _ rfl J.out (fun _=>rfl) ?_ aJ.out;exact⟨_,_,_,_,_,_,_,_,_,_,rfl,fun W hW=>⟨X1.out W hW,X2.out W hW,X3.out W hW,X5.out W hW,X6.out W hW⟩⟩
       ·have aA:=Hd h6;have aN:((e6:Int) !=0)=true:=(by rw[bne_iff_ne];omega);clear h6 R;go_wp2_with (refine Aa rfl 44 (.tmp 4) (.tmp 83) rfl g #[rC rI 0 0,rC rI 0 0,rC rI 0 0,rD rG 0,rC rI 0 0,rC rI 0 0] rfl rfl 44 #[rC rI 0 0,rC rI 0 0,rC rI 0 0,rD rG 0,rC rI 0 0,rC rI 0 0] G5.out (by kernel_rfl) rfl rfl ?_);rintro w9 j m o l;have M:=Hd j;have I:=Hd (B5.out.trans (m w.heap.size (by rw[O.out];exact lR)));clear j m o l;go_wp2_with fail;refine bodyPost_ret (v:=.tuple #[.agg #[rC rI 0 0,rC rI 0 0,rC rI 0 0,rD rG 0,rC rI 0 0,rC rI 0 0],rD rF (p:Nat),rD rF (e6:Nat)]) (Ap results186 _ _ g _ _ _ rfl M.out underlying44 rfl (by kernel_rfl)) rfl ?_;exact HS.out _ _ rfl (aY.out B.out V.out aC.out N.out aA.out) (fun h=>absurd h aA.out) (LeafW.none _ _) I.out
      ·have aE:=Hd h5;have bV:((e5:Int) !=0)=true:=(by rw[bne_iff_ne];omega);clear h5 aR;go_wp2_with (refine Aa rfl 44 (.tmp 4) (.tmp 67) rfl g #[rC rI 0 0,rC rI 0 0,rC rI 0 0,rD rG 0,rC rI 0 0,rC rI 0 0] rfl rfl 44 #[rC rI 0 0,rC rI 0 0,rC rI 0 0,rD rG 0,rC rI 0 0,rC rI 0 0] G3.out (by kernel_rfl) rfl rfl ?_);rintro w9 j m o l;have M:=Hd j;have I:=Hd (B3.out.trans (m w.heap.size (by rw[O.out];exact lR)));clear j m o l;go_wp2_with fail;refine bodyPost_ret (v:=.tuple #[.agg #[rC rI 0 0,rC rI 0 0,rC rI 0 0,rD rG 0,rC rI 0 0,rC rI 0 0],rD rF (p:Nat),rD rF (e5:Nat)]) (Ap results186 _ _ g _ _ _ rfl M.out underlying44 rfl (by kernel_rfl)) rfl ?_;exact HS.out _ _ rfl (bS.out B.out V.out aC.out aE.out) (fun h=>absurd h aE.out) (LeafW.none _ _) I.out
     ·have bX:((s:Int)==3)=false:=(by rw[qN];omega);obtain⟨bJ,bF,bB⟩:=aE.out hs3;have N:=Hd bB;have aL:=Hd bJ;clear hs1 hs3 bJ bB;go_wp2_with fail;rw[aW.out,<-bF];clear bF;refine(aU.out B.out V.out N.out w2 B2.out).mono ?_;rintro e w3 ⟨u6,bY,rfl,R,A⟩;have B3:=Hd (B2.out.trans (A.mono B2.out.size));have G3:=Hd (G2.out.below A G2.out.lt);have Q3:=Hd (Q2.out.below A Q2.out.lt);clear A
      by_cases h6:e6=0
      ·have aK:=Hd h6;have aN:((e6:Int) !=0)=false:=(by rw[bne_eq_false_iff_eq];omega);obtain⟨rfl,u⟩:=R h6;obtain⟨bZ,b1,b0,C,D,E,rfl,k1,q1⟩:=u.one (aB.out.below B3.out lR);have X6:=Hd q1;have y:=Q3.out.cell 5;have z:=Q3.out.frozen 5;simp only[cR,cS,aP]at y;clear u q1 h6 R E;have Q4:=Hd (show Blk (w3.setCell ⟨q,5,rI⟩ (.slice C x6.length D)) q 44 #[.slice F x1.length c1,.slice G x2.length c2,.slice H x3.length c3,rD rG (s:Nat),rC rI 0 0,.slice C x6.length D]from by simpa using Q3.out.set 5 (.slice C x6.length D));have G4:=Hd (G3.out.far (p:=⟨q,5,rI⟩) (by have:=U.out;simp only;omega) (.slice C x6.length D));have B4:=Hd (B3.out.setCell (p:=⟨q,5,rI⟩) (by have:=U.out;have:=O.out;simp only;omega) (.slice C x6.length D));generalize hwk:w3.setCell ⟨q,5,rI⟩ (.slice C x6.length D)=w4 at Q4 G4 B4;have T:=Hd hwk;clear hwk;go_wp2_with (refine Af rfl 44 (.tmp 10) rfl q rfl 44 #[.slice F x1.length c1,.slice G x2.length c2,.slice H x3.length c3,rD rG (s:Nat),rC rI 0 0,.slice C x6.length D] (0,0) _ (by rw[T.out];exact Q4.out) underlying44 rfl (by kernel_rfl) ?_);rw[T.out];clear y z k1;refine(aX.out F G H none C x1.length x2.length x3.length 0 x6.length c1 c2 c3 0 D s _).mono ?_;rintro e w5 ⟨rfl,A⟩;have B5:=Hd (B4.out.trans (A.mono B4.out.size));have G5:=Hd (G4.out.below A G4.out.lt);have Q5:=Hd (Q4.out.below A Q4.out.lt);clear A;obtain⟨RB,P⟩:=eX (rlB x1.length x2.length x3.length s 0 x6.length);rw[<-P];have J:=Hd (aZ.out B.out V.out aC.out N.out aK.out RB (by rw[P];rw[aL.out];rfl));clear P;cases RB with
       |false=>
        go_wp2_with (refine Aa rfl 44 (.tmp 4) (.tmp 93) rfl g #[rC rI 0 0,rC rI 0 0,rC rI 0 0,rD rG 0,rC rI 0 0,rC rI 0 0] rfl rfl 44 #[rC rI 0 0,rC rI 0 0,rC rI 0 0,rD rG 0,rC rI 0 0,rC rI 0 0] G5.out (by kernel_rfl) rfl rfl ?_);rintro w9 j m o l;have M:=Hd j;have I:=Hd (B5.out.trans (m w.heap.size (by rw[O.out];exact lR)));clear j m o l;go_wp2_with fail;refine bodyPost_ret (v:=.tuple #[.agg #[rC rI 0 0,rC rI 0 0,rC rI 0 0,rD rG 0,rC rI 0 0,rC rI 0 0],rD rF (p:Nat),rD rF 3]) (Ap results186 _ _ g _ _ _ rfl M.out underlying44 rfl (by kernel_rfl)) rfl ?_;exact HS.out _ _ rfl J.out (fun h=>absurd h (by decide)) (LeafW.none _ _) I.out
       |true=>
        go_wp2_with (first|(refine Af rfl 44 (.tmp 10) rfl q rfl 44 #[.slice F x1.length c1,.slice G x2.length c2,.slice H x3.length c3,rD rG (s:Nat),rC rI 0 0,.slice C x6.length D] (0,0) _ Q5.out underlying44 rfl (by kernel_rfl) ?_)|(refine Aa rfl 44 (.tmp 4) (.tmp 95) rfl g #[.slice F x1.length c1,.slice G x2.length c2,.slice H x3.length c3,rD rG (s:Nat),rC rI 0 0,.slice C x6.length D] rfl rfl 44 #[rC rI 0 0,rC rI 0 0,rC rI 0 0,rD rG 0,rC rI 0 0,rC rI 0 0] G5.out (by kernel_rfl) rfl rfl ?_));rintro b2 j m o l;have aM:=Hd j;have aJ:=Hd (B5.out.trans (m w.heap.size (by rw[O.out];exact lR)));clear j m o l;go_wp2_with fail;refine bodyPost_ret (v:=.tuple #[.agg #[.slice F x1.length c1,.slice G x2.length c2,.slice H x3.length c3,rD rG (s:Nat),rC rI 0 0,.slice C x6.length D],rD rF (n6:Nat),rD rF 0]) (Ap results186 _ _ g _ _ _ rfl aM.out underlying44 rfl (by kernel_rfl)) rfl ?_;refine HS.out _ _ rfl J.out (fun _=>rfl) ?_ aJ.out;exact⟨_,_,_,_,_,_,_,_,_,_,by rw[aL.out];rfl,fun W hW=>⟨X1.out W hW,X2.out W hW,X3.out W hW,by rw[aL.out];exact Cf W,X6.out W hW⟩⟩
      ·have aA:=Hd h6;have aN:((e6:Int) !=0)=true:=(by rw[bne_iff_ne];omega);clear h6 R;go_wp2_with (refine Aa rfl 44 (.tmp 4) (.tmp 83) rfl g #[rC rI 0 0,rC rI 0 0,rC rI 0 0,rD rG 0,rC rI 0 0,rC rI 0 0] rfl rfl 44 #[rC rI 0 0,rC rI 0 0,rC rI 0 0,rD rG 0,rC rI 0 0,rC rI 0 0] G3.out (by kernel_rfl) rfl rfl ?_);rintro w9 j m o l;have M:=Hd j;have I:=Hd (B3.out.trans (m w.heap.size (by rw[O.out];exact lR)));clear j m o l;go_wp2_with fail;refine bodyPost_ret (v:=.tuple #[.agg #[rC rI 0 0,rC rI 0 0,rC rI 0 0,rD rG 0,rC rI 0 0,rC rI 0 0],rD rF (p:Nat),rD rF (e6:Nat)]) (Ap results186 _ _ g _ _ _ rfl M.out underlying44 rfl (by kernel_rfl)) rfl ?_;exact HS.out _ _ rfl (aY.out B.out V.out aC.out N.out aA.out) (fun h=>absurd h aA.out) (LeafW.none _ _) I.out
  ·have V:=Hd h2;have a8:decide ((n1:Int)>=(ln:Int))=true:=dT (by omega);have a9:decide ((ln:Int)<=(n1:Int))=true:=dT (by omega);have bA:decide (ln<=n1)=true:=dT (by omega);clear h2 k1 k2 k3;go_wp2_with (refine Aa rfl 44 (.tmp 4) (.tmp 27) rfl g #[rC rI 0 0,rC rI 0 0,rC rI 0 0,rD rG 0,rC rI 0 0,rC rI 0 0] rfl rfl 44 #[rC rI 0 0,rC rI 0 0,rC rI 0 0,rD rG 0,rC rI 0 0,rC rI 0 0] G1.out (by kernel_rfl) rfl rfl ?_);rintro w9 j m o l;have M:=Hd j;have I:=Hd (B1.out.trans (m w.heap.size (by rw[O.out];exact lR)));clear j m o l;go_wp2_with fail;refine bodyPost_ret (v:=.tuple #[.agg #[rC rI 0 0,rC rI 0 0,rC rI 0 0,rD rG 0,rC rI 0 0,rC rI 0 0],rD rF (p:Nat),rD rF 4]) (Ap results186 _ _ g _ _ _ rfl M.out underlying44 rfl (by kernel_rfl)) rfl ?_;exact HS.out _ _ rfl (bQ.out B.out (by have:=V.out;omega)) (fun h=>absurd h (by decide)) (LeafW.none _ _) I.out
 ·have aV:=Hd h1;have a0:((e1:Int) !=0)=true:=(by rw[bne_iff_ne];omega);clear h1 aQ;go_wp2_with (refine Aa rfl 44 (.tmp 4) (.tmp 20) rfl g #[rC rI 0 0,rC rI 0 0,rC rI 0 0,rD rG 0,rC rI 0 0,rC rI 0 0] rfl rfl 44 #[rC rI 0 0,rC rI 0 0,rC rI 0 0,rD rG 0,rC rI 0 0,rC rI 0 0] G1.out (by kernel_rfl) rfl rfl ?_);rintro w9 j m o l;have M:=Hd j;have I:=Hd (B1.out.trans (m w.heap.size (by rw[O.out];exact lR)));clear j m o l;go_wp2_with fail;refine bodyPost_ret (v:=.tuple #[.agg #[rC rI 0 0,rC rI 0 0,rC rI 0 0,rD rG 0,rC rI 0 0,rC rI 0 0],rD rF (p:Nat),rD rF (e1:Nat)]) (Ap results186 _ _ g _ _ _ rfl M.out underlying44 rfl (by kernel_rfl)) rfl ?_;exact HS.out _ _ rfl (bP.out aV.out) (fun h=>absurd h aV.out) (LeafW.none _ _) I.out
theorem Gf (M:List Nat):Bh 1 M=if(Bg M 0).2.2≠0 then([],[],(Bg M 0).2.2)else([(Bg M 0).1],(Bg M 0).2.1,0):=rfl
theorem Zfg (M:List Nat):Bh 2 M=if(Bh 1 M).2.2≠0 then Bh 1 M else if(Bg (Bh 1 M).2.1 0).2.2≠0 then([],[],(Bg (Bh 1 M).2.1 0).2.2)else((Bh 1 M).1++[(Bg (Bh 1 M).2.1 0).1],(Bg (Bh 1 M).2.1 0).2.1,0):=rfl
theorem Zfh (M:List Nat):Bh 3 M=if(Bh 2 M).2.2≠0 then Bh 2 M else if(Bg (Bh 2 M).2.1 0).2.2≠0 then([],[],(Bg (Bh 2 M).2.1 0).2.2)else((Bh 2 M).1++[(Bg (Bh 2 M).2.1 0).1],(Bg (Bh 2 M).2.1 0).2.1,0):=rfl
theorem Oy (M:List Nat)(d e c:List Nat×List Nat×Nat)(h1:Bg M 0=d)(h2:Bg d.2.1 d.2.2=e)(h3:Bg e.2.1 e.2.2=c):
  (Bh 3 M).2.2=c.2.2/\(c.2.2=0->Bh 3 M=([d.1,e.1,c.1],c.2.1,0)):=by
 have f:=Gf M;have b:=Zfg M;have a:=Zfh M;rw[h1]at f
 by_cases c1:d.2.2=0
 ·rw[iN (by omega)]at f;rw[f]at b;simp only at b;rw[iN (by omega)]at b;rw[c1]at h2;rw[h2]at b
  by_cases c2:e.2.2=0
  ·rw[iN (by omega)]at b;rw[b]at a;simp only at a;rw[iN (by omega)]at a;rw[c2]at h3;rw[h3]at a
   by_cases c3:c.2.2=0
   ·rw[iN (by omega)]at a;rw[a];exact⟨c3.symm,fun _=>rfl⟩
   ·rw[iP c3]at a;rw[a];exact⟨rfl,fun h=>absurd h c3⟩
  ·rw[iP c2]at b;rw[b]at a;simp only at a;rw[iP c2]at a;rw[Sp _ c2]at h3;rw[a,<-h3];exact⟨rfl,fun h=>absurd h c2⟩
 ·rw[iP c1]at f;rw[f]at b;simp only at b;rw[iP c1]at b;rw[b]at a;simp only at a;rw[iP c1]at a;rw[Sp _ c1]at h2;subst h2;simp only at h3;rw[Sp _ c1]at h3;rw[a,<-h3];exact⟨rfl,fun h=>absurd h c1⟩
def Zld (L:List Nat)(p:Nat):Nat×LeafD×Nat:=((Br (L.drop p) 0).1,(Br (L.drop p) 0).2.1,if(Br (L.drop p) 0).1=0 then L.length-(Br (L.drop p) 0).2.2.1.length else 0)
theorem Jq {L:List Nat} {p er re:Nat} {d:LeafD} {R:List Nat}(h:Br (L.drop p) 0=(er,d,R,re)):Zld L p=(er,d,if er=0 then L.length-R.length else 0):=by unfold Zld;rw[h]
theorem Zt {v:Value} {L:List Nat} {p k:Nat} {w:World} {xs:List (List Nat)} {R:List Nat} {er n:Nat}(h:Rd w v (bvs L))(d:∀n∈L,n<256)(g:L.length<=1000000000)(j:p<=L.length)(hk:k<=3)(h1:(Bh k (L.drop p)).2.2=er)(h2:er=0->Bh k (L.drop p)=(xs,R,0))(i:n=L.length-R.length):
  ∀W,Below w.heap.size w W->Calls prog 187 #[v,rD rF (p:Nat),rD rF (k:Nat)] W (VcP v L W xs n er):=by
 intro W f;refine(Zff v L p k W (h.below f lR) d g j hk).mono ?_;rintro e w' ⟨u,l,rfl,h3,c⟩;refine⟨u,l,by rw[h1],fun h0=> ?_,c⟩;obtain⟨a,b⟩:=h3 (h1.trans h0);rw[h2 h0]at a b;exact⟨by rw[i];exact a,b⟩
theorem Xj (v:Value)(L:List Nat)(p:Nat)(w:World)(h:Rd w v (bvs L))(G:∀n∈L,n<256)(B:L.length<=1000000000)(K:p<=L.length):
  Calls prog 186 #[v,rD rF (p:Nat)] w (Zms v L w (Zld L p)):=by
 obtain⟨t,h1⟩:∃r,Bg (L.drop p) 0=r:=⟨_,rfl⟩;obtain⟨u,h2⟩:∃r,Bg t.2.1 t.2.2=r:=⟨_,rfl⟩;obtain⟨f,h3⟩:∃r,Bg u.2.1 u.2.2=r:=⟨_,rfl⟩;obtain⟨N,O⟩:=Oy _ t u f h1 h2 h3;have x:=Zt h G B K (Nat.le_refl 3) N O rfl;have E:=Ox L p K 3;rw[N]at E;have a:Br (L.drop p) 0=(let r4:=Eg f.2.1 f.2.2 1
  let s:=Du r4.1
  if r4.2.2≠0 then(r4.2.2,noLeafD,r4.2)else
  if s<1\/3<s then(3,noLeafD,r4.2)else
  let g:=if s=3 then Bg r4.2.1 r4.2.2 else([],r4.2)
  let i:=Bg g.2.1 g.2.2
  if i.2.2≠0 then(i.2.2,noLeafD,i.2)else
  if Lh ⟨t.1,u.1,f.1,s,g.1,i.1⟩=true then(0,⟨t.1,u.1,f.1,s,g.1,i.1⟩,i.2)else(3,noLeafD,i.2)):=by
  subst h1;subst h2;subst h3;rfl
 by_cases c3:f.2.2=0
 ·have Q:=O c3;obtain⟨z,H,-⟩:=E c3;rw[Q]at z H;simp only at z H;rw[c3]at a x;rcases hM:f.2.1 with _|⟨b,M⟩
  ·rw[hM]at a x z;rw[show Eg [] 0 1=([],[],4)from De []]at a;simp only at a;rw[iP (by decide)]at a;refine Hx v L t.1 u.1 f.1 [] [] p (L.length-([]:List Nat).length) (L.length-([]:List Nat).length+1) 0 0 0 0 0 (Zld L p) w h B x ?_ ?_ ?_ ?_ (by decide) ?_ ?_ ?_ ?_ ?_ ?_
   ·intro _ hx;exact absurd hx (by simp)
   ·intro _;exact⟨rfl,rfl,rfl⟩
   ·intro _ hx;exact absurd hx (by simp)
   ·intro _ hx;exact absurd hx (by simp)
   ·intro hx;exact absurd rfl hx
   ·intro _ _;exact Jq a
   ·intro _ hx;exact absurd hx (by simp)
   ·intro _ hx;exact absurd hx (by simp)
   ·intro _ hx;exact absurd hx (by simp)
   ·intro _ hx;exact absurd hx (by simp)
  ·rw[hM]at a x z H;rw[show Eg (b::M) 0 1=([b],M,0)from De (b::M)]at a;simp only[Ze4]at a;rw[iN (by decide)]at a;obtain⟨n1,D⟩:=eX (L.length-(b::M).length);rw[<-D]at z x;have o:n1<L.length:=(by rw[D];simp only[dB]at H|-;omega);have m:L.drop (n1+1)=M:=by
    rw[<-iG,<-z];rfl
   have C:L[n1]? =some b:=by
    have:(L.drop n1)[0]? =some b:=(by rw[<-z];rfl);rw[List.getElem?_drop]at this;simpa using this
   have y:b<256:=G b (List.mem_of_getElem? C);obtain⟨g,l⟩:=eX (if b=3 then Bg M 0 else([],M,0));rw[<-l]at a;obtain⟨I,d⟩:=eX (if b=3 then L.length-g.2.1.length else n1+1);obtain⟨i,A⟩:=eX (Bg g.2.1 g.2.2);rw[<-A]at a;have S:g.2.2=0->I<=L.length/\L.drop I=g.2.1:=by
    intro j
    by_cases c:b=3
    ·rw[iP c]at l d;have q:=Ox L (n1+1) o 1;rw[m,Gf,<-l,iN (by omega)]at q;obtain⟨J,P,-⟩:=q rfl;rw[d];exact⟨Nat.sub_le _ _,J.symm⟩
    ·rw[iN c]at l d;rw[d,l];exact⟨o,m⟩
   refine Hx v L t.1 u.1 f.1 g.1 i.1 p n1 I (L.length-i.2.1.length) 0 g.2.2 i.2.2 b (Zld L p) w h B x ?_ ?_ ?_ ?_ y ?_ ?_ ?_ ?_ ?_ ?_
   ·intro _ _ c;rw[iP c]at l d;refine Zt (k:=1) (R:=g.2.1) h G B o (by decide) ?_ ?_ d
    ·rw[m,Gf,<-l];split
     ·rfl
     ·rename_i q;exact(Decidable.not_not.1 q).symm
    ·intro j;rw[m,Gf,<-l,iN (by omega)]
   ·intro c;rw[iN c]at l d;rw[l];exact⟨rfl,d,rfl⟩
   ·intro _ _ j;obtain⟨J,P⟩:=S j;rw[j,<-P]at A;refine Zt (k:=1) (R:=i.2.1) h G B J (by decide) ?_ ?_ rfl
    ·rw[Gf,<-A];split
     ·rfl
     ·rename_i q;exact(Decidable.not_not.1 q).symm
    ·intro F;rw[Gf,<-A,iN (by omega)]
   ·intro _ _;simp[bvs,C]
   ·intro hx;exact absurd rfl hx
   ·intro _ hx;exact absurd o (by omega)
   ·intro _ _ c;rw[iP c]at a;exact Jq a
   ·intro _ _ c j;rw[iN c]at a;rw[Sp _ j]at A;rw[A]at a;simp only at a;rw[iP j]at a;rw[Jq a,iN j]
   ·intro _ _ c j F;rw[iN c,iP F]at a;rw[Jq a,iN F]
   ·intro _ _ c j F q T;rw[iN c,iN (by omega)]at a;unfold Lh at a;simp only[T]at a;cases q with
    |true=>
     rw[iP rfl]at a;rw[Jq a];rfl
    |false=>
     rw[iN (by decide)]at a;rw[Jq a];rfl
 ·rw[Ze6 _ c3]at a;simp only at a;rw[iP c3]at a;refine Hx v L t.1 u.1 f.1 [] [] p (L.length-f.2.1.length) (L.length-f.2.1.length+1) 0 f.2.2 0 0 0 (Zld L p) w h B x ?_ ?_ ?_ ?_ (by decide) ?_ ?_ ?_ ?_ ?_ ?_
  ·intro e;exact absurd e c3
  ·intro _;exact⟨rfl,rfl,rfl⟩
  ·intro e;exact absurd e c3
  ·intro e;exact absurd e c3
  ·intro _;rw[Jq a,iN c3]
  ·intro e;exact absurd e c3
  ·intro e;exact absurd e c3
  ·intro e;exact absurd e c3
  ·intro e;exact absurd e c3
  ·intro e;exact absurd e c3
open WalkM
theorem Zfi {L:List Nat} {er:Nat} {n:Int}(h:er<=6):(Cc L er n).2.2<=6:=by
 unfold Cc
 split
 ·exact h
 ·split
  ·show 1<=6;omega
  ·split
   ·show 4<=6;omega
   ·exact aA _
theorem Zmh {L:List Nat} {er:Nat} {n:Int}(h:er<=6):(Eg L er n).2.2<=6:=Zfi h
theorem Zmi (b:Nat)(M:List Nat):(Sy b M).2.2<=6:=by
 unfold Sy
 split
 ·show 3<=6;omega
 ·split
  ·show 4<=6;omega
  ·split
   ·exact aA _
   ·show 3<=6;omega
theorem Md {L:List Nat} {er:Nat}(h:er<=6):(Bg L er).2.2<=6:=by
 have hl:(Bl L er).2.2<=6:=by
  unfold Bl
  split
  ·exact h
  ·split
   ·show 4<=6;omega
   ·exact Zmi _ _
 unfold Bg
 split
 ·rename_i M e hm;rw[hm]at hl;exact hl
 ·rename_i n M e hm;rw[hm]at hl;exact Zfi hl
theorem Zip (L:List Nat):(Br L 0).1<=6:=by
 unfold Br;simp only;have h1:(Bg L 0).2.2<=6:=Md (aA _);generalize Bg L 0=r1 at h1|-;have h2:(Bg r1.2.1 r1.2.2).2.2<=6:=Md h1;generalize Bg r1.2.1 r1.2.2=r2 at h2|-;have h3:(Bg r2.2.1 r2.2.2).2.2<=6:=Md h2;generalize Bg r2.2.1 r2.2.2=r3 at h3|-;have a:(Eg r3.2.1 r3.2.2 1).2.2<=6:=Zmh h3;generalize Eg r3.2.1 r3.2.2 1=r4 at a|-;have b:(if Du r4.1=3 then Bg r4.2.1 r4.2.2 else([],r4.2)).2.2<=6:=by
  split
  ·exact Md a
  ·exact a
 generalize(if Du r4.1=3 then Bg r4.2.1 r4.2.2 else([],r4.2))=r5 at b|-;have c:(Bg r5.2.1 r5.2.2).2.2<=6:=Md b;generalize Bg r5.2.1 r5.2.2=r6 at c|-
 split
 ·exact a
 ·split
  ·show 3<=6;omega
  ·split
   ·exact c
   ·split
    ·exact aA _
    ·show 3<=6;omega
theorem Zle (L:List Nat):(Ei L 0).1<=6:=by
 unfold Ei;simp only;have h1:(Bg L 0).2.2<=6:=Md (aA _);generalize Bg L 0=r1 at h1|-;have h2:(Bg r1.2.1 r1.2.2).2.2<=6:=Md h1;generalize Bg r1.2.1 r1.2.2=r2 at h2|-;have h3:(Bg r2.2.1 r2.2.2).2.2<=6:=Md h2;generalize Bg r2.2.1 r2.2.2=r3 at h3|-
 split
 ·exact h3
 ·split
  ·exact aA _
  ·show 3<=6;omega
theorem Ziq (L:List Nat):(Au L 0).1<=6:=by
 unfold Au;simp only[De];cases L with
 |nil=>show 4<=6;omega
 |cons b M=>
  simp only[ne_eq,not_true_eq_false,if_false]
  split
  ·exact aA _
  ·split
   ·split
    ·exact aA _
    ·exact Zip M
   ·split
    ·split
     ·exact aA _
     ·exact Zle M
    ·show 3<=6;omega
theorem Zir {x:Nat} {M:List Nat} {K:NodeD->List Nat->RdR}(h:∀d R,(K d R).er<=6):(Kt x M K).er<=6:=by
 unfold Kt
 split
 ·exact Ziq M
 ·split
  ·show 3<=6;omega
  ·exact h _ _
theorem Zjy {x:Nat} {L:List Nat} {K:NodeD->List Nat->RdR}(h:∀d R,(K d R).er<=6):(Sz x L K).er<=6:=by
 unfold Sz
 split
 ·show 4<=6;omega
 ·split
  ·show 3<=6;omega
  ·split
   ·split
    ·show 4<=6;omega
    ·exact aA _
   ·exact Zir h
theorem Zm9:∀k x L,(rdP k x L).er<=6:=by
 intro k
 induction k with
 |zero=>intro x L;unfold rdP;exact Zjy fun _ _=>aA _
 |succ k ih=>
  intro x L;unfold rdP;refine Zjy fun d R=> ?_;unfold Ml
  split
  ·exact ih _ _
  ·split
   ·exact ih _ _
   ·exact aA _
theorem Zmj (only:Bool)(m:Nat)(b:List Nat):(ofS only m b).1<=6:=by
 unfold ofS
 split
 ·show 6<=6;omega
 ·split
  ·show 4<=6;omega
  ·split
   ·show 3<=6;omega
   ·split
    ·show 4<=6;omega
    ·split
     ·show 3<=6;omega
     ·split
      ·show 4<=6;omega
      ·split
       ·show 3<=6;omega
       ·simp only
        split
        ·exact Zm9 _ _ _
        ·split
         ·show 5<=6;omega
         ·split
          ·exact aA _
          ·show 3<=6;omega
