import Derived.Deep.Slices
import Derived.Deep.Fields
import Derived.ChangeSame
import Derived.Deep.Strs
import Derived.Test.YtfofaiommeckbaaGreatZCk14
open Go.Obj renaming cells -> rJ
open Go.Ending renaming returned -> rK
open Go.Value renaming slice -> rC, int -> rD
open Go.IntKind renaming i64 -> rF, u8 -> rG
open Option renaming none -> rI
open Go.Proofs.Tryz
open Nat renaming lt_of_lt_of_le -> cH, zero_le -> aA, pow_le_pow_right -> bQ, lt_succ_self -> dU, two_pow_pos -> fD
open List renaming getD_eq_getElem?_getD -> aS, getElem?_eq_getElem -> bB, getElem_mem -> bC, getElem_of_mem -> dW, length_take -> cQ, take_append_drop -> gD, pairwise_append -> fS, append_assoc -> cY, singleton_append -> fT, map_drop -> gE, take_succ_eq_append_getElem -> cM, take_length -> dD, map_take -> gF, foldl_append -> gG, length_cons -> dB, length_map -> gH, length_append -> bA, length_nil -> cO, getElem?_toArray -> cR, getElem?_cons_zero -> cS, getElem?_cons_succ -> aP
open Int renaming tmod -> eC, tmod_eq_emod_of_nonneg -> eD
set_option linter.unusedVariables false
set_option maxRecDepth 100000
set_option maxHeartbeats 40000000
namespace Go.Proofs.YtfofaiommeckbaaGreat
open Go.RowKit WireM Go.ChangeShapes Go.WideShapes Go.Deep
section
section
variable {H:Type} {enc:TypeId×Value->H} {P:Program} {w:World} {base:Nat} {spare:Nat->Bool} {held:Bool}
end
end
open Go.ChangeAt
theorem c5:prog.cellsOf 5=1:=by kernel_rfl
open WalkM
section
structure SparseD where
 leaves:Int
 own:Int
 op:List (Int×NodeD)
 sh:List (Int×List Nat)
def spt (l:List (Int×NodeD))(i:Nat):Int×NodeD:=l.getD i (0,Am)
def stb (l:List (Int×List Nat))(i:Nat):Int×List Nat:=l.getD i (0,[])
def SpotsR (w:World)(v:Value)(l:List (Int×NodeD)):Prop:=
 ∃a cap,v=.slice a l.length cap/\l.length<=cap/\cap<=maxLen/\∀i,i<l.length->∃b off c,a=some ⟨b,off,rI⟩/\b<w.heap.size/\NodeC w (spt l i).2 c/\w.rangeAt b (off+i*11) (rD rF (spt l i).1::c.toList)
def StubsR (w:World)(v:Value)(l:List (Int×List Nat)):Prop:=
 ∃a cap,v=.slice a l.length cap/\l.length<=cap/\cap<=maxLen/\∀i,i<l.length->∃b off u,a=some ⟨b,off,rI⟩/\b<w.heap.size/\Rd w u (bvs (stb l i).2)/\w.rangeAt b (off+i*2) [rD rF (stb l i).1,u]
def SparseR (w:World)(v:Value)(s:SparseD):Prop:=∃o h,v=.agg #[rD rF s.leaves,rD rF s.own,o,h]/\SpotsR w o s.op/\StubsR w h s.sh
structure SparseOk (s:SparseD):Prop where
 leaves:inI s.leaves
 own:inI s.own
 op:∀p∈s.op,inI p.1/\NodeOk p.2
 sh:∀p∈s.sh,inI p.1/\∀x∈p.2,x<256
theorem SpotsR.below {w w':World} {B:Nat} {v:Value} {l:List (Int×NodeD)}(h:SpotsR w v l)(d:Below B w w')(g:w.heap.size<=B):SpotsR w' v l:=by
 obtain⟨a,cap,e,h1,h2,h3⟩:=h;refine⟨a,cap,e,h1,h2,fun i j=> ?_⟩;obtain⟨b,f,c,e,k,m,n⟩:=h3 i j;exact⟨b,f,c,e,cH k d.size,m.below d g,Aj n d (by omega)⟩
theorem StubsR.below {w w':World} {B:Nat} {v:Value} {l:List (Int×List Nat)}(h:StubsR w v l)(d:Below B w w')(g:w.heap.size<=B):StubsR w' v l:=by
 obtain⟨a,cap,e,h1,h2,h3⟩:=h;refine⟨a,cap,e,h1,h2,fun i j=> ?_⟩;obtain⟨b,f,c,e,k,m,n⟩:=h3 i j;exact⟨b,f,c,e,cH k d.size,m.below d g,Aj n d (by omega)⟩
theorem SparseR.below {w w':World} {B:Nat} {v:Value} {s:SparseD}(h:SparseR w v s)(hb:Below B w w')(hB:w.heap.size<=B):SparseR w' v s:=by
 obtain⟨o,g,e,h1,h2⟩:=h;exact⟨o,g,e,h1.below hb hB,h2.below hb hB⟩
theorem SpotsR.nil (w:World):SpotsR w (rC rI 0 0) []:=⟨none,0,rfl,lR,aA _,fun i hi=>absurd hi (by simp)⟩
theorem StubsR.nil (w:World):StubsR w (rC rI 0 0) []:=⟨none,0,rfl,lR,aA _,fun i hi=>absurd hi (by simp)⟩
theorem SpotsR.sl {w:World} {v:Value} {l:List (Int×NodeD)}(h:SpotsR w v l):∃a c,v=.slice a l.length c/\l.length<=c/\c<=9223372036854775807:=by
 obtain⟨a,cap,e,h1,h2,_⟩:=h;unfold maxLen at h2;exact⟨a,cap,e,h1,h2⟩
theorem StubsR.sl {w:World} {v:Value} {l:List (Int×List Nat)}(h:StubsR w v l):∃a c,v=.slice a l.length c/\l.length<=c/\c<=9223372036854775807:=by
 obtain⟨a,cap,e,h1,h2,_⟩:=h;unfold maxLen at h2;exact⟨a,cap,e,h1,h2⟩
theorem SpotsR.at {w:World} {a:Option Addr} {n c:Nat} {l:List (Int×NodeD)}(h:SpotsR w (rC a n c) l) {i:Nat}(d:i<n):∃b off cs,a=some ⟨b,off,rI⟩/\b<w.heap.size/\NodeC w (spt l i).2 cs/\w.rangeAt b (off+i*11) (rD rF (spt l i).1::cs.toList):=by
 obtain⟨f,cap,e,h1,h2,h3⟩:=h;simp only[Value.slice.injEq]at e;obtain⟨rfl,rfl,rfl⟩:=e;exact h3 i d
theorem StubsR.at {w:World} {a:Option Addr} {n c:Nat} {l:List (Int×List Nat)}(h:StubsR w (rC a n c) l) {i:Nat}(d:i<n):∃b off u,a=some ⟨b,off,rI⟩/\b<w.heap.size/\Rd w u (bvs (stb l i).2)/\w.rangeAt b (off+i*2) [rD rF (stb l i).1,u]:=by
 obtain⟨f,cap,e,h1,h2,h3⟩:=h;simp only[Value.slice.injEq]at e;obtain⟨rfl,rfl,rfl⟩:=e;exact h3 i d
theorem Lm {l:List (Int×NodeD)} {i:Nat}(h:i<l.length):spt l i∈l:=by
 rw[spt,aS,bB h];exact bC h
theorem Se {l:List (Int×List Nat)} {i:Nat}(h:i<l.length):stb l i∈l:=by
 rw[stb,aS,bB h];exact bC h
section
variable {H:Type} {enc:TypeId×Value->H} {W:World} {base:Nat} {spare:Nat->Bool} {held:Bool}
end
end
end Go.Proofs.YtfofaiommeckbaaGreat
namespace Go.Proofs.YtfofaiommeckbaaGreat
open Go.RowKit WalkM WireM
theorem Bx (v:Value)(L:List Int)(x:Int)(w:World)(h:Rd w v (ivs .i64 L)):
  Calls prog 138 #[v,rD rF x] w fun e w'=>e=rK (.bool (decide (x∈L)))/\w'=w:=by
 have O:∃a c,v=.slice a L.length c/\c<=maxLen/\L.length<=c:=(by obtain⟨a,c,e,h1,h2,_⟩:=h;exact⟨a,c,by rw[e];simp[ivs],h2,by simpa [ivs]using h1⟩);obtain⟨a,c,rfl,l,B⟩:=O;have G:=fun(i:Nat) (f:i<L.length)=>h.at3 (u:=rD rF (L.getD i 0)) (r:=i) (by simp[ivs,aS,f]);have o:=fun(i:Nat) (f:i<L.length) (e:L.getD i 0=x)=>(show decide (x∈L)=true from dT (by
  rw[aS,bB f]at e;have:L[i]=x:=e;rw[<-this];exact bC f))
 have p:=fun(d:∀i,i<L.length->L.getD i 0≠x)=>(show decide (x∈L)=false from dF (fun K=>by
  obtain⟨i,f,e⟩:=dW K;exact d i f (by rw[aS,bB f];exact e)))
 obtain⟨n,F⟩:=eX L.length;obtain⟨R,E⟩:=eX (decide (x∈L));rw[<-F]at G o p B|-;rw[<-E]at o p|-;have M:n<=9223372036854775807:=(by unfold maxLen at l;omega);have I:=Hd G;have t:=Hd o;have z:=Hd p;clear G o p h F E l;go_in;go_wp2_with fail
 go_loopg [5] n (fun q iv wr=>∃r:Nat,r+q=n/\iv=rD rF (r:Nat)/\(∀i,i<r->L.getD i 0≠x)/\wr=w)
 case atStart=>exact⟨0,by omega,rfl,fun k hk=>by omega,rfl⟩
 case round=>
  obtain⟨r,H,rfl,d,rfl⟩:=hrel;have A:=Hd H;have j:=Hd d;clear H d
  by_cases hlt:r<n
  ·have m:decide (r<n)=true:=dT hlt;obtain⟨b,P,rfl,J,g⟩:=I.out r hlt;obtain⟨y,C⟩:=eX (L.getD r 0);rw[<-C]at g;have D:=Hd C;clear C
   by_cases he:y=x
   ·have N:(y==x)=true:=(by rw[beq_iff_eq];exact he);have s:=Hd he;clear he;go_wp2_with fail;go_ret;exact⟨Do (t.out r hlt (by rw[<-D.out];exact s.out)),rfl⟩
   ·have N:(y==x)=false:=(by rw[qN];exact he);have s:=Hd he;clear he;go_wp2_with fail;go_roundg (gk-1);case measure=>have:=A.out;omega
    case rel=>
     refine⟨r+1,by have:=A.out;omega,by go_num,fun i f=> ?_,rfl⟩
     by_cases e:i=r
     ·rw[e,<-D.out];exact s.out
     ·exact j.out i (by omega)
  ·obtain rfl:r=n:=(by have:=A.out;omega);have m:decide (r<r)=false:=dF hlt;go_wp2_with fail;go_ret;exact⟨Do (z.out j.out),rfl⟩
def Ah:List (Int×NodeD)->Int->Option NodeD
 |[],_=>none
 |p::l,x=>if p.1=x then some p.2 else Ah l x
theorem Sf {l:List (Int×NodeD)} {x:Int}:∀ {r:Nat},r<l.length->(∀i,i<r->(spt l i).1≠x)->(spt l r).1=x->Ah l x=some (spt l r).2:=by
 induction l with
 |nil=>intro r b;simp at b
 |cons p l ih=>
  intro r b a c;cases r with
  |zero=>have e:p.1=x:=c;rw[Ah,iP e];rfl
  |succ r=>
   have h0:p.1≠x:=a 0 (by omega);rw[Ah,iN h0];exact ih (r:=r) (by simpa using b) (fun i d=>a (i+1) (by omega)) c
theorem Qg {l:List (Int×NodeD)} {x:Int}:(∀i,i<l.length->(spt l i).1≠x)->Ah l x=none:=by
 induction l with
 |nil=>intro _;rfl
 |cons p l ih=>
  intro h;rw[Ah,iN (show¬p.1=x from h 0 (by simp))];exact ih fun i hi=>h (i+1) (by simp;omega)
theorem Cd {l:List (Int×NodeD)} {x:Int} {d:NodeD}(h:Ah l x=some d):(x,d)∈l:=by
 induction l with
 |nil=>cases h
 |cons p l ih=>
  rw[Ah]at h
  split at h
  ·rename_i e
   cases h;rw[<-e];exact List.mem_cons_self
  ·exact List.mem_cons_of_mem _ (ih h)
theorem Dl {w:World} {b o:Nat} {u:Value} {cs:List Value}(h:w.rangeAt b o (u::cs)):w.rangeAt b (o+1) cs:=by
 intro j v hv;have:=h (j+1) v (by simpa using hv);rw[show o+1+j=o+(j+1) by omega];exact this
theorem Bt {w:World} {b o:Nat} {u:Value} {cs:List Value}(h:w.rangeAt b o (u::cs)):w.cell? ⟨b,o,rI⟩=some u:=by
 have:=h 0 u rfl;simpa using this
theorem NodeC.ten {w:World} {d:NodeD} {c:Array Value}(h:NodeC w d c):∃x0 x1 x2 x3 x4 x5 x6 x7 x8 x9,c=#[x0,x1,x2,x3,x4,x5,x6,x7,x8,x9]:=by
 obtain⟨a1,c1,a2,c2,a3,c3,a4,c4,a5,c5,b1,e1,b2,e2,b3,e3,rfl,_⟩:=h;exact⟨_,_,_,_,_,_,_,_,_,_,rfl⟩
theorem NodeC.oneL {w:World} {d:NodeD} {c:Array Value}(h:NodeC w d c):c.toList.all (·.oneCell')=true:=by rw[Array.all_toList];exact h.one
theorem Dm (v:Value)(l:List (Int×NodeD))(x:Int)(w:World)(h:SpotsR w v l):
  Calls prog 29 #[v,rD rF x] w fun e w'=>∃c,e=rK (.tuple #[.agg c,.bool (Ah l x).isSome])/\NodeC w' ((Ah l x).getD Am) c/\Below w.heap.size w w':=by
 obtain⟨a,cp,rfl,hc,aB⟩:=h.sl;have G:=fun(i:Nat) (hi:i<l.length)=>h.at hi;have C:=fun(r:Nat) (L:r<l.length) (s:∀i,i<r->(spt l i).1≠x) (t:(spt l r).1=x)=>Sf L s t;have D:=Qg (l:=l) (x:=x);obtain⟨n,hn⟩:=eX l.length;obtain⟨R,Y⟩:=eX (Ah l x);obtain⟨S,Z⟩:∃S:Nat->Int×NodeD,S=spt l:=⟨_,rfl⟩;rw[<-hn]at G C D hc|-;rw[<-Y]at C D|-;rw[<-Z]at G C D;have HG:=Hd G;have N:=Hd C;have O:=Hd D;clear G C D h hn Y Z;go_in;go_wp2_with fail;have u:=Hd (Blk.new w 52 #[rD rG 0,rC rI 0 0,rC rI 0 0,rC rI 0 0,rD rG 0,rC rI 0 0,rC rI 0 0,rC rI 0 0,rC rI 0 0,rC rI 0 0]);have E:=Hd ((Below.refl w.heap.size w).alloc lR (rJ #[rD rG 0,rC rI 0 0,rC rI 0 0,rC rI 0 0,rD rG 0,rC rI 0 0,rC rI 0 0,rC rI 0 0,rC rI 0 0,rC rI 0 0] 52));generalize hw1:w.alloc (rJ #[rD rG 0,rC rI 0 0,rC rI 0 0,rC rI 0 0,rD rG 0,rC rI 0 0,rC rI 0 0,rC rI 0 0,rC rI 0 0,rC rI 0 0] 52)=w1 at u E|-;clear hw1
 go_loopg [6] n (fun q iv wr=>∃r:Nat,r+q=n/\iv=rD rF (r:Nat)/\(∀i,i<r->(S i).1≠x)/\wr=w1)
 case atStart=>exact⟨0,by omega,rfl,fun k hk=>by omega,rfl⟩
 case round=>
  obtain⟨r,L,rfl,s,rfl⟩:=hrel;have U:=Hd L;have z:=Hd s;clear L s
  by_cases hlt:r<n
  ·have I:decide (r<n)=true:=dT hlt;have aA:(r:Int)<(n:Int):=(by omega);obtain⟨b,K,c,rfl,H,o,B⟩:=HG.out r hlt;have A:=(E.out.cell (p:=⟨b,K+r*11,rI⟩) H).trans (Bt B);have J:=Aj (Dl B) E.out H;obtain⟨y,W⟩:=eX ((S r).1);rw[<-W]at A;have X:=Hd W;have T:=Hd o;have F:=Hd o.oneL;obtain⟨x0,x1,x2,x3,x4,x5,x6,x7,x8,x9,rfl⟩:=o.ten;have V:=Hd J;clear W B o J
   by_cases t:y=x
   ·have hq:(y==x)=true:=(by rw[beq_iff_eq];exact t);have M:=Hd t;clear t;go_wp2_with (first|(refine wpList_load_mid rfl 52 (.tmp 23) rfl b (K+r*11+1) rfl [x0,x1,x2,x3,x4,x5,x6,x7,x8,x9] _ V.out underlying52 rfl Bc ?_)|(refine Aa rfl 52 (.tmp 4) (.tmp 24) rfl w.heap.size #[x0,x1,x2,x3,x4,x5,x6,x7,x8,x9] rfl rfl 52 #[rD rG 0,rC rI 0 0,rC rI 0 0,rC rI 0 0,rD rG 0,rC rI 0 0,rC rI 0 0,rC rI 0 0,rC rI 0 0,rC rI 0 0] u.out (by kernel_rfl) rfl F.out ?_));rintro w3 f d j g;have P:=Hd f;have m:=Hd (E.out.trans (d w.heap.size lR));have Q:=Hd (T.out.below m.out lR);clear f d j g;go_wp2_with fail;refine bodyPost_ret (v:=.tuple #[.agg #[x0,x1,x2,x3,x4,x5,x6,x7,x8,x9],.bool true]) (Ac results29 _ _ w.heap.size _ _ _ rfl P.out underlying52 rfl (by kernel_rfl)) rfl ?_;have e1:=N.out r hlt z.out (by rw[<-X.out];exact M.out);rw[e1];exact⟨_,rfl,Q.out,m.out⟩
   ·have hq:(y==x)=false:=(by rw[qN];exact t);have M:=Hd t;clear t;go_wp2_with fail;go_roundg (gk-1);case measure=>have:=U.out;omega
    case rel=>
     refine⟨r+1,by have:=U.out;omega,by go_num,fun i hi=> ?_,rfl⟩
     by_cases e:i=r
     ·rw[e,<-X.out];exact M.out
     ·exact z.out i (by omega)
  ·obtain rfl:r=n:=(by have:=U.out;omega);have I:decide (r<r)=false:=dF hlt;go_wp2_with (refine Aa rfl 52 (.tmp 4) (.tmp 25) rfl w.heap.size #[rD rG 0,rC rI 0 0,rC rI 0 0,rC rI 0 0,rD rG 0,rC rI 0 0,rC rI 0 0,rC rI 0 0,rC rI 0 0,rC rI 0 0] rfl rfl 52 #[rD rG 0,rC rI 0 0,rC rI 0 0,rC rI 0 0,rD rG 0,rC rI 0 0,rC rI 0 0,rC rI 0 0,rC rI 0 0,rC rI 0 0] u.out (by kernel_rfl) rfl rfl ?_);rintro w3 f d j g;have P:=Hd f;have m:=Hd (E.out.trans (d w.heap.size lR));clear f d j g;go_wp2_with fail;refine bodyPost_ret (v:=.tuple #[.agg #[rD rG 0,rC rI 0 0,rC rI 0 0,rC rI 0 0,rD rG 0,rC rI 0 0,rC rI 0 0,rC rI 0 0,rC rI 0 0,rC rI 0 0],.bool false]) (Ac results29 _ _ w.heap.size _ _ _ rfl P.out underlying52 rfl (by kernel_rfl)) rfl ?_;rw[O.out z.out];exact⟨_,rfl,Mw _,m.out⟩
structure InsP (O L:List Int):Prop where
 perm:O.Perm L
 rise:O.Pairwise (· <= ·)
theorem Zkv {O L:List Int} {x:Int} {k:Nat}(h:InsP O L)(hk:k<=O.length)(h1:∀j,j<k->O.getD j 0<x)(h2:k=O.length\/¬O.getD k 0<x):InsP (O.take k++[x]++O.drop k) (L++[x]):=by
 have m:∀y∈O.take k,y<x:=by
  intro y g;obtain⟨j,f,rfl⟩:=dW g;rw[cQ]at f;have:=h1 j (by omega);rw[List.getElem_take]
  rwa [aS,bB (by omega)]at this
 have l:∀y∈O.drop k,x<=y:=by
  intro y g;obtain⟨j,f,rfl⟩:=dW g;rw[List.length_drop]at f;rw[List.getElem_drop];rcases h2 with h2|h2
  ·omega
  ·rw[aS,bB (show k<O.length by omega)]at h2;have h3:¬O[k]<x:=h2
   by_cases e:j=0
   ·subst e;simp only[Nat.add_zero];omega
   ·have:=List.pairwise_iff_getElem.1 h.rise k (k+j) (by omega) (by omega) (by omega);omega
 have d:=h.rise;rw[<-gD k O,fS]at d;constructor
 ·rw[cY,fT];refine List.perm_middle.trans ?_;rw[gD];exact(h.perm.cons x).trans (List.perm_append_comm (l₁:=[x]) (l₂:=L))
 ·rw[cY,fT,fS];refine⟨d.1,List.pairwise_cons.2 ⟨l,d.2.1⟩,fun a i b c=> ?_⟩;rw[List.mem_cons]at c;rcases c with rfl|c
  ·have:=m a i;omega
  ·exact d.2.2 a i b c
theorem Zd5 {O L:List Int}(h:InsP O L):Fe L=O:=by
 have f:(Fe L).Perm O:=(List.mergeSort_perm L _).trans h.perm.symm;have g:(Fe L).Pairwise fun a b=>decide (a<=b)=true:=List.pairwise_mergeSort (fun a b c h1 h2=>by simp at*;omega) (fun a b=>by simp;omega) L;have e:O.Pairwise fun a b=>decide (a<=b)=true:=h.rise.imp fun h=>(by simpa using h);refine List.Perm.eq_of_pairwise (le:=fun a b=>decide (a<=b)=true) ?_ g e f;intro a b _ _ h3 d;simp at h3 d;omega
theorem Qh {w:World} {v:Value} {xs:List Value}(h:Rd w v xs) {T:TypeId}(ht:prog.underlying T=some (.slice (prog.elem T)))(r:∀w,(sizeOf (prog.elem T)).run prog w=.ok 1 w) {k:Nat}(hk:k<=xs.length):
  ∃a n c,(∀w',(Instr.sliceAt T v (some (rD rF (k:Nat))) none none).run prog w'=.ok (rC a n c) w')/\∀w',Rd w' v xs->Rd w' (rC a n c) (xs.drop k):=by
 obtain⟨a,cap,rfl,h1,h2,_⟩:=h;refine⟨if cap=k then a else a.map (·.add (k*1)),xs.length-k,cap-k,fun w'=> ?_,fun w' q=> ?_⟩
 ·rw[run_sliceAt_slice (h:=ht),run_slice_l (ht:=ht) (h0:=by omega) (h1:=by omega),r]
  rfl
 ·obtain⟨s,cap',e,h3,t,i⟩:=q;simp only[Value.slice.injEq]at e;obtain⟨rfl,-,rfl⟩:=e;have g:(xs.drop k).length=xs.length-k:=(by simp);refine⟨_,cap-k,by rw[g],by rw[g];omega,by omega,?_⟩
  by_cases e0:xs.length=k
  ·left
   refine⟨List.drop_eq_nil_of_le (by omega),?_⟩
   split
   ·rename_i m;intro _;omega
   ·rcases i with⟨l,p⟩|⟨b,d,rfl,_⟩
    ·intro f;cases a with
     |none=>have:=p rfl;omega
     |some x=>simp at f
    ·intro f;simp at f
  ·right
   rcases i with⟨l,_⟩|⟨b,d,rfl,m⟩
   ·rw[l]at hk e0;simp at hk e0;omega
   ·refine⟨b,d+k,?_,fun j u o=> ?_⟩
    ·rw[iN (by omega)];simp[Addr.add_lit]
    ·rw[List.getElem?_drop]at o;rw[Nat.add_assoc];exact m _ u o
theorem By {L:List Int} {j:Nat}(hj:j<L.length):(ivs .i64 L)[j]? =some (rD rF (L.getD j 0)):=by
 simp[ivs,aS,hj]
theorem Uo (L:List Int)(k:Nat):ivs .i64 (L.drop k)=(ivs .i64 L).drop k:=by simp[ivs,gE]
theorem Ea (L:List Int):∀u∈ivs .i64 L,u.oneCell'=true:=by
 intro u hu;unfold ivs at hu;rw[List.mem_map]at hu;obtain⟨n,_,rfl⟩:=hu;rfl
theorem Er {L:List Int} {k:Nat}(hk:k<L.length):L.take k++[L.getD k 0]=L.take (k+1):=by
 rw[cM hk,aS,bB hk];rfl
theorem Qi {w:World} {B i:Nat} {e:TypeId} {v:Value} {O:List Int}(h:Own w B e v (ivs .i64 O))(hl:O.length=i):∃a c,v=.slice a i c:=by
 obtain⟨a,c,e,_⟩:=h.rd;rw[show(ivs .i64 O).length=i by simp[ivs,hl]]at e;exact⟨a,c,e⟩
theorem Dn (v:Value)(L:List Int)(w:World)(h:Rd w v (ivs .i64 L))(hl:L.length<=100000000000):
  Calls prog 139 #[v] w fun e w'=>∃v',e=rK v'/\Own w' w.heap.size 3 v' (ivs .i64 (Fe L))/\Below w.heap.size w w':=by
 have hv:∃a c,v=.slice a L.length c:=(by obtain⟨a,c,e,_⟩:=h;exact⟨a,c,by rw[e];simp[ivs]⟩);obtain⟨a,c,rfl⟩:=hv;have G:=fun(W:World) (hw:Below w.heap.size w W) (i:Nat) (U:i<L.length)=>(h.below hw lR).at3 (By U);have r:=fun(O:List Int) (X:InsP O (L.take L.length))=>(show Fe L=O from by rw[dD]at X;exact Zd5 X);have m:=fun(i:Nat) (U:i<L.length) (O:List Int) (X:InsP O (L.take i)) (k:Nat) (hk:k<=O.length) (h1:∀j,j<k->O.getD j 0<L.getD i 0) (h2:k=O.length\/¬O.getD k 0<L.getD i 0)=>(show InsP (O.take k++[L.getD i 0]++O.drop k) (L.take (i+1))from by
  have:=Zkv X hk h1 h2
  rwa [Er U]at this)
 have H:=fun(i:Nat) (U:i<=L.length) (O:List Int) (X:InsP O (L.take i))=>(show O.length=i from by rw[X.perm.length_eq,cQ];omega);have I0:InsP [] (L.take 0):=⟨by simp,by simp⟩;obtain⟨n,hn⟩:=eX L.length;obtain⟨A,hA⟩:∃A:Nat->Int,A=fun i=>L.getD i 0:=⟨_,rfl⟩;have aB:∀i,L.getD i 0=A i:=fun i=>(by rw[hA]);obtain⟨T,hT⟩:∃T:Nat->List Int,T=fun i=>L.take i:=⟨_,rfl⟩;have aD:∀i,L.take i=T i:=fun i=>(by rw[hT]);obtain⟨SL,aC⟩:=eX (Fe L);rw[<-hn]at G r m H hl|-;simp only[aB]at G m;simp only[aD]at r m H I0;rw[<-aC]at r|-;have HG:=Hd G;have Y:=Hd r;have u:=Hd m;have aA:=Hd H;have aJ:=Hd I0;clear G r m H I0 h hn hA aB hT aD aC;go_in;go_wp2_with fail
 go_loopg [3,4] n (fun q ov iv wr=>∃(i:Nat) (O:List Int),i+q=n/\iv=rD rF (i:Nat)/\InsP O (T i)/\Own wr w.heap.size 3 ov (ivs .i64 O)/\Below w.heap.size w wr)
 case atStart=>exact⟨0,[],by omega,rfl,aJ.out,Own.nil _ _ _,bR⟩
 case round=>
  obtain⟨i,O,U,rfl,B,C,hb⟩:=hrel;have Z:=Hd U;have HO:=Hd C;have s:=Hd hb;have K:=Hd B;have d:=Hd (show O.length=i from aA.out i (by omega) O B);obtain⟨p1,p2,rfl⟩:=Qi C d.out;clear U C hb B
  by_cases hlt:i<n
  ·have aG:decide (i<n)=true:=dT hlt;have aN:(i:Int)<(n:Int):=(by omega);obtain⟨g1,rfl⟩:=eX gk;obtain⟨F,rfl⟩:∃F:World,F=wr:=⟨_,rfl⟩;obtain⟨x,hx⟩:=eX (A i);have V:=Hd hx;clear hx;go_wp2_with fail
   go_loopg [5,6] i (fun q nv kv w2=>∃k:Nat,k+q=i/\kv=rD rF (k:Nat)/\Own w2 F.heap.size 3 nv (ivs .i64 (O.take k))/\(∀j,j<k->O.getD j 0<x)/\Below F.heap.size F w2)
   case atStart=>exact⟨0,by omega,rfl,Own.nil _ _ _,fun j hj=>by omega,bR⟩
   case round=>
    obtain⟨k,hk,rfl,D,aF,I⟩:=hrel;have HK:=Hd hk;have N:=Hd D;have M:=Hd aF;have g:=Hd I;have aI:=Hd (s.out.trans (I.mono s.out.size));have Q:=Hd (HO.out.below I lR);obtain⟨bl,ol,rfl,aO,cx⟩:=HG.out _ aI.out i hlt;rw[<-V.out]at cx;clear hk D aF I
    by_cases hki:k<i
    ·have aE:decide (k<i)=true:=dT hki;have aM:(k:Int)<(i:Int):=(by omega);obtain⟨bo,oo,rfl,aP,co⟩:=Q.out.rd.at3 (By (show k<O.length by rw[d.out];exact hki));obtain⟨y,hy⟩:=eX (O.getD k 0);rw[<-hy]at co;have HY:=Hd hy;clear hy
     by_cases hyx:y<x
     ·have aH:decide (y<x)=true:=dT hyx;have aK:=Hd hyx;go_wp2_with fail
      go_quiet (fail)
      go_wp2_with (at_builtin;refine An rfl (.tmp 28) (.tmp 33) 48 rfl F.heap.size 3 _ 8 Cg _ _ rfl ((N.out.drewN _).alloc _) _ (rD rF y) rfl ?c1 rfl ?c2 ?c3 ?_);case c1=>exact Aq rfl
      case c2=>have:=d.out;simp[ivs];omega
      case c3=>have:=g.out.size;simp;omega
      rintro v' w1 b-o;have p:=Hd b;have l:=Hd (((Ab g.out _).alloc g.out.size (rJ #[rD rF y] 3)).trans o);clear b o;go_wp2_with fail;go_roundg (gk-1);case measure=>have:=HK.out;omega
      case rel=>
       refine⟨k+1,by have:=HK.out;omega,by go_num,?_,fun j hj=> ?_,l.out⟩
       ·rw[<-Er (by rw[d.out];exact hki),<-HY.out];have:=p.out;simpa [ivs]using this
       ·by_cases e:j=k
        ·rw[e,<-HY.out];exact aK.out
        ·exact M.out j (by omega)
     ·have aH:decide (y<x)=false:=dF hyx;have HS:=Hd (u.out i hlt O K.out k (by rw[d.out];omega) (by rw[<-V.out];exact M.out) (.inr (by rw[<-V.out,<-HY.out];omega)));clear hyx;obtain⟨sa,sn,sc,aL,E⟩:=Qh (T:=48) Q.out.rd (by kernel_rfl) (fun w=>by kernel_rfl) (k:=k) (by simp[ivs];have:=d.out;have:=HK.out;omega);have S:=Hd E;clear E;go_wp2_with fail
      go_quiet (fail)
      go_wp2_with (at_builtin;refine An rfl (.tmp 37) (.tmp 42) 48 rfl F.heap.size 3 _ 8 Cg _ _ rfl ((N.out.drewN _).alloc _) _ (rD rF x) rfl ?c1 rfl ?c2 ?c3 ?_);case c1=>exact Aq rfl
      case c2=>have:=d.out;simp[ivs];omega
      case c3=>have:=g.out.size;simp;omega
      rintro v' w1 b-o;have p:=Hd b;have l:=Hd (((Ab g.out _).alloc g.out.size (rJ #[rD rF x] 3)).trans o);have t:=Hd (s.out.trans (l.out.mono s.out.size));have R:=Hd (S.out w1 (HO.out.rd.below l.out lR));clear b o;obtain⟨u1,u2,u3,rfl⟩:=Cx p.out;go_wp2_with (at_builtin;refine Ak rfl (.tmp 44) (.tmp 47) 48 rfl F.heap.size 3 _ 8 Cg _ _ rfl p.out _ _ rfl R.out ?d1 ?d2 ?d3 ?_);case d1=>rw[<-Uo];exact Ea _
      case d2=>have:=d.out;simp[ivs];omega
      case d3=>exact l.out.size
      rintro v3 w3 f-z;have P:=Hd f;have J:=Hd (t.out.trans (z.mono s.out.size));clear f z;go_wp2_with fail;go_roundg (g1-1);case measure=>have:=Z.out;omega
      case rel=>
       refine⟨i+1,_,by have:=Z.out;omega,by go_num,HS.out,?_,J.out⟩;rw[<-V.out];have:=P.out.mono s.out.size;simpa [ivs,gF,gE]using this
    ·obtain rfl:k=i:=(by have:=HK.out;omega);have aE:decide (k<k)=false:=dF hki;have HS:=Hd (u.out k hlt O K.out k (by rw[d.out];omega) (by rw[<-V.out];exact M.out) (.inl d.out.symm));clear hki;obtain⟨sa,sn,sc,aL,E⟩:=Qh (T:=48) Q.out.rd (by kernel_rfl) (fun w=>by kernel_rfl) (k:=k) (by simp[ivs];have:=d.out;have:=HK.out;omega);have S:=Hd E;clear E;go_wp2_with fail
     go_quiet (fail)
     go_wp2_with (at_builtin;refine An rfl (.tmp 37) (.tmp 42) 48 rfl F.heap.size 3 _ 8 Cg _ _ rfl ((N.out.drewN _).alloc _) _ (rD rF x) rfl ?c1 rfl ?c2 ?c3 ?_);case c1=>exact Aq rfl
     case c2=>have:=d.out;simp[ivs];omega
     case c3=>have:=g.out.size;simp;omega
     rintro v' w1 b-o;have p:=Hd b;have l:=Hd (((Ab g.out _).alloc g.out.size (rJ #[rD rF x] 3)).trans o);have t:=Hd (s.out.trans (l.out.mono s.out.size));have R:=Hd (S.out w1 (HO.out.rd.below l.out lR));clear b o;obtain⟨u1,u2,u3,rfl⟩:=Cx p.out;go_wp2_with (at_builtin;refine Ak rfl (.tmp 44) (.tmp 47) 48 rfl F.heap.size 3 _ 8 Cg _ _ rfl p.out _ _ rfl R.out ?d1 ?d2 ?d3 ?_);case d1=>rw[<-Uo];exact Ea _
     case d2=>have:=d.out;simp[ivs];omega
     case d3=>exact l.out.size
     rintro v3 w3 f-z;have P:=Hd f;have J:=Hd (t.out.trans (z.mono s.out.size));clear f z;go_wp2_with fail;go_roundg (g1-1);case measure=>have:=Z.out;omega
     case rel=>
      refine⟨k+1,_,by have:=Z.out;omega,by go_num,HS.out,?_,J.out⟩;rw[<-V.out];have:=P.out.mono s.out.size;simpa [ivs,gF,gE]using this
  ·obtain rfl:i=n:=(by have:=Z.out;omega);have aG:decide (i<i)=false:=dF hlt;have HF:=Hd (Y.out O K.out);clear hlt;go_wp2_with fail;go_ret;refine⟨_,rfl,?_,s.out⟩;rw[HF.out];exact HO.out
section
def SW (FI:Int->Option NodeD)(d:Nat)(x:Int)(late:List Int)(r:Nat):List Int×Bool:=Oh FI x ([x],true) ((late.take r).flatMap (upL d))
def SI (FI:Int->Option NodeD)(d:Nat)(x:Int)(late:List Int)(r k:Nat):List Int×Bool:=Oh FI x (SW FI d x late r) ((upL d (late.getD r 0)).take k)
section
variable {FI:Int->Option NodeD} {d:Nat} {x:Int} {late:List Int}
theorem Sg (r:Nat):SI FI d x late r 0=SW FI d x late r:=by simp[SI,Oh]
theorem Zd6 {r k:Nat}(hk:k<(upL d (late.getD r 0)).length):SI FI d x late r (k+1)=Zb3 FI x (SI FI d x late r k) ((upL d (late.getD r 0)).getD k 0):=by
 unfold SI Oh;rw[<-Er hk,gG];rfl
theorem Zjm {r:Nat}(hr:r<late.length):SI FI d x late r (upL d (late.getD r 0)).length=SW FI d x late (r+1):=by
 unfold SI SW Oh;rw[dD,<-Er hr,List.flatMap_append,gG];simp
theorem Zd7:SW FI d x late late.length=Hr FI d x late:=by rw[SW,dD];rfl
theorem Zhy (s:List Int×Bool)(y:Int):(Zb3 FI x s y).1.length<=s.1.length+1:=by
 unfold Zb3
 split
 ·simp
 ·omega
theorem Up:∀(ys:List Int) (s:List Int×Bool),(Oh FI x s ys).1.length<=s.1.length+ys.length:=by
 intro ys
 induction ys with
 |nil=>intro s;simp[Oh]
 |cons y ys ih=>
  intro s;have h1:=ih (Zb3 FI x s y);have h2:=Zhy (FI:=FI) (x:=x) s y;show(Oh FI x (Zb3 FI x s y) ys).1.length<=_;rw[dB];omega
theorem Jm (hd:d<=16)(u:Int):(upL d u).length<=17:=by
 unfold upL Pg;rw[dB,gH]
 split
 ·rw[Rk,Int.toNat_natCast,Nat.log2_two_pow];omega
 ·simp
theorem Zjn (b:d<=16):∀r,(SW FI d x late r).1.length<=1+17*r:=by
 intro r;have h:=Up (FI:=FI) (x:=x) ((late.take r).flatMap (upL d)) ([x],true);have h2:((late.take r).flatMap (upL d)).length<=17*r:=by
  have:∀L:List Int,(L.flatMap (upL d)).length<=17*L.length:=by
   intro L
   induction L with
   |nil=>simp
   |cons a L ih=>rw[List.flatMap_cons,bA,dB];have:=Jm b a;omega
  have h3:=this (late.take r);rw[cQ]at h3;omega
 unfold SW;simp only[dB,cO]at h;omega
theorem Zjo (hd:d<=16)(r k:Nat):(SI FI d x late r k).1.length<=18+17*r:=by
 have h:=Up (FI:=FI) (x:=x) ((upL d (late.getD r 0)).take k) (SW FI d x late r);have h2:=Zjn (FI:=FI) (d:=d) (x:=x) (late:=late) hd r;have h3:=Jm hd (late.getD r 0);rw[cQ]at h;unfold SI;omega
theorem Za {s:List Int×Bool} {y:Int}(h1:y≠x)(h2:Bv y x=true)(h3:y∉s.1):Zb3 FI x s y=(s.1++[y],s.2&&(FI y).isSome):=by rw[Zb3,iP ⟨h1,h2,h3⟩]
theorem Ln {s:List Int×Bool} {y:Int}(h:¬(y≠x/\Bv y x=true/\y∉s.1)):Zb3 FI x s y=s:=by rw[Zb3,iN h]
end
def Lz (l:List (Int×NodeD)):Prop:=∀p∈l,p.2.kind<256/\p.2.par.late.length<=1000/\∀u∈p.2.par.late,0<=u/\u<65536
def Zjp (l:List (Int×NodeD))(d k:Nat):Prop:=∀(x:Nat) (v:Value) (w:World),SpotsR w v l->IsLev x k->x+2^k<=2*2^d-1->
 Calls prog 137 #[v,rD rF (x:Nat),rD rF ((2^d:Nat):Int)] w fun e w'=>∃vo,e=rK (.tuple #[vo,.bool (Bb (Ah l) d k x).2])/\Own w' w.heap.size 3 vo (ivs .i64 (Bb (Ah l) d k x).1)/\Below w.heap.size w w'
theorem NodeC.frame {w:World} {d:NodeD} {c:Array Value}(h:NodeC w d c):∃x1 x2 x3 x4 x5 x6 x7 x8 b e,c=#[rD rG (d.kind:Nat),x1,x2,x3,x4,x5,x6,x7,x8,.slice b d.par.late.length e]/\Rd w (.slice b d.par.late.length e) (ivs .i64 d.par.late):=by
 obtain⟨f,c1,g,c2,i,c3,j,c4,k,c5,b1,e1,l,e2,m,e3,rfl,h1,h2,h3,n,o,p,q,a⟩:=h;exact⟨_,_,_,_,_,_,_,_,_,_,rfl,a⟩
theorem Qj (l:List (Int×NodeD))(d k x:Nat)(v:Value)(w:World)(h:SpotsR w v l)(y:Ah l (x:Int)=none):
  Calls prog 137 #[v,rD rF (x:Nat),rD rF ((2^d:Nat):Int)] w fun e w'=>∃vo,e=rK (.tuple #[vo,.bool (Bb (Ah l) d k x).2])/\Own w' w.heap.size 3 vo (ivs .i64 (Bb (Ah l) d k x).1)/\Below w.heap.size w w':=by
 rw[Ey y];have r:=fun(W:World) (D:Below w.heap.size w W)=>Dm v l x W (h.below D lR);rw[y]at r;obtain⟨n,B⟩:=eX (2^d);rw[<-B];have t:=Hd r;obtain⟨a,E,rfl,-,-⟩:=h.sl;clear r h y B;go_in;go_wp2_with fail;refine(t.out w bR).mono ?_;rintro e A ⟨c,rfl,f,j⟩;have i:=Hd f.oneL;obtain⟨x0,x1,x2,x3,x4,x5,x6,x7,x8,x9,rfl⟩:=f.ten;have b:=Hd j;clear f j;obtain⟨q,z⟩:=eX A.heap.size;have C:=Hd z;have u:=Hd (show Blk (A.alloc (rJ #[rD rG 0,rC rI 0 0,rC rI 0 0,rC rI 0 0,rD rG 0,rC rI 0 0,rC rI 0 0,rC rI 0 0,rC rI 0 0,rC rI 0 0] 52)) q 52 #[rD rG 0,rC rI 0 0,rC rI 0 0,rC rI 0 0,rD rG 0,rC rI 0 0,rC rI 0 0,rC rI 0 0,rC rI 0 0,rC rI 0 0] by rw[z];exact Blk.new _ _ _);clear z;go_wp2_with (refine Aa rfl 52 (.tmp 8) (.tmp 27) rfl A.heap.size #[x0,x1,x2,x3,x4,x5,x6,x7,x8,x9] rfl rfl 52 #[rD rG 0,rC rI 0 0,rC rI 0 0,rC rI 0 0,rD rG 0,rC rI 0 0,rC rI 0 0,rC rI 0 0,rC rI 0 0,rC rI 0 0] (C.out▸u.out) (by kernel_rfl) rfl i.out ?_);rintro F o m p g;have s:=Hd ((b.out.alloc b.out.size (rJ #[rD rG 0,rC rI 0 0,rC rI 0 0,rC rI 0 0,rD rG 0,rC rI 0 0,rC rI 0 0,rC rI 0 0,rC rI 0 0,rC rI 0 0] 52)).trans (m w.heap.size b.out.size));clear o m p g;go_wp2_with fail;go_ret2;exact⟨_,rfl,Own.nil _ _ _,s.out⟩
theorem Ok (l:List (Int×NodeD))(d x:Nat)(v:Value)(w:World)(hd:d<=16)(h:SpotsR w v l)(hK:Lz l)(D:NodeD)(hF:Ah l (x:Int)=some D)(hx:x<=131070)(cA:D.kind≠0):
  Calls prog 137 #[v,rD rF (x:Nat),rD rF ((2^d:Nat):Int)] w fun e w'=>∃vo,e=rK (.tuple #[vo,.bool (Hr (Ah l) d x D.par.late).2])/\Own w' w.heap.size 3 vo (ivs .i64 (Hr (Ah l) d x D.par.late).1)/\Below w.heap.size w w':=by
 obtain⟨G,aC,A⟩:=hK _ (Cd hF);have G:D.kind<256:=G;have aC:D.par.late.length<=1000:=aC;have A:∀u∈D.par.late,0<=u/\u<65536:=A;have J:=fun(y:Int) (W:World) (hw:Below w.heap.size w W)=>Dm v l y W (h.below hw lR);have FD:=fun(W:World) (hw:Below w.heap.size w W)=>J x W hw;rw[hF]at FD;have c5:(2^d:Nat)<=2^16:=bQ (by omega) hd;have c4:(2:Nat)^16=65536:=rfl;have UN:=fun(y:Int) (W:World)=>If y (x:Int) W;have UL:=fun(u:Int)=>Jm hd u;have aB:=fun(r k:Nat)=>Zjo (FI:=Ah l) (d:=d) (x:=(x:Int)) (late:=D.par.late) hd r k;have aN:=fun(r k:Nat) (hr:r<D.par.late.length)=>(show(SI (Ah l) d (x:Int) D.par.late r k).1.length<=20000 from by have:=aB r k;omega);clear hK;obtain⟨FI,a9⟩:=eX (Ah l);rw[<-a9]at aB aN|-;simp only[<-a9]at J;have a4:=Hd J;have cN:=Hd FD;obtain⟨n,hn⟩:=eX (2^d);rw[<-hn];have HN:=Hd hn;have a0:=fun(y:Int) (W:World)=>Ob y (n:Int) W (by omega) (by omega);obtain⟨a,cp,rfl,-,-⟩:=h.sl;obtain⟨kd,bH⟩:=eX D.kind;obtain⟨L,hL⟩:=eX D.par.late;rw[<-hL]at aC A aB aN|-;rw[<-bH]at G cA;have cO:=Hd bH;have bT:=Hd hL;have cX:=Hd A;have a7:=Hd a0;have cY:=Hd UN;have b1:=Hd UL;have b0:=Hd aB;have dG:=Hd aN;have cP:=Hd aC;have dM:((kd:Int)==0)=false:=(by rw[qN];omega);clear J FD c4 c5 a0 UN UL aB aN a9 hn bH hL A aC hF h cA;go_in;go_wp2_with fail;refine(cN.out w bR).mono ?_;rintro e w2 ⟨c,rfl,bI,b4⟩;have Y:=Hd bI.oneL;obtain⟨x1,x2,x3,x4,x5,x6,x7,x8,b3,e3,rfl,aQ⟩:=bI.frame;have aD:(some D).getD Am=D:=rfl;rw[aD,<-cO.out,<-bT.out]at Y|-;rw[aD,<-bT.out]at aQ;obtain⟨l8,aO⟩:=eX L.length;rw[<-aO]at Y aQ|-;have E:=Hd b4;have bY:=Hd aQ;have aL:=Hd aO;have dJ:l8<=1000:=(by rw[aO];exact cP.out);clear bI b4 aD aQ aO;obtain⟨q,hq⟩:=eX w2.heap.size;have HQ:=Hd hq;have cW:=Hd (show Blk (w2.alloc (rJ #[rD rG 0,rC rI 0 0,rC rI 0 0,rC rI 0 0,rD rG 0,rC rI 0 0,rC rI 0 0,rC rI 0 0,rC rI 0 0,rC rI 0 0] 52)) q 52 #[rD rG 0,rC rI 0 0,rC rI 0 0,rC rI 0 0,rD rG 0,rC rI 0 0,rC rI 0 0,rC rI 0 0,rC rI 0 0,rC rI 0 0] by rw[hq];exact Blk.new _ _ _);clear hq;go_wp2_with (refine Aa rfl 52 (.tmp 8) (.tmp 27) rfl w2.heap.size #[rD rG (kd:Nat),x1,x2,x3,x4,x5,x6,x7,x8,rC b3 l8 e3] rfl rfl 52 #[rD rG 0,rC rI 0 0,rC rI 0 0,rC rI 0 0,rD rG 0,rC rI 0 0,rC rI 0 0,rC rI 0 0,rC rI 0 0,rC rI 0 0] (HQ.out▸cW.out) (by kernel_rfl) rfl Y.out ?_);rintro w3 f F aG j;rw[<-HQ.out]at f|-;have a3:=Hd ((E.out.alloc E.out.size (rJ #[rD rG 0,rC rI 0 0,rC rI 0 0,rC rI 0 0,rD rG 0,rC rI 0 0,rC rI 0 0,rC rI 0 0,rC rI 0 0,rC rI 0 0] 52)).trans (F w.heap.size E.out.size));have s:=Hd (show w3.heap.size=q+1 from by rw[j];simp[HQ.out]);have cK:=Hd f;have bZ:=Hd (bY.out.below (((Below.refl w2.heap.size w2).alloc lR (rJ #[rD rG 0,rC rI 0 0,rC rI 0 0,rC rI 0 0,rD rG 0,rC rI 0 0,rC rI 0 0,rC rI 0 0,rC rI 0 0,rC rI 0 0] 52)).trans (F w2.heap.size lR)) lR);have c0:=f.cell 0;have c9:=f.cell 9;simp only[cR,cS,aP]at c0 c9;have cE:q<w3.heap.size:=(by rw[j];simp[HQ.out]);clear f F aG j;go_wp2_with fail;have bU:=Hd (show Own (w3.alloc (rJ #[rD rF (x:Nat)] 3)) (q+1) 3 (rC (some ⟨w3.heap.size,0,rI⟩) 1 1) (ivs .i64 [(x:Int)])from Own.full (B:=q+1) (cs:=#[rD rF (x:Nat)]) rfl (by rw[s.out];exact lR) (by unfold maxLen;simp) rfl);have aV:=Hd (show Below (q+1) w3 (w3.alloc (rJ #[rD rF (x:Nat)] 3))from bR.alloc (by rw[s.out];exact lR) _);generalize hw4:w3.alloc (rJ #[rD rF (x:Nat)] 3)=w4 at bU aV|-;obtain⟨dP,cD⟩:=eX (Value.slice (some ⟨w3.heap.size,0,rI⟩) 1 1);clear hw4 c0 c9 cD cE
 go_loopg [9,10,17] l8 (fun q0 kv ov iv wr=>∃r:Nat,r+q0=l8/\iv=rD rF (r:Nat)/\kv=.bool (SW FI d x L r).2/\Own wr (q+1) 3 ov (ivs .i64 (SW FI d x L r).1)/\Below (q+1) w3 wr)
 case atStart=>exact⟨0,by omega,rfl,rfl,bU.out,aV.out⟩
 case round=>
  obtain⟨r,hr,rfl,rfl,z,hb⟩:=hrel;have HR:=Hd hr;have HO:=Hd z;have HB:=Hd hb;have bP:=Hd (cK.out.below hb (dU _));have c9:=bP.out.cell 9;simp only[cR,cS,aP]at c9;have S:=Hd (a3.out.trans (hb.mono (by have:=E.out.size;have:=HQ.out;omega)));clear hr z hb
  by_cases hlt:r<l8
  ·have cC:decide (r<l8)=true:=dT hlt;have dK:(r:Int)<(l8:Int):=(by omega);obtain⟨bl,ol,rfl,F,cu⟩:=(bZ.out.below HB.out (by rw[s.out];exact lR)).at3 (By (show r<L.length by rw[<-aL.out];exact hlt));have A:=cX.out (L.getD r 0) (by rw[aS,bB (show r<L.length by rw[<-aL.out];exact hlt)];exact bC _);obtain⟨u,hu⟩:=eX (L.getD r 0);rw[<-hu]at cu A;have HU:=Hd hu;obtain⟨dN,dO⟩:=A;have hw:wrap64 (2*u)=2*u:=(by unfold wrap64;omega);obtain⟨g1,rfl⟩:=eX gk;obtain⟨O,rfl⟩:∃O:World,O=wr:=⟨_,rfl⟩;obtain⟨cI,i⟩:=eX ((SW FI d x L r).2);rw[<-i];have X:=Hd i;obtain⟨p1,p2,p3,rfl⟩:=Cx HO.out;clear hu i;go_wp2_with fail;have cU:=Hd (a7.out (2*u) (O.alloc (rJ #[rD rF (2*u)] 3)));have cT:=Hd (show Own (O.alloc (rJ #[rD rF (2*u)] 3)) O.heap.size 3 (rC (some ⟨O.heap.size,0,rI⟩) 1 1) [rD rF (2*u)]from Own.full (B:=O.heap.size) (cs:=#[rD rF (2*u)]) rfl lR (by unfold maxLen;simp) rfl);have bK:=Hd ((Below.refl O.heap.size O).alloc lR (rJ #[rD rF (2*u)] 3));refine cU.out.mono ?_;rintro e w5 ⟨pv,rfl,bJ,bA⟩;have cV:=Hd bJ.rd;have bV:=Hd (cT.out.below bA lR);have bL:=Hd (bK.out.trans (bA.mono bK.out.size));obtain⟨s1,s2,s3,rfl⟩:=Cx bJ;clear bJ bA;go_wp2_with (at_builtin;refine Ak rfl (.tmp 85) (.tmp 88) 48 rfl O.heap.size 3 _ 8 Cg _ [rD rF (2*u)] rfl bV.out _ _ rfl cV.out ?d1 ?d2 ?d3 ?_);case d1=>exact Ea _
   case d2=>have:=b1.out u;rw[upL,dB,gH,<-HN.out]at this;rw[Ld];simp;omega
   case d3=>exact bL.out.size
   rintro uv w6 I-b5;have t:=Hd (show Own w6 O.heap.size 3 uv (ivs .i64 (upL d u))from by
    have e:Value.int .i64 (2*u)::nvs (Pg (2*u) ((2^d:Nat):Int))=ivs .i64 (upL d u):=(by simp[upL,nvs,ivs]);rw[HN.out,e]at I;exact I)
   have bM:=Hd (bL.out.trans b5);have cQ:=Hd (HO.out.below bM.out lR);have C:=Hd (show Ha (rC p1 p2 p3) uv from fun g e1 e2=>by have:=(HO.out.blockLt e1).1;have:=(t.out.blockLt e2).2;omega);have bN:=Hd (HB.out.trans (bM.out.mono (show q+1<=O.heap.size by have:=HB.out.size;have:=s.out;omega)));clear I b5;obtain⟨ul,aR⟩:=eX ((upL d u).length);have N:=Hd aR;have c8:ul<=17:=(by rw[aR];exact b1.out u);obtain⟨v1,v2,rfl⟩:=Qi t.out aR.symm;clear aR;go_wp2_with fail
   go_loopg [9,10,20] ul (fun q0 kv ov iv wr=>∃k:Nat,k+q0=ul/\iv=rD rF (k:Nat)/\kv=.bool (SI FI d x L r k).2/\Own wr (q+1) 3 ov (ivs .i64 (SI FI d x L r k).1)/\Own wr O.heap.size 3 (rC v1 ul v2) (ivs .i64 (upL d u))/\Ha ov (rC v1 ul v2)/\Below (q+1) w3 wr)
   case atStart=>exact⟨0,by omega,rfl,by rw[Sg,X.out],by rw[Sg];exact cQ.out,t.out,C.out,bN.out⟩
   case round=>
    obtain⟨k,hk,rfl,rfl,z,cG,b2,hb⟩:=hrel;have V:=Hd hk;have HO:=Hd z;have t:=Hd cG;have C:=Hd b2;have HB:=Hd hb;have S:=Hd (a3.out.trans (hb.mono (by have:=E.out.size;have:=HQ.out;omega)));have cF:q+1<=wr.heap.size:=(by have:=hb.size;have:=s.out;omega);have dA:w.heap.size<=wr.heap.size:=S.out.size;have bX:=Hd cF;obtain⟨cJ,aF⟩:=eX ((SI FI d x L r k).2);rw[<-aF];have o:=Hd aF;clear hk z cG b2 hb aF cF dA
    by_cases hku:k<ul
    ·have cB:decide (k<ul)=true:=dT hku;have dI:(k:Int)<(ul:Int):=(by omega);obtain⟨bu,ou,rfl,bE,cy⟩:=t.out.rd.at3 (By (show k<(upL d u).length by rw[<-N.out];exact hku));have P:=Hd (Zd6 (FI:=FI) (d:=d) (x:=x) (late:=L) (r:=r) (k:=k) (by rw[<-HU.out,<-N.out];exact hku));rw[<-HU.out]at P;obtain⟨y,hy⟩:=eX ((upL d u).getD k 0);rw[<-hy]at cy P;have cZ:=Hd hy;clear hy;obtain⟨p1,p2,p3,rfl⟩:=Cx HO.out
     by_cases c1:y=x
     ·have c7:(y !=x)=false:=(by simp[c1]);have R:=Hd (show SI FI d x L r (k+1)=SI FI d x L r k from by rw[P.out];exact Ln fun h=>h.1 c1);clear c1;go_wp2_with fail;go_roundg (gk-1);case measure=>have:=V.out;omega
      case rel=>exact⟨k+1,by have:=V.out;omega,by go_num,by rw[R.out,o.out],by rw[R.out];exact HO.out,t.out,C.out,HB.out⟩
     ·have c7:(y !=x)=true:=(by simp[c1]);have cL:=Hd c1;clear c1;have UN:=cY.out y wr;obtain⟨bb,bD⟩:=eX (Bv y x);rw[<-bD]at UN;have aZ:=Hd UN;have T:=Hd bD;clear UN bD;cases bb with
      |false=>
       have R:=Hd (show SI FI d x L r (k+1)=SI FI d x L r k from by rw[P.out];exact Ln fun h=>by rw[<-T.out]at h;cases h.2.1);clear T;go_wp2_with fail;refine aZ.out.mono ?_;rintro e w7 ⟨rfl,b⟩;have aJ:=Hd b;clear b;go_wp2_with fail;go_roundg (gk-1);case measure=>have:=V.out;omega
       case rel=>exact⟨k+1,by have:=V.out;omega,by go_num,by rw[R.out,o.out],by rw[R.out];exact HO.out.below aJ.out lR,t.out.below aJ.out lR,C.out,HB.out.trans (aJ.out.mono bX.out)⟩
      |true=>
       go_wp2_with fail;refine aZ.out.mono ?_;rintro e w7 ⟨rfl,b⟩;have aJ:=Hd b;have a5:=Hd (HO.out.below b lR);have Z:=Hd (t.out.below b lR);have K:=Hd (HB.out.trans (b.mono bX.out));have dD:=Hd (S.out.trans (b.mono S.out.size));have c6:=(b.cell (p:=⟨bu,ou+k,rI⟩) bE).trans cy;have dE:=Hd (show bu<w7.heap.size from cH bE b.size);have HA:=Bx _ (SI FI d x L r k).1 y w7 a5.out.rd;obtain⟨hh,bG⟩:=eX (decide (y∈(SI FI d x L r k).1));rw[<-bG]at HA;have aX:=Hd HA;have aK:=Hd bG;clear HA bG b cy bE;cases hh with
       |true=>
        have R:=Hd (show SI FI d x L r (k+1)=SI FI d x L r k from by rw[P.out];exact Ln fun h=>absurd (oD aK.out.symm) h.2.2);clear aK T;go_wp2_with fail;refine aX.out.mono ?_;rintro e w8 ⟨rfl,rfl⟩;go_wp2_with fail;go_roundg (gk-1);case measure=>have:=V.out;omega
        case rel=>exact⟨k+1,by have:=V.out;omega,by go_num,by rw[R.out,o.out],by rw[R.out];exact a5.out,Z.out,C.out,K.out⟩
       |false=>
        have R:=Hd (show SI FI d x L r (k+1)=((SI FI d x L r k).1++[y],(SI FI d x L r k).2&&(FI y).isSome)from by rw[P.out];exact Za cL.out T.out.symm (of_decide_eq_false aK.out.symm));clear aK T;go_wp2_with fail;refine aX.out.mono ?_;rintro e w8 ⟨rfl,rfl⟩;go_wp2_with (at_builtin;refine Ct rfl (.tmp 119) (.tmp 124) 48 rfl (q+1) 3 _ 8 Cg _ _ rfl (a5.out.alloc _) _ (rD rF y) rfl ?c1 rfl ?c2 ?c3 ?_);case c1=>exact Aq rfl
        case c2=>have:=b0.out r k;simp[ivs];omega
        case c3=>have:=K.out.size;have:=s.out;simp;omega
        rintro dQ w9 aH b8 b6 aE;have a6:=Hd aH;have aA:=Hd (show Own w9 O.heap.size 3 _ _ from(Z.out.alloc (rJ #[rD rF y] 3)).grown b8 fun g e1 e2=>C.out g e2 e1);have aT:=Hd (Ga aE C.out (Z.out.alloc (rJ #[rD rF y] 3)));have M:=Hd ((K.out.alloc (by have:=K.out.size;have:=s.out;omega) (rJ #[rD rF y] 3)).trans b6);have bO:=Hd (a3.out.trans (M.out.mono (by have:=E.out.size;have:=HQ.out;omega)));obtain⟨b9,o9,e9,b7,a2⟩:=aA.out.rd.at3 (By (show k<(upL d u).length by rw[<-N.out];exact hku));cases e9;have dH:w9.cell? ⟨bu,ou+k,rI⟩=some (rD rF y):=a2.trans (by rw[cZ.out]);have cM:=Hd (a4.out y w9 bO.out);clear aH b8 b6 aE c6 b7 a2;obtain⟨o1,o2,o3,rfl⟩:=Cx a6.out;go_wp2_with fail;refine cM.out.mono ?_;rintro e Q ⟨dL,rfl,H,a1⟩;obtain⟨fk,bF⟩:=eX ((FI y).isSome);rw[<-bF];have bS:=Hd bF;have aM:=Hd H.oneL;obtain⟨y0,y1,y2,y3,y4,y5,y6,y7,y8,y9,rfl⟩:=H.ten;have aU:=Hd a1;clear H a1 bF;obtain⟨dC,aI⟩:=eX Q.heap.size;have bW:=Hd aI;have a8:=Hd (show Blk (Q.alloc (rJ #[rD rG 0,rC rI 0 0,rC rI 0 0,rC rI 0 0,rD rG 0,rC rI 0 0,rC rI 0 0,rC rI 0 0,rC rI 0 0,rC rI 0 0] 52)) dC 52 #[rD rG 0,rC rI 0 0,rC rI 0 0,rC rI 0 0,rD rG 0,rC rI 0 0,rC rI 0 0,rC rI 0 0,rC rI 0 0,rC rI 0 0] by rw[aI];exact Blk.new _ _ _);clear aI;go_wp2_with (refine Aa rfl 52 (.tmp 21) (.tmp 133) rfl Q.heap.size #[y0,y1,y2,y3,y4,y5,y6,y7,y8,y9] rfl rfl 52 #[rD rG 0,rC rI 0 0,rC rI 0 0,rC rI 0 0,rD rG 0,rC rI 0 0,rC rI 0 0,rC rI 0 0,rC rI 0 0,rC rI 0 0] (bW.out▸a8.out) (by kernel_rfl) rfl aM.out ?_);rintro dR f F aG j;have m:=Hd (aU.out.trans (((Below.refl Q.heap.size Q).alloc lR (rJ #[rD rG 0,rC rI 0 0,rC rI 0 0,rC rI 0 0,rD rG 0,rC rI 0 0,rC rI 0 0,rC rI 0 0,rC rI 0 0,rC rI 0 0] 52)).trans (F Q.heap.size lR)|>.mono aU.out.size));clear f F aG j;have aW:=Hd (show(SI FI d x L r (k+1)).2=(cJ&&fk)from by rw[R.out,o.out,bS.out]);have U:=Hd (show(SI FI d x L r (k+1)).1=(SI FI d x L r k).1++[y]from by rw[R.out]);have aY:=Hd (show q+1<=w9.heap.size from by have:=M.out.size;have:=s.out;omega);clear bS o R;cases cJ with
        |true=>
         go_wp2_with fail;go_roundg (gk-1);case measure=>have:=V.out;omega
         case rel=>
          refine⟨k+1,by have:=V.out;omega,by go_num,by rw[aW.out,Bool.true_and],?_,aA.out.below m.out lR,aT.out,M.out.trans (m.out.mono aY.out)⟩;have:=a6.out.below m.out lR;rw[U.out];simpa [ivs]using this
        |false=>
         go_wp2_with fail;go_roundg (gk-1);case measure=>have:=V.out;omega
         case rel=>
          refine⟨k+1,by have:=V.out;omega,by go_num,by rw[aW.out,Bool.false_and],?_,aA.out.below m.out lR,aT.out,M.out.trans (m.out.mono aY.out)⟩;have:=a6.out.below m.out lR;rw[U.out];simpa [ivs]using this
    ·obtain rfl:k=ul:=(by have:=V.out;omega);have cB:decide (k<k)=false:=dF hku;have HE:=Hd (show SI FI d x L r k=SW FI d x L (r+1)from by
      rw[N.out,HU.out];exact Zjm (by rw[<-aL.out];exact hlt))
     clear hku;go_wp2_with fail;go_roundg (g1-1);case measure=>have:=HR.out;omega
     case rel=>exact⟨r+1,by have:=HR.out;omega,by go_num,by rw[<-HE.out,o.out],by rw[<-HE.out];exact HO.out,HB.out⟩
  ·obtain rfl:r=l8:=(by have:=HR.out;omega);have cC:decide (r<r)=false:=dF hlt;have HE:=Hd (show SW FI d x L r=Hr FI d x L from by rw[aL.out];exact Zd7);obtain⟨cI,i⟩:=eX ((SW FI d x L r).2);rw[<-i];have X:=Hd i;clear hlt i;go_wp2_with fail;go_ret2;obtain rfl:cI=(Hr FI d x L).2:=(by rw[X.out,HE.out]);refine⟨_,rfl,?_,S.out⟩;rw[<-HE.out];exact HO.out.mono (by have:=E.out.size;have:=HQ.out;omega)
theorem Ws (l:List (Int×NodeD))(d x:Nat)(v:Value)(w:World)(hd:d<=16)(h:SpotsR w v l)(hK:Lz l)(D:NodeD)(hF:Ah l (x:Int)=some D)(hx:x<=131070)(aO:D.kind=0/\x%2=0):
  Calls prog 137 #[v,rD rF (x:Nat),rD rF ((2^d:Nat):Int)] w fun e w'=>∃vo,e=rK (.tuple #[vo,.bool (Hr (Ah l) d x D.par.late).2])/\Own w' w.heap.size 3 vo (ivs .i64 (Hr (Ah l) d x D.par.late).1)/\Below w.heap.size w w':=by
 obtain⟨G,aC,A⟩:=hK _ (Cd hF);have G:D.kind<256:=G;have aC:D.par.late.length<=1000:=aC;have A:∀u∈D.par.late,0<=u/\u<65536:=A;have J:=fun(y:Int) (W:World) (hw:Below w.heap.size w W)=>Dm v l y W (h.below hw lR);have FD:=fun(W:World) (hw:Below w.heap.size w W)=>J x W hw;rw[hF]at FD;have c5:(2^d:Nat)<=2^16:=bQ (by omega) hd;have c4:(2:Nat)^16=65536:=rfl;have UN:=fun(y:Int) (W:World)=>If y (x:Int) W;have UL:=fun(u:Int)=>Jm hd u;have aB:=fun(r k:Nat)=>Zjo (FI:=Ah l) (d:=d) (x:=(x:Int)) (late:=D.par.late) hd r k;have aN:=fun(r k:Nat) (hr:r<D.par.late.length)=>(show(SI (Ah l) d (x:Int) D.par.late r k).1.length<=20000 from by have:=aB r k;omega);clear hK;obtain⟨FI,bA⟩:=eX (Ah l);rw[<-bA]at aB aN|-;simp only[<-bA]at J;have a5:=Hd J;have cN:=Hd FD;obtain⟨n,hn⟩:=eX (2^d);rw[<-hn];have HN:=Hd hn;have a1:=fun(y:Int) (W:World)=>Ob y (n:Int) W (by omega) (by omega);obtain⟨a,cp,rfl,-,-⟩:=h.sl;obtain⟨kd,bJ⟩:=eX D.kind;obtain⟨L,hL⟩:=eX D.par.late;rw[<-hL]at aC A aB aN|-;rw[<-bJ]at G aO;have cO:=Hd bJ;have bV:=Hd hL;have cX:=Hd A;have a8:=Hd a1;have cY:=Hd UN;have b4:=Hd UL;have b2:=Hd aB;have dI:=Hd aN;have cP:=Hd aC;have c7:=aO.1;have c8:=aO.2;have dO:((kd:Int)==0)=true:=(by rw[beq_iff_eq];omega);have dP:(((x:Nat):Int)%2==1)=false:=(by rw[qN];omega);have bD:(eC (x:Int) 2==1)=false:=(by rw[eD (by omega),qN];omega);clear J FD c4 c5 a1 UN UL aB aN bA hn bJ hL A aC hF h aO c7 c8;go_in;go_wp2_with fail;refine(cN.out w bR).mono ?_;rintro e w2 ⟨c,rfl,bK,bD⟩;have Y:=Hd bK.oneL;obtain⟨x1,x2,x3,x4,x5,x6,x7,x8,b3,e3,rfl,aR⟩:=bK.frame;have aD:(some D).getD Am=D:=rfl;rw[aD,<-cO.out,<-bV.out]at Y|-;rw[aD,<-bV.out]at aR;obtain⟨l8,aQ⟩:=eX L.length;rw[<-aQ]at Y aR|-;have E:=Hd bD;have b0:=Hd aR;have aL:=Hd aQ;have dL:l8<=1000:=(by rw[aQ];exact cP.out);clear bK bD aD aR aQ;obtain⟨q,hq⟩:=eX w2.heap.size;have HQ:=Hd hq;have cW:=Hd (show Blk (w2.alloc (rJ #[rD rG 0,rC rI 0 0,rC rI 0 0,rC rI 0 0,rD rG 0,rC rI 0 0,rC rI 0 0,rC rI 0 0,rC rI 0 0,rC rI 0 0] 52)) q 52 #[rD rG 0,rC rI 0 0,rC rI 0 0,rC rI 0 0,rD rG 0,rC rI 0 0,rC rI 0 0,rC rI 0 0,rC rI 0 0,rC rI 0 0] by rw[hq];exact Blk.new _ _ _);clear hq;go_wp2_with (refine Aa rfl 52 (.tmp 8) (.tmp 27) rfl w2.heap.size #[rD rG (kd:Nat),x1,x2,x3,x4,x5,x6,x7,x8,rC b3 l8 e3] rfl rfl 52 #[rD rG 0,rC rI 0 0,rC rI 0 0,rC rI 0 0,rD rG 0,rC rI 0 0,rC rI 0 0,rC rI 0 0,rC rI 0 0,rC rI 0 0] (HQ.out▸cW.out) (by kernel_rfl) rfl Y.out ?_);rintro w3 f F aG j;rw[<-HQ.out]at f|-;have a4:=Hd ((E.out.alloc E.out.size (rJ #[rD rG 0,rC rI 0 0,rC rI 0 0,rC rI 0 0,rD rG 0,rC rI 0 0,rC rI 0 0,rC rI 0 0,rC rI 0 0,rC rI 0 0] 52)).trans (F w.heap.size E.out.size));have s:=Hd (show w3.heap.size=q+1 from by rw[j];simp[HQ.out]);have cK:=Hd f;have b1:=Hd (b0.out.below (((Below.refl w2.heap.size w2).alloc lR (rJ #[rD rG 0,rC rI 0 0,rC rI 0 0,rC rI 0 0,rD rG 0,rC rI 0 0,rC rI 0 0,rC rI 0 0,rC rI 0 0,rC rI 0 0] 52)).trans (F w2.heap.size lR)) lR);have c0:=f.cell 0;have c9:=f.cell 9;simp only[cR,cS,aP]at c0 c9;have cE:q<w3.heap.size:=(by rw[j];simp[HQ.out]);clear f F aG j;go_wp2_with fail;have bW:=Hd (show Own (w3.alloc (rJ #[rD rF (x:Nat)] 3)) (q+1) 3 (rC (some ⟨w3.heap.size,0,rI⟩) 1 1) (ivs .i64 [(x:Int)])from Own.full (B:=q+1) (cs:=#[rD rF (x:Nat)]) rfl (by rw[s.out];exact lR) (by unfold maxLen;simp) rfl);have aW:=Hd (show Below (q+1) w3 (w3.alloc (rJ #[rD rF (x:Nat)] 3))from bR.alloc (by rw[s.out];exact lR) _);generalize hw4:w3.alloc (rJ #[rD rF (x:Nat)] 3)=w4 at bW aW|-;obtain⟨dS,cD⟩:=eX (Value.slice (some ⟨w3.heap.size,0,rI⟩) 1 1);clear hw4 c0 c9 cD cE
 go_loopg [9,10,17] l8 (fun q0 kv ov iv wr=>∃r:Nat,r+q0=l8/\iv=rD rF (r:Nat)/\kv=.bool (SW FI d x L r).2/\Own wr (q+1) 3 ov (ivs .i64 (SW FI d x L r).1)/\Below (q+1) w3 wr)
 case atStart=>exact⟨0,by omega,rfl,rfl,bW.out,aW.out⟩
 case round=>
  obtain⟨r,hr,rfl,rfl,z,hb⟩:=hrel;have HR:=Hd hr;have HO:=Hd z;have HB:=Hd hb;have bT:=Hd (cK.out.below hb (dU _));have c9:=bT.out.cell 9;simp only[cR,cS,aP]at c9;have S:=Hd (a4.out.trans (hb.mono (by have:=E.out.size;have:=HQ.out;omega)));clear hr z hb
  by_cases hlt:r<l8
  ·have cC:decide (r<l8)=true:=dT hlt;have dM:(r:Int)<(l8:Int):=(by omega);obtain⟨bl,ol,rfl,F,cu⟩:=(b1.out.below HB.out (by rw[s.out];exact lR)).at3 (By (show r<L.length by rw[<-aL.out];exact hlt));have A:=cX.out (L.getD r 0) (by rw[aS,bB (show r<L.length by rw[<-aL.out];exact hlt)];exact bC _);obtain⟨u,hu⟩:=eX (L.getD r 0);rw[<-hu]at cu A;have HU:=Hd hu;obtain⟨dQ,dR⟩:=A;have hw:wrap64 (2*u)=2*u:=(by unfold wrap64;omega);obtain⟨g1,rfl⟩:=eX gk;obtain⟨O,rfl⟩:∃O:World,O=wr:=⟨_,rfl⟩;obtain⟨cI,i⟩:=eX ((SW FI d x L r).2);rw[<-i];have X:=Hd i;obtain⟨p1,p2,p3,rfl⟩:=Cx HO.out;clear hu i;go_wp2_with fail;have cU:=Hd (a8.out (2*u) (O.alloc (rJ #[rD rF (2*u)] 3)));have cT:=Hd (show Own (O.alloc (rJ #[rD rF (2*u)] 3)) O.heap.size 3 (rC (some ⟨O.heap.size,0,rI⟩) 1 1) [rD rF (2*u)]from Own.full (B:=O.heap.size) (cs:=#[rD rF (2*u)]) rfl lR (by unfold maxLen;simp) rfl);have bM:=Hd ((Below.refl O.heap.size O).alloc lR (rJ #[rD rF (2*u)] 3));refine cU.out.mono ?_;rintro e w5 ⟨pv,rfl,bL,bE⟩;have cV:=Hd bL.rd;have bX:=Hd (cT.out.below bE lR);have bN:=Hd (bM.out.trans (bE.mono bM.out.size));obtain⟨s1,s2,s3,rfl⟩:=Cx bL;clear bL bE;go_wp2_with (at_builtin;refine Ak rfl (.tmp 85) (.tmp 88) 48 rfl O.heap.size 3 _ 8 Cg _ [rD rF (2*u)] rfl bX.out _ _ rfl cV.out ?d1 ?d2 ?d3 ?_);case d1=>exact Ea _
   case d2=>have:=b4.out u;rw[upL,dB,gH,<-HN.out]at this;rw[Ld];simp;omega
   case d3=>exact bN.out.size
   rintro uv w6 I-b6;have t:=Hd (show Own w6 O.heap.size 3 uv (ivs .i64 (upL d u))from by
    have e:Value.int .i64 (2*u)::nvs (Pg (2*u) ((2^d:Nat):Int))=ivs .i64 (upL d u):=(by simp[upL,nvs,ivs]);rw[HN.out,e]at I;exact I)
   have bO:=Hd (bN.out.trans b6);have cQ:=Hd (HO.out.below bO.out lR);have C:=Hd (show Ha (rC p1 p2 p3) uv from fun g e1 e2=>by have:=(HO.out.blockLt e1).1;have:=(t.out.blockLt e2).2;omega);have bP:=Hd (HB.out.trans (bO.out.mono (show q+1<=O.heap.size by have:=HB.out.size;have:=s.out;omega)));clear I b6;obtain⟨ul,aT⟩:=eX ((upL d u).length);have N:=Hd aT;have dC:ul<=17:=(by rw[aT];exact b4.out u);obtain⟨v1,v2,rfl⟩:=Qi t.out aT.symm;clear aT;go_wp2_with fail
   go_loopg [9,10,20] ul (fun q0 kv ov iv wr=>∃k:Nat,k+q0=ul/\iv=rD rF (k:Nat)/\kv=.bool (SI FI d x L r k).2/\Own wr (q+1) 3 ov (ivs .i64 (SI FI d x L r k).1)/\Own wr O.heap.size 3 (rC v1 ul v2) (ivs .i64 (upL d u))/\Ha ov (rC v1 ul v2)/\Below (q+1) w3 wr)
   case atStart=>exact⟨0,by omega,rfl,by rw[Sg,X.out],by rw[Sg];exact cQ.out,t.out,C.out,bP.out⟩
   case round=>
    obtain⟨k,hk,rfl,rfl,z,cG,b5,hb⟩:=hrel;have V:=Hd hk;have HO:=Hd z;have t:=Hd cG;have C:=Hd b5;have HB:=Hd hb;have S:=Hd (a4.out.trans (hb.mono (by have:=E.out.size;have:=HQ.out;omega)));have cF:q+1<=wr.heap.size:=(by have:=hb.size;have:=s.out;omega);have dD:w.heap.size<=wr.heap.size:=S.out.size;have bZ:=Hd cF;obtain⟨cJ,aF⟩:=eX ((SI FI d x L r k).2);rw[<-aF];have o:=Hd aF;clear hk z cG b5 hb aF cF dD
    by_cases hku:k<ul
    ·have cB:decide (k<ul)=true:=dT hku;have dK:(k:Int)<(ul:Int):=(by omega);obtain⟨bu,ou,rfl,bG,cy⟩:=t.out.rd.at3 (By (show k<(upL d u).length by rw[<-N.out];exact hku));have P:=Hd (Zd6 (FI:=FI) (d:=d) (x:=x) (late:=L) (r:=r) (k:=k) (by rw[<-HU.out,<-N.out];exact hku));rw[<-HU.out]at P;obtain⟨y,hy⟩:=eX ((upL d u).getD k 0);rw[<-hy]at cy P;have cZ:=Hd hy;clear hy;obtain⟨p1,p2,p3,rfl⟩:=Cx HO.out
     by_cases c1:y=x
     ·have dA:(y !=x)=false:=(by simp[c1]);have R:=Hd (show SI FI d x L r (k+1)=SI FI d x L r k from by rw[P.out];exact Ln fun h=>h.1 c1);clear c1;go_wp2_with fail;go_roundg (gk-1);case measure=>have:=V.out;omega
      case rel=>exact⟨k+1,by have:=V.out;omega,by go_num,by rw[R.out,o.out],by rw[R.out];exact HO.out,t.out,C.out,HB.out⟩
     ·have dA:(y !=x)=true:=(by simp[c1]);have cL:=Hd c1;clear c1;have UN:=cY.out y wr;obtain⟨bb,bF⟩:=eX (Bv y x);rw[<-bF]at UN;have a0:=Hd UN;have T:=Hd bF;clear UN bF;cases bb with
      |false=>
       have R:=Hd (show SI FI d x L r (k+1)=SI FI d x L r k from by rw[P.out];exact Ln fun h=>by rw[<-T.out]at h;cases h.2.1);clear T;go_wp2_with fail;refine a0.out.mono ?_;rintro e w7 ⟨rfl,b⟩;have aJ:=Hd b;clear b;go_wp2_with fail;go_roundg (gk-1);case measure=>have:=V.out;omega
       case rel=>exact⟨k+1,by have:=V.out;omega,by go_num,by rw[R.out,o.out],by rw[R.out];exact HO.out.below aJ.out lR,t.out.below aJ.out lR,C.out,HB.out.trans (aJ.out.mono bZ.out)⟩
      |true=>
       go_wp2_with fail;refine a0.out.mono ?_;rintro e w7 ⟨rfl,b⟩;have aJ:=Hd b;have a6:=Hd (HO.out.below b lR);have Z:=Hd (t.out.below b lR);have K:=Hd (HB.out.trans (b.mono bZ.out));have dG:=Hd (S.out.trans (b.mono S.out.size));have c6:=(b.cell (p:=⟨bu,ou+k,rI⟩) bG).trans cy;have dH:=Hd (show bu<w7.heap.size from cH bG b.size);have HA:=Bx _ (SI FI d x L r k).1 y w7 a6.out.rd;obtain⟨hh,bI⟩:=eX (decide (y∈(SI FI d x L r k).1));rw[<-bI]at HA;have aY:=Hd HA;have aK:=Hd bI;clear HA bI b cy bG;cases hh with
       |true=>
        have R:=Hd (show SI FI d x L r (k+1)=SI FI d x L r k from by rw[P.out];exact Ln fun h=>absurd (oD aK.out.symm) h.2.2);clear aK T;go_wp2_with fail;refine aY.out.mono ?_;rintro e w8 ⟨rfl,rfl⟩;go_wp2_with fail;go_roundg (gk-1);case measure=>have:=V.out;omega
        case rel=>exact⟨k+1,by have:=V.out;omega,by go_num,by rw[R.out,o.out],by rw[R.out];exact a6.out,Z.out,C.out,K.out⟩
       |false=>
        have R:=Hd (show SI FI d x L r (k+1)=((SI FI d x L r k).1++[y],(SI FI d x L r k).2&&(FI y).isSome)from by rw[P.out];exact Za cL.out T.out.symm (of_decide_eq_false aK.out.symm));clear aK T;go_wp2_with fail;refine aY.out.mono ?_;rintro e w8 ⟨rfl,rfl⟩;go_wp2_with (at_builtin;refine Ct rfl (.tmp 119) (.tmp 124) 48 rfl (q+1) 3 _ 8 Cg _ _ rfl (a6.out.alloc _) _ (rD rF y) rfl ?c1 rfl ?c2 ?c3 ?_);case c1=>exact Aq rfl
        case c2=>have:=b2.out r k;simp[ivs];omega
        case c3=>have:=K.out.size;have:=s.out;simp;omega
        rintro dV w9 aH cA b7 aE;have a7:=Hd aH;have aA:=Hd (show Own w9 O.heap.size 3 _ _ from(Z.out.alloc (rJ #[rD rF y] 3)).grown cA fun g e1 e2=>C.out g e2 e1);have aU:=Hd (Ga aE C.out (Z.out.alloc (rJ #[rD rF y] 3)));have M:=Hd ((K.out.alloc (by have:=K.out.size;have:=s.out;omega) (rJ #[rD rF y] 3)).trans b7);have bS:=Hd (a4.out.trans (M.out.mono (by have:=E.out.size;have:=HQ.out;omega)));obtain⟨b9,o9,e9,b8,a3⟩:=aA.out.rd.at3 (By (show k<(upL d u).length by rw[<-N.out];exact hku));cases e9;have dJ:w9.cell? ⟨bu,ou+k,rI⟩=some (rD rF y):=a3.trans (by rw[cZ.out]);have cM:=Hd (a5.out y w9 bS.out);clear aH cA b7 aE c6 b8 a3;obtain⟨o1,o2,o3,rfl⟩:=Cx a7.out;go_wp2_with fail;refine cM.out.mono ?_;rintro e Q ⟨dN,rfl,H,a2⟩;obtain⟨fk,bH⟩:=eX ((FI y).isSome);rw[<-bH];have bU:=Hd bH;have aM:=Hd H.oneL;obtain⟨y0,y1,y2,y3,y4,y5,y6,y7,y8,y9,rfl⟩:=H.ten;have aV:=Hd a2;clear H a2 bH;obtain⟨dE,aI⟩:=eX Q.heap.size;have bY:=Hd aI;have a9:=Hd (show Blk (Q.alloc (rJ #[rD rG 0,rC rI 0 0,rC rI 0 0,rC rI 0 0,rD rG 0,rC rI 0 0,rC rI 0 0,rC rI 0 0,rC rI 0 0,rC rI 0 0] 52)) dE 52 #[rD rG 0,rC rI 0 0,rC rI 0 0,rC rI 0 0,rD rG 0,rC rI 0 0,rC rI 0 0,rC rI 0 0,rC rI 0 0,rC rI 0 0] by rw[aI];exact Blk.new _ _ _);clear aI;go_wp2_with (refine Aa rfl 52 (.tmp 21) (.tmp 133) rfl Q.heap.size #[y0,y1,y2,y3,y4,y5,y6,y7,y8,y9] rfl rfl 52 #[rD rG 0,rC rI 0 0,rC rI 0 0,rC rI 0 0,rD rG 0,rC rI 0 0,rC rI 0 0,rC rI 0 0,rC rI 0 0,rC rI 0 0] (bY.out▸a9.out) (by kernel_rfl) rfl aM.out ?_);rintro dW f F aG j;have m:=Hd (aV.out.trans (((Below.refl Q.heap.size Q).alloc lR (rJ #[rD rG 0,rC rI 0 0,rC rI 0 0,rC rI 0 0,rD rG 0,rC rI 0 0,rC rI 0 0,rC rI 0 0,rC rI 0 0,rC rI 0 0] 52)).trans (F Q.heap.size lR)|>.mono aV.out.size));clear f F aG j;have aX:=Hd (show(SI FI d x L r (k+1)).2=(cJ&&fk)from by rw[R.out,o.out,bU.out]);have U:=Hd (show(SI FI d x L r (k+1)).1=(SI FI d x L r k).1++[y]from by rw[R.out]);have aZ:=Hd (show q+1<=w9.heap.size from by have:=M.out.size;have:=s.out;omega);clear bU o R;cases cJ with
        |true=>
         go_wp2_with fail;go_roundg (gk-1);case measure=>have:=V.out;omega
         case rel=>
          refine⟨k+1,by have:=V.out;omega,by go_num,by rw[aX.out,Bool.true_and],?_,aA.out.below m.out lR,aU.out,M.out.trans (m.out.mono aZ.out)⟩;have:=a7.out.below m.out lR;rw[U.out];simpa [ivs]using this
        |false=>
         go_wp2_with fail;go_roundg (gk-1);case measure=>have:=V.out;omega
         case rel=>
          refine⟨k+1,by have:=V.out;omega,by go_num,by rw[aX.out,Bool.false_and],?_,aA.out.below m.out lR,aU.out,M.out.trans (m.out.mono aZ.out)⟩;have:=a7.out.below m.out lR;rw[U.out];simpa [ivs]using this
    ·obtain rfl:k=ul:=(by have:=V.out;omega);have cB:decide (k<k)=false:=dF hku;have HE:=Hd (show SI FI d x L r k=SW FI d x L (r+1)from by
      rw[N.out,HU.out];exact Zjm (by rw[<-aL.out];exact hlt))
     clear hku;go_wp2_with fail;go_roundg (g1-1);case measure=>have:=HR.out;omega
     case rel=>exact⟨r+1,by have:=HR.out;omega,by go_num,by rw[<-HE.out,o.out],by rw[<-HE.out];exact HO.out,HB.out⟩
  ·obtain rfl:r=l8:=(by have:=HR.out;omega);have cC:decide (r<r)=false:=dF hlt;have HE:=Hd (show SW FI d x L r=Hr FI d x L from by rw[aL.out];exact Zd7);obtain⟨cI,i⟩:=eX ((SW FI d x L r).2);rw[<-i];have X:=Hd i;clear hlt i;go_wp2_with fail;go_ret2;obtain rfl:cI=(Hr FI d x L).2:=(by rw[X.out,HE.out]);refine⟨_,rfl,?_,S.out⟩;rw[<-HE.out];exact HO.out.mono (by have:=E.out.size;have:=HQ.out;omega)
end
theorem Uq {FI:Int->Option NodeD} {d:Nat} {x:Int} {late:List Int}(hd:d<=16)(h:late.length<=1000):(Hr FI d x late).1.length<=17001:=by
 have:=Zjn (FI:=FI) (d:=d) (x:=x) (late:=late) hd late.length;rw[Zd7]at this;omega
theorem Im {l:List (Int×NodeD)} {d:Nat}(b:d<=16)(a:Lz l):∀k x,(Bb (Ah l) d k x).1.length+20000<=20000*2^(k+1):=by
 intro k
 induction k with
 |zero=>
  intro x;cases hF:Ah l (x:Int)with
  |none=>rw[Ey hF];simp
  |some D=>
   rw[Gx hF];have:=Uq (FI:=Ah l) (x:=(x:Int)) (late:=D.par.late) b (a _ (Cd hF)).2.1;have e:2^(0+1)=2:=rfl;omega
 |succ k ih=>
  intro x;have e:2^(k+1+1)=2*2^(k+1):=(by rw[Nat.pow_succ];omega);have c:=fD (k+1);cases hF:Ah l (x:Int)with
  |none=>rw[Ey hF];simp;omega
  |some D=>
   by_cases hk:D.kind=0
   ·rw[Hs hF hk];have h1:=ih (x-2^k);have h2:=ih (x+2^k);simp only[bA,dB,cO];omega
   ·rw[Jj hF hk];have:=Uq (FI:=Ah l) (x:=(x:Int)) (late:=D.par.late) b (a _ (Cd hF)).2.1;omega
theorem Zd8 (l:List (Int×NodeD))(d k x:Nat)(v:Value)(w:World)(hd:d<=16)(h:SpotsR w v l)(hK:Lz l)(D:NodeD)(hF:Ah l (x:Int)=some D)(aA:IsLev x (k+1))(hx:x+2^(k+1)<=2*2^d-1)(Z:D.kind=0)(IH:Zjp l d k):
  Calls prog 137 #[v,rD rF (x:Nat),rD rF ((2^d:Nat):Int)] w fun e w'=>∃vo,e=rK (.tuple #[vo,.bool (Bb (Ah l) d (k+1) x).2])/\Own w' w.heap.size 3 vo (ivs .i64 (Bb (Ah l) d (k+1) x).1)/\Below w.heap.size w w':=by
 obtain⟨hM,e2⟩:=Dh hd;obtain⟨l1,l2,a4,j,f,kl,kr⟩:=kids_two aA hx hM;have aM:=Gv aA;have a3:=fD k;have aQ:=fD (k+1);have a2:k<=16:=by
  rcases Nat.lt_or_ge 16 k with h|h
  ·have:=bQ (show 0<2 by omega) (show 17<=k from h);have aH:(2:Nat)^17=131072:=rfl;omega
  ·exact h
 have aO:2^(k+1)<=2^17:=bQ (by omega) (by omega);have aH:(2:Nat)^17=131072:=rfl;have N:=fun(y:Int) (W:World) (hw:Below w.heap.size w W)=>Dm v l y W (h.below hw lR);have FD:=fun(W:World) (hw:Below w.heap.size w W)=>N x W hw;rw[hF]at FD;have KD:=fun(W:World)=>Gs (x:Int) W;rw[kl,kr]at KD;have R1:=fun(W:World) (hw:Below w.heap.size w W)=>IH (x-2^k) v W (h.below hw lR) l1 j;have R2:=fun(W:World) (hw:Below w.heap.size w W)=>IH (x+2^k) v W (h.below hw lR) l2 f;have n1:=Im hd hK k (x-2^k);have n2:=Im hd hK k (x+2^k);rw[Hs hF Z];obtain⟨W1,aI⟩:=eX (Bb (Ah l) d k (x-2^k));obtain⟨W2,aJ⟩:=eX (Bb (Ah l) d k (x+2^k));rw[<-aI]at R1 n1|-;rw[<-aJ]at R2 n2|-;have aK:W1.1.length<=3000000000:=(by omega);have aL:W2.1.length<=3000000000:=(by omega);obtain⟨n,hn⟩:=eX (2^d);rw[<-hn]at R1 R2|-;obtain⟨xl,aR⟩:=eX (x-2^k);obtain⟨xr,aS⟩:=eX (x+2^k);rw[<-aR]at KD R1;rw[<-aS]at KD R2;have aT:=Hd FD;have aV:=Hd KD;have a0:=Hd R1;have a1:=Hd R2;have J:=Hd aK;have aE:=Hd aL;have bG:x<=131070:=(by omega);obtain⟨a,cp,rfl,-,-⟩:=h.sl;obtain⟨kd,F⟩:=eX D.kind;obtain⟨L,hL⟩:=eX D.par.late;rw[<-F]at Z;have aU:=Hd F;have aD:=Hd hL;have aW:=Hd (show L.length<=1000 by rw[hL];exact(hK _ (Cd hF)).2.1);have bD:((kd:Int)==0)=true:=(by rw[beq_iff_eq];omega);have bE:(((x:Nat):Int)%2==1)=true:=(by rw[beq_iff_eq];omega);have bF:(eC (x:Int) 2==1)=true:=(by rw[eD (by omega),beq_iff_eq];omega);clear N FD KD R1 R2 n1 n2 aK aL aI aJ hn aR aS kl kr l1 l2 j f a4 a3 aQ aO aH a2 hM e2 aM aA hx Z F hL hK IH h hF;go_in;go_wp2_with fail;refine(aT.out w bR).mono ?_;rintro e w2 ⟨c,rfl,aB,f⟩;have z:=Hd aB.oneL;obtain⟨x1,x2,x3,x4,x5,x6,x7,x8,b3,e3,rfl,M⟩:=aB.frame;have G:(some D).getD Am=D:=rfl;rw[G,<-aU.out,<-aD.out]at z|-;rw[G,<-aD.out]at M;obtain⟨l8,K⟩:=eX L.length;rw[<-K]at z M|-;have P:=Hd f;have aG:=Hd M;have a9:=Hd K;have a6:l8<=1000:=(by rw[K];exact aW.out);clear aB f G M K;obtain⟨q,hq⟩:=eX w2.heap.size;have HQ:=Hd hq;have aZ:=Hd (show Blk (w2.alloc (rJ #[rD rG 0,rC rI 0 0,rC rI 0 0,rC rI 0 0,rD rG 0,rC rI 0 0,rC rI 0 0,rC rI 0 0,rC rI 0 0,rC rI 0 0] 52)) q 52 #[rD rG 0,rC rI 0 0,rC rI 0 0,rC rI 0 0,rD rG 0,rC rI 0 0,rC rI 0 0,rC rI 0 0,rC rI 0 0,rC rI 0 0] by rw[hq];exact Blk.new _ _ _);clear hq;go_wp2_with (refine Aa rfl 52 (.tmp 8) (.tmp 27) rfl w2.heap.size #[rD rG (kd:Nat),x1,x2,x3,x4,x5,x6,x7,x8,rC b3 l8 e3] rfl rfl 52 #[rD rG 0,rC rI 0 0,rC rI 0 0,rC rI 0 0,rD rG 0,rC rI 0 0,rC rI 0 0,rC rI 0 0,rC rI 0 0,rC rI 0 0] (HQ.out▸aZ.out) (by kernel_rfl) rfl z.out ?_);rintro w3 p Y aN s;rw[<-HQ.out]at p|-;have Q:=Hd ((P.out.alloc P.out.size (rJ #[rD rG 0,rC rI 0 0,rC rI 0 0,rC rI 0 0,rD rG 0,rC rI 0 0,rC rI 0 0,rC rI 0 0,rC rI 0 0,rC rI 0 0] 52)).trans (Y w.heap.size P.out.size));have bB:=Hd (show w3.heap.size=q+1 from by rw[s];simp[HQ.out]);have a8:=Hd p;have a5:=Hd (aG.out.below (((Below.refl w2.heap.size w2).alloc lR (rJ #[rD rG 0,rC rI 0 0,rC rI 0 0,rC rI 0 0,rD rG 0,rC rI 0 0,rC rI 0 0,rC rI 0 0,rC rI 0 0,rC rI 0 0] 52)).trans (Y w2.heap.size lR)) lR);have c0:=p.cell 0;have c9:=p.cell 9;simp only[cR,cS,aP]at c0 c9;have a7:q<w3.heap.size:=(by rw[s];simp[HQ.out]);clear p Y aN s;clear c9;go_wp2_with fail;refine(aV.out _).mono ?_;rintro e w5 ⟨rfl,X⟩;have aC:=Hd (Q.out.alloc Q.out.size (rJ #[rD rF (x:Nat)] 3));have R:=Hd (aC.out.trans (X.mono aC.out.size));have aY:=Hd ((show Own (w3.alloc (rJ #[rD rF (x:Nat)] 3)) w.heap.size 3 (rC (some ⟨w3.heap.size,0,rI⟩) 1 1) [rD rF (x:Nat)]from Own.full (B:=w.heap.size) (cs:=#[rD rF (x:Nat)]) rfl Q.out.size (by unfold maxLen;simp) rfl).below X lR);clear X;go_wp2_with fail;refine(a0.out _ R.out).mono ?_;rintro e w6 ⟨v1,rfl,r,j⟩;have aX:=Hd r.rd;have H:=Hd (R.out.trans (j.mono R.out.size));have T:=Hd (aY.out.below j lR);obtain⟨p1,p2,p3,rfl⟩:=Cx r;clear r j;go_wp2_with fail;refine(a1.out _ H.out).mono ?_;rintro e w7 ⟨v2,rfl,o,f⟩;have bA:=Hd o.rd;have O:=Hd (aX.out.below f lR);have I:=Hd (H.out.trans (f.mono H.out.size));have aF:=Hd (T.out.below f lR);have m:=Hd o;have bC:=Hd H.out.size;obtain⟨q1,q2,q3,rfl⟩:=Cx o;clear o f;obtain⟨b1,j⟩:=eX W1.2;obtain⟨b2,f⟩:=eX W2.2;have HE:=Hd (show(W1.2&&W2.2)=(b1&&b2) by rw[j,f]);rw[<-j,<-f];clear j f;cases b1
 ·go_wp2_with (at_builtin;refine Ak rfl (.tmp 60) (.tmp 61) 48 rfl w.heap.size 3 _ 8 Cg _ _ rfl aF.out _ _ rfl O.out ?d1 ?d2 ?d3 ?_);case d1=>exact Ea _
  case d2=>have:=J.out;simp[ivs];omega
  case d3=>exact I.out.size
  rintro v8 w8 b E A;have U:=Hd b;have u:=Hd (show Rd w8 _ _ from(m.out.grown E fun g e1 e2=>by
   have h1:=(m.out.blockLt e1).2;have h2:=(T.out.blockLt e2).1
   omega).rd)
  have t:=Hd (I.out.trans A);obtain⟨r1,r2,r3,rfl⟩:=Cx b;clear b E A;go_wp2_with (at_builtin;refine Ak rfl (.tmp 62) (.tmp 63) 48 rfl w.heap.size 3 _ 8 Cg _ _ rfl U.out _ _ rfl u.out ?e1 ?e2 ?e3 ?_);case e1=>exact Ea _
  case e2=>have:=J.out;have:=aE.out;simp[ivs];omega
  case e3=>exact t.out.size
  rintro v9 w9 i-C;have V:=Hd i;have S:=Hd (t.out.trans C);clear i C;go_wp2_with fail;go_ret2;rw[HE.out];refine⟨_,rfl,?_,S.out⟩;have:=V.out;simpa [ivs]using this
 ·go_wp2_with (at_builtin;refine Ak rfl (.tmp 60) (.tmp 61) 48 rfl w.heap.size 3 _ 8 Cg _ _ rfl aF.out _ _ rfl O.out ?d1 ?d2 ?d3 ?_);case d1=>exact Ea _
  case d2=>have:=J.out;simp[ivs];omega
  case d3=>exact I.out.size
  rintro v8 w8 b E A;have U:=Hd b;have u:=Hd (show Rd w8 _ _ from(m.out.grown E fun g e1 e2=>by
   have h1:=(m.out.blockLt e1).2;have h2:=(T.out.blockLt e2).1
   omega).rd)
  have t:=Hd (I.out.trans A);obtain⟨r1,r2,r3,rfl⟩:=Cx b;clear b E A;go_wp2_with (at_builtin;refine Ak rfl (.tmp 62) (.tmp 63) 48 rfl w.heap.size 3 _ 8 Cg _ _ rfl U.out _ _ rfl u.out ?e1 ?e2 ?e3 ?_);case e1=>exact Ea _
  case e2=>have:=J.out;have:=aE.out;simp[ivs];omega
  case e3=>exact t.out.size
  rintro v9 w9 i-C;have V:=Hd i;have S:=Hd (t.out.trans C);clear i C;go_wp2_with fail;go_ret2;rw[HE.out];refine⟨_,rfl,?_,S.out⟩;have:=V.out;simpa [ivs]using this
theorem Zd9 (l:List (Int×NodeD))(d:Nat)(b:d<=16)(c:Lz l):∀k,Zjp l d k:=by
 obtain⟨f,e2⟩:=Dh b;intro k
 induction k with
 |zero=>
  intro x v w h a hx;cases hF:Ah l (x:Int)with
  |none=>exact Qj l d 0 x v w h hF
  |some D=>
   rw[Gx hF];have e:=fD 0
   by_cases hk:D.kind=0
   ·exact Ws l d x v w b h c D hF (by omega) ⟨hk,Gu a⟩
   ·exact Ok l d x v w b h c D hF (by omega) hk
 |succ k ih=>
  intro x v w h a hx;cases hF:Ah l (x:Int)with
  |none=>exact Qj l d (k+1) x v w h hF
  |some D=>
   have e:=fD (k+1)
   by_cases hk:D.kind=0
   ·exact Zd8 l d k x v w b h c D hF a hx hk ih
   ·rw[Jj hF hk];exact Ok l d x v w b h c D hF (by omega) hk
theorem Jc {l:List (Int×NodeD)} {i:Nat}(h:i<l.length):spt l i=l[i]:=by rw[spt,aS,bB h];rfl
theorem Ko {l:List (Int×List Nat)} {i:Nat}(h:i<l.length):stb l i=l[i]:=by rw[stb,aS,bB h];rfl
theorem Zb {α:Type} {l:List α} {f: α->Int} {r:Nat}(h:r<l.length):ivs .i64 ((l.take (r+1)).map f)=ivs .i64 ((l.take r).map f)++[rD rF (f l[r])]:=by
 rw[cM h,List.map_append];simp[ivs]
theorem Ur (v:Value)(s:SparseD)(w:World)(h:SparseR w v s)(h1:s.op.length<=1000000)(h2:s.sh.length<=1000000):
  Calls prog 114 #[v] w fun e w'=>∃vo vs,e=rK (.tuple #[vo,vs])/\Own w' w.heap.size 3 vo (ivs .i64 (s.op.map (·.1)))/\Own w' w.heap.size 3 vs (ivs .i64 (s.sh.map (·.1)))/\Below w.heap.size w w':=by
 obtain⟨o,g,rfl,ho,hg⟩:=h;obtain⟨Y,Z,rfl,aJ,aL⟩:=ho.sl;obtain⟨R,S,rfl,aI,aK⟩:=hg.sl;have G1:=fun(i:Nat) (hi:i<s.op.length)=>ho.at hi;have G2:=fun(i:Nat) (hi:i<s.sh.length)=>hg.at hi;have S1:=fun(r:Nat) (F:r<s.op.length)=>(show ivs .i64 ((s.op.take (r+1)).map (·.1))=ivs .i64 ((s.op.take r).map (·.1))++[rD rF (spt s.op r).1]from by rw[Zb F,Jc F]);have S2:=fun(r:Nat) (F:r<s.sh.length)=>(show ivs .i64 ((s.sh.take (r+1)).map (·.1))=ivs .i64 ((s.sh.take r).map (·.1))++[rD rF (stb s.sh r).1]from by rw[Zb F,Ko F]);have E1:ivs .i64 ((s.op.take s.op.length).map (·.1))=ivs .i64 (s.op.map (·.1)):=(by rw[dD]);have E2:ivs .i64 ((s.sh.take s.sh.length).map (·.1))=ivs .i64 (s.sh.map (·.1)):=(by rw[dD]);obtain⟨A,hA⟩:∃A:Nat->List Value,A=fun r=>ivs .i64 ((s.op.take r).map (·.1)):=⟨_,rfl⟩;have T:∀r,ivs .i64 ((s.op.take r).map (·.1))=A r:=fun r=>(by rw[hA]);obtain⟨C,hC⟩:∃C:Nat->List Value,C=fun r=>ivs .i64 ((s.sh.take r).map (·.1)):=⟨_,rfl⟩;have U:∀r,ivs .i64 ((s.sh.take r).map (·.1))=C r:=fun r=>(by rw[hC]);have L1:=fun(r:Nat)=>(show(A r).length<=r from by rw[hA];simp[ivs];omega);have L2:=fun(r:Nat)=>(show(C r).length<=r from by rw[hC];simp[ivs];omega);have A0:A 0=[]:=(by rw[hA];simp[ivs]);have C0:C 0=[]:=(by rw[hC];simp[ivs]);simp only[T]at S1 E1;simp only[U]at S2 E2;rw[<-E1,<-E2];obtain⟨n,hn⟩:=eX s.op.length;obtain⟨m,hm⟩:=eX s.sh.length;rw[<-hn]at G1 S1 h1 aJ|-;rw[<-hm]at G2 S2 h2 aI|-;obtain⟨lv,X⟩:=eX s.leaves;obtain⟨ow,how⟩:=eX s.own;rw[<-X,<-how];have aC:=Hd G1;have aD:=Hd G2;have aG:=Hd S1;have aH:=Hd S2;have aE:=Hd L1;have aF:=Hd L2;have aA:=Hd A0;have aB:=Hd C0;clear G1 G2 S1 S2 E1 E2 L1 L2 A0 C0 hA T hC U hn hm ho hg X how;go_in;go_wp2_with fail;obtain⟨N,V⟩:=eX w.heap.size;have D:=Hd (show Blk (w.alloc (rJ #[rD rF lv,rD rF ow,rC Y n Z,rC R m S] 25)) N 25 #[rD rF lv,rD rF ow,rC Y n Z,rC R m S]from by rw[V];exact Blk.new _ _ _);have j:=Hd ((Below.refl w.heap.size w).alloc lR (rJ #[rD rF lv,rD rF ow,rC Y n Z,rC R m S] 25));rw[<-V]at j|-;have H:=Hd (show N+1<=(w.alloc (rJ #[rD rF lv,rD rF ow,rC Y n Z,rC R m S] 25)).heap.size from by simp[V]);generalize hw1:w.alloc (rJ #[rD rF lv,rD rF ow,rC Y n Z,rC R m S] 25)=w1 at D j H|-;have HN:=Hd V;clear hw1 V
 go_loopg [4,6] n (fun q ov iv wr=>∃r:Nat,r+q=n/\iv=rD rF (r:Nat)/\Own wr (N+1) 3 ov (A r)/\Below (N+1) w1 wr)
 case atStart=>exact⟨0,by omega,rfl,by rw[aA.out];exact Own.nil _ _ _,bR⟩
 case round=>
  obtain⟨r,F,rfl,E,hb⟩:=hrel;have HR:=Hd F;have HO:=Hd E;have O:=Hd hb;have f:=Hd (D.out.below hb (dU _));have c2:=f.out.cell 2;have c3:=f.out.cell 3;simp only[cR,cS,aP]at c2 c3;clear F E hb
  by_cases hlt:r<n
  ·have y:decide (r<n)=true:=dT hlt;have W:(r:Int)<(n:Int):=(by omega);obtain⟨b,L,c,rfl,K,-,B⟩:=aC.out r hlt;have cx:=((j.out.trans (O.out.mono (by omega))).cell (p:=⟨b,L+r*11,rI⟩) (by rw[HN.out];exact K)).trans (Bt B);have l:=Hd (aG.out r hlt);obtain⟨x,hx⟩:=eX ((spt s.op r).1);rw[<-hx]at cx l;clear hx B;go_wp2_with (at_builtin;refine An rfl (.tmp 15) (.tmp 22) 48 rfl (N+1) 3 _ 8 Cg _ _ rfl (HO.out.alloc _) _ (rD rF x) rfl ?c1 rfl ?c2 ?c3 ?_);case c1=>exact Aq rfl
   case c2=>have:=aE.out r;omega
   case c3=>have:=O.out.size;have:=H.out;simp;omega
   rintro v' w2 a-t;have I:=Hd a;have G:=Hd ((O.out.alloc (by have:=O.out.size;have:=H.out;omega) (rJ #[rD rF x] 3)).trans t);clear a t;go_wp2_with fail;go_roundg (gk-1);case measure=>have:=HR.out;omega
   case rel=>exact⟨r+1,by have:=HR.out;omega,by go_num,by rw[l.out];exact I.out,G.out⟩
  ·obtain rfl:r=n:=(by have:=HR.out;omega);have y:decide (r<r)=false:=dF hlt;obtain⟨M,rfl⟩:∃M:World,M=wr:=⟨_,rfl⟩;clear hlt;go_wp2_with fail
   go_loopg [5,7] m (fun q ov iv w2=>∃k:Nat,k+q=m/\iv=rD rF (k:Nat)/\Own w2 M.heap.size 3 ov (C k)/\Below M.heap.size M w2)
   case atStart=>exact⟨0,by omega,rfl,by rw[aB.out];exact Own.nil _ _ _,bR⟩
   case round=>
    obtain⟨k,hk,rfl,z,J⟩:=hrel;have HK:=Hd hk;have Q:=Hd z;have d:=Hd J;have P:=Hd (f.out.below J f.out.lt);have d3:=P.out.cell 3;simp only[cR,cS,aP]at d3;clear hk z J c2 c3
    by_cases hlt:k<m
    ·have y:decide (k<m)=true:=dT hlt;have W:(k:Int)<(m:Int):=(by omega);obtain⟨b,L,u,rfl,K,-,B⟩:=aD.out k hlt;have cx:=((j.out.trans ((O.out.trans (d.out.mono (by have:=f.out.lt;omega))).mono (by omega))).cell (p:=⟨b,L+k*2,rI⟩) (by rw[HN.out];exact K)).trans (Bt B);have l:=Hd (aH.out k hlt);obtain⟨x,hx⟩:=eX ((stb s.sh k).1);rw[<-hx]at cx l;clear hx B;go_wp2_with (at_builtin;refine An rfl (.tmp 31) (.tmp 38) 48 rfl M.heap.size 3 _ 8 Cg _ _ rfl (Q.out.alloc _) _ (rD rF x) rfl ?c1 rfl ?c2 ?c3 ?_);case c1=>exact Aq rfl
     case c2=>have:=aF.out k;omega
     case c3=>have:=d.out.size;simp;omega
     rintro v' w2 a-t;have I:=Hd a;have G:=Hd ((d.out.alloc d.out.size (rJ #[rD rF x] 3)).trans t);clear a t;go_wp2_with fail;go_roundg (gk-1);case measure=>have:=HK.out;omega
     case rel=>exact⟨k+1,by have:=HK.out;omega,by go_num,by rw[l.out];exact I.out,G.out⟩
    ·obtain rfl:k=m:=(by have:=HK.out;omega);have y:decide (k<k)=false:=dF hlt;clear hlt;go_wp2_with fail;go_ret2;have hz:=f.out.lt;rw[<-HN.out];refine⟨_,_,rfl,(HO.out.below d.out lR).mono (by omega),Q.out.mono (by omega),?_⟩;have h5:=O.out.trans (d.out.mono (show N+1<=M.heap.size by omega));exact j.out.trans (h5.mono (by omega))
