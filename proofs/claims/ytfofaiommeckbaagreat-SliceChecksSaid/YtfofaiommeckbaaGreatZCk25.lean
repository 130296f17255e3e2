import Derived.Test.YtfofaiommeckbaaGreatZCk20
import Derived.Test.YtfofaiommeckbaaGreatZCk24
open Go.Obj renaming cells -> rJ
open Go.Ending renaming returned -> rK
open Go.Value renaming slice -> rC, int -> rD, pointer -> rE
open Go.IntKind renaming i64 -> rF, u8 -> rG
open Option renaming none -> rI
open Go.Proofs.Tryz
open List renaming replicate -> eK, filterMap_cons -> dG, filterMap_nil -> dH, contains_cons -> dJ, contains_nil -> dK, getElem?_toArray -> cR, getElem?_cons_zero -> cS, getElem?_cons_succ -> aP, cons_append -> iL, mem_cons_of_mem -> iE, length_append -> bA, length_cons -> dB
open Bool renaming or_false -> dM, or_true -> dO
open Nat renaming le_trans -> eT, two_pow_pos -> fD
open Int renaming tmod -> eC, tmod_eq_emod_of_nonneg -> eD
set_option linter.unusedVariables false
set_option maxRecDepth 100000
set_option maxHeartbeats 40000000
namespace Go.Proofs.YtfofaiommeckbaaGreat
open Go.RowKit WireM
def Ta:NodeD:=⟨1,⟨eK 32 0,eK 32 0,[1],1,[],eK 64 0⟩,noParD⟩
theorem Qr {n:Nat} {N:Int}(d:N=(n:Int))(g:n<=4000000):∀w:World,(Instr.makeSlice 28 (rD rF N) (rD rF N)).run prog w=.ok (rC (some ⟨w.heap.size,0,rI⟩) n n) (w.alloc (.cells (madeCells (Value.int .u8 0).cells (n*1)) 5)):=by
 intro w;subst d;obtain⟨i,e,f,b,a⟩:∃i,prog.info? 5=some i/\i.zero=some (rD rG 0)/\i.size=1/\i.bytes=1:=info_parts (by kernel_rfl);have c:=run_make (P:=prog) w 28 5 i (rD rG 0) underlying28 e f .i64 .i64 n n (by omega) (by omega) (by rw[a];omega) (by omega);simp only[Int.toNat_natCast,b]at c;exact c
theorem Ss (w:World)(n:Nat)(a:n<=4000000:=by omega):Own (w.alloc (.cells (madeCells (Value.int .u8 0).cells (n*1)) 5)) w.heap.size 5 (rC (some ⟨w.heap.size,0,rI⟩) n n) (bvs (eK n 0)):=by
 have e:bvs (eK n 0)=(madeCells (Value.int .u8 0).cells (n*1)).toList:=by
  rw[Nat.mul_one];have:=toList_madeCells_one (rD rG 0) n;rw[show(Value.int .u8 0).cells=#[rD rG 0]from rfl,this];simp[bvs]
 rw[e];exact Own.full (B:=w.heap.size) rfl lR (by unfold maxLen;simp[madeCells];omega) (by simp[madeCells])
theorem Zis {w:World} {B:Nat} {x1 x2 x3 x4:Value}(e:Own w B 5 x1 (bvs (eK 32 0)))(f:Own w B 5 x2 (bvs (eK 32 0)))(g:Own w B 5 x3 (bvs [1]))(h:Own w B 5 x4 (bvs (eK 64 0))):
  TreeR (w.alloc (rJ #[rD rG 1,x1,x2,x3,rD rG 1,rC rI 0 0,x4,rC rI 0 0,rC rI 0 0,rC rI 0 0] 52)) (rC (some ⟨w.heap.size,0,rI⟩) 1 1) [Ta]:=by
 have a:NodeO (w.alloc (rJ #[rD rG 1,x1,x2,x3,rD rG 1,rC rI 0 0,x4,rC rI 0 0,rC rI 0 0,rC rI 0 0] 52)) B Ta #[rD rG 1,x1,x2,x3,rD rG 1,rC rI 0 0,x4,rC rI 0 0,rC rI 0 0,rC rI 0 0]:=
  ⟨_,_,_,_,_,_,_,_,rfl,e.alloc _,f.alloc _,g.alloc _,Own.nil _ _ _,h.alloc _,Own.nil _ _ _,Own.nil _ _ _,Own.nil _ _ _⟩
 refine⟨_,1,rfl,lR,by unfold maxLen;omega,fun i b=>⟨w.heap.size,0,#[rD rG 1,x1,x2,x3,rD rG 1,rC rI 0 0,x4,rC rI 0 0,rC rI 0 0,rC rI 0 0],rfl,by simp,?_,?_⟩⟩
 ·have:i=0:=(by simpa using b);subst this;exact a.c
 ·have:i=0:=(by simpa using b);subst this;intro j u d;have:=(Blk.new w 52 #[rD rG 1,x1,x2,x3,rD rG 1,rC rI 0 0,x4,rC rI 0 0,rC rI 0 0,rC rI 0 0]).cell j;rw[show 0+0*10+j=j by omega,this];simpa using d
open WalkM
theorem Xl:El [Ta]=true:=by decide
theorem Zu:TreeOk [Ta]:=by
 intro d hd;rw[List.mem_singleton]at hd;subst hd;refine⟨by decide,by decide,?_,?_,?_,?_,?_,?_,?_,?_⟩<;>decide
theorem Xm:Fy [Ta]=true:=by decide+kernel
def Zlp:SparseD:=Zjx [Ta] (2^0) 0 [0] []
theorem Zbx:Ar Zlp false=true:=by decide+kernel
theorem Zby:Ds Zlp=true:=by decide+kernel
theorem Zlh:SparseOk Zlp:=by
 refine⟨by unfold inI;decide,by unfold inI;decide,fun p hp=> ?_,fun p hp=>by cases hp⟩;have:p=(((0:Nat):Int),Ta):=(by simpa [Zlp,Zjx,nd]using hp);subst this;exact⟨by unfold inI;decide,Zu Ta (by simp)⟩
theorem Zli (w:World):Calls prog 21 #[] w fun e w'=>e=rK (.bool true)/\Below w.heap.size w w':=by
 have u:=Hd (Qr (n:=32) (N:=32) rfl (by omega));have z:=Hd (Qr (n:=64) (N:=64) rfl (by omega));obtain⟨aC,aA⟩:=eX (madeCells (Value.int .u8 0).cells (32*1));obtain⟨Z64,aB⟩:=eX (madeCells (Value.int .u8 0).cells (64*1));have I:=Hd fun(v:Value) (W:World) (Z:TreeR W v [Ta])=>Ze1 v [Ta] 0 0 0 [0] [] W Z Xl Zu Xm rfl (by decide) (by omega) rfl (by decide+kernel) (by decide+kernel) (by decide+kernel) (by simp) (by simp) (by simp) (by simp) (by simp) (by simp) (fun x=>by rw[Zer];omega);have J:=Hd fun(v:Value) (W:World) (Z:SparseR W v Zlp)=>Xa v Zlp W Z Zlh Zby;rw[Zbx]at J;go_in;go_wp2_with fail;refine Dj [fun v w'=>Own w' w.heap.size 5 v (bvs (eK 32 0)),fun v w'=>Own w' w.heap.size 5 v (bvs (eK 32 0)),fun v w'=>Own w' w.heap.size 5 v (bvs [1]),fun v w'=>Own w' w.heap.size 5 v (bvs (eK 64 0)),fun v w'=>∃x1 x2 x3 x4,v=.agg #[x1,x2,x3,rD rG 1,rC rI 0 0,x4]/\Own w' w.heap.size 5 x1 (bvs (eK 32 0))/\Own w' w.heap.size 5 x2 (bvs (eK 32 0))/\Own w' w.heap.size 5 x3 (bvs [1])/\Own w' w.heap.size 5 x4 (bvs (eK 64 0)),fun v w'=>∃x1 x2 x3 x4,v=.agg #[rD rG 1,x1,x2,x3,rD rG 1,rC rI 0 0,x4,rC rI 0 0,rC rI 0 0,rC rI 0 0]/\Own w' w.heap.size 5 x1 (bvs (eK 32 0))/\Own w' w.heap.size 5 x2 (bvs (eK 32 0))/\Own w' w.heap.size 5 x3 (bvs [1])/\Own w' w.heap.size 5 x4 (bvs (eK 64 0)),fun v w'=>TreeR w' v [Ta],fun v w'=>TreeR w' v [Ta]] (by kernel_rfl) (by kernel_rfl) (by kernel_rfl) (Ax (fun v x y h _ c=>Own.below h c lR) (Ax (fun v x y h _ c=>Own.below h c lR) (Ax (fun v x y h _ c=>Own.below h c lR) (Ax (fun v x y h _ c=>Own.below h c lR) (Ax (fun v x y h _ c=>let⟨x1,x2,x3,x4,e,p,q,r,s⟩:=h;⟨x1,x2,x3,x4,e,p.below c lR,q.below c lR,r.below c lR,s.below c lR⟩) (Ax (fun v x y h _ c=>let⟨x1,x2,x3,x4,e,p,q,r,s⟩:=h;⟨x1,x2,x3,x4,e,p.below c lR,q.below c lR,r.below c lR,s.below c lR⟩) (Ax (fun v x y h _ c=>TreeR.below h c lR) (Ax (fun v x y h _ c=>TreeR.below h c lR) (Ag))))))))) ?_ ?_
 ·refine gB ?_ (gB ?_ (gB ?_ (gB ?_ (gB ?_ (gB ?_ (gB ?_ (gB ?_ .nil)))))));all_goals
   intro a d m ho A;refine⟨rfl,?_⟩;intro K k;try have D0:=u.out
   try have D1:=z.out
   try(refine Hd ?_;go_simp;exact k _ rfl)
  ·go_simp;exact k _ _ ((Ss d 32).mono m.size) (bR.alloc lR _)
  ·go_simp;exact k _ _ ((Ss d 32).mono m.size) (bR.alloc lR _)
  ·
   go_simp;exact k _ _ (Own.full (B:=w.heap.size) (cs:=#[rD rG 1]) rfl (m.size) (by unfold maxLen;simp) rfl) (bR.alloc lR _)
  ·go_simp;exact k _ _ ((Ss d 64).mono m.size) (bR.alloc lR _)
  ·have i:Own d w.heap.size 5 (a.tmps[4]?.getD undef) (bvs (eK 32 0)):=A.1;obtain⟨v0,b⟩:=eX (a.tmps[4]?.getD undef);rw[<-b]at i;have Y:=b.symm;clear b;have o1:Own d w.heap.size 5 (a.tmps[5]?.getD undef) (bvs (eK 32 0)):=A.2.1;obtain⟨v1,C⟩:=eX (a.tmps[5]?.getD undef);rw[<-C]at o1;have e1:=C.symm;clear C;have o2:Own d w.heap.size 5 (a.tmps[6]?.getD undef) (bvs [1]):=A.2.2.1;obtain⟨v2,D⟩:=eX (a.tmps[6]?.getD undef);rw[<-D]at o2;have e2:=D.symm;clear D;have o3:Own d w.heap.size 5 (a.tmps[7]?.getD undef) (bvs (eK 64 0)):=A.2.2.2.1;obtain⟨v3,E⟩:=eX (a.tmps[7]?.getD undef);rw[<-E]at o3;have e3:=E.symm;clear E;obtain⟨M,m1,d1,rfl⟩:=Df i;obtain⟨O,m2,d2,rfl⟩:=Df o1;obtain⟨a3,m3,d3,rfl⟩:=Df o2;obtain⟨a4,m4,d4,rfl⟩:=Df o3;go_simp;exact k _ _ ⟨_,_,_,_,rfl,i,o1,o2,o3⟩ bR
  ·have i:∃x1 x2 x3 x4,(a.tmps[8]?.getD undef)=.agg #[x1,x2,x3,rD rG 1,rC rI 0 0,x4]/\Own d w.heap.size 5 x1 (bvs (eK 32 0))/\Own d w.heap.size 5 x2 (bvs (eK 32 0))/\Own d w.heap.size 5 x3 (bvs [1])/\Own d w.heap.size 5 x4 (bvs (eK 64 0)):=A.1;obtain⟨v0,b⟩:=eX (a.tmps[8]?.getD undef);rw[<-b]at i;have Y:=b.symm;clear b;obtain⟨x1,x2,x3,x4,rfl,p,q,r,s⟩:=i;obtain⟨M,m1,d1,rfl⟩:=Df p;obtain⟨O,m2,d2,rfl⟩:=Df q;obtain⟨a3,m3,d3,rfl⟩:=Df r;obtain⟨a4,m4,d4,rfl⟩:=Df s;go_simp;exact k _ _ ⟨_,_,_,_,rfl,p,q,r,s⟩ bR
  ·have i:∃x1 x2 x3 x4,(a.tmps[9]?.getD undef)=.agg #[rD rG 1,x1,x2,x3,rD rG 1,rC rI 0 0,x4,rC rI 0 0,rC rI 0 0,rC rI 0 0]/\Own d w.heap.size 5 x1 (bvs (eK 32 0))/\Own d w.heap.size 5 x2 (bvs (eK 32 0))/\Own d w.heap.size 5 x3 (bvs [1])/\Own d w.heap.size 5 x4 (bvs (eK 64 0)):=A.1;obtain⟨v0,b⟩:=eX (a.tmps[9]?.getD undef);rw[<-b]at i;have Y:=b.symm;clear b;obtain⟨x1,x2,x3,x4,rfl,p,q,r,s⟩:=i;have HT:=Zis p q r s;obtain⟨M,m1,d1,rfl⟩:=Df p;obtain⟨O,m2,d2,rfl⟩:=Df q;obtain⟨a3,m3,d3,rfl⟩:=Df r;obtain⟨a4,m4,d4,rfl⟩:=Df s;go_simp;exact k _ _ HT (bR.alloc lR _)
  ·have i:TreeR d (a.tmps[10]?.getD undef) [Ta]:=A.1;obtain⟨v0,b⟩:=eX (a.tmps[10]?.getD undef);rw[<-b]at i;have Y:=b.symm;clear b;go_simp;exact k _ _ i bR
 ·rintro f w9 l t;have l:Below w.heap.size w w9:=l;have X:TreeR w9 (f 1) [Ta]:=t.2.2.2.2.2.2.2.1;clear t;simp only[Ao,Av,Ej,dG,dH,dJ,dK,Nat.reduceBEq,Nat.reduceAdd,dM,dO,cond_true];obtain⟨u1,S⟩:=eX (f 1);rw[<-S]at X|-;clear S;have V:=Hd X;have G:=Hd l;clear X l;go_wp2_with fail;refine(I.out _ _ V.out).mono ?_;rintro e w1 ⟨vr,rfl,R,P⟩;have L:=Hd R;have F:=Hd (G.out.trans (P.mono G.out.size));obtain⟨o,g,rfl,ho,hg⟩:=R;obtain⟨M,c1,rfl,-⟩:=ho;obtain⟨O,c2,rfl,-⟩:=hg;have el:(Zjx [Ta] (2^0) 0 [0] []).leaves=1:=rfl;have eo:(Zjx [Ta] (2^0) 0 [0] []).own=0:=rfl;have e1:(Zjx [Ta] (2^0) 0 [0] []).op.length=1:=rfl;have e2:(Zjx [Ta] (2^0) 0 [0] []).sh.length=0:=rfl;rw[el,eo,e1,e2]at L|-;clear el eo e1 e2 P;have HA:=Hd ((Below.refl w1.heap.size w1).alloc lR (rJ #[rD rF 1,rD rF 0,rC M 1 c1,rC O 0 c2] 25));have U:=Hd (J.out _ _ (L.out.below HA.out lR));have H:=Hd (F.out.trans (HA.out.mono F.out.size));have j:=Blk.new w1 25 #[rD rF 1,rD rF 0,rC M 1 c1,rC O 0 c2];have d0:=j.cell 0;have d1:=j.cell 1;have d2:=j.cell 2;have d3:=j.cell 3;simp only[cR,cS,aP]at d0 d1 d2 d3;clear j;go_wp2_with fail;refine(U.out).mono ?_;rintro e w5 ⟨rfl,Q⟩;have T:=Hd (H.out.trans (Q.mono H.out.size));clear Q;go_wp2_with fail;go_ret;exact⟨rfl,T.out⟩
open Go.Maps
section
structure On3 (B ob sb:Nat) (w w':World):Prop where
 os:w'.os=w.os
 tape:w'.tape=w.tape
 output:w'.output=w.output
 size:w.heap.size<=w'.heap.size
 block:∀i,i<w.heap.size->i≠B->i≠ob->i≠sb->w'.heap[i]? =w.heap[i]?
section
variable {B ob sb g n m:Nat} {w w' w2:World} {F:Int->Option NodeD} {H:Int->Option (List Nat)}
theorem On3.trans (h:On3 B ob sb w w')(k:On3 B ob sb w' w2):On3 B ob sb w w2:=
 ⟨k.os.trans h.os,k.tape.trans h.tape,k.output.trans h.output,eT h.size k.size,fun i hi h1 h2 h3=>(k.block i (Nat.lt_of_lt_of_le hi h.size) h1 h2 h3).trans (h.block i hi h1 h2 h3)⟩
theorem On3.of {C:Nat}(h:Only C w w')(hC:C=B\/C=ob\/C=sb):On3 B ob sb w w':=
 ⟨h.os,h.tape,h.output,h.size,fun i hi h1 h2 h3=>h.block i hi fun e=>by cases e;rcases hC with rfl|rfl|rfl<;>contradiction⟩
theorem On3.below (h:Below w.heap.size w w'):On3 B ob sb w w':=On3.of (C:=B) (Only.of h) (.inl rfl)
theorem Blk.on3 {p:Nat} {t:TypeId} {cs:Array Value}(h:Blk w p t cs)(k:On3 B ob sb w w')(h1:p≠B)(h2:p≠ob)(h3:p≠sb):Blk w' p t cs:=(k.block p h.lt h1 h2 h3).trans h
theorem On3.low {C:Nat}(h:On3 B ob sb w w')(h1:C<=B)(h2:C<=ob)(h3:C<=sb)(h4:C<=w.heap.size):Below C w w':=
 ⟨h.os,h.tape,h.output,h.size,fun i hi=>h.block i (by omega) (by omega) (by omega) (by omega)⟩
structure PcS (w:World) (ob sb g n m:Nat) (F:Int->Option NodeD) (H:Int->Option (List Nat)):Prop where
 nodes:∃G:Int->Option Value,MapF w ob n G/\∀x,match F x with
  |none=>G x=none
  |some d=>∃c,G x=some (.agg c)/\NodeO w g d c
 runs:∃G:Int->Option Value,MapF w sb m G/\∀x,match H x with
  |none=>G x=none
  |some L=>∃v,G x=some v/\Own w g 5 v (bvs L)
theorem Ir {G:Int->Option Value} (h:∀x,match F x with
  |none=>G x=none
  |some d=>∃c,G x=some (.agg c)/\NodeO w g d c) (k:∀d c,NodeO w g d c->NodeO w' g d c):∀x,match F x with
  |none=>G x=none
  |some d=>∃c,G x=some (.agg c)/\NodeO w' g d c:=by
 intro x;have:=h x;revert this;cases F x with
 |none=>exact fun h=>h
 |some d=>rintro⟨c,h1,h2⟩;exact⟨c,h1,k d c h2⟩
theorem Hy {G:Int->Option Value} (h:∀x,match H x with
  |none=>G x=none
  |some L=>∃v,G x=some v/\Own w g 5 v (bvs L)) (k:∀v xs,Own w g 5 v xs->Own w' g 5 v xs):∀x,match H x with
  |none=>G x=none
  |some L=>∃v,G x=some v/\Own w' g 5 v (bvs L):=by
 intro x;have:=h x;revert this;cases H x with
 |none=>exact fun h=>h
 |some L=>rintro⟨v,h1,h2⟩;exact⟨v,h1,k v _ h2⟩
theorem PcS.only {C:Nat}(h:PcS w ob sb g n m F H)(k:Only C w w')(f:C<g)(h1:C≠ob)(h2:C≠sb):PcS w' ob sb g n m F H:=by
 obtain⟨⟨G,a,b⟩,⟨i,c,d⟩⟩:=h;exact⟨⟨G,a.grown k (fun e=>by cases e;exact h1 rfl),Ir b fun d c j=>j.onlyQ k f⟩,⟨i,c.grown k (fun e=>by cases e;exact h2 rfl),Hy d fun v xs l=>l.only k f⟩⟩
theorem PcS.below (h:PcS w ob sb g n m F H)(k:Below w.heap.size w w'):PcS w' ob sb g n m F H:=by
 obtain⟨⟨G,a,b⟩,⟨G',c,d⟩⟩:=h;exact⟨⟨G,a.below k lR,Ir b fun d c hd=>hd.below k lR⟩,⟨G',c.below k lR,Hy d fun v xs hv=>hv.below k lR⟩⟩
theorem PcS.le {n' m':Nat}(h:PcS w ob sb g n m F H)(h1:n<=n')(h2:m<=m'):PcS w ob sb g n' m' F H:=by
 obtain⟨⟨G,a,b⟩,⟨G',c,d⟩⟩:=h;exact⟨⟨G,a.mono h1,b⟩,⟨G',c.mono h2,d⟩⟩
end
def Mf (F:Int->Option NodeD)(l:List (Int×NodeD)):Int->Option NodeD:=fun y=>(Ah l y).or (F y)
def Po (H:Int->Option (List Nat))(l:List (Int×List Nat)):Int->Option (List Nat):=fun y=>(Ba l y).or (H y)
theorem Zit (F:Int->Option NodeD):Mf F []=F:=by funext y;rfl
theorem Ziu (H:Int->Option (List Nat)):Po H []=H:=by funext y;rfl
theorem Zfj (l m:List (Int×NodeD))(y:Int):Ah (l++m) y=(Ah l y).or (Ah m y):=by
 induction l with
 |nil=>rfl
 |cons p l ih=>
  rw[iL,Ah,Ah]
  split
  ·rfl
  ·exact ih
theorem Zfk (l m:List (Int×List Nat))(y:Int):Ba (l++m) y=(Ba l y).or (Ba m y):=by
 induction l with
 |nil=>rfl
 |cons p l ih=>
  rw[iL,Ba,Ba]
  split
  ·rfl
  ·exact ih
theorem Oz {l:List (Int×NodeD)} {y:Int} {d:NodeD}(h:Ah l y=some d) {P:Int->Prop}(hP:∀p∈l,P p.1):P y:=hP _ (Cd h)
theorem Vi {l:List (Int×List Nat)} {y:Int} {L:List Nat}(h:Ba l y=some L) {P:Int->Prop}(hP:∀p∈l,P p.1):P y:=by
 induction l with
 |nil=>cases h
 |cons p l ih=>
  rw[Ba]at h
  split at h
  ·rename_i e;rw[<-e];exact hP p (by simp)
  ·exact ih h fun q hq=>hP q (iE _ hq)
theorem Ziv (F:Int->Option NodeD) {l r:List (Int×NodeD)} {x:Int} {d:NodeD}(f:∀p∈l,p.1<x)(c:∀p∈r,x<p.1):Mf (Mf (Mf F [(x,d)]) l) r=Mf F (l++(x,d)::r):=by
 funext y
 unfold Mf;rw[Zfj,Ah,Ah];cases h1:Ah l y with
 |some a=>
  have g:y<x:=Oz (P:=fun z=>z<x) h1 f;have h2:Ah r y=none:=by
   cases h2:Ah r y with
   |none=>rfl
   |some b=>have:x<y:=Oz (P:=fun z=>x<z) h2 c;omega
  rw[h2];rfl
 |none=>
  by_cases e:x=y
  ·have h2:Ah r y=none:=by
    cases h2:Ah r y with
    |none=>rfl
    |some b=>have:x<y:=Oz (P:=fun z=>x<z) h2 c;omega
   rw[h2];simp[Ah,e]
  ·simp[Ah,e]
theorem Ziw (H:Int->Option (List Nat)) {l r:List (Int×List Nat)} {x:Int}(c:∀p∈l,p.1<x)(d:∀p∈r,x<p.1):Po (Po H l) r=Po H (l++r):=by
 funext y
 unfold Po;rw[Zfk];cases h1:Ba l y with
 |some a=>
  have e:y<x:=Vi (P:=fun z=>z<x) h1 c;have h2:Ba r y=none:=by
   cases h2:Ba r y with
   |none=>rfl
   |some b=>have:x<y:=Vi (P:=fun z=>x<z) h2 d;omega
  rw[h2];rfl
 |none=>simp
section
variable {B ob sb g n m:Nat} {w w':World} {F:Int->Option NodeD} {H:Int->Option (List Nat)} {x:Int}
theorem PcS.putN {d:NodeD} {c:Array Value} {G:Int->Option Value} (h:PcS w ob sb g n m F H) (i:∀x,match F x with
  |none=>G x=none
  |some d=>∃c,G x=some (.agg c)/\NodeO w g d c) (j:MapF w' ob (n+1) (fun y=>if y=x then some (.agg c)else G y)) (k:Only ob w w') (a:NodeO w g d c) (h1:ob<g) (h2:ob≠sb):PcS w' ob sb g (n+1) m (Mf F [(x,d)]) H:=by
 obtain⟨-,⟨b,e,f⟩⟩:=h;refine⟨⟨_,j,fun y=> ?_⟩,⟨b,e.grown k (fun e=>by cases e;exact h2 rfl),Hy f fun v xs l=>l.only k h1⟩⟩;unfold Mf;rw[Ah,Ah]
 by_cases e:x=y
 ·rw[iP e,iP e.symm];exact⟨c,rfl,a.onlyQ k h1⟩
 ·rw[iN e,iN (fun e2=>e e2.symm)];exact Ir i (fun d c a=>a.onlyQ k h1) y
theorem PcS.putS {L:List Nat} {v:Value} {G:Int->Option Value} (h:PcS w ob sb g n m F H) (c:∀x,match H x with
  |none=>G x=none
  |some L=>∃v,G x=some v/\Own w g 5 v (bvs L)) (i:MapF w' sb (m+1) (fun y=>if y=x then some v else G y)) (k:Only sb w w') (d:Own w g 5 v (bvs L)) (h1:sb<g) (h2:ob≠sb):PcS w' ob sb g n (m+1) F (Po H [(x,L)]):=by
 obtain⟨⟨b,e,f⟩,-⟩:=h;refine⟨⟨b,e.grown k (fun e=>by cases e;exact h2 rfl),Ir f fun v xs a=>a.onlyQ k h1⟩,⟨_,i,fun y=> ?_⟩⟩;unfold Po;rw[Ba,Ba]
 by_cases e:x=y
 ·rw[iP e,iP e.symm];exact⟨v,rfl,d.only k h1⟩
 ·rw[iN e,iN (fun e2=>e e2.symm)];exact Hy c (fun v xs a=>a.only k h1) y
end
end
def Zfl (B ob sb g n m:Nat)(F:Int->Option NodeD)(H:Int->Option (List Nat))(r:RdR)(w:World)(e:Ending)(w':World):Prop:=
 e=rK (rD rG (r.er:Nat))/\On3 B ob sb w w'/\(r.er=0->RS w' B r.rest 0/\PcS w' ob sb g (n+r.op.length) (m+r.sh.length) (Mf F r.op) (Po H r.sh))
def Zix (k:Nat):Prop:=
 ∀(x:Nat) (lv ow:Int) (B ob sb g n m:Nat) (L:List Nat) (F:Int->Option NodeD) (H:Int->Option (List Nat)) (w:World),IsLev x k->x+2^k<=131071->2^k<=x+1->B<ob->B<sb->ob≠sb->ob<g->sb<g->g<=w.heap.size->
  RS w B L 0->PcS w ob sb g n m F H->n+m+L.length<=900000000->(∀y∈L,y<256)->
  Calls prog 121 #[.agg #[rD rF lv,rD rF ow,.map (some ob),.map (some sb)],rE (some ⟨B,0,rI⟩),rD rF (x:Nat)] w (Zfl B ob sb g n m F H (rdP k x L) w)
theorem Zfm (k x:Nat)(L:List Nat):∃K,rdP k x L=Sz x L K:=by cases k<;>exact⟨_,rfl⟩
theorem Zbz (L:List Nat):(∃fe M,fe≠0/\Ph L 0=(false,M,fe)/\∀x K,Sz x L K=Iw fe)\/(∃M,L=0::M/\Ph L 0=(false,M,0))\/∃M,L=1::M/\Ph L 0=(true,M,0):=by
 cases L with
 |nil=>exact .inl ⟨4,[],by decide,rfl,fun _ _=>rfl⟩
 |cons b M=>
  by_cases h1:1<b
  ·exact .inl ⟨3,M,by decide,by simp[Ph,h1],fun x K=>by simp[Sz,h1]⟩
  ·by_cases h0:b=0
   ·subst h0;exact .inr (.inl ⟨M,rfl,rfl⟩)
   ·obtain rfl:b=1:=(by omega);exact .inr (.inr ⟨M,rfl,rfl⟩)
theorem Zml (M:List Nat):(M.length<32/\Cc M 0 32=([],M,4))\/(¬M.length<32/\Cc M 0 32=(M.take 32,M.drop 32,0)):=by
 unfold Cc
 by_cases h:M.length<32
 ·exact .inl ⟨h,by rw[iN (by simp),iN (by omega),iP (by omega)]⟩
 ·exact .inr ⟨h,by rw[iN (by simp),iN (by omega),iN (by omega)];rfl⟩
theorem NodeO.shape {w:World} {B:Nat} {d:NodeD} {c:Array Value}(h:NodeO w B d c):∃x0 x1 x2 x3 x4 u0 u1 u2,c=#[rD rG (d.kind:Nat),x0,x1,x2,rD rG (d.leaf.source:Nat),x3,x4,u0,u1,u2]:=by
 obtain⟨x0,x1,x2,x3,x4,u0,u1,u2,e,-⟩:=h;exact⟨x0,x1,x2,x3,x4,u0,u1,u2,e⟩
theorem Zfn (k x:Nat)(lv ow:Int)(B ob sb g n m b:Nat)(L M:List Nat)(F:Int->Option NodeD)(H:Int->Option (List Nat))(w:World)(p:RS w B L 0)(o:∀y∈L,y<256)(c:b≠0)(q:Ph L 0=(false,M,b)):
  Calls prog 121 #[.agg #[rD rF lv,rD rF ow,.map (some ob),.map (some sb)],rE (some ⟨B,0,rI⟩),rD rF (x:Nat)] w (Zfl B ob sb g n m F H (Iw b) w):=by
 have r:=Hd (show Calls prog 177 #[rE (some ⟨B,0,rI⟩)] (w.alloc (rJ #[rD rF lv,rD rF ow,.map (some ob),.map (some sb)] 101)) (Zg0 B (w.alloc (rJ #[rD rF lv,rD rF ow,.map (some ob),.map (some sb)] 101)) (false,M,b))from by
  have:=Ro B L 0 (w.alloc (rJ #[rD rF lv,rD rF ow,.map (some ob),.map (some sb)] 101)) (p.below ((Below.refl w.heap.size w).alloc lR _)) o
  rwa [q]at this)
 have f:=Hd fun(L:List Nat) (er:Nat) W=>Gm B L er W;have j:=Hd (On3.below (B:=B) (ob:=ob) (sb:=sb) ((Below.refl w.heap.size w).alloc lR (rJ #[rD rF lv,rD rF ow,.map (some ob),.map (some sb)] 101)));have t:((b:Int) !=0)=true:=(by rw[bne_iff_ne];omega);have i:=Hd c;clear p o q c;go_in;go_wp2_with fail;refine r.out.mono ?_;rintro e u ⟨rfl,d,a⟩;have s:=Hd d;have l:=Hd (j.out.trans (On3.of a (.inl rfl)));clear d a;go_wp2_with fail;refine(f.out _ _ _ s.out).mono ?_;rintro e w' ⟨rfl,rfl⟩;go_wp2_with fail;go_ret;exact⟨rfl,l.out,fun h=>absurd h i.out⟩
theorem Zfo (k x:Nat)(lv ow:Int)(B ob sb g n m:Nat)(M:List Nat)(F:Int->Option NodeD)(H:Int->Option (List Nat))(w:World)(hx:x<=131071)(S:B<ob)(T:B<sb)(U:ob≠sb)(V:ob<g)(X:sb<g)(aO:g<=w.heap.size)(hR:RS w B (0::M) 0)(hP:PcS w ob sb g n m F H)(hn:n+m+M.length<=900000000)(hL:∀y∈0::M,y<256):
  Calls prog 121 #[.agg #[rD rF lv,rD rF ow,.map (some ob),.map (some sb)],rE (some ⟨B,0,rI⟩),rD rF (x:Nat)] w (Zfl B ob sb g n m F H (if M.length<32 then Iw 4 else⟨0,[],[((x:Int),M.take 32)],M.drop 32⟩) w):=by
 have HF:=Hd (show Calls prog 177 #[rE (some ⟨B,0,rI⟩)] (w.alloc (rJ #[rD rF lv,rD rF ow,.map (some ob),.map (some sb)] 101)) (Zg0 B (w.alloc (rJ #[rD rF lv,rD rF ow,.map (some ob),.map (some sb)] 101)) (false,M,0))from Ro B (0::M) 0 (w.alloc (rJ #[rD rF lv,rD rF ow,.map (some ob),.map (some sb)] 101)) (hR.below ((Below.refl w.heap.size w).alloc lR _)) hL);have t:=Hd fun(L:List Nat) (er:Nat) W=>Gm B L er W;have A:=Hd fun(W:World) (h:RS W B M 0)=>Ts B M 0 32 W h (by omega);obtain⟨p,hp⟩:=eX w.heap.size;have HP:=Hd hp;have aH:=Hd (On3.below (B:=B) (ob:=ob) (sb:=sb) ((Below.refl w.heap.size w).alloc lR (rJ #[rD rF lv,rD rF ow,.map (some ob),.map (some sb)] 101)));have P1:=Hd (show Blk (w.alloc (rJ #[rD rF lv,rD rF ow,.map (some ob),.map (some sb)] 101)) w.heap.size 101 #[rD rF lv,rD rF ow,.map (some ob),.map (some sb)]from Blk.new _ _ _);have aJ:=Hd (hP.below ((Below.refl w.heap.size w).alloc lR (rJ #[rD rF lv,rD rF ow,.map (some ob),.map (some sb)] 101)));have j:=Hd (show B<ob/\B<sb/\ob≠sb/\ob<g/\sb<g/\g<=p/\m+1<=900000001 from⟨S,T,U,V,X,by omega,by omega⟩);have aL:=Hd (show inI (x:Int)from by unfold inI;omega);have z:=Hd (Zml M);obtain⟨RR,o⟩:=eX (if M.length<32 then Iw 4 else⟨0,[],[((x:Int),M.take 32)],M.drop 32⟩);rw[<-o];have aK:=Hd o;obtain⟨tv,tr,te,aD⟩:∃a b c,Cc M 0 32=(a,b,c):=⟨_,_,_,rfl⟩;rw[aD]at A z;clear hR hL hP hp S T U V X aO hn hx aD o;go_in;go_wp2_with fail;refine HF.out.mono ?_;rintro e s ⟨rfl,aB,d⟩;have R2:=Hd aB;have aI:=Hd (aH.out.trans (On3.of d (.inl rfl)));have P2:=Hd (P1.out.only d (by obtain⟨D,E,I,J,N,O,P⟩:=j.out;have:=HP.out;omega));have S2:=Hd (aJ.out.only d (by obtain⟨D,E,I,J,N,O,P⟩:=j.out;omega) (by obtain⟨D,E,I,J,N,O,P⟩:=j.out;omega) (by obtain⟨D,E,I,J,N,O,P⟩:=j.out;omega));have C:=Hd (show g<=s.heap.size from by obtain⟨D,E,I,J,N,O,P⟩:=j.out;have:=P2.out.lt;have:=HP.out;omega);rw[<-HP.out]at P2|-;clear aB d;go_wp2_with fail;refine(t.out _ _ _ R2.out).mono ?_;rintro e w' ⟨rfl,rfl⟩;go_wp2_with fail;obtain⟨⟨G,aM,aN⟩,⟨G',Q,R⟩⟩:=id S2.out;have aG:=Hd Q;have aF:=Hd R;clear aM aN Q R;refine Aw [eF (rE (some ⟨p,3,rI⟩)),eF (.map (some sb)),eF (rD rF (x:Nat)),eF (rE (some ⟨B,0,rI⟩)),fun v w'=>Own w' s.heap.size 5 v (bvs tv)/\RS w' B tr te,fun v w'=>RS w' B tr te/\PcS w' ob sb g n (m+1) F (Po H [((x:Int),tv)])/\On3 B ob sb s w']
  ((eK 6 false).set 5 true) (fun x=>Only B s x) (fun x y=>Only B x y) (some 4) 5 (by kernel_rfl) ?_ ⟨rfl,rfl,rfl,lR,fun _ _ _=>rfl⟩ (fun x y _ h=>Only.of h) (fun x y hx hs=>hx.trans hs) (by kernel_rfl) (by kernel_rfl) (by kernel_rfl) ?_ ?_
 ·exact kE (kE (kE (kE (Cp (fun v x y h _ hb=>⟨h.1.below hb lR,h.2.below hb⟩) (Ax (fun _ _ _ _ _ _=>trivial) Ag)))))
 ·refine gP8 ?_ rfl (gP8 ?_ rfl (gP8 ?_ rfl (gP8 ?_ rfl (Pd (by kernel_rfl) ?_ (gO8 ?_ .nil)))));all_goals
   intro a wx i Y ho hf;have i:Only B s wx:=i;refine⟨rfl,?_⟩;intro K hK;try have aZ:a.tmps[3]?.getD undef=rE (some ⟨p,0,rI⟩):=ho 3 (by kernel_rfl)
   try have aX:a.tmps[1]?.getD undef=rE (some ⟨B,0,rI⟩):=ho 1 (by kernel_rfl)
   try have aY:a.tmps[2]?.getD undef=rD rF (x:Nat):=ho 2 (by kernel_rfl)
   try have aV:=eqn hf.1
   try have aW:=eqn hf.2.1
   have aS:=P2.out.only i (by obtain⟨D,E,I,J,N,O,P⟩:=j.out;omega);have aE:=aS.cell 3;simp only[cR,cS,aP]at aE;try(refine Hd ?_;go_simp;exact hK _ rfl)
  ·go_simp;refine(A.out wx (R2.out.below Y)).mono ?_;rintro e w7 ⟨v,rfl,h1,h2,h3⟩;exact hK _ _ ⟨h1.mono Y.size,h2⟩ (fun _=>Bu rfl h3)
  ·obtain⟨o1,r1⟩:Own wx s.heap.size 5 (a.tmps[25]?.getD undef) (bvs tv)/\RS wx B tr te:=hf.2.2.1;obtain⟨v1,r⟩:=eX (a.tmps[25]?.getD undef);rw[<-r]at o1;have a0:=r.symm;clear r;obtain⟨b1,b2,b3,b4,b5,b6,b7⟩:=j.out;obtain⟨w',aU,aQ,q⟩:=(aG.out.grown i (fun e=>by cases e;omega)).run_put underlying99 aL.out (by unfold maxLen;omega) v1;have aR:=(S2.out.only i (by omega) (by omega) (by omega)).putS (Hy aF.out (fun v xs hv=>hv.only i (by omega))) aQ q (o1.mono C.out) (by omega) b3;have aT:=r1.only q b2 (by have:=i.size;have:=C.out;omega);go_simp;exact hK undef _ ⟨aT,aR,(On3.of i (.inl rfl)).trans (On3.of q (.inr (.inr rfl)))⟩ (fun h=>absurd rfl h)
 ·rintro f w5 l;obtain⟨aA,aC,Z⟩:RS w5 B tr te/\PcS w5 ob sb g n (m+1) F (Po H [((x:Int),tv)])/\On3 B ob sb s w5:=l.2.2.2.2.2.1;clear l;simp only[Ao,Av,Ej,dG,dH,dJ,dK,Nat.reduceBEq,Nat.reduceAdd,dM,dO,cond_true,cond_false];have R5:=Hd aA;have S5:=Hd aC;have u:=Hd (aI.out.trans Z);clear aA aC Z;go_wp2_with fail;refine(t.out _ _ _ R5.out).mono ?_;rintro e w' ⟨rfl,rfl⟩;go_wp2_with fail;go_ret;rw[aK.out];rcases z.out with⟨h,e⟩|⟨h,e⟩
  ·cases e;simp only[iP h];exact⟨rfl,u.out,fun h=>absurd h (by decide)⟩
  ·cases e;simp only[iN h];exact⟨rfl,u.out,fun _=>⟨R5.out,by have:=S5.out;rw[Zit];exact this⟩⟩
theorem Zfp (k x:Nat)(dD:k<=16)(IH:∀j,k=j+1->Zix j)(lv ow:Int)(B ob sb g n m:Nat)(M:List Nat)(F:Int->Option NodeD)(H:Int->Option (List Nat))(w:World)(b5:IsLev x k)(hx:x+2^k<=131071)(aH:2^k<=x+1)(bY:B<ob)(bZ:B<sb)(b0:ob≠sb)(b1:ob<g)(b2:sb<g)(c6:g<=w.heap.size)(hR:RS w B (1::M) 0)(hP:PcS w ob sb g n m F H)(hn:n+m+(1::M).length<=900000000)(hL:∀y∈1::M,y<256):
  Calls prog 121 #[.agg #[rD rF lv,rD rF ow,.map (some ob),.map (some sb)],rE (some ⟨B,0,rI⟩),rD rF (x:Nat)] w (Zfl B ob sb g n m F H (rdP k x (1::M)) w):=by
 have c9:M.length+1=(1::M).length:=rfl;have HF:=Hd (show Calls prog 177 #[rE (some ⟨B,0,rI⟩)] (w.alloc (rJ #[rD rF lv,rD rF ow,.map (some ob),.map (some sb)] 101)) (Zg0 B (w.alloc (rJ #[rD rF lv,rD rF ow,.map (some ob),.map (some sb)] 101)) (true,M,0))from Ro B (1::M) 0 (w.alloc (rJ #[rD rF lv,rD rF ow,.map (some ob),.map (some sb)] 101)) (hR.below ((Below.refl w.heap.size w).alloc lR _)) hL);have cK:=Hd fun(L:List Nat) (er:Nat) W=>Gm B L er W;have aY:∀y∈M,y<256:=fun y hy=>hL y (iE _ hy);have bQ:=Hd fun(W:World) (h:RS W B M 0)=>Zbw B M W h (by omega) aY;have bM:=Hd fun(h:(Au M 0).1=0)=>Vf h;have cO:Hid (∀K,Sz x (1::M) K=Kt x M K):=Hd fun K=>rfl;have bP:Hid (∀K,Kt x M K=if(Au M 0).1≠0 then Iw (Au M 0).1 else if x%2=0/\(Au M 0).2.1.kind=2\/x%2=1/\(Au M 0).2.1.kind=1 then Iw 3 else K (Au M 0).2.1 (Au M 0).2.2.1):=Hd fun K=>rfl;obtain⟨te,d,R,re,hq⟩:∃a b c d,Au M 0=(a,b,c,d):=⟨_,_,_,_,rfl⟩;rw[hq]at bQ bM;simp only[hq]at bP;have b7:n+m+M.length+1<=900000000:=(by omega);obtain⟨p,hp⟩:=eX w.heap.size;have HP:=Hd hp;have cQ:=Hd (On3.below (B:=B) (ob:=ob) (sb:=sb) ((Below.refl w.heap.size w).alloc lR (rJ #[rD rF lv,rD rF ow,.map (some ob),.map (some sb)] 101)));have P1:=Hd (show Blk (w.alloc (rJ #[rD rF lv,rD rF ow,.map (some ob),.map (some sb)] 101)) w.heap.size 101 #[rD rF lv,rD rF ow,.map (some ob),.map (some sb)]from Blk.new _ _ _);have cV:=Hd (hP.below ((Below.refl w.heap.size w).alloc lR (rJ #[rD rF lv,rD rF ow,.map (some ob),.map (some sb)] 101)));have i:=Hd (show B<ob/\B<sb/\ob≠sb/\ob<g/\sb<g/\g<=p/\n+1<=900000001 from⟨bY,bZ,b0,b1,b2,by omega,by omega⟩);have dC:x<=131071:=(by have:=fD k;omega);have bS:=Hd (show inI (x:Int)from by unfold inI;omega);clear dC;have cW:=Hd hx;have cX:=Hd aH;have aR:=Hd b5;have aS:=Hd b7;have cP:=Hd aY;clear hR hL hP hp bY bZ b0 b1 b2 c6 hn hx aH b5 hq c9 aY b7;go_in;go_wp2_with fail;refine HF.out.mono ?_;rintro e w2 ⟨rfl,aF,s⟩;have R2:=Hd aF;have cT:=Hd (cQ.out.trans (On3.of s (.inl rfl)));have P2:=Hd (P1.out.only s (by obtain⟨t,u,l,z,A,C,D⟩:=i.out;have:=HP.out;omega));have S2:=Hd (cV.out.only s (by obtain⟨t,u,l,z,A,C,D⟩:=i.out;omega) (by obtain⟨t,u,l,z,A,C,D⟩:=i.out;omega) (by obtain⟨t,u,l,z,A,C,D⟩:=i.out;omega));have bT:=Hd (show p+1<=w2.heap.size from by have:=P2.out.lt;have:=HP.out;omega);rw[<-HP.out]at P2|-;clear aF s;go_wp2_with fail;refine(cK.out _ _ _ R2.out).mono ?_;rintro e w' ⟨rfl,rfl⟩;go_wp2_with fail;refine(bQ.out w2 R2.out).mono ?_;rintro e w3 ⟨c,rfl,X,aF,s⟩;replace X:NodeO w3 w2.heap.size d c:=X;have aM:=Hd X.c.oneL;have bV:=Hd (X.mono (B':=p) (by have:=bT.out;omega));obtain⟨x0,x1,x2,x3,x4,u0,u1,u2,rfl⟩:=X.shape;have R3:=Hd aF;have cU:=Hd (cT.out.trans (On3.of s (.inl rfl)));have P3:=Hd (P2.out.only s (by obtain⟨t,u,l,z,A,C,D⟩:=i.out;omega));have S3:=Hd (S2.out.only s (by obtain⟨t,u,l,z,A,C,D⟩:=i.out;omega) (by obtain⟨t,u,l,z,A,C,D⟩:=i.out;omega) (by obtain⟨t,u,l,z,A,C,D⟩:=i.out;omega));have cY:=Hd (eT bT.out s.size);clear aF s X;obtain⟨kd,a8⟩:=eX d.kind;obtain⟨sr,cB⟩:=eX d.leaf.source;rw[<-a8,<-cB]at bV aM|-;have cN:=Hd a8;clear a8 cB;obtain⟨q,hq⟩:=eX w3.heap.size;have HQ:=Hd hq;clear hq;go_wp2_with (refine Aa rfl 52 (.tmp 9) (.tmp 31) rfl w3.heap.size #[rD rG kd,x0,x1,x2,rD rG sr,x3,x4,u0,u1,u2] rfl rfl 52 #[rD rG 0,rC rI 0 0,rC rI 0 0,rC rI 0 0,rD rG 0,rC rI 0 0,rC rI 0 0,rC rI 0 0,rC rI 0 0,rC rI 0 0] (Blk.new _ _ _) (by kernel_rfl) rfl aM.out ?_);rintro w4 U b3 b8 bE;have I:Below w3.heap.size w3 w4:=((Below.refl w3.heap.size w3).alloc lR (rJ #[rD rG 0,rC rI 0 0,rC rI 0 0,rC rI 0 0,rD rG 0,rC rI 0 0,rC rI 0 0,rC rI 0 0,rC rI 0 0,rC rI 0 0] 52)).trans (b3 w3.heap.size lR);have R4:=Hd (R3.out.below I);have Y:=Hd (cU.out.trans (On3.below I));have P4:=Hd (P3.out.below I P3.out.lt);have S4:=Hd (S3.out.below I);have bW:=Hd (bV.out.below I lR);have aV:=Hd (eT cY.out I.size);rw[<-HQ.out]at U|-;have Q4:=Hd U;have y0:=U.cell 0;simp only[cR,cS]at y0;clear U b3 b8 bE I;have aU:Hid (∀K,rdP k x (1::M)=Sz x (1::M) K->rdP k x (1::M)=if te≠0 then Iw te else if x%2=0/\kd=2\/x%2=1/\kd=1 then Iw 3 else K d R):=Hd fun K e=>by
  rw[e,cO.out,bP.out,cN.out]
 by_cases h1:te=0
 ·have c4:((te:Int) !=0)=false:=(by rw[bne_eq_false_iff_eq];omega);obtain⟨bD,aE⟩:=bM.out h1;have bD:re=0:=bD;have aE:TkOk M d R:=aE;subst bD;have V:=Hd h1;have aQ:=Hd (show R.length<M.length/\Sub R M from⟨aE.len,aE.sub⟩);clear h1 aE;cases k with
  |zero=>
   have S:x%2=0:=Gu aR.out;have b6:eC (x:Int) 2=0:=(by rw[eD (by omega)];omega);have a9:(x:Int)%2=0:=(by omega);have Z:=Hd (aU.out _ rfl)
   by_cases hk2:kd=2
   ·have e2:((kd:Int)==2)=true:=(by rw[beq_iff_eq];omega);have E:=Hd (show rdP 0 x (1::M)=Iw 3 from by rw[Z.out,iN (by have:=V.out;omega),iP (.inl ⟨S,hk2⟩)]);clear hk2 S;go_wp2_with fail;go_ret;rw[E.out];exact⟨rfl,Y.out,fun h=>absurd h (by decide)⟩
   ·have e2:((kd:Int)==2)=false:=(by rw[qN];omega);have E:=Hd (show rdP 0 x (1::M)=⟨0,[((x:Int),d)],[],R⟩from by rw[Z.out,iN (by have:=V.out;omega),iN (by omega)]);obtain⟨⟨G,aA,aB⟩,-⟩:=id S4.out;have aL:=P4.out.cell 2;simp only[cR,cS,aP]at aL;have aN:=Hd aA;have aO:=Hd aB;clear hk2 S aA aB;go_wp2_with (first
     |(refine Af rfl 52 (.tmp 9) rfl q rfl 52 #[rD rG kd,x0,x1,x2,rD rG sr,x3,x4,u0,u1,u2] (0,0) _ Q4.out underlying52 rfl (by kernel_rfl) ?_)
     |(refine Ep rfl (.tmp 57) (.tmp 58) (.tmp 59) rfl underlying98 rfl aN.out rfl bS.out (by obtain⟨t,u,l,z,A,C,D⟩:=i.out;unfold maxLen;omega) _ rfl ?_))
    intro w5 aC N;have S5:=Hd (S4.out.putN aO.out aC N (bW.out.mono (by obtain⟨t,u,l,z,A,C,D⟩:=i.out;omega)) (by obtain⟨t,u,l,z,A,C,D⟩:=i.out;omega) (by obtain⟨t,u,l,z,A,C,D⟩:=i.out;exact l));have R5:=Hd (R4.out.only N (by obtain⟨t,u,l,z,A,C,D⟩:=i.out;omega) (by obtain⟨t,u,l,z,A,C,D⟩:=i.out;have:=aV.out;omega));have aT:=Hd (Y.out.trans (On3.of N (.inr (.inl rfl))));clear aC N y0;go_wp2_with fail;go_ret;rw[E.out];exact⟨rfl,aT.out,fun _=>⟨R5.out,by have:=S5.out;rw[Ziu];exact this⟩⟩
  |succ j=>
   have aD:x%2=1:=Gv aR.out;have b6:eC (x:Int) 2=1:=(by rw[eD (by omega)];omega);have a9:(x:Int)%2=1:=(by omega);have Z:=Hd (aU.out _ rfl)
   by_cases hk2:kd=1
   ·have e2:((kd:Int)==1)=true:=(by rw[beq_iff_eq];omega);have E:=Hd (show rdP (j+1) x (1::M)=Iw 3 from by rw[Z.out,iN (by have:=V.out;omega),iP (.inr ⟨aD,hk2⟩)]);clear hk2 aD;go_wp2_with fail;go_ret;rw[E.out];exact⟨rfl,Y.out,fun h=>absurd h (by decide)⟩
   ·have e2:((kd:Int)==1)=false:=(by rw[qN];omega);have E:=Hd (show rdP (j+1) x (1::M)=Ml x d (rdP j (x-2^j) R) (rdP j (x+2^j) (rdP j (x-2^j) R).rest)from by rw[Z.out,iN (by have:=V.out;omega),iN (by omega)]);have c3:2^(j+1)=2*2^j:=(by rw[Nat.pow_succ];omega);have c7:=fD j;have hX:=cW.out;have c5:=cX.out;have aG:x<=131070:=(by omega);obtain⟨kl,kr,cD,cE,kx⟩:=kids_lev aG aR.out;have aI:=fun(W:World)=>Jx (x:Int) W;have aK:=fun(W:World)=>Id (x:Int) W;rw[kl]at aI;rw[kr]at aK;have b4:=aQ.out;have dA:=aS.out;have aZ:∀y∈R,y<256:=fun y hy=>cP.out y (b4.2.2 y hy);have I1:=fun(W:World) (n' m':Nat) (F':Int->Option NodeD) (H':Int->Option (List Nat)) (bB:n'+m'+R.length<=900000000) (h1:g<=W.heap.size) (h2:RS W B R 0) (h3:PcS W ob sb g n' m' F' H')=>IH j rfl (x-2^j) lv ow B ob sb g n' m' R F' H' W cD (by omega) (by omega) (by obtain⟨t,u,l,z,A,C,D⟩:=i.out;omega) (by obtain⟨t,u,l,z,A,C,D⟩:=i.out;omega) (by obtain⟨t,u,l,z,A,C,D⟩:=i.out;exact l) (by obtain⟨t,u,l,z,A,C,D⟩:=i.out;omega) (by obtain⟨t,u,l,z,A,C,D⟩:=i.out;omega) h1 h2 h3 bB aZ;have aJ:=fun(h:(rdP j (x-2^j) R).er=0)=>Vh j (x-2^j) R (by omega) h;obtain⟨r,b9⟩:=eX (rdP j (x-2^j) R);rw[<-b9]at I1 aJ E;have I2:=fun(W:World) (n' m':Nat) (F':Int->Option NodeD) (H':Int->Option (List Nat)) (he:r.er=0) (bB:n'+m'+r.rest.length<=900000000) (h1:g<=W.heap.size) (h2:RS W B r.rest 0) (h3:PcS W ob sb g n' m' F' H')=>IH j rfl (x+2^j) lv ow B ob sb g n' m' r.rest F' H' W cE (by omega) (by omega) (by obtain⟨t,u,l,z,A,C,D⟩:=i.out;omega) (by obtain⟨t,u,l,z,A,C,D⟩:=i.out;omega) (by obtain⟨t,u,l,z,A,C,D⟩:=i.out;exact l) (by obtain⟨t,u,l,z,A,C,D⟩:=i.out;omega) (by obtain⟨t,u,l,z,A,C,D⟩:=i.out;omega) h1 h2 h3 bB fun y hy=>aZ y ((aJ he).sub.2 y hy);have aW:=fun(h:(rdP j (x+2^j) r.rest).er=0)=>Vh j (x+2^j) r.rest (by omega) h;obtain⟨P,cA⟩:=eX (rdP j (x+2^j) r.rest);rw[<-cA]at I2 aW E;have B1:r.er=0->(∀p∈r.op,p.1<(x:Int))/\(∀p∈r.sh,p.1<(x:Int))/\r.op.length+r.sh.length+r.rest.length<=R.length:=fun h=>by
     have o:=aJ h;exact⟨fun p hp=>by have:=(o.opIn p hp).2;omega,fun p hp=>by have:=(o.shIn p hp).2;omega,o.len⟩
    have B2:P.er=0->(∀p∈P.op,(x:Int)<p.1)/\(∀p∈P.sh,(x:Int)<p.1):=fun h=>by
     have o:=aW h;exact⟨fun p hp=>by have:=(o.opIn p hp).1;omega,fun p hp=>by have:=(o.shIn p hp).1;omega⟩
    obtain⟨xl,aH⟩:=eX (x-2^j);obtain⟨xr,cC⟩:=eX (x+2^j);rw[<-aH]at I1 aI;rw[<-cC]at I2 aK;have cL:=Hd I1;have cM:=Hd I2;have bG:=Hd aI;have bH:=Hd aK;have bF:=Hd B1;have cJ:=Hd B2;obtain⟨⟨G,aA,aB⟩,-⟩:=id S4.out;have aL:=P4.out.cell 2;simp only[cR,cS,aP]at aL;have aN:=Hd aA;have aO:=Hd aB;clear hk2 aD aA aB I1 I2 aI aK B1 B2 aJ aW b9 cA aH cC kl kr cD cE kx hX c5 aG c3 c7 b4 dA aZ;go_wp2_with (first
     |(refine Af rfl 52 (.tmp 9) rfl q rfl 52 #[rD rG kd,x0,x1,x2,rD rG sr,x3,x4,u0,u1,u2] (0,0) _ Q4.out underlying52 rfl (by kernel_rfl) ?_)
     |(refine Ep rfl (.tmp 57) (.tmp 58) (.tmp 59) rfl underlying98 rfl aN.out rfl bS.out (by obtain⟨t,u,l,z,A,C,D⟩:=i.out;unfold maxLen;omega) _ rfl ?_))
    intro w5 aC N;have S5:=Hd (S4.out.putN aO.out aC N (bW.out.mono (by obtain⟨t,u,l,z,A,C,D⟩:=i.out;omega)) (by obtain⟨t,u,l,z,A,C,D⟩:=i.out;omega) (by obtain⟨t,u,l,z,A,C,D⟩:=i.out;exact l));have R5:=Hd (R4.out.only N (by obtain⟨t,u,l,z,A,C,D⟩:=i.out;omega) (by obtain⟨t,u,l,z,A,C,D⟩:=i.out;have:=aV.out;omega));have aT:=Hd (Y.out.trans (On3.of N (.inr (.inl rfl))));have bX:=Hd (P4.out.only N (by obtain⟨t,u,l,z,A,C,D⟩:=i.out;omega));have bU:=Hd (eT aV.out N.size);have bI:=Hd fun(W:World) (hw:Below w5.heap.size w5 W)=>cL.out W (n+1) m (Mf F [((x:Int),d)]) H (by have:=aQ.out.1;have:=aS.out;omega) (by obtain⟨t,u,l,z,A,C,D⟩:=i.out;have:=bU.out;have:=hw.size;omega) (R5.out.below hw) (S5.out.below hw);clear aC N y0 aL;go_wp2_with fail;refine Bd [eF (.agg #[rD rF lv,rD rF ow,.map (some ob),.map (some sb)]),eF (rE (some ⟨B,0,rI⟩)),eF (rD rF (x:Nat)),eF (rD rF (xl:Nat)),fun v w'=>v=rD rG (r.er:Nat)/\(r.er=0->RS w' B r.rest 0/\PcS w' ob sb g (n+1+r.op.length) (m+r.sh.length) (Mf (Mf F [((x:Int),d)]) r.op) (Po (H) r.sh)),eF (rD rG (r.er:Nat))]
     (eK 6 true) (fun x=>On3 B ob sb w5 x) (fun x y=>On3 B ob sb x y) (some 4) (by kernel_rfl) ?_ ⟨rfl,rfl,rfl,lR,fun _ _ _ _ _=>rfl⟩ (fun x y _ h=>On3.below h) (fun x y hx hs=>hx.trans hs) (by kernel_rfl) (by kernel_rfl) ?_ ?_
    ·exact kE (kE (kE (kE (Cp (fun v x y h _ I=>⟨h.1,fun e=>⟨(h.2 e).1.below I,(h.2 e).2.below I⟩⟩) (Ax (fun _ _ _ h _ _=>h) Ag)))))
    ·refine gO ?_ (gP ?_ rfl (gP ?_ rfl (gO ?_ (gOw (by kernel_rfl) ?_ (gP ?_ rfl .nil)))));all_goals
      intro a wx Q a0 ho hf;have Q:On3 B ob sb w5 wx:=Q;refine⟨rfl,?_⟩;intro K T;try have aX:a.tmps[3]?.getD undef=rE (some ⟨p,0,rI⟩):=ho 3 (by kernel_rfl)
      try have c0:a.tmps[1]?.getD undef=rE (some ⟨B,0,rI⟩):=ho 1 (by kernel_rfl)
      try have c1:a.tmps[2]?.getD undef=rD rF (x:Nat):=ho 2 (by kernel_rfl)
      try have cF:=eqn hf.1
      try have cG:=eqn hf.2.1
      try have cH:=eqn hf.2.2.1
      try(refine Hd ?_;go_simp;exact T _ rfl)
     ·have bC:=bX.out.on3 Q (by obtain⟨t,u,l,z,A,C,D⟩:=i.out;omega) (by obtain⟨t,u,l,z,A,C,D⟩:=i.out;omega) (by obtain⟨t,u,l,z,A,C,D⟩:=i.out;omega);exact wp_load_row 101 (.tmp 3) rfl _ (evs aX) _ _ (0,0) _ bC underlying101 rfl (by kernel_rfl) (T _ _ rfl (Ai rfl bR))
     ·go_simp;refine(bG.out wx).mono ?_;rintro e w7 ⟨rfl,rfl⟩;exact T _ _ rfl (Ai rfl bR)
     ·go_simp;refine(bI.out wx a0).mono ?_;rintro e w7 ⟨rfl,h2,h3⟩;exact T _ _ ⟨rfl,h3⟩ (Bu rfl h2)
     ·refine Hd ?_;have cI:a.tmps[67]?.getD undef=rD rG (r.er:Nat):=hf.1.1;go_simp;exact T _ rfl
    ·rintro f w6 I J;have I:On3 B ob sb w5 w6:=I;have O:r.er=0->RS w6 B r.rest 0/\PcS w6 ob sb g (n+1+r.op.length) (m+r.sh.length) (Mf (Mf F [((x:Int),d)]) r.op) (Po (H) r.sh):=J.2.2.2.2.1.2;have Sr:f 11=rD rG (r.er:Nat):=J.2.2.2.2.2.1;clear J;simp only[Ao,Av,Ej,dG,dH,dJ,dK,Nat.reduceBEq,Nat.reduceAdd,dM,dO,cond_true,cond_false];rw[Sr];clear Sr;have bK:=Hd (aT.out.trans I);have c2:=Hd (bX.out.on3 I (by obtain⟨t,u,l,z,A,C,D⟩:=i.out;omega) (by obtain⟨t,u,l,z,A,C,D⟩:=i.out;omega) (by obtain⟨t,u,l,z,A,C,D⟩:=i.out;omega));have cZ:=Hd (eT bU.out I.size);have bN:=Hd O;clear I O
     by_cases hl0:r.er=0
     ·have c8:((r.er:Int) !=0)=false:=(by rw[bne_eq_false_iff_eq];omega);have HL0:=Hd hl0;have bJ:=Hd fun(W:World) (hw:Below w6.heap.size w6 W)=>cM.out W (n+1+r.op.length) (m+r.sh.length) (Mf (Mf F [((x:Int),d)]) r.op) (Po H r.sh) hl0 (by have:=aQ.out.1;have:=aS.out;have:=(bF.out hl0).2.2;omega) (by obtain⟨t,u,l,z,A,C,D⟩:=i.out;have:=cZ.out;have:=hw.size;omega) ((bN.out hl0).1.below hw) ((bN.out hl0).2.below hw);clear hl0;go_wp2_with fail;refine Bd [eF (.agg #[rD rF lv,rD rF ow,.map (some ob),.map (some sb)]),eF (rE (some ⟨B,0,rI⟩)),eF (rD rF (x:Nat)),eF (rD rF (xr:Nat)),fun v w'=>v=rD rG (P.er:Nat)/\(P.er=0->RS w' B P.rest 0/\PcS w' ob sb g (n+1+r.op.length+P.op.length) (m+r.sh.length+P.sh.length) (Mf (Mf (Mf F [((x:Int),d)]) r.op) P.op) (Po (Po H r.sh) P.sh)),eF (rD rG (P.er:Nat))]
       (eK 6 true) (fun x=>On3 B ob sb w6 x) (fun x y=>On3 B ob sb x y) (some 4) (by kernel_rfl) ?_ ⟨rfl,rfl,rfl,lR,fun _ _ _ _ _=>rfl⟩ (fun x y _ h=>On3.below h) (fun x y hx hs=>hx.trans hs) (by kernel_rfl) (by kernel_rfl) ?_ ?_
      ·exact kE (kE (kE (kE (Cp (fun v x y h _ I=>⟨h.1,fun e=>⟨(h.2 e).1.below I,(h.2 e).2.below I⟩⟩) (Ax (fun _ _ _ h _ _=>h) Ag)))))
      ·refine gO ?_ (gP ?_ rfl (gP ?_ rfl (gO ?_ (gOw (by kernel_rfl) ?_ (gP ?_ rfl .nil)))));all_goals
        intro a wx Q a0 ho hf;have Q:On3 B ob sb w6 wx:=Q;refine⟨rfl,?_⟩;intro K T;try have aX:a.tmps[3]?.getD undef=rE (some ⟨p,0,rI⟩):=ho 3 (by kernel_rfl)
        try have c0:a.tmps[1]?.getD undef=rE (some ⟨B,0,rI⟩):=ho 1 (by kernel_rfl)
        try have c1:a.tmps[2]?.getD undef=rD rF (x:Nat):=ho 2 (by kernel_rfl)
        try have cF:=eqn hf.1
        try have cG:=eqn hf.2.1
        try have cH:=eqn hf.2.2.1
        try(refine Hd ?_;go_simp;exact T _ rfl)
       ·have bC:=c2.out.on3 Q (by obtain⟨t,u,l,z,A,C,D⟩:=i.out;omega) (by obtain⟨t,u,l,z,A,C,D⟩:=i.out;omega) (by obtain⟨t,u,l,z,A,C,D⟩:=i.out;omega);exact wp_load_row 101 (.tmp 3) rfl _ (evs aX) _ _ (0,0) _ bC underlying101 rfl (by kernel_rfl) (T _ _ rfl (Ai rfl bR))
       ·go_simp;refine(bH.out wx).mono ?_;rintro e w7 ⟨rfl,rfl⟩;exact T _ _ rfl (Ai rfl bR)
       ·go_simp;refine(bJ.out wx a0).mono ?_;rintro e w7 ⟨rfl,h2,h3⟩;exact T _ _ ⟨rfl,h3⟩ (Bu rfl h2)
       ·refine Hd ?_;have cI:a.tmps[75]?.getD undef=rD rG (P.er:Nat):=hf.1.1;go_simp;exact T _ rfl
      ·rintro f w7 I J;have I:On3 B ob sb w6 w7:=I;have O:P.er=0->RS w7 B P.rest 0/\PcS w7 ob sb g (n+1+r.op.length+P.op.length) (m+r.sh.length+P.sh.length) (Mf (Mf (Mf F [((x:Int),d)]) r.op) P.op) (Po (Po H r.sh) P.sh):=J.2.2.2.2.1.2;have Sr:f 6=rD rG (P.er:Nat):=J.2.2.2.2.2.1;clear J;simp only[Ao,Av,Ej,dG,dH,dJ,dK,Nat.reduceBEq,Nat.reduceAdd,dM,dO,cond_true,cond_false];rw[Sr];clear Sr;have bL:=Hd (bK.out.trans I);have bO:=Hd O;clear I O;go_wp2_with fail;go_ret;rw[E.out];unfold Ml;rw[iN (by have:=HL0.out;omega)]
       by_cases hr0:P.er=0
       ·obtain⟨l1,l2,l3⟩:=bF.out HL0.out;obtain⟨r1,r2⟩:=cJ.out hr0;obtain⟨p1,p2⟩:=bO.out hr0;rw[iN (by omega)];refine⟨by rw[hr0];rfl,bL.out,fun _=>⟨p1,?_⟩⟩;have e1:=Ziv F (d:=d) l1 r1;have e2:=Ziw H l2 r2;rw[e1,e2]at p2;exact p2.le (by simp only[bA,dB];omega) (by simp only[bA];omega)
       ·rw[iP hr0];exact⟨rfl,bL.out,fun h=>absurd h hr0⟩
     ·have c8:((r.er:Int) !=0)=true:=(by rw[bne_iff_ne];omega);have HL0:=Hd hl0;clear hl0;go_wp2_with fail;go_ret;rw[E.out];unfold Ml;rw[iP HL0.out];exact⟨rfl,bK.out,fun h=>absurd h HL0.out⟩
 ·have c4:((te:Int) !=0)=true:=(by rw[bne_iff_ne];omega);obtain⟨K,T⟩:=Zfm k x (1::M);have E:=Hd (show rdP k x (1::M)=Iw te from by rw[aU.out K T,iP h1]);have V:=Hd h1;clear h1 T;go_wp2_with fail;go_ret;rw[E.out];exact⟨rfl,Y.out,fun h=>absurd h V.out⟩
theorem Ziy:∀k,k<=16->Zix k:=by
 have step:∀k,k<=16->(∀j,k=j+1->Zix j)->Zix k:=by
  intro k hk u x lv ow B ob sb g n m L F H w h1 h2 d h3 p q r s t f b c a;rcases Zbz L with⟨v,M,o,l,y⟩|⟨M,rfl,l⟩|⟨M,rfl,l⟩
  ·obtain⟨K,i⟩:=Zfm k x L;rw[i,y];exact Zfn k x lv ow B ob sb g n m v L M F H w f a o l
  ·obtain⟨K,i⟩:=Zfm k x (0::M);rw[i];exact Zfo k x lv ow B ob sb g n m M F H w (by have:=fD k;omega) h3 p q r s t f b (by simp only[dB]at c;omega) a
  ·exact Zfp k x hk u lv ow B ob sb g n m M F H w h1 h2 d h3 p q r s t f b c a
 intro k
 induction k with
 |zero=>intro h;exact step 0 h fun j e=>by cases e
 |succ k ih=>intro h;exact step (k+1) h fun j e=>by cases e;exact ih (by omega)
