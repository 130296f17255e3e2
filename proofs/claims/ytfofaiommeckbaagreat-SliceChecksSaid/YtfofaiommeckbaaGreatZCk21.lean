import Derived.Laws.OwnMore
import Derived.Test.YtfofaiommeckbaaGreatZCk12
open Go.Obj renaming cells -> rJ
open Go.Ending renaming returned -> rK
open Go.Value renaming slice -> rC, int -> rD, pointer -> rE
open Go.IntKind renaming i64 -> rF, u8 -> rG
open Option renaming none -> rI
open Go.Proofs.Tryz
open Nat renaming le_trans -> eT, le_succ -> gI, mod_lt -> bD
open List renaming length_drop -> dZ, mem_of_mem_drop -> iD, length_take -> cQ, mem_of_mem_take -> cL, mem_cons_of_mem -> iE, length_cons -> dB, getElem?_toArray -> cR, getElem?_cons_zero -> cS, getElem?_cons_succ -> aP, getD_eq_getElem?_getD -> aS, getElem?_eq_getElem -> bB, getElem?_drop -> iF, getElem_mem -> bC
open Int renaming tmod -> eC, tmod_eq_emod_of_nonneg -> eD
set_option linter.unusedVariables false
set_option maxRecDepth 100000
set_option maxHeartbeats 40000000
namespace Go.Proofs.YtfofaiommeckbaaGreat
open Go.RowKit WalkM WireM
theorem He {w:World} {g:Nat}(vs:List Value)(o:Nat):w.grownBy (w.setCells g o vs) (some g):=by
 have h:=Fp g vs o w;exact⟨h.1.1,h.1.2,h.1.3,h.2.1,fun k hk hne=>h.2.2 k hk fun e=>hne (by rw[e])⟩
end Go.Proofs.YtfofaiommeckbaaGreat
namespace Go.Proofs.YtfofaiommeckbaaGreat
open Go.RowKit WireM
def Br (L:List Nat)(er:Nat):Nat×LeafD×List Nat×Nat:=
 let r1:=Bg L er
 let r2:=Bg r1.2.1 r1.2.2
 let r3:=Bg r2.2.1 r2.2.2
 let r4:=Eg r3.2.1 r3.2.2 1
 let s:=Du r4.1
 if r4.2.2≠0 then(r4.2.2,noLeafD,r4.2)else
 if s<1\/3<s then(3,noLeafD,r4.2)else
 let r5:=if s=3 then Bg r4.2.1 r4.2.2 else([],r4.2)
 let r6:=Bg r5.2.1 r5.2.2
 if r6.2.2≠0 then(r6.2.2,noLeafD,r6.2)else
 if Lh ⟨r1.1,r2.1,r3.1,s,r5.1,r6.1⟩=true then(0,⟨r1.1,r2.1,r3.1,s,r5.1,r6.1⟩,r6.2)else(3,noLeafD,r6.2)
def Ze3:Nat->List Nat->List Int
 |0,_=>[]
 |k+1,L=>if 4<=L.length then((Du (L.take 4):Nat):Int)::Ze3 k (L.drop 4)else []
def Ei (L:List Nat)(er:Nat):Nat×ParD×List Nat×Nat:=
 let r1:=Bg L er
 let r2:=Bg r1.2.1 r1.2.2
 let r3:=Bg r2.2.1 r2.2.2
 if r3.2.2≠0 then(r3.2.2,noParD,r3.2)else
 let l:=Ze3 r3.1.length r3.1
 if r3.1.length%4=0/\rpB r1.1.length r2.1.length l=true then(0,⟨r1.1,r2.1,l⟩,r3.2)else(3,noParD,r3.2)
def Au (L:List Nat)(er:Nat):Nat×NodeD×List Nat×Nat:=
 let r:=Eg L er 1
 let k:=Du r.1
 if r.2.2≠0 then(r.2.2,Am,r.2)else
 if k=0 then(0,Am,r.2)else
 if k=1 then(let q:=Br r.2.1 r.2.2;if q.1=0 then(0,⟨1,q.2.1,noParD⟩,q.2.2)else(q.1,Am,q.2.2))else
 if k=2 then(let q:=Ei r.2.1 r.2.2;if q.1=0 then(0,⟨2,noLeafD,q.2.1⟩,q.2.2)else(q.1,Am,q.2.2))else
 (3,Am,r.2)
theorem Ze4 (s:Nat):Du [s]=s:=by simp[Du]
def Sub (M L:List Nat):Prop:=M.length<=L.length/\∀x∈M,x∈L
theorem Sub.refl (L:List Nat):Sub L L:=⟨lR,fun _ h=>h⟩
theorem Sub.trans {A B C:List Nat}(h:Sub A B)(k:Sub B C):Sub A C:=⟨eT h.1 k.1,fun x hx=>k.2 x (h.2 x hx)⟩
theorem Sub.nil (L:List Nat):Sub [] L:=⟨Nat.zero_le _,fun _ h=>by simp at h⟩
theorem Sub.drop (L:List Nat)(n:Nat):Sub (L.drop n) L:=⟨by rw[dZ];omega,fun _ h=>iD h⟩
theorem Sub.take (L:List Nat)(n:Nat):Sub (L.take n) L:=⟨by rw[cQ];omega,fun _ h=>cL h⟩
def Zig (L:List Nat)(r:List Nat×List Nat×Nat):Prop:=Sub r.1 L/\Sub r.2.1 L/\r.1.length+r.2.1.length<=L.length
theorem Ou (L:List Nat)(er:Nat)(n:Int):Zig L (Cc L er n):=by
 unfold Cc
 split
 ·exact⟨Sub.nil _,Sub.refl _,by simp⟩
 ·split
  ·exact⟨Sub.nil _,Sub.refl _,by simp⟩
  ·split
   ·exact⟨Sub.nil _,Sub.refl _,by simp⟩
   ·exact⟨Sub.take _ _,Sub.drop _ _,by simp only[cQ,dZ];omega⟩
theorem Ge (L:List Nat)(er:Nat)(n:Int):Zig L (Eg L er n):=Ou _ _ _
theorem Jo (L:List Nat)(er:Nat):Sub (Bl L er).2.1 L:=by
 unfold Bl
 split
 ·exact Sub.refl _
 ·split
  ·exact Sub.refl _
  ·rename_i b M
   have hs:Sub M (b::M):=⟨by simp,fun x hx=>iE _ hx⟩;unfold Sy
   split
   ·exact hs
   ·split
    ·exact hs
    ·split<;>exact(Sub.drop _ _).trans hs
theorem Az (L:List Nat)(er:Nat):Zig L (Bg L er):=by
 have h:=Jo L er;unfold Bg
 split
 ·rename_i M e hm
  rw[hm]at h;exact⟨Sub.nil _,h,by have:=h.1;simpa using this⟩
 ·rename_i n M e hm
  rw[hm]at h;obtain⟨p1,p2,p3⟩:=Ou M e (n:Int);exact⟨p1.trans h,p2.trans h,eT p3 h.1⟩
theorem Ze5 (L:List Nat):Cc L 0 1=match L with|[]=>([],[],4)|b::M=>([b],M,0):=by
 unfold Cc;cases L with
 |nil=>simp
 |cons b M=>simp only[ne_eq,not_true_eq_false,if_false];rw[iN (by omega),iN (by simp only[dB];omega)];simp
theorem De (L:List Nat):Eg L 0 1=match L with|[]=>([],[],4)|b::M=>([b],M,0):=by
 rw[Eg,iP (by decide)];exact Ze5 L
theorem Zih (L:List Nat) {er:Nat}(h:er≠0)(n:Int):Cc L er n=([],L,er):=by rw[Cc,iP h]
theorem Ze6 (L:List Nat) {er:Nat}(h:er≠0)(n:Int):Eg L er n=([],L,er):=Zih L h _
theorem Sp (L:List Nat) {er:Nat}(h:er≠0):Bg L er=([],L,er):=by
 unfold Bg Bl;rw[iP h]
theorem Sq {L:List Nat} {er:Nat} {n:Int}(h:(Cc L er n).2.2=0):er=0/\0<=n/\n<=L.length/\Cc L er n=(L.take n.toNat,L.drop n.toNat,0):=by
 unfold Cc at h|-
 split at h
 ·rename_i h1;exact absurd h h1
 ·rename_i h1
  split at h
  ·cases h
  ·rename_i h2
   split at h
   ·cases h
   ·rename_i h3
    rw[iN h1,iN h2,iN h3];exact⟨by simpa using h1,by omega,by omega,rfl⟩
theorem Ze7 {L:List Nat}(h:(Br L 0).1=0):Lh (Br L 0).2.1=true/\(Br L 0).2.2.2=0/\Sub (Br L 0).2.2.1 L/\
  ((∀n∈L,n<256)->(∀n∈(Br L 0).2.1.box,n<256)/\(∀n∈(Br L 0).2.1.sign,n<256)/\(∀n∈(Br L 0).2.1.ident,n<256)/\(∀n∈(Br L 0).2.1.par,n<256)/\∀n∈(Br L 0).2.1.sig,n<256):=by
 unfold Br at h|-;simp only at h|-;generalize hr1:Bg L 0=r1 at h|-;have c:=Az L 0;rw[hr1]at c;generalize hr2:Bg r1.2.1 r1.2.2=r2 at h|-;have d:=Az r1.2.1 r1.2.2;rw[hr2]at d;generalize hr3:Bg r2.2.1 r2.2.2=r3 at h|-;have e:=Az r2.2.1 r2.2.2;rw[hr3]at e;generalize hr4:Eg r3.2.1 r3.2.2 1=r4 at h|-;have g:=Ge r3.2.1 r3.2.2 1;rw[hr4]at g
 split at h
 ·rename_i h1;exact absurd h h1
 ·rename_i h1
  split at h
  ·cases h
  ·rename_i h2
   generalize hr5:(if Du r4.1=3 then Bg r4.2.1 r4.2.2 else([],r4.2))=r5 at h|-;have i:Zig r4.2.1 r5:=by
    rw[<-hr5]
    split
    ·exact Az _ _
    ·exact⟨Sub.nil _,Sub.refl _,by simp⟩
   generalize hr6:Bg r5.2.1 r5.2.2=r6 at h|-;have f:=Az r5.2.1 r5.2.2;rw[hr6]at f
   split at h
   ·rename_i h3;exact absurd h h3
   ·rename_i h3
    split at h
    ·rename_i h4
     rw[iN h1,iN h2,iN h3,iP h4];have j:=c.2.1;have k:=d.2.1.trans j;have o:=e.2.1.trans k;have l:=g.2.1.trans o;have m:=i.2.1.trans l;exact⟨h4,by simpa using h3,f.2.1.trans m,fun b=>⟨fun n a=>b n (c.1.2 n a),fun n a=>b n ((d.1.trans j).2 n a),fun n a=>b n ((e.1.trans k).2 n a),fun n a=>b n ((i.1.trans l).2 n a),fun n a=>b n ((f.1.trans m).2 n a)⟩⟩
    ·cases h
theorem Zr:∀(k:Nat) (L:List Nat),4*(Ze3 k L).length<=L.length
 |0,L=>by simp[Ze3]
 |k+1,L=>by
  unfold Ze3
  split
  ·have:=Zr k (L.drop 4);rw[dZ]at this;rw[dB];omega
  ·simp
theorem Zii {L:List Nat}(h:(Ei L 0).1=0):rpB (Ei L 0).2.1.box.length (Ei L 0).2.1.hash.length (Ei L 0).2.1.late=true/\(Ei L 0).2.2.2=0/\Sub (Ei L 0).2.2.1 L/\4*(Ei L 0).2.1.late.length<=L.length/\
  ((∀n∈L,n<256)->(∀n∈(Ei L 0).2.1.box,n<256)/\∀n∈(Ei L 0).2.1.hash,n<256):=by
 unfold Ei at h|-;simp only at h|-;generalize hr1:Bg L 0=r1 at h|-;have b:=Az L 0;rw[hr1]at b;generalize hr2:Bg r1.2.1 r1.2.2=r2 at h|-;have c:=Az r1.2.1 r1.2.2;rw[hr2]at c;generalize hr3:Bg r2.2.1 r2.2.2=r3 at h|-;have d:=Az r2.2.1 r2.2.2;rw[hr3]at d
 split at h
 ·rename_i h1;exact absurd h h1
 ·rename_i h1
  split at h
  ·rename_i h2
   rw[iN h1,iP h2];have f:=b.2.1;have g:=c.2.1.trans f;have i:=Zr r3.1.length r3.1;have h3:=(d.1.trans g).1;exact⟨h2.2,by simpa using h1,d.2.1.trans g,by simp only;omega,fun e=>⟨fun n a=>e n (b.1.2 n a),fun n a=>e n ((c.1.trans f).2 n a)⟩⟩
  ·cases h
theorem Mc {α:Type} {P: α->Prop}:∀n∈([]:List α),P n:=fun n h=>by simp at h
structure TkOk (L:List Nat) (d:NodeD) (R:List Nat):Prop where
 right:At d=true
 sub:Sub R L
 len:R.length<L.length
 late:4*d.par.late.length<=L.length
 ok:(∀n∈L,n<256)->NodeOk d
theorem Xd:nlB noLeafD.box.length noLeafD.sign.length noLeafD.ident.length noLeafD.source noLeafD.par.length noLeafD.sig.length=true:=by decide
theorem Zbs:npB noParD.box.length noParD.hash.length noParD.late.length=true:=by decide
theorem Vf {L:List Nat}(h:(Au L 0).1=0):(Au L 0).2.2.2=0/\TkOk L (Au L 0).2.1 (Au L 0).2.2.1:=by
 unfold Au at h|-;simp only[De]at h|-;cases L with
 |nil=>simp at h
 |cons b M=>
  have i:Sub M (b::M):=⟨by simp,fun x hx=>iE _ hx⟩;simp only[Ze4,ne_eq,not_true_eq_false,if_false]at h|-
  by_cases h0:b=0
  ·rw[iP h0]at h|-;exact⟨rfl,(by decide:At Am=true),i,by simp,by simp[Am,noParD],fun _=>Kf⟩
  ·rw[iN h0]at h|-
   by_cases h1:b=1
   ·rw[iP h1]at h|-
    split at h
    ·rename_i h2
     rw[iP h2];obtain⟨a,e,c,f⟩:=Ze7 h2;generalize Br M 0=q at h2 a e c f|-;refine⟨e,?_,c.trans i,by have:=c.1;simp only[dB];omega,by simp[noParD],fun g=> ?_⟩
     ·show(rlB _ _ _ _ _ _&&npB _ _ _)=true;rw[Zbs,Bool.and_true];exact a
     ·obtain⟨c1,c2,c3,c4,c5⟩:=f fun n d=>g n (iE _ d);have:=oD (p:=_) a;exact⟨show 1<256 by omega,by simp only;omega,c1,c2,c3,c4,c5,Mc,Mc,Mc⟩
    ·rename_i h2;exact absurd h h2
   ·rw[iN h1]at h|-
    by_cases h2:b=2
    ·rw[iP h2]at h|-
     split at h
     ·rename_i h3
      rw[iP h3];obtain⟨a,e,c,k,f⟩:=Zii h3;generalize Ei M 0=q at h3 a e c k f|-;refine⟨e,?_,c.trans i,by have:=c.1;simp only[dB];omega,by simp only[dB];omega,fun g=> ?_⟩
      ·show(nlB noLeafD.box.length noLeafD.sign.length noLeafD.ident.length noLeafD.source noLeafD.par.length noLeafD.sig.length&&rpB q.2.1.box.length q.2.1.hash.length q.2.1.late)=true;rw[Xd,Bool.true_and];exact a
      ·obtain⟨c1,c2⟩:=f fun n d=>g n (iE _ d);have j:=Fo (by unfold rpB at a;rw[Bool.and_eq_true]at a;exact a.1);exact⟨show 2<256 by omega,show 0<256 by omega,Mc,Mc,Mc,Mc,Mc,c1,c2,fun n d=>by have:=j n d;omega⟩
     ·rename_i h3;exact absurd h h3
    ·rw[iN h2]at h;simp at h
section
theorem Only.alloc {B:Nat} {a w:World}(h:Only B a w)(o:Obj):Only B a (w.alloc o):=h.trans (Only.of (bR.alloc lR o))
theorem Only.then {B:Nat} {a b c:World}(h:Only B a b)(k:Below a.heap.size b c):Only B a c:=
 ⟨k.os.trans h.os,k.tape.trans h.tape,k.output.trans h.output,eT h.size k.size,fun i hi hne=>(k.block i hi).trans (h.block i hi hne)⟩
theorem Blk.only {w w':World} {g C:Nat} {t:TypeId} {cs:Array Value}(h:Blk w g t cs)(ho:Only C w w')(hne:g≠C):Blk w' g t cs:=
 (ho.block g h.lt (fun e=>hne (by simpa using e))).trans h
theorem Own.other {w w':World} {B q:Nat} {e t:TypeId} {v:Value} {xs:List Value} {cs:Array Value}(h:Own w B e v xs)(m:Blk w q t cs)(j:e≠t)(o:∀i,i<w.heap.size->i≠q->w'.heap[i]? =w.heap[i]?):Own w' B e v xs:=by
 have p:=h.ne_blk m j;have f:∀g,v.ownBlock=some g->g<w.heap.size:=by
  intro g b;rcases h.2 with⟨rfl,_⟩|⟨c,k,a,rfl,n,d,_⟩
  ·simp[Value.ownBlock]at b
  ·simp[Value.ownBlock]at b;subst b;exact(Array.getElem?_eq_some_iff.1 d).1
 obtain⟨l,r|⟨c,k,a,rfl,b,d,rest⟩⟩:=h
 ·exact⟨l,.inl r⟩
 ·exact⟨l,.inr ⟨c,k,a,rfl,b,by rw[o c (f c (by simp[Value.ownBlock])) (fun e=>p (by simp[Value.ownBlock,e]))];exact d,rest⟩⟩
theorem Own.setO {w:World} {B q:Nat} {e t:TypeId} {v:Value} {xs:List Value} {cs:Array Value}(h:Own w B e v xs)(hb:Blk w q t cs)(hne:e≠t)(i:Nat)(u:Value):Own (w.setCell ⟨q,i,rI⟩ u) B e v xs:=
 h.other hb hne fun j _ hj=>Below.heap_setCell w _ u j hj
theorem RS.setO {w:World} {B q:Nat} {L:List Nat} {er:Nat}(h:RS w B L er)(hq:B<q)(i:Nat)(u:Value):RS (w.setCell ⟨q,i,rI⟩ u) B L er:=
 h.low ((Below.refl q w).setCell (by simp) u) hq
theorem Hv {w:World} {B:Nat} {v:Value} {L:List Nat}(h:Own w B 5 v (bvs L)):∃a c,v=.slice a L.length c:=by
 obtain⟨a,c,e,_⟩:=h.rd;rw[bvs_len]at e;exact⟨a,c,e⟩
theorem Qq {B:Nat} {a b c:World}(h:Only B a b)(k:Below b.heap.size b c):Only B a c:=h.then (k.mono h.size)
theorem Bq {B:Nat} {a b c:World}(h:Only B a b)(k:Below a.heap.size b c):Only B a c:=h.then k
theorem Xe {B:Nat} {a b:World}(h:Only B a b) {q:Nat}(hq:a.heap.size<=q)(i:Nat)(u:Value):Only B a (b.setCell ⟨q,i,rI⟩ u):=
 h.then ((Below.refl a.heap.size b).setCell hq u)
def Al (w:World)(g:Nat)(l:List (Value×List Nat)):Prop:=∀p∈l,Own w g 5 p.1 (bvs p.2)
section
variable {w w':World} {g B q:Nat} {l:List (Value×List Nat)} {v:Value} {L:List Nat} {t:TypeId} {cs:Array Value}
theorem Al.nil (w:World)(g:Nat):Al w g []:=fun p h=>by simp at h
theorem Al.cons (h:Al w g l)(hv:Own w g 5 v (bvs L)):Al w g ((v,L)::l):=fun p hp=>by
 rcases List.mem_cons.1 hp with rfl|hp
 ·exact hv
 ·exact h p hp
theorem Al.only (h:Al w g l)(ho:Only B w w')(hB:B<g):Al w' g l:=fun p hp=>(h p hp).only ho hB
theorem Al.below (h:Al w g l)(hb:Below w.heap.size w w'):Al w' g l:=fun p hp=>(h p hp).below hb lR
theorem Al.mono (h:Al w g l) {g':Nat}(hg:g'<=g):Al w g' l:=fun p hp=>(h p hp).mono hg
theorem Al.setO (h:Al w g l)(hb:Blk w q t cs)(hne:(5:TypeId)≠t)(i:Nat)(u:Value):Al (w.setCell ⟨q,i,rI⟩ u) g l:=fun p hp=>(h p hp).setO hb hne i u
theorem Al.other (h:Al w g l)(hb:Blk w q t cs)(hne:(5:TypeId)≠t)(ho:∀i,i<w.heap.size->i≠q->w'.heap[i]? =w.heap[i]?):Al w' g l:=fun p hp=>(h p hp).other hb hne ho
theorem Al.nth (h:Al w g l)(i:Nat)(hi:l[i]? =some (v,L)):Own w g 5 v (bvs L):=h _ (List.mem_of_getElem? hi)
end
theorem LeafO.none (w:World)(B:Nat):LeafO w B noLeafD #[rC rI 0 0,rC rI 0 0,rC rI 0 0,rD rG 0,rC rI 0 0,rC rI 0 0]:=⟨_,_,_,_,_,rfl,Own.nil _ _ _,Own.nil _ _ _,Own.nil _ _ _,Own.nil _ _ _,Own.nil _ _ _⟩
def Zij (B:Nat)(w:World)(r:Nat×LeafD×List Nat×Nat)(e:Ending)(w':World):Prop:=
 ∃c,e=rK (.tuple #[.agg c,rD rG (r.1:Nat)])/\LeafO w' w.heap.size r.2.1 c/\RS w' B r.2.2.1 r.2.2.2/\Only B w w'
theorem Xf (F G H E t L0 L1 L2 L3 L4 L5 L6:List Nat) (e1 e2 e3 X e5 P s B:Nat) (r:Nat×LeafD×List Nat×Nat) (w:World) (h:RS w B L0 0)
  (C1:∀W,RS W B L0 0->Calls prog 254 #[rE (some ⟨B,0,rI⟩)] W (Mj B W (F,L1,e1)))
  (C2:∀W,RS W B L1 e1->Calls prog 254 #[rE (some ⟨B,0,rI⟩)] W (Mj B W (G,L2,e2)))
  (C3:∀W,RS W B L2 e2->Calls prog 254 #[rE (some ⟨B,0,rI⟩)] W (Mj B W (H,L3,e3)))
  (C4:∀W,RS W B L3 e3->Calls prog 154 #[rE (some ⟨B,0,rI⟩),rD rF 1] W fun e W'=>e=rK (rD .u64 (s:Nat))/\RS W' B L4 X/\Only B W W')
  (C5:s=3->∀W,RS W B L4 X->Calls prog 254 #[rE (some ⟨B,0,rI⟩)] W (Mj B W (E,L5,e5)))
  (N5:s≠3->E=[]/\L5=L4/\e5=X)
  (C6:∀W,RS W B L5 e5->Calls prog 254 #[rE (some ⟨B,0,rI⟩)] W (Mj B W (t,L6,P)))
  (hs:s<256)
  (X4:X≠0->r=(X,noLeafD,L4,X)) (XS:X=0->s<1\/3<s->r=(3,noLeafD,L4,X)) (X6:X=0->¬(s<1\/3<s)->P≠0->r=(P,noLeafD,L6,P))
  (XB:X=0->¬(s<1\/3<s)->P=0->∀b,rlB F.length G.length H.length s E.length t.length=b->r=if b=true then(0,⟨F,G,H,s,E,t⟩,L6,P)else(3,noLeafD,L6,P)):
  Calls prog 218 #[rE (some ⟨B,0,rI⟩)] w (Zij B w r):=by
 have hB:=h.lt;obtain⟨g,hg⟩:=eX w.heap.size;have N:=Hd hg;have u:=Hd (show B<g by omega);obtain⟨w0,aA⟩:=eX (w.alloc (rJ #[rC rI 0 0,rC rI 0 0,rC rI 0 0,rD rG 0,rC rI 0 0,rC rI 0 0] 44));have bM:=Hd aA;have aY:=Hd (show g+1<=w0.heap.size by rw[aA,hg];simp);have G0:=Hd (show Blk w0 g 44 #[rC rI 0 0,rC rI 0 0,rC rI 0 0,rD rG 0,rC rI 0 0,rC rI 0 0] by rw[aA,hg];exact Blk.new _ _ _);have A0:=Hd (Al.nil w0 (g+1));have O0:=Hd (show Only B w w0 by rw[aA];exact(Only.refl _ _).alloc _);have R0:=Hd (show RS w0 B L0 0 by rw[aA];exact h.low ((Below.refl w.heap.size w).alloc lR (rJ #[rC rI 0 0,rC rI 0 0,rC rI 0 0,rD rG 0,rC rI 0 0,rC rI 0 0] 44)) hB);have bG:=Hd C1;have bH:=Hd C2;have bI:=Hd C3;have bJ:=Hd C4;have bK:=Hd C5;have bL:=Hd N5;have aS:=Hd C6;have bN:=Hd X4;have bO:=Hd XS;have aW:=Hd X6;have aX:=Hd XB;have aJ:=Hd fun(L:List Nat) (er:Nat) W=>Gm B L er W;have aT:=Hd @Jz;obtain⟨S,hS⟩:=eX (Zij B w r);rw[<-hS];have HS:=Hd (show∀(e:Ending) (w':World) {c:Array Value} {k:Nat} {d:LeafD} {R:List Nat} {re:Nat},e=rK (.tuple #[.agg c,rD rG (k:Nat)])->r=(k,d,R,re)->LeafO w' w.heap.size d c->RS w' B R re->Only B w w'->S e w' from by
  rintro e w' c k d R re rfl rfl h1 h2 h3;rw[hS];exact⟨c,rfl,h1,h2,h3⟩)
 clear h hB hg aA C1 C2 C3 C4 C5 N5 C6 X4 XS X6 XB hS;go_in;go_wp2_with fail;rw[<-bM.out,<-N.out];refine(bG.out w0 R0.out).mono ?_;rintro e w1 ⟨u1,rfl,m,o,a⟩;obtain⟨T,c1,rfl⟩:=Hv m;have D:=m.mono (B':=g+1) aY.out;have aZ:=Hd (eT aY.out a.size);have A1:=Hd (A0.out.only a (by have:=u.out;omega));have G1:=Hd (G0.out.only a (by have:=u.out;omega));have O1:=Hd (O0.out.trans a);have R1:=Hd o;replace A1:=Hd (A1.out.cons D);clear m o a D;go_wp2_with fail;refine(bH.out w1 R1.out).mono ?_;rintro e w2 ⟨u2,rfl,m,o,a⟩;obtain⟨U,c2,rfl⟩:=Hv m;have D:=m.mono (B':=g+1) aZ.out;have a0:=Hd (eT aZ.out a.size);have A2:=Hd (A1.out.only a (by have:=u.out;omega));have G2:=Hd (G1.out.only a (by have:=u.out;omega));have O2:=Hd (O1.out.trans a);have R2:=Hd o;replace A2:=Hd (A2.out.cons D);clear m o a D;go_wp2_with fail;refine(bI.out w2 R2.out).mono ?_;rintro e w3 ⟨u3,rfl,m,o,a⟩;obtain⟨V,c3,rfl⟩:=Hv m;have D:=m.mono (B':=g+1) a0.out;have bP:=Hd (eT a0.out a.size);have A3:=Hd (A2.out.only a (by have:=u.out;omega));have G3:=Hd (G2.out.only a (by have:=u.out;omega));have O3:=Hd (O2.out.trans a);have R3:=Hd o;replace A3:=Hd (A3.out.cons D);clear m o a D;go_wp2_with fail;refine(bJ.out w3 R3.out).mono ?_;rintro e w4 ⟨rfl,o,a⟩;have a4:=Hd (eT bP.out a.size);have A4:=Hd (A3.out.only a (by have:=u.out;omega));have G4:=Hd (G3.out.only a (by have:=u.out;omega));have O4:=Hd (O3.out.trans a);have R4:=Hd o;clear o a;obtain⟨q,hq⟩:=eX w4.heap.size;have HQ:=Hd hq;have z:=Hd (show g+1<=q by rw[hq];exact a4.out);have bW:IntKind.u8.wrap (s:Int)=(s:Int):=(by rw[IntKind.wrap_u8];omega);clear hq;go_wp2_with (refine Aa rfl 44 (.tmp 4) (.tmp 16) rfl w4.heap.size #[.slice T F.length c1,.slice U G.length c2,.slice V H.length c3,rD rG s,rC rI 0 0,rC rI 0 0] rfl rfl 44 #[rC rI 0 0,rC rI 0 0,rC rI 0 0,rD rG 0,rC rI 0 0,rC rI 0 0] (Blk.new _ _ _) (by kernel_rfl) rfl rfl ?_);rintro w5 f l n j;have A:Below w4.heap.size w4 w5:=(bR.alloc lR _).trans (l _ lR);have aF:=Hd (eT a4.out A.size);have A5:=Hd (A4.out.below A);have G5:=Hd (G4.out.below A G4.out.lt);have O5:=Hd (Qq O4.out A);have R5:=Hd (R4.out.below A);rw[<-HQ.out]at f|-;have Q5:=Hd f;have y3:=f.cell 3;simp only[cR,cS,aP]at y3;clear f l n j A bW;go_wp2_with fail;refine(aJ.out _ _ _ R5.out).mono ?_;rintro e w' ⟨rfl,rfl⟩
 by_cases h4:X=0
 ·have aB:=Hd h4;have bT:((X:Int) !=0)=false:=by rw[bne_eq_false_iff_eq];omega
  by_cases hs1:s<1\/3<s
  ·have aG:=Hd (bO.out aB.out hs1);clear h4
   by_cases hs0:s<1
   ·have bC:decide ((s:Int)<1)=true:=dT (by omega);clear hs0 hs1;go_wp2_with (refine Aa rfl 44 (.tmp 2) (.tmp 31) rfl g #[rC rI 0 0,rC rI 0 0,rC rI 0 0,rD rG 0,rC rI 0 0,rC rI 0 0] rfl rfl 44 #[rC rI 0 0,rC rI 0 0,rC rI 0 0,rD rG 0,rC rI 0 0,rC rI 0 0] G5.out (by kernel_rfl) rfl rfl ?_);rintro w9 f l n j;have Z:=Hd f;have K:=Hd (Bq O5.out (l w.heap.size (by rw[N.out];exact lR)));have I:=Hd (R5.out.low (l g lR) u.out);clear f l n j;go_wp2_with fail;refine bodyPost_ret (v:=.tuple #[.agg #[rC rI 0 0,rC rI 0 0,rC rI 0 0,rD rG 0,rC rI 0 0,rC rI 0 0],rD rG 3]) (Ac results218 _ _ g _ _ _ rfl Z.out underlying44 rfl (by kernel_rfl)) rfl ?_;exact HS.out _ _ rfl aG.out (LeafO.none _ _) I.out K.out
   ·have bC:decide ((s:Int)<1)=false:=dF (by omega);have bU:decide ((s:Int)>3)=true:=dT (by omega);clear hs0 hs1;go_wp2_with (refine Aa rfl 44 (.tmp 2) (.tmp 31) rfl g #[rC rI 0 0,rC rI 0 0,rC rI 0 0,rD rG 0,rC rI 0 0,rC rI 0 0] rfl rfl 44 #[rC rI 0 0,rC rI 0 0,rC rI 0 0,rD rG 0,rC rI 0 0,rC rI 0 0] G5.out (by kernel_rfl) rfl rfl ?_);rintro w9 f l n j;have Z:=Hd f;have K:=Hd (Bq O5.out (l w.heap.size (by rw[N.out];exact lR)));have I:=Hd (R5.out.low (l g lR) u.out);clear f l n j;go_wp2_with fail;refine bodyPost_ret (v:=.tuple #[.agg #[rC rI 0 0,rC rI 0 0,rC rI 0 0,rD rG 0,rC rI 0 0,rC rI 0 0],rD rG 3]) (Ac results218 _ _ g _ _ _ rfl Z.out underlying44 rfl (by kernel_rfl)) rfl ?_;exact HS.out _ _ rfl aG.out (LeafO.none _ _) I.out K.out
  ·have bC:decide ((s:Int)<1)=false:=dF (by omega);have bU:decide ((s:Int)>3)=false:=dF (by omega);have aE:=Hd hs1;clear hs1 h4
   by_cases hs3:s=3
   ·have bV:((s:Int)==3)=true:=(by rw[beq_iff_eq];omega);have aR:=Hd (bK.out hs3);clear hs3;go_wp2_with fail;refine(aR.out w5 R5.out).mono ?_;rintro e w6 ⟨u5,rfl,m,o,a⟩;obtain⟨O,c5,rfl⟩:=Hv m;have D:=m.mono (B':=g+1) aF.out;have aL:=Hd (eT aF.out a.size);have A6:=Hd (A5.out.only a (by have:=u.out;omega));have G6:=Hd (G5.out.only a (by have:=u.out;omega));have Q6:=Hd (Q5.out.only a (by have:=u.out;have:=z.out;omega));have O6:=Hd (O5.out.trans a);have R6:=Hd o;replace A6:=Hd (A6.out.cons D);have M:=Q6.out;have y4:=M.cell 4;have z4:=M.frozen 4;simp only[cR,cS,aP]at y4;have Q7:=Hd (show Blk (w6.setCell ⟨q,4,rI⟩ (.slice O E.length c5)) q 44 #[.slice T F.length c1,.slice U G.length c2,.slice V H.length c3,rD rG s,.slice O E.length c5,rC rI 0 0]from by simpa using M.set 4 (.slice O E.length c5));have Y:=Hd (show g+1<=(w6.setCell ⟨q,4,rI⟩ (.slice O E.length c5)).heap.size by have:=aL.out;simpa using this);have A7:=Hd (A6.out.setO M (by decide) 4 (.slice O E.length c5));have G7:=Hd (G6.out.far (p:=⟨q,4,rI⟩) (by have:=z.out;simp only;omega) (.slice O E.length c5));have R7:=Hd (R6.out.setO (q:=q) (by have:=u.out;have:=z.out;omega) 4 (.slice O E.length c5));have O7:=Hd (Xe O6.out (q:=q) (by have:=z.out;have:=N.out;omega) 4 (.slice O E.length c5));generalize hwk:w6.setCell ⟨q,4,rI⟩ (.slice O E.length c5)=w7 at Q7 Y A7 G7 R7 O7;have aC:=Hd hwk;clear hwk;clear m o a D M y3;go_wp2_with fail;rw[aC.out];refine(aS.out w7 R7.out).mono ?_;rintro e w8 ⟨u6,rfl,m,o,a⟩;obtain⟨x,y,rfl⟩:=Hv m;have D:=m.mono (B':=g+1) Y.out;have a7:=Hd (eT Y.out a.size);have A8:=Hd (A7.out.only a (by have:=u.out;omega));have G8:=Hd (G7.out.only a (by have:=u.out;omega));have Q8:=Hd (Q7.out.only a (by have:=u.out;have:=z.out;omega));have O8:=Hd (O7.out.trans a);have R8:=Hd o;replace A8:=Hd (A8.out.cons D);have M:=Q8.out;have y5:=M.cell 5;have z5:=M.frozen 5;simp only[cR,cS,aP]at y5;have Q9:=Hd (show Blk (w8.setCell ⟨q,5,rI⟩ (.slice x t.length y)) q 44 #[.slice T F.length c1,.slice U G.length c2,.slice V H.length c3,rD rG s,.slice O E.length c5,.slice x t.length y]from by simpa using M.set 5 (.slice x t.length y));have a8:=Hd (show g+1<=(w8.setCell ⟨q,5,rI⟩ (.slice x t.length y)).heap.size by have:=a7.out;simpa using this);have A9:=Hd (A8.out.setO M (by decide) 5 (.slice x t.length y));have G9:=Hd (G8.out.far (p:=⟨q,5,rI⟩) (by have:=z.out;simp only;omega) (.slice x t.length y));have I:=Hd (R8.out.setO (q:=q) (by have:=u.out;have:=z.out;omega) 5 (.slice x t.length y));have K:=Hd (Xe O8.out (q:=q) (by have:=z.out;have:=N.out;omega) 5 (.slice x t.length y));generalize hwk:w8.setCell ⟨q,5,rI⟩ (.slice x t.length y)=w9 at Q9 a8 A9 G9 I K;have aU:=Hd hwk;clear hwk;clear m o a D M;go_wp2_with fail;rw[aU.out];refine(aJ.out _ _ _ I.out).mono ?_;rintro e w' ⟨rfl,rfl⟩;clear y5 z5
    by_cases h6:P=0
    ·have aI:=Hd h6;have aQ:((P:Int) !=0)=false:=(by rw[bne_eq_false_iff_eq];omega);clear h6;go_wp2_with (refine Af rfl 44 (.tmp 4) rfl q rfl 44 #[.slice T F.length c1,.slice U G.length c2,.slice V H.length c3,rD rG s,.slice O E.length c5,.slice x t.length y] (0,0) _ Q9.out underlying44 rfl (by kernel_rfl) ?_);refine(aT.out T U V O x F.length G.length H.length E.length t.length c1 c2 c3 c5 y s _).mono ?_;rintro e bZ ⟨rfl,A⟩;have bY:=Hd (eT a8.out A.size);have bF:=Hd (A9.out.below A);have aH:=Hd (G9.out.below A G9.out.lt);have bQ:=Hd (Q9.out.below A Q9.out.lt);have a9:=Hd (Qq K.out A);have bA:=Hd (I.out.below A);clear A;obtain⟨RB,Q⟩:=eX (rlB F.length G.length H.length s E.length t.length);rw[<-Q];have J:=Hd (aX.out aB.out aE.out aI.out RB (by rw[Q]));clear Q;cases RB with
     |false=>
      go_wp2_with (refine Aa rfl 44 (.tmp 2) (.tmp 50) rfl g #[rC rI 0 0,rC rI 0 0,rC rI 0 0,rD rG 0,rC rI 0 0,rC rI 0 0] rfl rfl 44 #[rC rI 0 0,rC rI 0 0,rC rI 0 0,rD rG 0,rC rI 0 0,rC rI 0 0] aH.out (by kernel_rfl) rfl rfl ?_);rintro w9 f l n j;have Z:=Hd f;have K:=Hd (Bq a9.out (l w.heap.size (by rw[N.out];exact lR)));have I:=Hd (bA.out.low (l g lR) u.out);clear f l n j;go_wp2_with fail;refine bodyPost_ret (v:=.tuple #[.agg #[rC rI 0 0,rC rI 0 0,rC rI 0 0,rD rG 0,rC rI 0 0,rC rI 0 0],rD rG 3]) (Ac results218 _ _ g _ _ _ rfl Z.out underlying44 rfl (by kernel_rfl)) rfl ?_;exact HS.out _ _ rfl J.out (LeafO.none _ _) I.out K.out
     |true=>
      go_wp2_with (first|(refine Af rfl 44 (.tmp 4) rfl q rfl 44 #[.slice T F.length c1,.slice U G.length c2,.slice V H.length c3,rD rG s,.slice O E.length c5,.slice x t.length y] (0,0) _ bQ.out underlying44 rfl (by kernel_rfl) ?_)|(refine Aa rfl 44 (.tmp 2) (.tmp 51) rfl g #[.slice T F.length c1,.slice U G.length c2,.slice V H.length c3,rD rG s,.slice O E.length c5,.slice x t.length y] rfl rfl 44 #[rC rI 0 0,rC rI 0 0,rC rI 0 0,rD rG 0,rC rI 0 0,rC rI 0 0] aH.out (by kernel_rfl) rfl rfl ?_));rintro bX f l n j;have aN:=Hd f;have aM:=Hd (Bq a9.out (l w.heap.size (by rw[N.out];exact lR)));have aO:=Hd (bA.out.low (l g lR) u.out);have C:=Hd ((bF.out.other aH.out (by decide) (fun i _ D=>n i D)).mono (gI g));clear f l n j;go_wp2_with fail;refine bodyPost_ret (v:=.tuple #[.agg #[.slice T F.length c1,.slice U G.length c2,.slice V H.length c3,rD rG s,.slice O E.length c5,.slice x t.length y],rD rG 0]) (Ac results218 _ _ g _ _ _ rfl aN.out underlying44 rfl (by kernel_rfl)) rfl ?_;refine HS.out _ _ rfl J.out ?_ aO.out aM.out;rw[<-N.out];exact⟨_,_,_,_,_,rfl,C.out.nth 4 rfl,C.out.nth 3 rfl,C.out.nth 2 rfl,C.out.nth 1 rfl,C.out.nth 0 rfl⟩
    ·have aD:=Hd (aW.out aB.out aE.out h6);have aQ:((P:Int) !=0)=true:=(by rw[bne_iff_ne];omega);clear h6;go_wp2_with (refine Aa rfl 44 (.tmp 2) (.tmp 45) rfl g #[rC rI 0 0,rC rI 0 0,rC rI 0 0,rD rG 0,rC rI 0 0,rC rI 0 0] rfl rfl 44 #[rC rI 0 0,rC rI 0 0,rC rI 0 0,rD rG 0,rC rI 0 0,rC rI 0 0] G9.out (by kernel_rfl) rfl rfl ?_);rintro w9 f l n j;have Z:=Hd f;have K:=Hd (Bq K.out (l w.heap.size (by rw[N.out];exact lR)));have I:=Hd (I.out.low (l g lR) u.out);clear f l n j;go_wp2_with fail;refine bodyPost_ret (v:=.tuple #[.agg #[rC rI 0 0,rC rI 0 0,rC rI 0 0,rD rG 0,rC rI 0 0,rC rI 0 0],rD rG (P:Nat)]) (Ac results218 _ _ g _ _ _ rfl Z.out underlying44 rfl (by kernel_rfl)) rfl ?_;exact HS.out _ _ rfl aD.out (LeafO.none _ _) I.out K.out
   ·have bV:((s:Int)==3)=false:=(by rw[qN];omega);obtain⟨bE,bD,bB⟩:=bL.out hs3;have aK:=Hd bE;have bS:=Hd (show RS w5 B L5 e5 by rw[bD,bB];exact R5.out);clear hs3 bE bD bB;go_wp2_with fail;refine(aS.out w5 bS.out).mono ?_;rintro e w6 ⟨u6,rfl,m,o,a⟩;obtain⟨x,y,rfl⟩:=Hv m;have D:=m.mono (B':=g+1) aF.out;have aL:=Hd (eT aF.out a.size);have A6:=Hd (A5.out.only a (by have:=u.out;omega));have G6:=Hd (G5.out.only a (by have:=u.out;omega));have Q6:=Hd (Q5.out.only a (by have:=u.out;have:=z.out;omega));have O6:=Hd (O5.out.trans a);have R6:=Hd o;replace A6:=Hd (A6.out.cons D);have M:=Q6.out;have y5:=M.cell 5;have z5:=M.frozen 5;simp only[cR,cS,aP]at y5;have Q7:=Hd (show Blk (w6.setCell ⟨q,5,rI⟩ (.slice x t.length y)) q 44 #[.slice T F.length c1,.slice U G.length c2,.slice V H.length c3,rD rG s,rC rI 0 0,.slice x t.length y]from by simpa using M.set 5 (.slice x t.length y));have Y:=Hd (show g+1<=(w6.setCell ⟨q,5,rI⟩ (.slice x t.length y)).heap.size by have:=aL.out;simpa using this);have A7:=Hd (A6.out.setO M (by decide) 5 (.slice x t.length y));have G7:=Hd (G6.out.far (p:=⟨q,5,rI⟩) (by have:=z.out;simp only;omega) (.slice x t.length y));have R7:=Hd (R6.out.setO (q:=q) (by have:=u.out;have:=z.out;omega) 5 (.slice x t.length y));have O7:=Hd (Xe O6.out (q:=q) (by have:=z.out;have:=N.out;omega) 5 (.slice x t.length y));generalize hwk:w6.setCell ⟨q,5,rI⟩ (.slice x t.length y)=w7 at Q7 Y A7 G7 R7 O7;have aC:=Hd hwk;clear hwk;clear m o a D M;go_wp2_with fail;rw[aC.out];refine(aJ.out _ _ _ R7.out).mono ?_;rintro e w' ⟨rfl,rfl⟩;clear y5 z5
    by_cases h6:P=0
    ·have aI:=Hd h6;have aQ:((P:Int) !=0)=false:=(by rw[bne_eq_false_iff_eq];omega);clear h6;go_wp2_with (refine Af rfl 44 (.tmp 4) rfl q rfl 44 #[.slice T F.length c1,.slice U G.length c2,.slice V H.length c3,rD rG s,rC rI 0 0,.slice x t.length y] (0,0) _ Q7.out underlying44 rfl (by kernel_rfl) ?_);refine(aT.out T U V none x F.length G.length H.length 0 t.length c1 c2 c3 0 y s _).mono ?_;rintro e w8 ⟨rfl,A⟩;have a7:=Hd (eT Y.out A.size);have A8:=Hd (A7.out.below A);have G8:=Hd (G7.out.below A G7.out.lt);have Q8:=Hd (Q7.out.below A Q7.out.lt);have O8:=Hd (Qq O7.out A);have R8:=Hd (R7.out.below A);clear A;obtain⟨RB,Q⟩:=eX (rlB F.length G.length H.length s 0 t.length);rw[<-Q];have J:=Hd (aX.out aB.out aE.out aI.out RB (by rw[Q];rw[aK.out];rfl));clear Q;cases RB with
     |false=>
      go_wp2_with (refine Aa rfl 44 (.tmp 2) (.tmp 50) rfl g #[rC rI 0 0,rC rI 0 0,rC rI 0 0,rD rG 0,rC rI 0 0,rC rI 0 0] rfl rfl 44 #[rC rI 0 0,rC rI 0 0,rC rI 0 0,rD rG 0,rC rI 0 0,rC rI 0 0] G8.out (by kernel_rfl) rfl rfl ?_);rintro w9 f l n j;have Z:=Hd f;have K:=Hd (Bq O8.out (l w.heap.size (by rw[N.out];exact lR)));have I:=Hd (R8.out.low (l g lR) u.out);clear f l n j;go_wp2_with fail;refine bodyPost_ret (v:=.tuple #[.agg #[rC rI 0 0,rC rI 0 0,rC rI 0 0,rD rG 0,rC rI 0 0,rC rI 0 0],rD rG 3]) (Ac results218 _ _ g _ _ _ rfl Z.out underlying44 rfl (by kernel_rfl)) rfl ?_;exact HS.out _ _ rfl J.out (LeafO.none _ _) I.out K.out
     |true=>
      go_wp2_with (first|(refine Af rfl 44 (.tmp 4) rfl q rfl 44 #[.slice T F.length c1,.slice U G.length c2,.slice V H.length c3,rD rG s,rC rI 0 0,.slice x t.length y] (0,0) _ Q8.out underlying44 rfl (by kernel_rfl) ?_)|(refine Aa rfl 44 (.tmp 2) (.tmp 51) rfl g #[.slice T F.length c1,.slice U G.length c2,.slice V H.length c3,rD rG s,rC rI 0 0,.slice x t.length y] rfl rfl 44 #[rC rI 0 0,rC rI 0 0,rC rI 0 0,rD rG 0,rC rI 0 0,rC rI 0 0] G8.out (by kernel_rfl) rfl rfl ?_));rintro bX f l n j;have aN:=Hd f;have aM:=Hd (Bq O8.out (l w.heap.size (by rw[N.out];exact lR)));have aO:=Hd (R8.out.low (l g lR) u.out);have C:=Hd ((A8.out.other G8.out (by decide) (fun i _ D=>n i D)).mono (gI g));clear f l n j;go_wp2_with fail;refine bodyPost_ret (v:=.tuple #[.agg #[.slice T F.length c1,.slice U G.length c2,.slice V H.length c3,rD rG s,rC rI 0 0,.slice x t.length y],rD rG 0]) (Ac results218 _ _ g _ _ _ rfl aN.out underlying44 rfl (by kernel_rfl)) rfl ?_;refine HS.out _ _ rfl J.out ?_ aO.out aM.out;rw[<-N.out];exact⟨_,_,_,_,_,by rw[aK.out],C.out.nth 3 rfl,C.out.nth 2 rfl,C.out.nth 1 rfl,by rw[aK.out];exact Own.nil _ _ _,C.out.nth 0 rfl⟩
    ·have aD:=Hd (aW.out aB.out aE.out h6);have aQ:((P:Int) !=0)=true:=(by rw[bne_iff_ne];omega);clear h6;go_wp2_with (refine Aa rfl 44 (.tmp 2) (.tmp 45) rfl g #[rC rI 0 0,rC rI 0 0,rC rI 0 0,rD rG 0,rC rI 0 0,rC rI 0 0] rfl rfl 44 #[rC rI 0 0,rC rI 0 0,rC rI 0 0,rD rG 0,rC rI 0 0,rC rI 0 0] G7.out (by kernel_rfl) rfl rfl ?_);rintro w9 f l n j;have Z:=Hd f;have K:=Hd (Bq O7.out (l w.heap.size (by rw[N.out];exact lR)));have I:=Hd (R7.out.low (l g lR) u.out);clear f l n j;go_wp2_with fail;refine bodyPost_ret (v:=.tuple #[.agg #[rC rI 0 0,rC rI 0 0,rC rI 0 0,rD rG 0,rC rI 0 0,rC rI 0 0],rD rG (P:Nat)]) (Ac results218 _ _ g _ _ _ rfl Z.out underlying44 rfl (by kernel_rfl)) rfl ?_;exact HS.out _ _ rfl aD.out (LeafO.none _ _) I.out K.out
 ·have aV:=Hd (bN.out h4);have bT:((X:Int) !=0)=true:=(by rw[bne_iff_ne];omega);clear h4;go_wp2_with (refine Aa rfl 44 (.tmp 2) (.tmp 21) rfl g #[rC rI 0 0,rC rI 0 0,rC rI 0 0,rD rG 0,rC rI 0 0,rC rI 0 0] rfl rfl 44 #[rC rI 0 0,rC rI 0 0,rC rI 0 0,rD rG 0,rC rI 0 0,rC rI 0 0] G5.out (by kernel_rfl) rfl rfl ?_);rintro w9 f l n j;have Z:=Hd f;have K:=Hd (Bq O5.out (l w.heap.size (by rw[N.out];exact lR)));have I:=Hd (R5.out.low (l g lR) u.out);clear f l n j;go_wp2_with fail;refine bodyPost_ret (v:=.tuple #[.agg #[rC rI 0 0,rC rI 0 0,rC rI 0 0,rD rG 0,rC rI 0 0,rC rI 0 0],rD rG (X:Nat)]) (Ac results218 _ _ g _ _ _ rfl Z.out underlying44 rfl (by kernel_rfl)) rfl ?_;exact HS.out _ _ rfl aV.out (LeafO.none _ _) I.out K.out
theorem Ze8 (L:List Nat)(er:Nat)(hL:∀n∈L,n<256):Du (Eg L er 1).1<256:=by
 by_cases h:er=0
 ·subst h;rw[De];cases L with
  |nil=>decide
  |cons b M=>simp only[Ze4];exact hL b (by simp)
 ·rw[Ze6 L h];exact(by decide:Du []<256)
theorem Zbt (B:Nat)(L:List Nat)(w:World)(h:RS w B L 0)(E:L.length<1000000000)(l:∀n∈L,n<256):
  Calls prog 218 #[rE (some ⟨B,0,rI⟩)] w (Zij B w (Br L 0)):=by
 have o:=Az L 0;have p:=Az (Bg L 0).2.1 (Bg L 0).2.2;have g:=Az (Bg (Bg L 0).2.1 (Bg L 0).2.2).2.1 (Bg (Bg L 0).2.1 (Bg L 0).2.2).2.2;have f:∀(M:List Nat) (er:Nat),Sub M L->∀W,RS W B M er->Calls prog 254 #[rE (some ⟨B,0,rI⟩)] W (Mj B W (Bg M er)):=fun M er t W m=>Zcs B M er W m (by have:=t.1;omega) fun n d=>l n (t.2 n d);unfold Br;simp only;have r:=f L 0 (Sub.refl _);have j:=f _ (Bg L 0).2.2 o.2.1;generalize Bg L 0=r1 at o p g r j|-;have D:=o.2.1;have q:=p.2.1.trans D;have k:=f _ (Bg r1.2.1 r1.2.2).2.2 q;generalize Bg r1.2.1 r1.2.2=r2 at p g j k q|-;have i:=g.2.1.trans q;generalize Bg r2.2.1 r2.2.2=r3 at g k i|-;have v:=Ge r3.2.1 r3.2.2 1;have s:=fun W m=>Nu B r3.2.1 r3.2.2 1 W m fun n d=>l n (i.2 n d);have u:Du (Eg r3.2.1 r3.2.2 1).1<256:=Ze8 r3.2.1 r3.2.2 fun n d=>l n (i.2 n d);generalize Eg r3.2.1 r3.2.2 1=r4 at v s u|-;have x:=v.2.1.trans i;have y:=f r4.2.1 r4.2.2 x;obtain⟨c,a⟩:=eX (if Du r4.1=3 then Bg r4.2.1 r4.2.2 else([],r4.2));have C:Sub c.2.1 r4.2.1:=by
  rw[a];split
  ·exact(Az _ _).2.1
  ·exact Sub.refl _
 have z:=f c.2.1 c.2.2 (C.trans x);rw[<-a];refine Xf r1.1 r2.1 r3.1 c.1 (Bg c.2.1 c.2.2).1 L r1.2.1 r2.2.1 r3.2.1 r4.2.1 c.2.1 (Bg c.2.1 c.2.2).2.1 r1.2.2 r2.2.2 r3.2.2 r4.2.2 c.2.2 (Bg c.2.1 c.2.2).2.2 (Du r4.1) B _ w h r j k s (fun e=> ?_) (fun e=> ?_) z u (fun e=> ?_) (fun e1 e2=> ?_) (fun e1 e2 e3=> ?_) (fun e1 e2 e3 b A=> ?_)
 ·rw[iP e]at a;rw[a];exact y
 ·rw[iN e]at a;rw[a];exact⟨rfl,rfl,rfl⟩
 ·rw[iP e]
 ·rw[iN (by omega),iP e2]
 ·rw[iN (by omega),iN e2,iP e3]
 ·rw[iN (by omega),iN e2,iN (by omega)];show(if Lh _=true then _ else _)=_;unfold Lh;simp only[A]
end
def Fb (L:List Nat)(p:Nat):Nat×Nat×Nat:=
 match Bl (L.drop p) 0 with
 |(some n,R,_)=>(n,L.length-R.length,0)
 |(none,_,e)=>(0,p,e)
theorem Ze9 {L:List Nat} {p:Nat}(h:L.length<=p):Fb L p=(0,p,4):=by unfold Fb;rw[List.drop_of_length_le h];rfl
theorem Zik {L:List Nat} {p b:Nat} {M:List Nat}(h:L.drop p=b::M) {k:Nat}(hk:b/64=k):Fb L p=
  if k=3 then(0,p,3)else if M.length<2^k-1 then(0,p,4)
  else if lenS (Du (b%64::M.take (2^k-1)):Nat)=2^k then(Du (b%64::M.take (2^k-1)),L.length-(M.drop (2^k-1)).length,0)else(0,p,3):=by
 subst hk;unfold Fb;rw[h];show(match Sy b M with
  |(some n,R,_)=>(n,L.length-R.length,0)
  |(none,_,e)=>(0,p,e))=_
 unfold Sy
 by_cases c1:b/64=3
 ·rw[iP c1,iP c1]
 ·rw[iN c1,iN c1]
  by_cases c2:M.length<2^(b/64)-1
  ·rw[iP c2,iP c2]
  ·rw[iN c2,iN c2]
   by_cases c3:lenS (Du (b%64::M.take (2^(b/64)-1)):Nat)=2^(b/64)
   ·rw[iP c3,iP c3]
   ·rw[iN c3,iN c3]
theorem Ov {M:List Nat} {i:Nat}(c:Nat)(hi:i<M.length):Du (c::M.take (i+1))=Du (c::M.take i)*256+M.getD i 0:=by
 rw[List.take_succ_eq_append_getElem hi,<-List.cons_append,Nm,aS,bB hi];rfl
theorem Xg:∀(M:List Nat) (c:Nat),c<64->(∀x∈M,x<256)->M.length<=3->Du (c::M)<1073741824:=by
 intro M c g e f
 match M,e,f with
 |[],_,_=>simp[Du];omega
 |[a],h,_=>have:=h a (by simp);simp[Du];omega
 |[a,b],h,_=>have:=h a (by simp);have:=h b (by simp);simp[Du];omega
 |[a,b,d],h,_=>have:=h a (by simp);have:=h b (by simp);have:=h d (by simp);simp[Du];omega
 |_::_::_::_::_,_,h=>simp at h
theorem Zfa (v:Value)(L:List Nat)(p:Nat)(w:World)(h:Rd w v (bvs L))(hL:∀n∈L,n<256)(hl:L.length<=1000000000)(hp:p<=L.length):
  Calls prog 286 #[v,rD rF (p:Nat)] w fun e w'=>e=rK (.tuple #[rD rF ((Fb L p).1:Nat),rD rF ((Fb L p).2.1:Nat),rD rF ((Fb L p).2.2:Nat)])/\Below w.heap.size w w':=by
 by_cases hlt:p<L.length
 ·rcases h.cases with⟨a,cap,rfl,rfl⟩|⟨b,aU,cap,h0,h1,h2,rfl,hb,hc⟩
  ·simp at hlt
  ·obtain⟨c,M,hd⟩:∃c M,L.drop p=c::M:=⟨L[p],L.drop (p+1),by rw[List.drop_eq_getElem_cons hlt]⟩;have aX:c=L.getD p 0:=by
    have:(L.drop p)[0]? =some c:=(by rw[hd];rfl);rw[iF]at this;rw[aS,show p=p+0 by omega,this];rfl
   have aR:M.length+1+p=L.length:=by
    have:(L.drop p).length=M.length+1:=(by rw[hd];rfl);rw[dZ]at this;omega
   have aW:∀i,i<M.length->M.getD i 0=L.getD (p+(1+i)) 0:=fun i C=>by
    have:(L.drop p)[i+1]? =M[i]? :=(by rw[hd];rfl);rw[iF]at this;rw[aS,aS,<-this,show p+(i+1)=p+(1+i) by omega]
   have aV:∀x∈M,x<256:=fun x hx=>hL x (iD (i:=p) (by rw[hd];exact iE _ hx));have a3:c<256:=hL c (iD (i:=p) (by rw[hd];simp));have c0:=hc p hlt;rw[<-aX]at c0;have HC:=Hd fun(i:Nat) (C:i<M.length)=>(show w.cell? ⟨b,aU+(p+(1+i)),rI⟩=some (rD rG ((M.getD i 0:Nat):Int))from by rw[aW i C];exact hc _ (by omega));have HM:=Hd aV;have RE:=fun k (hk:c/64=k)=>Zik hd hk;obtain⟨s,aJ⟩:=eX L.length;rw[<-aJ]at aR hl hlt RE|-;obtain⟨aQ,aH⟩:=eX (Fb L p);simp only[<-aH]at RE;rw[<-aH];have aM:=Hd RE;have g:=Hd aR;have a4:decide ((p:Int)>=(s:Int))=false:=dF (by omega);have a1:decide ((s:Int)<=(p:Int))=false:=dF (by omega);have a2:decide (s<=p)=false:=dF (by omega);have a5:(p:Int)<(s:Int):=(by omega);have aD:=Hd (show IntKind.i64.wrap (c:Int)=(c:Int)from IntWalk.i64_in _ ⟨by omega,by omega⟩);clear hc hd aX aW aV hL h h1 h2 hp RE aR aJ aH h0;rcases(show c<64\/(64<=c/\c<128)\/(128<=c/\c<192)\/192<=c by omega)with hk|⟨hk,aI⟩|⟨hk,aI⟩|hk
   ·have aE:decide ((c:Int)>=64)=false:=dF (by omega);have aF:decide ((64:Int)<=(c:Int))=false:=dF (by omega);have aG:decide (64<=c)=false:=dF (by omega);have T:decide ((c:Int)>=128)=false:=dF (by omega);have U:decide ((128:Int)<=(c:Int))=false:=dF (by omega);have V:decide (128<=c)=false:=dF (by omega);have W:decide ((c:Int)>=192)=false:=dF (by omega);have X:decide ((192:Int)<=(c:Int))=false:=dF (by omega);have Y:decide (192<=c)=false:=dF (by omega);have j:=Hd (aM.out 0 (by omega));have d:(c:Int)%64=((c%64:Nat):Int):=(by omega);have f:eC (c:Int) 64=((c%64:Nat):Int):=(eD (by omega)).trans d;have o:c%64<64:=bD _ (by omega);obtain⟨m,hm⟩:=eX (c%64);rw[<-hm]at f d o j;have R:=Hd f;have S:=Hd d;clear hm f d
    by_cases hs:M.length<0
    ·exact absurd hs (by omega)
    ·have g1:decide ((p:Int)+1>(s:Int))=false:=dF (by have:=g.out;omega);have g2:decide ((s:Int)<(p:Int)+1)=false:=dF (by have:=g.out;omega);have g3:decide (s<p+1)=false:=dF (by have:=g.out;omega);have z:=Hd (j.out.trans ((iN (by omega)).trans (iN (show¬M.length<2^0-1 by omega))));have HS:=Hd (show 0<=M.length by omega);obtain⟨N,J⟩:∃N:Nat->Nat,N=fun i=>Du (m::M.take i):=⟨_,rfl⟩;have K:N 0=m:=(by rw[J];simp[Du]);have aB:=Hd K;have aL:=Hd (show∀i,i<M.length->N (i+1)=N i*256+M.getD i 0 from fun i C=>by rw[J];exact Ov m C);have D:=Hd (show∀i,i<=3->N i<1073741824 from fun i C=>by rw[J];exact Xg _ m o (fun x hx=>HM.out x (cL hx)) (by rw[cQ];omega));have I:=Hd (show Du (m::M.take (2^0-1))=N 0 by rw[J]);clear hk hs j J K o;have Z:=aD.out;have f:=R.out;have d:=S.out;go_in;go_wp2_with fail;clear Z f d
     go_loopg [8,9] 0 (fun q nv iv wr=>∃i k:Nat,i+q=0/\k=1+i/\nv=rD rF (N i:Nat)/\iv=rD rF (k:Nat)/\wr=w)
     case atStart=>exact⟨0,1,by omega,rfl,by rw[aB.out],rfl,rfl⟩
     case round=>
      obtain⟨i,k,C,t,rfl,rfl,rfl⟩:=hrel;have HI:=Hd C;have aK:=Hd t
      by_cases hlt2:i<0
      ·exact absurd hlt2 (by omega)
      ·obtain rfl:i=0:=(by omega);have aN:decide ((k:Int)<1)=false:=dF (by omega);have aO:decide (k<1)=false:=dF (by omega);clear C hlt2 t;have l:=D.out 0 (by omega);obtain⟨F,r⟩:=eX (N 0);rw[<-r]at l I|-;have aA:=Hd (Mo F wr l);have H:=Hd (lenB_len l);have A:=Hd (show aQ=if lenS (F:Int)=1 then(F,s-(M.length-0),0)else(0,p,3)from by
        have:=z.out;rw[I.out,dZ]at this;exact this)
       clear l r;go_wp2_with fail;refine aA.out.mono ?_;rintro e w2 ⟨u,rfl,ho,O⟩;obtain⟨ua,uc,rfl⟩:∃a c,u=.slice a (lenS (F:Int)) c:=(by obtain⟨a,c,e,_⟩:=ho.rd;rw[bvs_len,H.out]at e;exact⟨a,c,e⟩);have G:=Hd O;clear ho O;obtain⟨sz,Q⟩:=eX (lenS (F:Int));rw[<-Q]at A|-;clear Q H
       by_cases he:sz=1
       ·have B:=Hd (A.out.trans (iP he));subst he;go_wp2_with fail
        go_ret3
        rw[B.out];exact⟨by have:=g.out;have:=HS.out;rw[show s-(M.length-0)=p+1 by omega];rfl,G.out⟩
       ·have B:=Hd (A.out.trans (iN he));have aY:((sz:Int) !=1)=true:=(by rw[bne_iff_ne];omega);clear he;go_wp2_with fail
        go_ret3
        rw[B.out];exact⟨rfl,G.out⟩
   ·have aE:decide ((c:Int)>=64)=true:=dT (by omega);have aF:decide ((64:Int)<=(c:Int))=true:=dT (by omega);have aG:decide (64<=c)=true:=dT (by omega);have T:decide ((c:Int)>=128)=false:=dF (by omega);have U:decide ((128:Int)<=(c:Int))=false:=dF (by omega);have V:decide (128<=c)=false:=dF (by omega);have W:decide ((c:Int)>=192)=false:=dF (by omega);have X:decide ((192:Int)<=(c:Int))=false:=dF (by omega);have Y:decide (192<=c)=false:=dF (by omega);have j:=Hd (aM.out 1 (by omega));have d:(c:Int)%64=((c%64:Nat):Int):=(by omega);have f:eC (c:Int) 64=((c%64:Nat):Int):=(eD (by omega)).trans d;have o:c%64<64:=bD _ (by omega);obtain⟨m,hm⟩:=eX (c%64);rw[<-hm]at f d o j;have R:=Hd f;have S:=Hd d;clear hm f d
    by_cases hs:M.length<1
    ·have g1:decide ((p:Int)+2>(s:Int))=true:=dT (by have:=g.out;omega);have g2:decide ((s:Int)<(p:Int)+2)=true:=dT (by have:=g.out;omega);have g3:decide (s<p+2)=true:=dT (by have:=g.out;omega);have z:=Hd (j.out.trans ((iN (by omega)).trans (iP (show M.length<2^1-1 by omega))));clear hk hs j aI;have Z:=aD.out;have f:=R.out;have d:=S.out;go_in;go_wp2_with fail
     go_ret3
     rw[z.out];exact⟨rfl,bR⟩
    ·have g1:decide ((p:Int)+2>(s:Int))=false:=dF (by have:=g.out;omega);have g2:decide ((s:Int)<(p:Int)+2)=false:=dF (by have:=g.out;omega);have g3:decide (s<p+2)=false:=dF (by have:=g.out;omega);have z:=Hd (j.out.trans ((iN (by omega)).trans (iN (show¬M.length<2^1-1 by omega))));have HS:=Hd (show 1<=M.length by omega);obtain⟨N,J⟩:∃N:Nat->Nat,N=fun i=>Du (m::M.take i):=⟨_,rfl⟩;have K:N 0=m:=(by rw[J];simp[Du]);have aB:=Hd K;have aL:=Hd (show∀i,i<M.length->N (i+1)=N i*256+M.getD i 0 from fun i C=>by rw[J];exact Ov m C);have D:=Hd (show∀i,i<=3->N i<1073741824 from fun i C=>by rw[J];exact Xg _ m o (fun x hx=>HM.out x (cL hx)) (by rw[cQ];omega));have I:=Hd (show Du (m::M.take (2^1-1))=N 1 by rw[J]);clear hk hs j J K o aI;have Z:=aD.out;have f:=R.out;have d:=S.out;go_in;go_wp2_with fail;clear Z f d
     go_loopg [8,9] 1 (fun q nv iv wr=>∃i k:Nat,i+q=1/\k=1+i/\nv=rD rF (N i:Nat)/\iv=rD rF (k:Nat)/\wr=w)
     case atStart=>exact⟨0,1,by omega,rfl,by rw[aB.out],rfl,rfl⟩
     case round=>
      obtain⟨i,k,C,t,rfl,rfl,rfl⟩:=hrel;have HI:=Hd C;have aK:=Hd t
      by_cases hlt2:i<1
      ·have cc:=HC.out i (by have:=HS.out;omega);have l:=D.out i (by omega);have E:=aL.out i (by have:=HS.out;omega);have P:=D.out (i+1) (by omega);have hx:=HM.out (M.getD i 0) (by rw[aS,bB (by have:=HS.out;omega)];exact bC _);obtain⟨F,r⟩:=eX (N i);obtain⟨y,hy⟩:=eX (M.getD i 0);rw[<-r,<-hy]at E;rw[<-hy]at cc hx;rw[<-r]at l|-;rw[E]at P;have aC:=Hd E;have aN:decide ((k:Int)<2)=true:=dT (by omega);have aO:decide (k<2)=true:=dT (by omega);have cj:wr.cell? ⟨b,aU+(p+k),rI⟩=some (rD rG ((y:Nat):Int)):=(by rw[t];exact cc);have aT:(p:Int)+(k:Int)<(s:Int):=(by have:=g.out;have:=HS.out;omega);have aZ:k<=3:=(by omega);have aP:=Hd (show IntKind.i64.wrap (y:Int)=(y:Int)from IntWalk.i64_in _ ⟨by omega,by omega⟩);have a0:=aP.out;clear C r hy E P cc t;go_wp2_with fail;go_roundg (gk-1);case measure=>have:=HI.out;omega
       case rel=>exact⟨i+1,k+1,by have:=HI.out;omega,by have:=aK.out;omega,by rw[aC.out];exact congrArg (Value.int .i64) (by omega),by go_num,rfl⟩
      ·obtain rfl:i=1:=(by omega);have aN:decide ((k:Int)<2)=false:=dF (by omega);have aO:decide (k<2)=false:=dF (by omega);clear C hlt2 t;have l:=D.out 1 (by omega);obtain⟨F,r⟩:=eX (N 1);rw[<-r]at l I|-;have aA:=Hd (Mo F wr l);have H:=Hd (lenB_len l);have A:=Hd (show aQ=if lenS (F:Int)=2 then(F,s-(M.length-1),0)else(0,p,3)from by
        have:=z.out;rw[I.out,dZ]at this;exact this)
       clear l r;go_wp2_with fail;refine aA.out.mono ?_;rintro e w2 ⟨u,rfl,ho,O⟩;obtain⟨ua,uc,rfl⟩:∃a c,u=.slice a (lenS (F:Int)) c:=(by obtain⟨a,c,e,_⟩:=ho.rd;rw[bvs_len,H.out]at e;exact⟨a,c,e⟩);have G:=Hd O;clear ho O;obtain⟨sz,Q⟩:=eX (lenS (F:Int));rw[<-Q]at A|-;clear Q H
       by_cases he:sz=2
       ·have B:=Hd (A.out.trans (iP he));subst he;go_wp2_with fail
        go_ret3
        rw[B.out];exact⟨by have:=g.out;have:=HS.out;rw[show s-(M.length-1)=p+2 by omega];rfl,G.out⟩
       ·have B:=Hd (A.out.trans (iN he));have aY:((sz:Int) !=2)=true:=(by rw[bne_iff_ne];omega);clear he;go_wp2_with fail
        go_ret3
        rw[B.out];exact⟨rfl,G.out⟩
   ·have aE:decide ((c:Int)>=64)=true:=dT (by omega);have aF:decide ((64:Int)<=(c:Int))=true:=dT (by omega);have aG:decide (64<=c)=true:=dT (by omega);have T:decide ((c:Int)>=128)=true:=dT (by omega);have U:decide ((128:Int)<=(c:Int))=true:=dT (by omega);have V:decide (128<=c)=true:=dT (by omega);have W:decide ((c:Int)>=192)=false:=dF (by omega);have X:decide ((192:Int)<=(c:Int))=false:=dF (by omega);have Y:decide (192<=c)=false:=dF (by omega);have j:=Hd (aM.out 2 (by omega));have d:(c:Int)%64=((c%64:Nat):Int):=(by omega);have f:eC (c:Int) 64=((c%64:Nat):Int):=(eD (by omega)).trans d;have o:c%64<64:=bD _ (by omega);obtain⟨m,hm⟩:=eX (c%64);rw[<-hm]at f d o j;have R:=Hd f;have S:=Hd d;clear hm f d
    by_cases hs:M.length<3
    ·have g1:decide ((p:Int)+4>(s:Int))=true:=dT (by have:=g.out;omega);have g2:decide ((s:Int)<(p:Int)+4)=true:=dT (by have:=g.out;omega);have g3:decide (s<p+4)=true:=dT (by have:=g.out;omega);have z:=Hd (j.out.trans ((iN (by omega)).trans (iP (show M.length<2^2-1 by omega))));clear hk hs j aI;have Z:=aD.out;have f:=R.out;have d:=S.out;go_in;go_wp2_with fail
     go_ret3
     rw[z.out];exact⟨rfl,bR⟩
    ·have g1:decide ((p:Int)+4>(s:Int))=false:=dF (by have:=g.out;omega);have g2:decide ((s:Int)<(p:Int)+4)=false:=dF (by have:=g.out;omega);have g3:decide (s<p+4)=false:=dF (by have:=g.out;omega);have z:=Hd (j.out.trans ((iN (by omega)).trans (iN (show¬M.length<2^2-1 by omega))));have HS:=Hd (show 3<=M.length by omega);obtain⟨N,J⟩:∃N:Nat->Nat,N=fun i=>Du (m::M.take i):=⟨_,rfl⟩;have K:N 0=m:=(by rw[J];simp[Du]);have aB:=Hd K;have aL:=Hd (show∀i,i<M.length->N (i+1)=N i*256+M.getD i 0 from fun i C=>by rw[J];exact Ov m C);have D:=Hd (show∀i,i<=3->N i<1073741824 from fun i C=>by rw[J];exact Xg _ m o (fun x hx=>HM.out x (cL hx)) (by rw[cQ];omega));have I:=Hd (show Du (m::M.take (2^2-1))=N 3 by rw[J]);clear hk hs j J K o aI;have Z:=aD.out;have f:=R.out;have d:=S.out;go_in;go_wp2_with fail;clear Z f d
     go_loopg [8,9] 3 (fun q nv iv wr=>∃i k:Nat,i+q=3/\k=1+i/\nv=rD rF (N i:Nat)/\iv=rD rF (k:Nat)/\wr=w)
     case atStart=>exact⟨0,1,by omega,rfl,by rw[aB.out],rfl,rfl⟩
     case round=>
      obtain⟨i,k,C,t,rfl,rfl,rfl⟩:=hrel;have HI:=Hd C;have aK:=Hd t
      by_cases hlt2:i<3
      ·have cc:=HC.out i (by have:=HS.out;omega);have l:=D.out i (by omega);have E:=aL.out i (by have:=HS.out;omega);have P:=D.out (i+1) (by omega);have hx:=HM.out (M.getD i 0) (by rw[aS,bB (by have:=HS.out;omega)];exact bC _);obtain⟨F,r⟩:=eX (N i);obtain⟨y,hy⟩:=eX (M.getD i 0);rw[<-r,<-hy]at E;rw[<-hy]at cc hx;rw[<-r]at l|-;rw[E]at P;have aC:=Hd E;have aN:decide ((k:Int)<4)=true:=dT (by omega);have aO:decide (k<4)=true:=dT (by omega);have cj:wr.cell? ⟨b,aU+(p+k),rI⟩=some (rD rG ((y:Nat):Int)):=(by rw[t];exact cc);have aT:(p:Int)+(k:Int)<(s:Int):=(by have:=g.out;have:=HS.out;omega);have aZ:k<=3:=(by omega);have aP:=Hd (show IntKind.i64.wrap (y:Int)=(y:Int)from IntWalk.i64_in _ ⟨by omega,by omega⟩);have a0:=aP.out;clear C r hy E P cc t;go_wp2_with fail;go_roundg (gk-1);case measure=>have:=HI.out;omega
       case rel=>exact⟨i+1,k+1,by have:=HI.out;omega,by have:=aK.out;omega,by rw[aC.out];exact congrArg (Value.int .i64) (by omega),by go_num,rfl⟩
      ·obtain rfl:i=3:=(by omega);have aN:decide ((k:Int)<4)=false:=dF (by omega);have aO:decide (k<4)=false:=dF (by omega);clear C hlt2 t;have l:=D.out 3 (by omega);obtain⟨F,r⟩:=eX (N 3);rw[<-r]at l I|-;have aA:=Hd (Mo F wr l);have H:=Hd (lenB_len l);have A:=Hd (show aQ=if lenS (F:Int)=4 then(F,s-(M.length-3),0)else(0,p,3)from by
        have:=z.out;rw[I.out,dZ]at this;exact this)
       clear l r;go_wp2_with fail;refine aA.out.mono ?_;rintro e w2 ⟨u,rfl,ho,O⟩;obtain⟨ua,uc,rfl⟩:∃a c,u=.slice a (lenS (F:Int)) c:=(by obtain⟨a,c,e,_⟩:=ho.rd;rw[bvs_len,H.out]at e;exact⟨a,c,e⟩);have G:=Hd O;clear ho O;obtain⟨sz,Q⟩:=eX (lenS (F:Int));rw[<-Q]at A|-;clear Q H
       by_cases he:sz=4
       ·have B:=Hd (A.out.trans (iP he));subst he;go_wp2_with fail
        go_ret3
        rw[B.out];exact⟨by have:=g.out;have:=HS.out;rw[show s-(M.length-3)=p+4 by omega];rfl,G.out⟩
       ·have B:=Hd (A.out.trans (iN he));have aY:((sz:Int) !=4)=true:=(by rw[bne_iff_ne];omega);clear he;go_wp2_with fail
        go_ret3
        rw[B.out];exact⟨rfl,G.out⟩
   ·have aE:decide ((c:Int)>=64)=true:=dT (by omega);have aF:decide ((64:Int)<=(c:Int))=true:=dT (by omega);have aG:decide (64<=c)=true:=dT (by omega);have T:decide ((c:Int)>=128)=true:=dT (by omega);have U:decide ((128:Int)<=(c:Int))=true:=dT (by omega);have V:decide (128<=c)=true:=dT (by omega);have W:decide ((c:Int)>=192)=true:=dT (by omega);have X:decide ((192:Int)<=(c:Int))=true:=dT (by omega);have Y:decide (192<=c)=true:=dT (by omega);have j:=Hd (aM.out 3 (by omega));have z:=Hd (j.out.trans (iP rfl));clear hk j;go_in;go_wp2_with fail
    go_ret3
    rw[z.out];exact⟨rfl,bR⟩
 ·obtain⟨a,cap,rfl,-,-⟩:=id h;rw[Ze9 (by omega),bvs_len];have aT:p=L.length:=(by omega);subst aT;obtain⟨s,aJ⟩:=eX L.length;rw[<-aJ];clear h hL hl hp hlt aJ;go_in;go_wp2_with fail
  go_ret3
  exact⟨rfl,bR⟩
theorem Vg {w:World} {v:Value} {xs:List Value}(h:Rd w v xs) {T:TypeId}(ht:prog.underlying T=some (.slice (prog.elem T)))(s:∀w,(sizeOf (prog.elem T)).run prog w=.ok 1 w) {k e:Nat}(hk:k<=e)(p:e<=xs.length):
  ∃a c,(∀w',(Instr.sliceAt T v (some (rD rF (k:Nat))) (some (rD rF (e:Nat))) none).run prog w'=.ok (rC a (e-k) c) w')/\∀w',Rd w' v xs->Rd w' (rC a (e-k) c) ((xs.drop k).take (e-k)):=by
 obtain⟨a,cap,rfl,h1,h2,_⟩:=h;refine⟨if cap=k then a else a.map (·.add (k*1)),cap-k,fun w'=> ?_,fun w' r=> ?_⟩
 ·rw[run_sliceAt_slice (h:=ht),run_slice_lh (ht:=ht) (h0:=by omega) (h1:=by omega) (h2:=by omega),s]
  rfl
 ·obtain⟨t,cap',i,h3,y,m⟩:=r;simp only[Value.slice.injEq]at i;obtain⟨rfl,-,rfl⟩:=i;have l:((xs.drop k).take (e-k)).length=e-k:=(by simp;omega);refine⟨_,cap-k,by rw[l],by rw[l];omega,by omega,?_⟩
  by_cases e0:e=k
  ·left
   refine⟨by rw[e0];simp,?_⟩
   split
   ·rename_i o;intro _;omega
   ·rcases m with⟨n,q⟩|⟨b,f,rfl,_⟩
    ·intro g;cases a with
     |none=>have:=q rfl;omega
     |some x=>simp at g
    ·intro g;simp at g
  ·right
   rcases m with⟨n,_⟩|⟨b,f,rfl,o⟩
   ·rw[n]at p;simp at p;omega
   ·refine⟨b,f+k,?_,fun j u d=> ?_⟩
    ·rw[iN (by omega)];simp[Addr.add_lit]
    ·rw[List.getElem?_take]at d
     split at d
     ·rw[iF]at d;rw[Nat.add_assoc];exact o _ u d
     ·cases d
theorem Zlc (L:List Nat)(k n:Nat):bvs ((L.drop k).take n)=((bvs L).drop k).take n:=by simp[bvs,List.map_take,List.map_drop]
theorem Jp (N:List Nat):((Bl N 0).1=none->(Bl N 0).2.2≠0)/\∀n,(Bl N 0).1=some n->(Bl N 0).2.2=0/\(Bl N 0).2.1=N.drop (N.length-(Bl N 0).2.1.length)/\n<1073741824:=by
 cases N with
 |nil=>exact⟨fun _=>(by decide:(4:Nat)≠0),fun n h=>(by cases h)⟩
 |cons b M=>
  have e:Bl (b::M) 0=Sy b M:=rfl;rw[e];unfold Sy
  by_cases c1:b/64=3
  ·rw[iP c1];exact⟨fun _=>(by decide:(3:Nat)≠0),fun n h=>(by cases h)⟩
  ·rw[iN c1]
   by_cases c2:M.length<2^(b/64)-1
   ·rw[iP c2];exact⟨fun _=>(by decide:(4:Nat)≠0),fun n h=>(by cases h)⟩
   ·rw[iN c2]
    by_cases c3:lenS (Du (b%64::M.take (2^(b/64)-1)):Nat)=2^(b/64)
    ·rw[iP c3];refine⟨fun h=>(by cases h),fun n h=>⟨rfl,?_,?_⟩⟩
     ·simp only[dZ,dB];rw[show M.length+1-(M.length-(2^(b/64)-1))=(2^(b/64)-1)+1 by omega,List.drop_succ_cons]
     ·cases h;have a:=Nat.two_pow_pos (b/64);unfold lenS at c3
      split at c3
      ·omega
      ·rename_i h;omega
    ·rw[iN c3];exact⟨fun _=>(by decide:(3:Nat)≠0),fun n h=>(by cases h)⟩
theorem Zil (L:List Nat)(p:Nat)(hp:p<=L.length):(Fb L p).2.1<=L.length/\(Fb L p).1<1073741824:=by
 have h:=(Jp (L.drop p)).2;unfold Fb;rcases hq:Bl (L.drop p) 0 with⟨n,M,e⟩;rw[hq]at h;cases n with
 |none=>exact⟨hp,(by decide:0<1073741824)⟩
 |some n=>exact⟨by simp only;omega,(h n rfl).2.2⟩
def Ow (L:List Nat)(p:Nat):List Nat×Nat×Nat:=
 if(Bg (L.drop p) 0).2.2=0 then((Bg (L.drop p) 0).1,L.length-(Bg (L.drop p) 0).2.1.length,0)else([],p,(Bg (L.drop p) 0).2.2)
theorem Zim (L:List Nat)(p:Nat)(g:p<=L.length):Ow L p=if(Fb L p).2.2≠0 then([],p,(Fb L p).2.2)else if L.length<(Fb L p).2.1+(Fb L p).1 then([],p,4)else((L.drop (Fb L p).2.1).take (Fb L p).1,(Fb L p).2.1+(Fb L p).1,0):=by
 have c:=Jo (L.drop p) 0;have a:=Jp (L.drop p);unfold Ow Fb Bg;rcases hq:Bl (L.drop p) 0 with⟨n,M,e⟩;rw[hq]at c a;have b:=c.1;rw[dZ]at b;simp only at b a;cases n with
 |none=>
  have d:e≠0:=a.1 rfl;simp only;rw[iN d,iP d]
 |some n=>
  obtain⟨d,f,-⟩:=a.2 n rfl;subst d;simp only[ne_eq,not_true_eq_false,if_false]
  by_cases hn:(M.length:Int)<(n:Int)
  ·rw[show Cc M 0 (n:Int)=([],M,4) by unfold Cc;rw[iN (by simp),iN (by omega),iP hn],iN (by simp),iP (by omega)]
  ·rw[show Cc M 0 (n:Int)=(M.take n,M.drop n,0) by unfold Cc;rw[iN (by simp),iN (by omega),iN hn,Int.toNat_natCast],iP rfl,iN (by omega)];have e2:L.drop (L.length-M.length)=M:=by
    rw[f,List.drop_drop]
    congr 1
    rw[dZ,dZ];omega
   rw[e2];simp only[dZ]
   congr 1
   congr 1
   omega
theorem Zfb (v:Value)(L:List Nat)(p:Nat)(w:World)(h:Rd w v (bvs L))(H:∀n∈L,n<256)(t:L.length<=1000000000)(z:p<=L.length):
  Calls prog 266 #[v,rD rF (p:Nat)] w fun e w'=>∃u,e=rK (.tuple #[u,rD rF ((Ow L p).2.1:Nat),rD rF ((Ow L p).2.2:Nat)])/\(∀W,Rd W v (bvs L)->Rd W u (bvs (Ow L p).1))/\Below w.heap.size w w':=by
 have d:=Zfa v L p w h H t z;have f:=Zil L p z;rw[Zim L p z];obtain⟨a,cap,rfl,g,m⟩:=id h;rw[bvs_len]at g h d|-;obtain⟨n,F⟩:=eX ((Fb L p).1);obtain⟨b,o⟩:=eX ((Fb L p).2.1);obtain⟨er,s⟩:=eX ((Fb L p).2.2);rw[<-F,<-o,<-s]at d|-;rw[<-o,<-F]at f;obtain⟨i,c⟩:=eX L.length;have C:=Hd h;rw[<-c]at d f t g|-;have B:=Hd d;clear d h H z F o s
 by_cases he:er=0
 ·have E:((er:Int) !=0)=false:=(by rw[bne_eq_false_iff_eq];omega);rw[iN (by omega)];clear he
  by_cases hlt:i<b+n
  ·rw[iP hlt];have P:wrap64 ((i:Int)-(b:Int))=(i:Int)-(b:Int):=(by unfold wrap64;omega);have M:decide ((n:Int)>(i:Int)-(b:Int))=true:=dT (by omega);have g2:decide ((i:Int)-(b:Int)<(n:Int))=true:=dT (by omega);clear hlt f t g m c;go_in;go_wp2_with fail;refine B.out.mono ?_;rintro e J ⟨rfl,l⟩;have r:=Hd l;clear l;go_wp2_with fail
   go_ret3
   exact⟨_,rfl,fun W _=>(Own.nil W 0 5).rd,r.out⟩
  ·rw[iN hlt];have P:wrap64 ((i:Int)-(b:Int))=(i:Int)-(b:Int):=(by unfold wrap64;omega);obtain⟨G,x⟩:=eX (b+n);obtain⟨Q,R,j,q⟩:=Vg (T:=28) C.out (by kernel_rfl) (fun w=>by kernel_rfl) (k:=b) (e:=G) (by omega) (by rw[bvs_len];omega);rw[<-c]at j;have y:G-b=n:=(by omega);rw[y]at j q;have D:=Hd q;have K:=Hd x;have I:∀w',(Instr.sliceAt 28 (rC a i cap) (some (rD rF (b:Nat))) (some (rD rF ((b:Int)+(n:Int)))) none).run prog w'=.ok (rC Q n R) w':=by
    intro w';have:=j w'
    rwa [show((G:Nat):Int)=(b:Int)+(n:Int) by omega]at this
   have O:(b:Int)+(n:Int)<=1000000000:=(by omega);clear j q x y;have M:decide ((n:Int)>(i:Int)-(b:Int))=false:=dF (by omega);have g2:decide ((i:Int)-(b:Int)<(n:Int))=false:=dF (by omega);have A:=Hd c;clear hlt f t g m c;go_in;go_wp2_with fail;refine B.out.mono ?_;rintro e J ⟨rfl,l⟩;have r:=Hd l;clear l;go_wp2_with fail
   go_ret3
   exact⟨_,rfl,fun W N=>by rw[Zlc];exact D.out W (by have:=A.out;rw[<-this];exact N),r.out⟩
 ·have E:((er:Int) !=0)=true:=(by rw[bne_iff_ne];omega);rw[iP he];clear he f t g m c;go_in;go_wp2_with fail;refine B.out.mono ?_;rintro e J ⟨rfl,l⟩;have r:=Hd l;clear l;go_wp2_with fail
  go_ret3
  exact⟨_,rfl,fun W _=>(Own.nil W 0 5).rd,r.out⟩
