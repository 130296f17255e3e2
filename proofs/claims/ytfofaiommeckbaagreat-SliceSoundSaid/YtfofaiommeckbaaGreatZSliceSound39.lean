/- Plain: an own copy of a tree of which some nodes are replaced; lists out of functions. -/
import Derived.Test.YtfofaiommeckbaaGreatZSliceSoundB
import Derived.Test.YtfofaiommeckbaaGreatZSliceSound20
import Derived.Laws.OwnMore
import Derived.Test.YtfofaiommeckbaaGreatZSliceSound23
import Derived.Test.YtfofaiommeckbaaGreatZSliceSound24
open Nat renaming le_trans → bO, le_succ → fZ
open List renaming length_drop → eM, length_take → cF, mem_cons_of_mem → gW, length_cons → cB, getElem?_toArray → cC, getElem?_cons_zero → cD, getElem?_cons_succ → cE
set_option linter.unusedVariables false
set_option maxRecDepth 100000
set_option maxHeartbeats 40000000
namespace Go.Proofs.YtfofaiommeckbaaGreat
open Go.RowKit WalkM WireM
theorem Ho {w:World} {g:Nat}(vs:List Value)(o:Nat):w.grownBy (w.setCells g o vs) (some g):=by
 have h:=Gd g vs o w;exact⟨h.1.1,h.1.2,h.1.3,h.2.1,fun k hk hne=>h.2.2 k hk fun e=>hne (by rw[e])⟩
end Go.Proofs.YtfofaiommeckbaaGreat
namespace Go.Proofs.YtfofaiommeckbaaGreat
open Go.RowKit WireM
def Cw (L:List Nat)(er:Nat):Nat×LeafD×List Nat×Nat:=
 let r1:=By L er
 let r2:=By r1.2.1 r1.2.2
 let r3:=By r2.2.1 r2.2.2
 let r4:=Fe r3.2.1 r3.2.2 1
 let s:=Ds r4.1
 if r4.2.2≠0 then(r4.2.2,noLeafD,r4.2)else
 if s<1∨3<s then(3,noLeafD,r4.2)else
 let r5:=if s=3 then By r4.2.1 r4.2.2 else([],r4.2)
 let r6:=By r5.2.1 r5.2.2
 if r6.2.2≠0 then(r6.2.2,noLeafD,r6.2)else
 if Rf ⟨r1.1,r2.1,r3.1,s,r5.1,r6.1⟩=true then(0,⟨r1.1,r2.1,r3.1,s,r5.1,r6.1⟩,r6.2)else(3,noLeafD,r6.2)
def Zb7:Nat→List Nat→List Int
 |0,_=>[]
 |k+1,L=>if 4≤L.length then((Ds (L.take 4):Nat):Int)::Zb7 k (L.drop 4)else []
def Fp (L:List Nat)(er:Nat):Nat×ParD×List Nat×Nat:=
 let r1:=By L er
 let r2:=By r1.2.1 r1.2.2
 let r3:=By r2.2.1 r2.2.2
 if r3.2.2≠0 then(r3.2.2,noParD,r3.2)else
 let l:=Zb7 r3.1.length r3.1
 if r3.1.length%4=0∧rpB r1.1.length r2.1.length l=true then(0,⟨r1.1,r2.1,l⟩,r3.2)else(3,noParD,r3.2)
def Bj (L:List Nat)(er:Nat):Nat×NodeD×List Nat×Nat:=
 let r:=Fe L er 1
 let k:=Ds r.1
 if r.2.2≠0 then(r.2.2,An,r.2)else
 if k=0 then(0,An,r.2)else
 if k=1 then(let q:=Cw r.2.1 r.2.2;if q.1=0 then(0,⟨1,q.2.1,noParD⟩,q.2.2)else(q.1,An,q.2.2))else
 if k=2 then(let q:=Fp r.2.1 r.2.2;if q.1=0 then(0,⟨2,noLeafD,q.2.1⟩,q.2.2)else(q.1,An,q.2.2))else
 (3,An,r.2)
theorem Zeu (s:Nat):Ds [s]=s:=by simp[Ds]
def Sub (M L:List Nat):Prop:=M.length≤L.length∧∀x∈M,x∈L
theorem Sub.refl (L:List Nat):Sub L L:=⟨lR,fun _ h=>h⟩
theorem Sub.trans {A B C:List Nat}(h:Sub A B)(k:Sub B C):Sub A C:=⟨bO h.1 k.1,fun x hx=>k.2 x (h.2 x hx)⟩
theorem Sub.nil (L:List Nat):Sub [] L:=⟨Nat.zero_le _,fun _ h=>by simp at h⟩
theorem Sub.drop (L:List Nat)(n:Nat):Sub (L.drop n) L:=⟨by rw[eM];omega,fun _ h=>List.mem_of_mem_drop h⟩
theorem Sub.take (L:List Nat)(n:Nat):Sub (L.take n) L:=⟨by rw[cF];omega,fun _ h=>List.mem_of_mem_take h⟩
def Zid (L:List Nat)(r:List Nat×List Nat×Nat):Prop:=Sub r.1 L∧Sub r.2.1 L∧r.1.length+r.2.1.length≤L.length
theorem Nu (L:List Nat)(er:Nat)(n:Int):Zid L (Cm L er n):=by
 unfold Cm
 split
 ·exact⟨Sub.nil _,Sub.refl _,by simp⟩
 ·split
  ·exact⟨Sub.nil _,Sub.refl _,by simp⟩
  ·split
   ·exact⟨Sub.nil _,Sub.refl _,by simp⟩
   ·exact⟨Sub.take _ _,Sub.drop _ _,by simp only[cF,eM];omega⟩
theorem Fh (L:List Nat)(er:Nat)(n:Int):Zid L (Fe L er n):=Nu _ _ _
theorem Nv (L:List Nat)(er:Nat):Sub (Br L er).2.1 L:=by
 unfold Br
 split
 ·exact Sub.refl _
 ·split
  ·exact Sub.refl _
  ·rename_i b M
   have hs:Sub M (b::M):=⟨by simp,fun x hx=>gW _ hx⟩;unfold Of
   split
   ·exact hs
   ·split
    ·exact hs
    ·split<;>exact(Sub.drop _ _).trans hs
theorem Ay (L:List Nat)(er:Nat):Zid L (By L er):=by
 have h:=Nv L er;unfold By
 split
 ·rename_i M e hm
  rw[hm]at h;exact⟨Sub.nil _,h,by have:=h.1;simpa using this⟩
 ·rename_i n M e hm
  rw[hm]at h;obtain⟨p1,p2,p3⟩:=Nu M e (n:Int);exact⟨p1.trans h,p2.trans h,bO p3 h.1⟩
theorem Zev (L:List Nat):Cm L 0 1=match L with|[]=>([],[],4)|b::M=>([b],M,0):=by
 unfold Cm;cases L with
 |nil=>simp
 |cons b M=>simp only[ne_eq,not_true_eq_false,if_false];rw[if_neg (by omega),if_neg (by simp only[cB];omega)];simp
theorem Fz (L:List Nat):Fe L 0 1=match L with|[]=>([],[],4)|b::M=>([b],M,0):=by
 rw[Fe,if_pos (by decide)];exact Zev L
theorem Zie (L:List Nat) {er:Nat}(h:er≠0)(n:Int):Cm L er n=([],L,er):=by rw[Cm,if_pos h]
theorem Zew (L:List Nat) {er:Nat}(h:er≠0)(n:Int):Fe L er n=([],L,er):=Zie L h _
theorem Zex (L:List Nat) {er:Nat}(h:er≠0):By L er=([],L,er):=by
 unfold By Br;rw[if_pos h]
theorem Zp {L:List Nat} {er:Nat} {n:Int}(h:(Cm L er n).2.2=0):er=0∧0≤n∧n≤L.length∧Cm L er n=(L.take n.toNat,L.drop n.toNat,0):=by
 unfold Cm at h⊢
 split at h
 ·rename_i h1;exact absurd h h1
 ·rename_i h1
  split at h
  ·cases h
  ·rename_i h2
   split at h
   ·cases h
   ·rename_i h3
    rw[if_neg h1,if_neg h2,if_neg h3];exact⟨by simpa using h1,by omega,by omega,rfl⟩
theorem Zey {L:List Nat}(h:(Cw L 0).1=0):Rf (Cw L 0).2.1=true∧(Cw L 0).2.2.2=0∧Sub (Cw L 0).2.2.1 L∧
  ((∀n∈L,n<256)→(∀n∈(Cw L 0).2.1.box,n<256)∧(∀n∈(Cw L 0).2.1.sign,n<256)∧(∀n∈(Cw L 0).2.1.ident,n<256)∧(∀n∈(Cw L 0).2.1.par,n<256)∧∀n∈(Cw L 0).2.1.sig,n<256):=by
 unfold Cw at h⊢;simp only at h⊢;generalize hr1:By L 0=r1 at h⊢;have d:=Ay L 0;rw[hr1]at d;generalize hr2:By r1.2.1 r1.2.2=r2 at h⊢;have e:=Ay r1.2.1 r1.2.2;rw[hr2]at e;generalize hr3:By r2.2.1 r2.2.2=r3 at h⊢;have c:=Ay r2.2.1 r2.2.2;rw[hr3]at c;generalize hr4:Fe r3.2.1 r3.2.2 1=r4 at h⊢;have m:=Fh r3.2.1 r3.2.2 1;rw[hr4]at m
 split at h
 ·rename_i h1;exact absurd h h1
 ·rename_i h1
  split at h
  ·cases h
  ·rename_i h2
   generalize hr5:(if Ds r4.1=3 then By r4.2.1 r4.2.2 else([],r4.2))=r5 at h⊢;have g:Zid r4.2.1 r5:=by
    rw[←hr5]
    split
    ·exact Ay _ _
    ·exact⟨Sub.nil _,Sub.refl _,by simp⟩
   generalize hr6:By r5.2.1 r5.2.2=r6 at h⊢;have f:=Ay r5.2.1 r5.2.2;rw[hr6]at f
   split at h
   ·rename_i h3;exact absurd h h3
   ·rename_i h3
    split at h
    ·rename_i h4
     rw[if_neg h1,if_neg h2,if_neg h3,if_pos h4];have i:=d.2.1;have l:=e.2.1.trans i;have o:=c.2.1.trans l;have j:=m.2.1.trans o;have k:=g.2.1.trans j;exact⟨h4,by simpa using h3,f.2.1.trans k,fun b=>⟨fun n a=>b n (d.1.2 n a),fun n a=>b n ((e.1.trans i).2 n a),fun n a=>b n ((c.1.trans l).2 n a),fun n a=>b n ((g.1.trans j).2 n a),fun n a=>b n ((f.1.trans k).2 n a)⟩⟩
    ·cases h
theorem Zq:∀(k:Nat) (L:List Nat),4*(Zb7 k L).length≤L.length
 |0,L=>by simp[Zb7]
 |k+1,L=>by
  unfold Zb7
  split
  ·have:=Zq k (L.drop 4);rw[eM]at this;rw[cB];omega
  ·simp
theorem Zif {L:List Nat}(h:(Fp L 0).1=0):rpB (Fp L 0).2.1.box.length (Fp L 0).2.1.hash.length (Fp L 0).2.1.late=true∧(Fp L 0).2.2.2=0∧Sub (Fp L 0).2.2.1 L∧4*(Fp L 0).2.1.late.length≤L.length∧
  ((∀n∈L,n<256)→(∀n∈(Fp L 0).2.1.box,n<256)∧∀n∈(Fp L 0).2.1.hash,n<256):=by
 unfold Fp at h⊢;simp only at h⊢;generalize hr1:By L 0=r1 at h⊢;have b:=Ay L 0;rw[hr1]at b;generalize hr2:By r1.2.1 r1.2.2=r2 at h⊢;have c:=Ay r1.2.1 r1.2.2;rw[hr2]at c;generalize hr3:By r2.2.1 r2.2.2=r3 at h⊢;have a:=Ay r2.2.1 r2.2.2;rw[hr3]at a
 split at h
 ·rename_i h1;exact absurd h h1
 ·rename_i h1
  split at h
  ·rename_i h2
   rw[if_neg h1,if_pos h2];have e:=b.2.1;have g:=c.2.1.trans e;have i:=Zq r3.1.length r3.1;have h3:=(a.1.trans g).1;exact⟨h2.2,by simpa using h1,a.2.1.trans g,by simp only;omega,fun f=>⟨fun n d=>f n (b.1.2 n d),fun n d=>f n ((c.1.trans e).2 n d)⟩⟩
  ·cases h
theorem Ll {α:Type} {P: α→Prop}:∀n∈([]:List α),P n:=fun n h=>by simp at h
structure TkOk (L:List Nat) (d:NodeD) (R:List Nat):Prop where
 right:Ao d=true
 sub:Sub R L
 len:R.length<L.length
 late:4*d.par.late.length≤L.length
 ok:(∀n∈L,n<256)→NodeOk d
theorem Wv:nlB noLeafD.box.length noLeafD.sign.length noLeafD.ident.length noLeafD.source noLeafD.par.length noLeafD.sig.length=true:=by decide
theorem Zbo:npB noParD.box.length noParD.hash.length noParD.late.length=true:=by decide
theorem Nw {L:List Nat}(h:(Bj L 0).1=0):(Bj L 0).2.2.2=0∧TkOk L (Bj L 0).2.1 (Bj L 0).2.2.1:=by
 unfold Bj at h⊢;simp only[Fz]at h⊢;cases L with
 |nil=>simp at h
 |cons b M=>
  have i:Sub M (b::M):=⟨by simp,fun x hx=>gW _ hx⟩;simp only[Zeu,ne_eq,not_true_eq_false,if_false]at h⊢
  by_cases h0:b=0
  ·rw[if_pos h0]at h⊢;exact⟨rfl,(by decide:Ao An=true),i,by simp,by simp[An,noParD],fun _=>Gm⟩
  ·rw[if_neg h0]at h⊢
   by_cases h1:b=1
   ·rw[if_pos h1]at h⊢
    split at h
    ·rename_i h2
     rw[if_pos h2];obtain⟨a,f,c,d⟩:=Zey h2;generalize Cw M 0=q at h2 a f c d⊢;refine⟨f,?_,c.trans i,by have:=c.1;simp only[cB];omega,by simp[noParD],fun g=> ?_⟩
     ·show(rlB _ _ _ _ _ _&&npB _ _ _)=true;rw[Zbo,Bool.and_true];exact a
     ·obtain⟨c1,c2,c3,c4,c5⟩:=d fun n e=>g n (gW _ e);have:=of_decide_eq_true (p:=_) a;exact⟨show 1<256 by omega,by simp only;omega,c1,c2,c3,c4,c5,Ll,Ll,Ll⟩
    ·rename_i h2;exact absurd h h2
   ·rw[if_neg h1]at h⊢
    by_cases h2:b=2
    ·rw[if_pos h2]at h⊢
     split at h
     ·rename_i h3
      rw[if_pos h3];obtain⟨a,f,c,j,d⟩:=Zif h3;generalize Fp M 0=q at h3 a f c j d⊢;refine⟨f,?_,c.trans i,by have:=c.1;simp only[cB];omega,by simp only[cB];omega,fun g=> ?_⟩
      ·show(nlB noLeafD.box.length noLeafD.sign.length noLeafD.ident.length noLeafD.source noLeafD.par.length noLeafD.sig.length&&rpB q.2.1.box.length q.2.1.hash.length q.2.1.late)=true;rw[Wv,Bool.true_and];exact a
      ·obtain⟨c1,c2⟩:=d fun n e=>g n (gW _ e);have k:=Gc (by unfold rpB at a;rw[Bool.and_eq_true]at a;exact a.1);exact⟨show 2<256 by omega,show 0<256 by omega,Ll,Ll,Ll,Ll,Ll,c1,c2,fun n e=>by have:=k n e;omega⟩
     ·rename_i h3;exact absurd h h3
    ·rw[if_neg h2]at h;simp at h
section
theorem Only.alloc {B:Nat} {a w:World}(h:Only B a w)(o:Obj):Only B a (w.alloc o):=h.trans (Only.of (bR.alloc lR o))
theorem Only.then {B:Nat} {a b c:World}(h:Only B a b)(k:Below a.heap.size b c):Only B a c:=
 ⟨k.os.trans h.os,k.tape.trans h.tape,k.output.trans h.output,bO h.size k.size,fun i hi hne=>(k.block i hi).trans (h.block i hi hne)⟩
theorem Blk.only {w w':World} {g C:Nat} {t:TypeId} {cs:Array Value}(h:Blk w g t cs)(ho:Only C w w')(hne:g≠C):Blk w' g t cs:=
 (ho.block g h.lt (fun e=>hne (by simpa using e))).trans h
theorem Own.other {w w':World} {B q:Nat} {e t:TypeId} {v:Value} {xs:List Value} {cs:Array Value}(h:Own w B e v xs)(m:Blk w q t cs)(d:e≠t)(l:∀i,i<w.heap.size→i≠q→w'.heap[i]? =w.heap[i]?):Own w' B e v xs:=by
 have o:=h.ne_blk m d;have f:∀g,v.ownBlock=some g→g<w.heap.size:=by
  intro g a;rcases h.2 with⟨rfl,_⟩|⟨c,k,b,rfl,n,hh,_⟩
  ·simp[Value.ownBlock]at a
  ·simp[Value.ownBlock]at a;subst a;exact(Array.getElem?_eq_some_iff.1 hh).1
 obtain⟨j,p|⟨c,k,b,rfl,a,hh,rest⟩⟩:=h
 ·exact⟨j,.inl p⟩
 ·exact⟨j,.inr ⟨c,k,b,rfl,a,by rw[l c (f c (by simp[Value.ownBlock])) (fun e=>o (by simp[Value.ownBlock,e]))];exact hh,rest⟩⟩
theorem Own.setO {w:World} {B q:Nat} {e t:TypeId} {v:Value} {xs:List Value} {cs:Array Value}(h:Own w B e v xs)(hb:Blk w q t cs)(hne:e≠t)(i:Nat)(u:Value):Own (w.setCell ⟨q,i,none⟩ u) B e v xs:=
 h.other hb hne fun j _ hj=>Below.heap_setCell w _ u j hj
theorem RS.setO {w:World} {B q:Nat} {L:List Nat} {er:Nat}(h:RS w B L er)(hq:B<q)(i:Nat)(u:Value):RS (w.setCell ⟨q,i,none⟩ u) B L er:=
 h.low ((Below.refl q w).setCell (by simp) u) hq
theorem Ic {w:World} {B:Nat} {v:Value} {L:List Nat}(h:Own w B 5 v (bvs L)):∃a c,v=.slice a L.length c:=by
 obtain⟨a,c,e,_⟩:=h.rd;rw[bvs_len]at e;exact⟨a,c,e⟩
theorem Py {B:Nat} {a b c:World}(h:Only B a b)(k:Below b.heap.size b c):Only B a c:=h.then (k.mono h.size)
theorem Bk {B:Nat} {a b c:World}(h:Only B a b)(k:Below a.heap.size b c):Only B a c:=h.then k
theorem Ww {B:Nat} {a b:World}(h:Only B a b) {q:Nat}(hq:a.heap.size≤q)(i:Nat)(u:Value):Only B a (b.setCell ⟨q,i,none⟩ u):=
 h.then ((Below.refl a.heap.size b).setCell hq u)
def Al (w:World)(g:Nat)(l:List (Value×List Nat)):Prop:=∀p∈l,Own w g 5 p.1 (bvs p.2)
section
variable {w w':World} {g B q:Nat} {l:List (Value×List Nat)} {v:Value} {L:List Nat} {t:TypeId} {cs:Array Value}
theorem Al.nil (w:World)(g:Nat):Al w g []:=fun p h=>by simp at h
theorem Al.cons (h:Al w g l)(hv:Own w g 5 v (bvs L)):Al w g ((v,L)::l):=fun p hp=>by
 rcases List.mem_cons.1 hp with rfl|hp
 ·exact hv
 ·exact h p hp
theorem Al.only (h:Al w g l)(ho:Only B w w')(hB:B<g):Al w' g l:=fun p hp=>(h p hp).only ho hB
theorem Al.below (h:Al w g l)(hb:Below w.heap.size w w'):Al w' g l:=fun p hp=>(h p hp).below hb lR
theorem Al.mono (h:Al w g l) {g':Nat}(hg:g'≤g):Al w g' l:=fun p hp=>(h p hp).mono hg
theorem Al.setO (h:Al w g l)(hb:Blk w q t cs)(hne:(5:TypeId)≠t)(i:Nat)(u:Value):Al (w.setCell ⟨q,i,none⟩ u) g l:=fun p hp=>(h p hp).setO hb hne i u
theorem Al.other (h:Al w g l)(hb:Blk w q t cs)(hne:(5:TypeId)≠t)(ho:∀i,i<w.heap.size→i≠q→w'.heap[i]? =w.heap[i]?):Al w' g l:=fun p hp=>(h p hp).other hb hne ho
theorem Al.nth (h:Al w g l)(i:Nat)(hi:l[i]? =some (v,L)):Own w g 5 v (bvs L):=h _ (List.mem_of_getElem? hi)
end
theorem LeafO.none (w:World)(B:Nat):LeafO w B noLeafD #[.slice none 0 0,.slice none 0 0,.slice none 0 0,.int .u8 0,.slice none 0 0,.slice none 0 0]:=⟨_,_,_,_,_,rfl,Own.nil _ _ _,Own.nil _ _ _,Own.nil _ _ _,Own.nil _ _ _,Own.nil _ _ _⟩
def Zig (B:Nat)(w:World)(r:Nat×LeafD×List Nat×Nat)(e:Ending)(w':World):Prop:=
 ∃c,e=.returned (.tuple #[.agg c,.int .u8 (r.1:Nat)])∧LeafO w' w.heap.size r.2.1 c∧RS w' B r.2.2.1 r.2.2.2∧Only B w w'
theorem Wx (F H G E t L0 L1 L2 L3 L4 L5 L6:List Nat) (e1 e2 e3 T e5 N s B:Nat) (r:Nat×LeafD×List Nat×Nat) (w:World) (h:RS w B L0 0)
  (C1:∀W,RS W B L0 0→Calls Tryz.prog 254 #[.pointer (some ⟨B,0,none⟩)] W (Ls B W (F,L1,e1)))
  (C2:∀W,RS W B L1 e1→Calls Tryz.prog 254 #[.pointer (some ⟨B,0,none⟩)] W (Ls B W (H,L2,e2)))
  (C3:∀W,RS W B L2 e2→Calls Tryz.prog 254 #[.pointer (some ⟨B,0,none⟩)] W (Ls B W (G,L3,e3)))
  (C4:∀W,RS W B L3 e3→Calls Tryz.prog 154 #[.pointer (some ⟨B,0,none⟩),.int .i64 1] W fun e W'=>e=.returned (.int .u64 (s:Nat))∧RS W' B L4 T∧Only B W W')
  (C5:s=3→∀W,RS W B L4 T→Calls Tryz.prog 254 #[.pointer (some ⟨B,0,none⟩)] W (Ls B W (E,L5,e5)))
  (N5:s≠3→E=[]∧L5=L4∧e5=T)
  (C6:∀W,RS W B L5 e5→Calls Tryz.prog 254 #[.pointer (some ⟨B,0,none⟩)] W (Ls B W (t,L6,N)))
  (hs:s<256)
  (X4:T≠0→r=(T,noLeafD,L4,T)) (XS:T=0→s<1∨3<s→r=(3,noLeafD,L4,T)) (X6:T=0→¬(s<1∨3<s)→N≠0→r=(N,noLeafD,L6,N))
  (XB:T=0→¬(s<1∨3<s)→N=0→∀b,rlB F.length H.length G.length s E.length t.length=b→r=if b=true then(0,⟨F,H,G,s,E,t⟩,L6,N)else(3,noLeafD,L6,N)):
  Calls Tryz.prog 218 #[.pointer (some ⟨B,0,none⟩)] w (Zig B w r):=by
 have hB:=h.lt;obtain⟨g,hg⟩:=eX w.heap.size;have Q:=Hd hg;have x:=Hd (show B<g by omega);obtain⟨w0,aA⟩:=eX (w.alloc (.cells #[.slice none 0 0,.slice none 0 0,.slice none 0 0,.int .u8 0,.slice none 0 0,.slice none 0 0] 44));have bQ:=Hd aA;have bA:=Hd (show g+1≤w0.heap.size by rw[aA,hg];simp);have G0:=Hd (show Blk w0 g 44 #[.slice none 0 0,.slice none 0 0,.slice none 0 0,.int .u8 0,.slice none 0 0,.slice none 0 0] by rw[aA,hg];exact Blk.new _ _ _);have A0:=Hd (Al.nil w0 (g+1));have O0:=Hd (show Only B w w0 by rw[aA];exact(Only.refl _ _).alloc _);have R0:=Hd (show RS w0 B L0 0 by rw[aA];exact h.low ((Below.refl w.heap.size w).alloc lR (.cells #[.slice none 0 0,.slice none 0 0,.slice none 0 0,.int .u8 0,.slice none 0 0,.slice none 0 0] 44)) hB);have bL:=Hd C1;have bX:=Hd C2;have bS:=Hd C3;have bT:=Hd C4;have bH:=Hd C5;have bW:=Hd N5;have bB:=Hd C6;have bM:=Hd X4;have bP:=Hd XS;have aY:=Hd X6;have a4:=Hd XB;have aI:=Hd fun(L:List Nat) (er:Nat) W=>Hb B L er W;have aR:=Hd @Jm;obtain⟨S,hS⟩:=eX (Zig B w r);rw[←hS];have HS:=Hd (show∀(e:Ending) (w':World) {c:Array Value} {k:Nat} {d:LeafD} {R:List Nat} {re:Nat},e=.returned (.tuple #[.agg c,.int .u8 (k:Nat)])→r=(k,d,R,re)→LeafO w' w.heap.size d c→RS w' B R re→Only B w w'→S e w' from by
  rintro e w' c k d R re rfl rfl h1 h2 h3;rw[hS];exact⟨c,rfl,h1,h2,h3⟩)
 clear h hB hg aA C1 C2 C3 C4 C5 N5 C6 X4 XS X6 XB hS;go_enter Tryz.func218,Tryz.ntmps218;go_wp2_with fail;rw[←bQ.out,←Q.out];refine(bL.out w0 R0.out).mono ?_;rintro e w1 ⟨u1,rfl,m,o,a⟩;obtain⟨U,c1,rfl⟩:=Ic m;have D:=m.mono (B':=g+1) bA.out;have a0:=Hd (bO bA.out a.size);have A1:=Hd (A0.out.only a (by have:=x.out;omega));have G1:=Hd (G0.out.only a (by have:=x.out;omega));have O1:=Hd (O0.out.trans a);have R1:=Hd o;replace A1:=Hd (A1.out.cons D);clear m o a D;go_wp2_with fail;refine(bX.out w1 R1.out).mono ?_;rintro e w2 ⟨u2,rfl,m,o,a⟩;obtain⟨X,c2,rfl⟩:=Ic m;have D:=m.mono (B':=g+1) a0.out;have bD:=Hd (bO a0.out a.size);have A2:=Hd (A1.out.only a (by have:=x.out;omega));have G2:=Hd (G1.out.only a (by have:=x.out;omega));have O2:=Hd (O1.out.trans a);have R2:=Hd o;replace A2:=Hd (A2.out.cons D);clear m o a D;go_wp2_with fail;refine(bS.out w2 R2.out).mono ?_;rintro e w3 ⟨u3,rfl,m,o,a⟩;obtain⟨V,c3,rfl⟩:=Ic m;have D:=m.mono (B':=g+1) bD.out;have bI:=Hd (bO bD.out a.size);have A3:=Hd (A2.out.only a (by have:=x.out;omega));have G3:=Hd (G2.out.only a (by have:=x.out;omega));have O3:=Hd (O2.out.trans a);have R3:=Hd o;replace A3:=Hd (A3.out.cons D);clear m o a D;go_wp2_with fail;refine(bT.out w3 R3.out).mono ?_;rintro e w4 ⟨rfl,o,a⟩;have aZ:=Hd (bO bI.out a.size);have A4:=Hd (A3.out.only a (by have:=x.out;omega));have G4:=Hd (G3.out.only a (by have:=x.out;omega));have O4:=Hd (O3.out.trans a);have R4:=Hd o;clear o a;obtain⟨q,hq⟩:=eX w4.heap.size;have HQ:=Hd hq;have z:=Hd (show g+1≤q by rw[hq];exact aZ.out);have bN:IntKind.u8.wrap (s:Int)=(s:Int):=(by rw[IntKind.wrap_u8];omega);clear hq;go_wp2_with (refine Aa rfl 44 (.tmp 4) (.tmp 16) rfl w4.heap.size #[.slice U F.length c1,.slice X H.length c2,.slice V G.length c3,.int .u8 s,.slice none 0 0,.slice none 0 0] rfl rfl 44 #[.slice none 0 0,.slice none 0 0,.slice none 0 0,.int .u8 0,.slice none 0 0,.slice none 0 0] (Blk.new _ _ _) (by kernel_rfl) rfl rfl ?_);rintro w5 f l n j;have A:Below w4.heap.size w4 w5:=(bR.alloc lR _).trans (l _ lR);have aE:=Hd (bO aZ.out A.size);have A5:=Hd (A4.out.below A);have G5:=Hd (G4.out.below A G4.out.lt);have O5:=Hd (Py O4.out A);have R5:=Hd (R4.out.below A);rw[←HQ.out]at f⊢;have Q5:=Hd f;have y3:=f.cell 3;simp only[cC,cD,cE]at y3;clear f l n j A bN;go_wp2_with fail;refine(aI.out _ _ _ R5.out).mono ?_;rintro e w' ⟨rfl,rfl⟩
 by_cases h4:T=0
 ·have aB:=Hd h4;have bE:((T:Int) !=0)=false:=by rw[bne_eq_false_iff_eq];omega
  by_cases hs1:s<1∨3<s
  ·have aG:=Hd (bP.out aB.out hs1);clear h4
   by_cases hs0:s<1
   ·have aS:decide ((s:Int)<1)=true:=decide_eq_true (by omega);clear hs0 hs1;go_wp2_with (refine Aa rfl 44 (.tmp 2) (.tmp 31) rfl g #[.slice none 0 0,.slice none 0 0,.slice none 0 0,.int .u8 0,.slice none 0 0,.slice none 0 0] rfl rfl 44 #[.slice none 0 0,.slice none 0 0,.slice none 0 0,.int .u8 0,.slice none 0 0,.slice none 0 0] G5.out (by kernel_rfl) rfl rfl ?_);rintro w9 f l n j;have Y:=Hd f;have J:=Hd (Bk O5.out (l w.heap.size (by rw[Q.out];exact lR)));have I:=Hd (R5.out.low (l g lR) x.out);clear f l n j;go_wp2_with fail;refine bodyPost_ret (v:=.tuple #[.agg #[.slice none 0 0,.slice none 0 0,.slice none 0 0,.int .u8 0,.slice none 0 0,.slice none 0 0],.int .u8 3]) (Ad Tryz.results218 _ _ g _ _ _ rfl Y.out Tryz.underlying44 rfl (by kernel_rfl)) rfl ?_;exact HS.out _ _ rfl aG.out (LeafO.none _ _) I.out J.out
   ·have aS:decide ((s:Int)<1)=false:=decide_eq_false (by omega);have bU:decide ((s:Int)>3)=true:=decide_eq_true (by omega);clear hs0 hs1;go_wp2_with (refine Aa rfl 44 (.tmp 2) (.tmp 31) rfl g #[.slice none 0 0,.slice none 0 0,.slice none 0 0,.int .u8 0,.slice none 0 0,.slice none 0 0] rfl rfl 44 #[.slice none 0 0,.slice none 0 0,.slice none 0 0,.int .u8 0,.slice none 0 0,.slice none 0 0] G5.out (by kernel_rfl) rfl rfl ?_);rintro w9 f l n j;have Y:=Hd f;have J:=Hd (Bk O5.out (l w.heap.size (by rw[Q.out];exact lR)));have I:=Hd (R5.out.low (l g lR) x.out);clear f l n j;go_wp2_with fail;refine bodyPost_ret (v:=.tuple #[.agg #[.slice none 0 0,.slice none 0 0,.slice none 0 0,.int .u8 0,.slice none 0 0,.slice none 0 0],.int .u8 3]) (Ad Tryz.results218 _ _ g _ _ _ rfl Y.out Tryz.underlying44 rfl (by kernel_rfl)) rfl ?_;exact HS.out _ _ rfl aG.out (LeafO.none _ _) I.out J.out
  ·have aS:decide ((s:Int)<1)=false:=decide_eq_false (by omega);have bU:decide ((s:Int)>3)=false:=decide_eq_false (by omega);have aF:=Hd hs1;clear hs1 h4
   by_cases hs3:s=3
   ·have bF:((s:Int)==3)=true:=(by rw[beq_iff_eq];omega);have aU:=Hd (bH.out hs3);clear hs3;go_wp2_with fail;refine(aU.out w5 R5.out).mono ?_;rintro e w6 ⟨u5,rfl,m,o,a⟩;obtain⟨P,c5,rfl⟩:=Ic m;have D:=m.mono (B':=g+1) aE.out;have aO:=Hd (bO aE.out a.size);have A6:=Hd (A5.out.only a (by have:=x.out;omega));have G6:=Hd (G5.out.only a (by have:=x.out;omega));have Q6:=Hd (Q5.out.only a (by have:=x.out;have:=z.out;omega));have O6:=Hd (O5.out.trans a);have R6:=Hd o;replace A6:=Hd (A6.out.cons D);have M:=Q6.out;have y4:=M.cell 4;have z4:=M.frozen 4;simp only[cC,cD,cE]at y4;have Q7:=Hd (show Blk (w6.setCell ⟨q,4,none⟩ (.slice P E.length c5)) q 44 #[.slice U F.length c1,.slice X H.length c2,.slice V G.length c3,.int .u8 s,.slice P E.length c5,.slice none 0 0]from by simpa using M.set 4 (.slice P E.length c5));have Z:=Hd (show g+1≤(w6.setCell ⟨q,4,none⟩ (.slice P E.length c5)).heap.size by have:=aO.out;simpa using this);have A7:=Hd (A6.out.setO M (by decide) 4 (.slice P E.length c5));have G7:=Hd (G6.out.far (p:=⟨q,4,none⟩) (by have:=z.out;simp only;omega) (.slice P E.length c5));have R7:=Hd (R6.out.setO (q:=q) (by have:=x.out;have:=z.out;omega) 4 (.slice P E.length c5));have O7:=Hd (Ww O6.out (q:=q) (by have:=z.out;have:=Q.out;omega) 4 (.slice P E.length c5));generalize hwk:w6.setCell ⟨q,4,none⟩ (.slice P E.length c5)=w7 at Q7 Z A7 G7 R7 O7;have aD:=Hd hwk;clear hwk;clear m o a D M y3;go_wp2_with fail;rw[aD.out];refine(bB.out w7 R7.out).mono ?_;rintro e w8 ⟨u6,rfl,m,o,a⟩;obtain⟨y,u,rfl⟩:=Ic m;have D:=m.mono (B':=g+1) Z.out;have a8:=Hd (bO Z.out a.size);have A8:=Hd (A7.out.only a (by have:=x.out;omega));have G8:=Hd (G7.out.only a (by have:=x.out;omega));have Q8:=Hd (Q7.out.only a (by have:=x.out;have:=z.out;omega));have O8:=Hd (O7.out.trans a);have R8:=Hd o;replace A8:=Hd (A8.out.cons D);have M:=Q8.out;have y5:=M.cell 5;have z5:=M.frozen 5;simp only[cC,cD,cE]at y5;have Q9:=Hd (show Blk (w8.setCell ⟨q,5,none⟩ (.slice y t.length u)) q 44 #[.slice U F.length c1,.slice X H.length c2,.slice V G.length c3,.int .u8 s,.slice P E.length c5,.slice y t.length u]from by simpa using M.set 5 (.slice y t.length u));have aQ:=Hd (show g+1≤(w8.setCell ⟨q,5,none⟩ (.slice y t.length u)).heap.size by have:=a8.out;simpa using this);have A9:=Hd (A8.out.setO M (by decide) 5 (.slice y t.length u));have G9:=Hd (G8.out.far (p:=⟨q,5,none⟩) (by have:=z.out;simp only;omega) (.slice y t.length u));have I:=Hd (R8.out.setO (q:=q) (by have:=x.out;have:=z.out;omega) 5 (.slice y t.length u));have J:=Hd (Ww O8.out (q:=q) (by have:=z.out;have:=Q.out;omega) 5 (.slice y t.length u));generalize hwk:w8.setCell ⟨q,5,none⟩ (.slice y t.length u)=w9 at Q9 aQ A9 G9 I J;have aV:=Hd hwk;clear hwk;clear m o a D M;go_wp2_with fail;rw[aV.out];refine(aI.out _ _ _ I.out).mono ?_;rintro e w' ⟨rfl,rfl⟩;clear y5 z5
    by_cases h6:N=0
    ·have aJ:=Hd h6;have aH:((N:Int) !=0)=false:=(by rw[bne_eq_false_iff_eq];omega);clear h6;go_wp2_with (refine Au rfl 44 (.tmp 4) rfl q rfl 44 #[.slice U F.length c1,.slice X H.length c2,.slice V G.length c3,.int .u8 s,.slice P E.length c5,.slice y t.length u] (0,0) _ Q9.out Tryz.underlying44 rfl (by kernel_rfl) ?_);refine(aR.out U X V P y F.length H.length G.length E.length t.length c1 c2 c3 c5 u s _).mono ?_;rintro e bZ ⟨rfl,A⟩;have bY:=Hd (bO aQ.out A.size);have bG:=Hd (A9.out.below A);have aM:=Hd (G9.out.below A G9.out.lt);have bJ:=Hd (Q9.out.below A Q9.out.lt);have a9:=Hd (Py J.out A);have bC:=Hd (I.out.below A);clear A;obtain⟨RB,O⟩:=eX (rlB F.length H.length G.length s E.length t.length);rw[←O];have K:=Hd (a4.out aB.out aF.out aJ.out RB (by rw[O]));clear O;cases RB with
     |false=>
      go_wp2_with (refine Aa rfl 44 (.tmp 2) (.tmp 50) rfl g #[.slice none 0 0,.slice none 0 0,.slice none 0 0,.int .u8 0,.slice none 0 0,.slice none 0 0] rfl rfl 44 #[.slice none 0 0,.slice none 0 0,.slice none 0 0,.int .u8 0,.slice none 0 0,.slice none 0 0] aM.out (by kernel_rfl) rfl rfl ?_);rintro w9 f l n j;have Y:=Hd f;have J:=Hd (Bk a9.out (l w.heap.size (by rw[Q.out];exact lR)));have I:=Hd (bC.out.low (l g lR) x.out);clear f l n j;go_wp2_with fail;refine bodyPost_ret (v:=.tuple #[.agg #[.slice none 0 0,.slice none 0 0,.slice none 0 0,.int .u8 0,.slice none 0 0,.slice none 0 0],.int .u8 3]) (Ad Tryz.results218 _ _ g _ _ _ rfl Y.out Tryz.underlying44 rfl (by kernel_rfl)) rfl ?_;exact HS.out _ _ rfl K.out (LeafO.none _ _) I.out J.out
     |true=>
      go_wp2_with (first|(refine Au rfl 44 (.tmp 4) rfl q rfl 44 #[.slice U F.length c1,.slice X H.length c2,.slice V G.length c3,.int .u8 s,.slice P E.length c5,.slice y t.length u] (0,0) _ bJ.out Tryz.underlying44 rfl (by kernel_rfl) ?_)|(refine Aa rfl 44 (.tmp 2) (.tmp 51) rfl g #[.slice U F.length c1,.slice X H.length c2,.slice V G.length c3,.int .u8 s,.slice P E.length c5,.slice y t.length u] rfl rfl 44 #[.slice none 0 0,.slice none 0 0,.slice none 0 0,.int .u8 0,.slice none 0 0,.slice none 0 0] aM.out (by kernel_rfl) rfl rfl ?_));rintro bK f l n j;have aL:=Hd f;have aK:=Hd (Bk a9.out (l w.heap.size (by rw[Q.out];exact lR)));have aN:=Hd (bC.out.low (l g lR) x.out);have C:=Hd ((bG.out.other aM.out (by decide) (fun i _ D=>n i D)).mono (fZ g));clear f l n j;go_wp2_with fail;refine bodyPost_ret (v:=.tuple #[.agg #[.slice U F.length c1,.slice X H.length c2,.slice V G.length c3,.int .u8 s,.slice P E.length c5,.slice y t.length u],.int .u8 0]) (Ad Tryz.results218 _ _ g _ _ _ rfl aL.out Tryz.underlying44 rfl (by kernel_rfl)) rfl ?_;refine HS.out _ _ rfl K.out ?_ aN.out aK.out;rw[←Q.out];exact⟨_,_,_,_,_,rfl,C.out.nth 4 rfl,C.out.nth 3 rfl,C.out.nth 2 rfl,C.out.nth 1 rfl,C.out.nth 0 rfl⟩
    ·have aC:=Hd (aY.out aB.out aF.out h6);have aH:((N:Int) !=0)=true:=(by rw[bne_iff_ne];omega);clear h6;go_wp2_with (refine Aa rfl 44 (.tmp 2) (.tmp 45) rfl g #[.slice none 0 0,.slice none 0 0,.slice none 0 0,.int .u8 0,.slice none 0 0,.slice none 0 0] rfl rfl 44 #[.slice none 0 0,.slice none 0 0,.slice none 0 0,.int .u8 0,.slice none 0 0,.slice none 0 0] G9.out (by kernel_rfl) rfl rfl ?_);rintro w9 f l n j;have Y:=Hd f;have J:=Hd (Bk J.out (l w.heap.size (by rw[Q.out];exact lR)));have I:=Hd (I.out.low (l g lR) x.out);clear f l n j;go_wp2_with fail;refine bodyPost_ret (v:=.tuple #[.agg #[.slice none 0 0,.slice none 0 0,.slice none 0 0,.int .u8 0,.slice none 0 0,.slice none 0 0],.int .u8 (N:Nat)]) (Ad Tryz.results218 _ _ g _ _ _ rfl Y.out Tryz.underlying44 rfl (by kernel_rfl)) rfl ?_;exact HS.out _ _ rfl aC.out (LeafO.none _ _) I.out J.out
   ·have bF:((s:Int)==3)=false:=(by rw[beq_eq_false_iff_ne];omega);obtain⟨aW,a7,aX⟩:=bW.out hs3;have aP:=Hd aW;have bV:=Hd (show RS w5 B L5 e5 by rw[a7,aX];exact R5.out);clear hs3 aW a7 aX;go_wp2_with fail;refine(bB.out w5 bV.out).mono ?_;rintro e w6 ⟨u6,rfl,m,o,a⟩;obtain⟨y,u,rfl⟩:=Ic m;have D:=m.mono (B':=g+1) aE.out;have aO:=Hd (bO aE.out a.size);have A6:=Hd (A5.out.only a (by have:=x.out;omega));have G6:=Hd (G5.out.only a (by have:=x.out;omega));have Q6:=Hd (Q5.out.only a (by have:=x.out;have:=z.out;omega));have O6:=Hd (O5.out.trans a);have R6:=Hd o;replace A6:=Hd (A6.out.cons D);have M:=Q6.out;have y5:=M.cell 5;have z5:=M.frozen 5;simp only[cC,cD,cE]at y5;have Q7:=Hd (show Blk (w6.setCell ⟨q,5,none⟩ (.slice y t.length u)) q 44 #[.slice U F.length c1,.slice X H.length c2,.slice V G.length c3,.int .u8 s,.slice none 0 0,.slice y t.length u]from by simpa using M.set 5 (.slice y t.length u));have Z:=Hd (show g+1≤(w6.setCell ⟨q,5,none⟩ (.slice y t.length u)).heap.size by have:=aO.out;simpa using this);have A7:=Hd (A6.out.setO M (by decide) 5 (.slice y t.length u));have G7:=Hd (G6.out.far (p:=⟨q,5,none⟩) (by have:=z.out;simp only;omega) (.slice y t.length u));have R7:=Hd (R6.out.setO (q:=q) (by have:=x.out;have:=z.out;omega) 5 (.slice y t.length u));have O7:=Hd (Ww O6.out (q:=q) (by have:=z.out;have:=Q.out;omega) 5 (.slice y t.length u));generalize hwk:w6.setCell ⟨q,5,none⟩ (.slice y t.length u)=w7 at Q7 Z A7 G7 R7 O7;have aD:=Hd hwk;clear hwk;clear m o a D M;go_wp2_with fail;rw[aD.out];refine(aI.out _ _ _ R7.out).mono ?_;rintro e w' ⟨rfl,rfl⟩;clear y5 z5
    by_cases h6:N=0
    ·have aJ:=Hd h6;have aH:((N:Int) !=0)=false:=(by rw[bne_eq_false_iff_eq];omega);clear h6;go_wp2_with (refine Au rfl 44 (.tmp 4) rfl q rfl 44 #[.slice U F.length c1,.slice X H.length c2,.slice V G.length c3,.int .u8 s,.slice none 0 0,.slice y t.length u] (0,0) _ Q7.out Tryz.underlying44 rfl (by kernel_rfl) ?_);refine(aR.out U X V none y F.length H.length G.length 0 t.length c1 c2 c3 0 u s _).mono ?_;rintro e w8 ⟨rfl,A⟩;have a8:=Hd (bO Z.out A.size);have A8:=Hd (A7.out.below A);have G8:=Hd (G7.out.below A G7.out.lt);have Q8:=Hd (Q7.out.below A Q7.out.lt);have O8:=Hd (Py O7.out A);have R8:=Hd (R7.out.below A);clear A;obtain⟨RB,O⟩:=eX (rlB F.length H.length G.length s 0 t.length);rw[←O];have K:=Hd (a4.out aB.out aF.out aJ.out RB (by rw[O];rw[aP.out];rfl));clear O;cases RB with
     |false=>
      go_wp2_with (refine Aa rfl 44 (.tmp 2) (.tmp 50) rfl g #[.slice none 0 0,.slice none 0 0,.slice none 0 0,.int .u8 0,.slice none 0 0,.slice none 0 0] rfl rfl 44 #[.slice none 0 0,.slice none 0 0,.slice none 0 0,.int .u8 0,.slice none 0 0,.slice none 0 0] G8.out (by kernel_rfl) rfl rfl ?_);rintro w9 f l n j;have Y:=Hd f;have J:=Hd (Bk O8.out (l w.heap.size (by rw[Q.out];exact lR)));have I:=Hd (R8.out.low (l g lR) x.out);clear f l n j;go_wp2_with fail;refine bodyPost_ret (v:=.tuple #[.agg #[.slice none 0 0,.slice none 0 0,.slice none 0 0,.int .u8 0,.slice none 0 0,.slice none 0 0],.int .u8 3]) (Ad Tryz.results218 _ _ g _ _ _ rfl Y.out Tryz.underlying44 rfl (by kernel_rfl)) rfl ?_;exact HS.out _ _ rfl K.out (LeafO.none _ _) I.out J.out
     |true=>
      go_wp2_with (first|(refine Au rfl 44 (.tmp 4) rfl q rfl 44 #[.slice U F.length c1,.slice X H.length c2,.slice V G.length c3,.int .u8 s,.slice none 0 0,.slice y t.length u] (0,0) _ Q8.out Tryz.underlying44 rfl (by kernel_rfl) ?_)|(refine Aa rfl 44 (.tmp 2) (.tmp 51) rfl g #[.slice U F.length c1,.slice X H.length c2,.slice V G.length c3,.int .u8 s,.slice none 0 0,.slice y t.length u] rfl rfl 44 #[.slice none 0 0,.slice none 0 0,.slice none 0 0,.int .u8 0,.slice none 0 0,.slice none 0 0] G8.out (by kernel_rfl) rfl rfl ?_));rintro bK f l n j;have aL:=Hd f;have aK:=Hd (Bk O8.out (l w.heap.size (by rw[Q.out];exact lR)));have aN:=Hd (R8.out.low (l g lR) x.out);have C:=Hd ((A8.out.other G8.out (by decide) (fun i _ D=>n i D)).mono (fZ g));clear f l n j;go_wp2_with fail;refine bodyPost_ret (v:=.tuple #[.agg #[.slice U F.length c1,.slice X H.length c2,.slice V G.length c3,.int .u8 s,.slice none 0 0,.slice y t.length u],.int .u8 0]) (Ad Tryz.results218 _ _ g _ _ _ rfl aL.out Tryz.underlying44 rfl (by kernel_rfl)) rfl ?_;refine HS.out _ _ rfl K.out ?_ aN.out aK.out;rw[←Q.out];exact⟨_,_,_,_,_,by rw[aP.out],C.out.nth 3 rfl,C.out.nth 2 rfl,C.out.nth 1 rfl,by rw[aP.out];exact Own.nil _ _ _,C.out.nth 0 rfl⟩
    ·have aC:=Hd (aY.out aB.out aF.out h6);have aH:((N:Int) !=0)=true:=(by rw[bne_iff_ne];omega);clear h6;go_wp2_with (refine Aa rfl 44 (.tmp 2) (.tmp 45) rfl g #[.slice none 0 0,.slice none 0 0,.slice none 0 0,.int .u8 0,.slice none 0 0,.slice none 0 0] rfl rfl 44 #[.slice none 0 0,.slice none 0 0,.slice none 0 0,.int .u8 0,.slice none 0 0,.slice none 0 0] G7.out (by kernel_rfl) rfl rfl ?_);rintro w9 f l n j;have Y:=Hd f;have J:=Hd (Bk O7.out (l w.heap.size (by rw[Q.out];exact lR)));have I:=Hd (R7.out.low (l g lR) x.out);clear f l n j;go_wp2_with fail;refine bodyPost_ret (v:=.tuple #[.agg #[.slice none 0 0,.slice none 0 0,.slice none 0 0,.int .u8 0,.slice none 0 0,.slice none 0 0],.int .u8 (N:Nat)]) (Ad Tryz.results218 _ _ g _ _ _ rfl Y.out Tryz.underlying44 rfl (by kernel_rfl)) rfl ?_;exact HS.out _ _ rfl aC.out (LeafO.none _ _) I.out J.out
 ·have aT:=Hd (bM.out h4);have bE:((T:Int) !=0)=true:=(by rw[bne_iff_ne];omega);clear h4;go_wp2_with (refine Aa rfl 44 (.tmp 2) (.tmp 21) rfl g #[.slice none 0 0,.slice none 0 0,.slice none 0 0,.int .u8 0,.slice none 0 0,.slice none 0 0] rfl rfl 44 #[.slice none 0 0,.slice none 0 0,.slice none 0 0,.int .u8 0,.slice none 0 0,.slice none 0 0] G5.out (by kernel_rfl) rfl rfl ?_);rintro w9 f l n j;have Y:=Hd f;have J:=Hd (Bk O5.out (l w.heap.size (by rw[Q.out];exact lR)));have I:=Hd (R5.out.low (l g lR) x.out);clear f l n j;go_wp2_with fail;refine bodyPost_ret (v:=.tuple #[.agg #[.slice none 0 0,.slice none 0 0,.slice none 0 0,.int .u8 0,.slice none 0 0,.slice none 0 0],.int .u8 (T:Nat)]) (Ad Tryz.results218 _ _ g _ _ _ rfl Y.out Tryz.underlying44 rfl (by kernel_rfl)) rfl ?_;exact HS.out _ _ rfl aT.out (LeafO.none _ _) I.out J.out
theorem Zez (L:List Nat)(er:Nat)(hL:∀n∈L,n<256):Ds (Fe L er 1).1<256:=by
 by_cases h:er=0
 ·subst h;rw[Fz];cases L with
  |nil=>decide
  |cons b M=>simp only[Zeu];exact hL b (by simp)
 ·rw[Zew L h];exact(by decide:Ds []<256)
theorem Zbp (B:Nat)(L:List Nat)(w:World)(h:RS w B L 0)(F:L.length<1000000000)(j:∀n∈L,n<256):
  Calls Tryz.prog 218 #[.pointer (some ⟨B,0,none⟩)] w (Zig B w (Cw L 0)):=by
 have o:=Ay L 0;have l:=Ay (By L 0).2.1 (By L 0).2.2;have i:=Ay (By (By L 0).2.1 (By L 0).2.2).2.1 (By (By L 0).2.1 (By L 0).2.2).2.2;have d:∀(M:List Nat) (er:Nat),Sub M L→∀W,RS W B M er→Calls Tryz.prog 254 #[.pointer (some ⟨B,0,none⟩)] W (Ls B W (By M er)):=fun M er s W k=>Zdh B M er W k (by have:=s.1;omega) fun n f=>j n (s.2 n f);unfold Cw;simp only;have v:=d L 0 (Sub.refl _);have q:=d _ (By L 0).2.2 o.2.1;generalize By L 0=r1 at o l i v q⊢;have C:=o.2.1;have m:=l.2.1.trans C;have p:=d _ (By r1.2.1 r1.2.2).2.2 m;generalize By r1.2.1 r1.2.2=r2 at l i q p m⊢;have g:=i.2.1.trans m;generalize By r2.2.1 r2.2.2=r3 at i p g⊢;have t:=Fh r3.2.1 r3.2.2 1;have r:=fun W k=>Ni B r3.2.1 r3.2.2 1 W k fun n f=>j n (g.2 n f);have x:Ds (Fe r3.2.1 r3.2.2 1).1<256:=Zez r3.2.1 r3.2.2 fun n f=>j n (g.2 n f);generalize Fe r3.2.1 r3.2.2 1=r4 at t r x⊢;have u:=t.2.1.trans g;have E:=d r4.2.1 r4.2.2 u;obtain⟨c,a⟩:=eX (if Ds r4.1=3 then By r4.2.1 r4.2.2 else([],r4.2));have z:Sub c.2.1 r4.2.1:=by
  rw[a];split
  ·exact(Ay _ _).2.1
  ·exact Sub.refl _
 have D:=d c.2.1 c.2.2 (z.trans u);rw[←a];refine Wx r1.1 r2.1 r3.1 c.1 (By c.2.1 c.2.2).1 L r1.2.1 r2.2.1 r3.2.1 r4.2.1 c.2.1 (By c.2.1 c.2.2).2.1 r1.2.2 r2.2.2 r3.2.2 r4.2.2 c.2.2 (By c.2.1 c.2.2).2.2 (Ds r4.1) B _ w h v q p r (fun e=> ?_) (fun e=> ?_) D x (fun e=> ?_) (fun y e2=> ?_) (fun y e2 e3=> ?_) (fun y e2 e3 b A=> ?_)
 ·rw[if_pos e]at a;rw[a];exact E
 ·rw[if_neg e]at a;rw[a];exact⟨rfl,rfl,rfl⟩
 ·rw[if_pos e]
 ·rw[if_neg (by omega),if_pos e2]
 ·rw[if_neg (by omega),if_neg e2,if_pos e3]
 ·rw[if_neg (by omega),if_neg e2,if_neg (by omega)];show(if Rf _=true then _ else _)=_;unfold Rf;simp only[A]
end
end Go.Proofs.YtfofaiommeckbaaGreat
