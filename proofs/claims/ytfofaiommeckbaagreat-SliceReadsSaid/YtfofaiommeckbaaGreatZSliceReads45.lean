/- Plain: an own copy of a tree of which some nodes are replaced; lists out of functions. -/
import Derived.Test.YtfofaiommeckbaaGreatZSliceReadsB
import Derived.Test.YtfofaiommeckbaaGreatZSliceReads19
import Derived.Test.YtfofaiommeckbaaGreatZSliceReads22
import Derived.Laws.OwnMore
import Derived.Test.YtfofaiommeckbaaGreatZSliceReads26
open Nat renaming le_trans → dG, le_succ → fN, mod_lt → aL
open List renaming length_drop → dE, mem_of_mem_drop → gC, length_take → dC, mem_of_mem_take → gD, mem_cons_of_mem → gE, length_cons → bO, getElem?_toArray → bK, getElem?_cons_zero → bL, getElem?_cons_succ → bM, getD_eq_getElem?_getD → aH, getElem?_eq_getElem → aI, getElem?_drop → gF, getElem_mem → aJ
open Int renaming tmod → eH, tmod_eq_emod_of_nonneg → eI
set_option linter.unusedVariables false
set_option maxRecDepth 100000
set_option maxHeartbeats 40000000
namespace Go.Proofs.YtfofaiommeckbaaGreat
open Go.RowKit WalkM WireM
theorem Gs {w:World} {g:Nat}(vs:List Value)(o:Nat):w.grownBy (w.setCells g o vs) (some g):=by
 have h:=Fh g vs o w;exact⟨h.1.1,h.1.2,h.1.3,h.2.1,fun k hk hne=>h.2.2 k hk fun e=>hne (by rw[e])⟩
end Go.Proofs.YtfofaiommeckbaaGreat
namespace Go.Proofs.YtfofaiommeckbaaGreat
open Go.RowKit WireM
def Br (L:List Nat)(er:Nat):Nat×LeafD×List Nat×Nat:=
 let r1:=Bf L er
 let r2:=Bf r1.2.1 r1.2.2
 let r3:=Bf r2.2.1 r2.2.2
 let r4:=Eb r3.2.1 r3.2.2 1
 let s:=Ct r4.1
 if r4.2.2≠0 then(r4.2.2,noLeafD,r4.2)else
 if s<1∨3<s then(3,noLeafD,r4.2)else
 let r5:=if s=3 then Bf r4.2.1 r4.2.2 else([],r4.2)
 let r6:=Bf r5.2.1 r5.2.2
 if r6.2.2≠0 then(r6.2.2,noLeafD,r6.2)else
 if Kg ⟨r1.1,r2.1,r3.1,s,r5.1,r6.1⟩=true then(0,⟨r1.1,r2.1,r3.1,s,r5.1,r6.1⟩,r6.2)else(3,noLeafD,r6.2)
def Zde:Nat→List Nat→List Int
 |0,_=>[]
 |k+1,L=>if 4≤L.length then((Ct (L.take 4):Nat):Int)::Zde k (L.drop 4)else []
def Ee (L:List Nat)(er:Nat):Nat×ParD×List Nat×Nat:=
 let r1:=Bf L er
 let r2:=Bf r1.2.1 r1.2.2
 let r3:=Bf r2.2.1 r2.2.2
 if r3.2.2≠0 then(r3.2.2,noParD,r3.2)else
 let l:=Zde r3.1.length r3.1
 if r3.1.length%4=0∧rpB r1.1.length r2.1.length l=true then(0,⟨r1.1,r2.1,l⟩,r3.2)else(3,noParD,r3.2)
def Av (L:List Nat)(er:Nat):Nat×NodeD×List Nat×Nat:=
 let r:=Eb L er 1
 let k:=Ct r.1
 if r.2.2≠0 then(r.2.2,Ak,r.2)else
 if k=0 then(0,Ak,r.2)else
 if k=1 then(let q:=Br r.2.1 r.2.2;if q.1=0 then(0,⟨1,q.2.1,noParD⟩,q.2.2)else(q.1,Ak,q.2.2))else
 if k=2 then(let q:=Ee r.2.1 r.2.2;if q.1=0 then(0,⟨2,noLeafD,q.2.1⟩,q.2.2)else(q.1,Ak,q.2.2))else
 (3,Ak,r.2)
theorem Zdf (s:Nat):Ct [s]=s:=by simp[Ct]
def Sub (M L:List Nat):Prop:=M.length≤L.length∧∀x∈M,x∈L
theorem Sub.refl (L:List Nat):Sub L L:=⟨lR,fun _ h=>h⟩
theorem Sub.trans {A B C:List Nat}(h:Sub A B)(k:Sub B C):Sub A C:=⟨dG h.1 k.1,fun x hx=>k.2 x (h.2 x hx)⟩
theorem Sub.nil (L:List Nat):Sub [] L:=⟨Nat.zero_le _,fun _ h=>by simp at h⟩
theorem Sub.drop (L:List Nat)(n:Nat):Sub (L.drop n) L:=⟨by rw[dE];omega,fun _ h=>gC h⟩
theorem Sub.take (L:List Nat)(n:Nat):Sub (L.take n) L:=⟨by rw[dC];omega,fun _ h=>gD h⟩
def Zgg (L:List Nat)(r:List Nat×List Nat×Nat):Prop:=Sub r.1 L∧Sub r.2.1 L∧r.1.length+r.2.1.length≤L.length
theorem Nq (L:List Nat)(er:Nat)(n:Int):Zgg L (Bw L er n):=by
 unfold Bw
 split
 ·exact⟨Sub.nil _,Sub.refl _,by simp⟩
 ·split
  ·exact⟨Sub.nil _,Sub.refl _,by simp⟩
  ·split
   ·exact⟨Sub.nil _,Sub.refl _,by simp⟩
   ·exact⟨Sub.take _ _,Sub.drop _ _,by simp only[dC,dE];omega⟩
theorem Fx (L:List Nat)(er:Nat)(n:Int):Zgg L (Eb L er n):=Nq _ _ _
theorem Iv (L:List Nat)(er:Nat):Sub (Bh L er).2.1 L:=by
 unfold Bh
 split
 ·exact Sub.refl _
 ·split
  ·exact Sub.refl _
  ·rename_i b M
   have hs:Sub M (b::M):=⟨by simp,fun x hx=>gE _ hx⟩;unfold Oh
   split
   ·exact hs
   ·split
    ·exact hs
    ·split<;>exact(Sub.drop _ _).trans hs
theorem Bb (L:List Nat)(er:Nat):Zgg L (Bf L er):=by
 have h:=Iv L er;unfold Bf
 split
 ·rename_i M e hm
  rw[hm]at h;exact⟨Sub.nil _,h,by have:=h.1;simpa using this⟩
 ·rename_i n M e hm
  rw[hm]at h;obtain⟨p1,p2,p3⟩:=Nq M e (n:Int);exact⟨p1.trans h,p2.trans h,dG p3 h.1⟩
theorem Zdg (L:List Nat):Bw L 0 1=match L with|[]=>([],[],4)|b::M=>([b],M,0):=by
 unfold Bw;cases L with
 |nil=>simp
 |cons b M=>simp only[ne_eq,not_true_eq_false,if_false];rw[if_neg (by omega),if_neg (by simp only[bO];omega)];simp
theorem Cz (L:List Nat):Eb L 0 1=match L with|[]=>([],[],4)|b::M=>([b],M,0):=by
 rw[Eb,if_pos (by decide)];exact Zdg L
theorem Zgh (L:List Nat) {er:Nat}(h:er≠0)(n:Int):Bw L er n=([],L,er):=by rw[Bw,if_pos h]
theorem Zdh (L:List Nat) {er:Nat}(h:er≠0)(n:Int):Eb L er n=([],L,er):=Zgh L h _
theorem Rg (L:List Nat) {er:Nat}(h:er≠0):Bf L er=([],L,er):=by
 unfold Bf Bh;rw[if_pos h]
theorem Rh {L:List Nat} {er:Nat} {n:Int}(h:(Bw L er n).2.2=0):er=0∧0≤n∧n≤L.length∧Bw L er n=(L.take n.toNat,L.drop n.toNat,0):=by
 unfold Bw at h⊢
 split at h
 ·rename_i h1;exact absurd h h1
 ·rename_i h1
  split at h
  ·cases h
  ·rename_i h2
   split at h
   ·cases h
   ·rename_i h3
    rw[if_neg h1,if_neg h2,if_neg h3];exact⟨by simpa using h1,by omega,by omega,rfl⟩
theorem Zdi {L:List Nat}(h:(Br L 0).1=0):Kg (Br L 0).2.1=true∧(Br L 0).2.2.2=0∧Sub (Br L 0).2.2.1 L∧
  ((∀n∈L,n<256)→(∀n∈(Br L 0).2.1.box,n<256)∧(∀n∈(Br L 0).2.1.sign,n<256)∧(∀n∈(Br L 0).2.1.ident,n<256)∧(∀n∈(Br L 0).2.1.par,n<256)∧∀n∈(Br L 0).2.1.sig,n<256):=by
 unfold Br at h⊢;simp only at h⊢;generalize hr1:Bf L 0=r1 at h⊢;have p1:=Bb L 0;rw[hr1]at p1;generalize hr2:Bf r1.2.1 r1.2.2=r2 at h⊢;have p2:=Bb r1.2.1 r1.2.2;rw[hr2]at p2;generalize hr3:Bf r2.2.1 r2.2.2=r3 at h⊢;have p3:=Bb r2.2.1 r2.2.2;rw[hr3]at p3;generalize hr4:Eb r3.2.1 r3.2.2 1=r4 at h⊢;have p4:=Fx r3.2.1 r3.2.2 1;rw[hr4]at p4
 split at h
 ·rename_i h1;exact absurd h h1
 ·rename_i h1
  split at h
  ·cases h
  ·rename_i h2
   generalize hr5:(if Ct r4.1=3 then Bf r4.2.1 r4.2.2 else([],r4.2))=r5 at h⊢;have p5:Zgg r4.2.1 r5:=by
    rw[←hr5]
    split
    ·exact Bb _ _
    ·exact⟨Sub.nil _,Sub.refl _,by simp⟩
   generalize hr6:Bf r5.2.1 r5.2.2=r6 at h⊢;have p6:=Bb r5.2.1 r5.2.2;rw[hr6]at p6
   split at h
   ·rename_i h3;exact absurd h h3
   ·rename_i h3
    split at h
    ·rename_i h4
     rw[if_neg h1,if_neg h2,if_neg h3,if_pos h4];have s1:=p1.2.1;have s2:=p2.2.1.trans s1;have s3:=p3.2.1.trans s2;have s4:=p4.2.1.trans s3;have s5:=p5.2.1.trans s4;exact⟨h4,by simpa using h3,p6.2.1.trans s5,fun hL=>⟨fun n hn=>hL n (p1.1.2 n hn),fun n hn=>hL n ((p2.1.trans s1).2 n hn),fun n hn=>hL n ((p3.1.trans s2).2 n hn),fun n hn=>hL n ((p5.1.trans s4).2 n hn),fun n hn=>hL n ((p6.1.trans s5).2 n hn)⟩⟩
    ·cases h
theorem Xz:∀(k:Nat) (L:List Nat),4*(Zde k L).length≤L.length
 |0,L=>by simp[Zde]
 |k+1,L=>by
  unfold Zde
  split
  ·have:=Xz k (L.drop 4);rw[dE]at this;rw[bO];omega
  ·simp
theorem Zgi {L:List Nat}(h:(Ee L 0).1=0):rpB (Ee L 0).2.1.box.length (Ee L 0).2.1.hash.length (Ee L 0).2.1.late=true∧(Ee L 0).2.2.2=0∧Sub (Ee L 0).2.2.1 L∧4*(Ee L 0).2.1.late.length≤L.length∧
  ((∀n∈L,n<256)→(∀n∈(Ee L 0).2.1.box,n<256)∧∀n∈(Ee L 0).2.1.hash,n<256):=by
 unfold Ee at h⊢;simp only at h⊢;generalize hr1:Bf L 0=r1 at h⊢;have p1:=Bb L 0;rw[hr1]at p1;generalize hr2:Bf r1.2.1 r1.2.2=r2 at h⊢;have p2:=Bb r1.2.1 r1.2.2;rw[hr2]at p2;generalize hr3:Bf r2.2.1 r2.2.2=r3 at h⊢;have p3:=Bb r2.2.1 r2.2.2;rw[hr3]at p3
 split at h
 ·rename_i h1;exact absurd h h1
 ·rename_i h1
  split at h
  ·rename_i h2
   rw[if_neg h1,if_pos h2];have s1:=p1.2.1;have s2:=p2.2.1.trans s1;have hl:=Xz r3.1.length r3.1;have h3:=(p3.1.trans s2).1;exact⟨h2.2,by simpa using h1,p3.2.1.trans s2,by simp only;omega,fun hL=>⟨fun n hn=>hL n (p1.1.2 n hn),fun n hn=>hL n ((p2.1.trans s1).2 n hn)⟩⟩
  ·cases h
theorem Lc {α:Type} {P: α→Prop}:∀n∈([]:List α),P n:=fun n h=>by simp at h
structure TkOk (L:List Nat) (d:NodeD) (R:List Nat):Prop where
 right:Aq d=true
 sub:Sub R L
 len:R.length<L.length
 late:4*d.par.late.length≤L.length
 ok:(∀n∈L,n<256)→NodeOk d
theorem Vn:nlB noLeafD.box.length noLeafD.sign.length noLeafD.ident.length noLeafD.source noLeafD.par.length noLeafD.sig.length=true:=by decide
theorem Zab:npB noParD.box.length noParD.hash.length noParD.late.length=true:=by decide
theorem Tr {L:List Nat}(h:(Av L 0).1=0):(Av L 0).2.2.2=0∧TkOk L (Av L 0).2.1 (Av L 0).2.2.1:=by
 unfold Av at h⊢;simp only[Cz]at h⊢;cases L with
 |nil=>simp at h
 |cons b M=>
  have hs:Sub M (b::M):=⟨by simp,fun x hx=>gE _ hx⟩;simp only[Zdf,ne_eq,not_true_eq_false,if_false]at h⊢
  by_cases h0:b=0
  ·rw[if_pos h0]at h⊢;exact⟨rfl,(by decide:Aq Ak=true),hs,by simp,by simp[Ak,noParD],fun _=>Jf⟩
  ·rw[if_neg h0]at h⊢
   by_cases h1:b=1
   ·rw[if_pos h1]at h⊢
    split at h
    ·rename_i h2
     rw[if_pos h2];obtain⟨q1,q2,q3,q4⟩:=Zdi h2;generalize Br M 0=q at h2 q1 q2 q3 q4⊢;refine⟨q2,?_,q3.trans hs,by have:=q3.1;simp only[bO];omega,by simp[noParD],fun hL=> ?_⟩
     ·show(rlB _ _ _ _ _ _&&npB _ _ _)=true;rw[Zab,Bool.and_true];exact q1
     ·obtain⟨c1,c2,c3,c4,c5⟩:=q4 fun n hn=>hL n (gE _ hn);have:=of_decide_eq_true (p:=_) q1;exact⟨show 1<256 by omega,by simp only;omega,c1,c2,c3,c4,c5,Lc,Lc,Lc⟩
    ·rename_i h2;exact absurd h h2
   ·rw[if_neg h1]at h⊢
    by_cases h2:b=2
    ·rw[if_pos h2]at h⊢
     split at h
     ·rename_i h3
      rw[if_pos h3];obtain⟨q1,q2,q3,q5,q4⟩:=Zgi h3;generalize Ee M 0=q at h3 q1 q2 q3 q5 q4⊢;refine⟨q2,?_,q3.trans hs,by have:=q3.1;simp only[bO];omega,by simp only[bO];omega,fun hL=> ?_⟩
      ·show(nlB noLeafD.box.length noLeafD.sign.length noLeafD.ident.length noLeafD.source noLeafD.par.length noLeafD.sig.length&&rpB q.2.1.box.length q.2.1.hash.length q.2.1.late)=true;rw[Vn,Bool.true_and];exact q1
      ·obtain⟨c1,c2⟩:=q4 fun n hn=>hL n (gE _ hn);have hl:=Eo (by unfold rpB at q1;rw[Bool.and_eq_true]at q1;exact q1.1);exact⟨show 2<256 by omega,show 0<256 by omega,Lc,Lc,Lc,Lc,Lc,c1,c2,fun n hn=>by have:=hl n hn;omega⟩
     ·rename_i h3;exact absurd h h3
    ·rw[if_neg h2]at h;simp at h
section
theorem Only.alloc {B:Nat} {a w:World}(h:Only B a w)(o:Obj):Only B a (w.alloc o):=h.trans (Only.of (bR.alloc lR o))
theorem Only.then {B:Nat} {a b c:World}(h:Only B a b)(k:Below a.heap.size b c):Only B a c:=
 ⟨k.os.trans h.os,k.tape.trans h.tape,k.output.trans h.output,dG h.size k.size,fun i hi hne=>(k.block i hi).trans (h.block i hi hne)⟩
theorem Blk.only {w w':World} {g C:Nat} {t:TypeId} {cs:Array Value}(h:Blk w g t cs)(ho:Only C w w')(hne:g≠C):Blk w' g t cs:=
 (ho.block g h.lt (fun e=>hne (by simpa using e))).trans h
theorem Own.other {w w':World} {B q:Nat} {e t:TypeId} {v:Value} {xs:List Value} {cs:Array Value}(h:Own w B e v xs)(hb:Blk w q t cs)(hne:e≠t)(ho:∀i,i<w.heap.size→i≠q→w'.heap[i]? =w.heap[i]?):Own w' B e v xs:=by
 have hq:=h.ne_blk hb hne;have hlt:∀g,v.ownBlock=some g→g<w.heap.size:=by
  intro g hg;rcases h.2 with⟨rfl,_⟩|⟨g',cp,cur,rfl,hg',hh,_⟩
  ·simp[Value.ownBlock]at hg
  ·simp[Value.ownBlock]at hg;subst hg;exact(Array.getElem?_eq_some_iff.1 hh).1
 obtain⟨q1,q2|⟨g',cp,cur,rfl,hg,hh,rest⟩⟩:=h
 ·exact⟨q1,.inl q2⟩
 ·exact⟨q1,.inr ⟨g',cp,cur,rfl,hg,by rw[ho g' (hlt g' (by simp[Value.ownBlock])) (fun e=>hq (by simp[Value.ownBlock,e]))];exact hh,rest⟩⟩
theorem Own.setO {w:World} {B q:Nat} {e t:TypeId} {v:Value} {xs:List Value} {cs:Array Value}(h:Own w B e v xs)(hb:Blk w q t cs)(hne:e≠t)(i:Nat)(u:Value):Own (w.setCell ⟨q,i,none⟩ u) B e v xs:=
 h.other hb hne fun j _ hj=>Below.heap_setCell w _ u j hj
theorem RS.setO {w:World} {B q:Nat} {L:List Nat} {er:Nat}(h:RS w B L er)(hq:B<q)(i:Nat)(u:Value):RS (w.setCell ⟨q,i,none⟩ u) B L er:=
 h.low ((Below.refl q w).setCell (by simp) u) hq
theorem Hi {w:World} {B:Nat} {v:Value} {L:List Nat}(h:Own w B 5 v (bvs L)):∃a c,v=.slice a L.length c:=by
 obtain⟨a,c,e,_⟩:=h.rd;rw[bvs_len]at e;exact⟨a,c,e⟩
theorem Pm {B:Nat} {a b c:World}(h:Only B a b)(k:Below b.heap.size b c):Only B a c:=h.then (k.mono h.size)
theorem Bq {B:Nat} {a b c:World}(h:Only B a b)(k:Below a.heap.size b c):Only B a c:=h.then k
theorem Vo {B:Nat} {a b:World}(h:Only B a b) {q:Nat}(hq:a.heap.size≤q)(i:Nat)(u:Value):Only B a (b.setCell ⟨q,i,none⟩ u):=
 h.then ((Below.refl a.heap.size b).setCell hq u)
def Al (w:World)(g:Nat)(l:List (Value×List Nat)):Prop:=∀p∈l,Own w g 5 p.1 (bvs p.2)
section
variable {w w':World} {g B q:Nat} {l:List (Value×List Nat)} {v:Value} {L:List Nat} {t:TypeId} {cs:Array Value}
theorem Al.nil (w:World)(g:Nat):Al w g []:=fun p h=>by simp at h
theorem Al.cons (h:Al w g l)(hv:Own w g 5 v (bvs L)):Al w g ((v,L)::l):=fun p hp=>by
 rcases List.mem_cons.1 hp with rfl|hp
 ·exact hv
 ·exact h p hp
theorem Al.only (h:Al w g l)(ho:Only B w w')(hB:B<g):Al w' g l:=fun p hp=>(h p hp).only ho hB
theorem Al.below (h:Al w g l)(hb:Below w.heap.size w w'):Al w' g l:=fun p hp=>(h p hp).below hb lR
theorem Al.mono (h:Al w g l) {g':Nat}(hg:g'≤g):Al w g' l:=fun p hp=>(h p hp).mono hg
theorem Al.setO (h:Al w g l)(hb:Blk w q t cs)(hne:(5:TypeId)≠t)(i:Nat)(u:Value):Al (w.setCell ⟨q,i,none⟩ u) g l:=fun p hp=>(h p hp).setO hb hne i u
theorem Al.other (h:Al w g l)(hb:Blk w q t cs)(hne:(5:TypeId)≠t)(ho:∀i,i<w.heap.size→i≠q→w'.heap[i]? =w.heap[i]?):Al w' g l:=fun p hp=>(h p hp).other hb hne ho
theorem Al.nth (h:Al w g l)(i:Nat)(hi:l[i]? =some (v,L)):Own w g 5 v (bvs L):=h _ (List.mem_of_getElem? hi)
end
theorem LeafO.none (w:World)(B:Nat):LeafO w B noLeafD #[.slice none 0 0,.slice none 0 0,.slice none 0 0,.int .u8 0,.slice none 0 0,.slice none 0 0]:=⟨_,_,_,_,_,rfl,Own.nil _ _ _,Own.nil _ _ _,Own.nil _ _ _,Own.nil _ _ _,Own.nil _ _ _⟩
def Zgj (B:Nat)(w:World)(r:Nat×LeafD×List Nat×Nat)(e:Ending)(w':World):Prop:=
 ∃c,e=.returned (.tuple #[.agg c,.int .u8 (r.1:Nat)])∧LeafO w' w.heap.size r.2.1 c∧RS w' B r.2.2.1 r.2.2.2∧Only B w w'
theorem Vp (v1 v2 v3 v5 v6 L0 L1 L2 L3 L4 L5 L6:List Nat) (e1 e2 e3 e4 e5 e6 s B:Nat) (r:Nat×LeafD×List Nat×Nat) (w:World) (h:RS w B L0 0)
  (C1:∀W,RS W B L0 0→Calls Tryz.prog 254 #[.pointer (some ⟨B,0,none⟩)] W (Lk B W (v1,L1,e1)))
  (C2:∀W,RS W B L1 e1→Calls Tryz.prog 254 #[.pointer (some ⟨B,0,none⟩)] W (Lk B W (v2,L2,e2)))
  (C3:∀W,RS W B L2 e2→Calls Tryz.prog 254 #[.pointer (some ⟨B,0,none⟩)] W (Lk B W (v3,L3,e3)))
  (C4:∀W,RS W B L3 e3→Calls Tryz.prog 154 #[.pointer (some ⟨B,0,none⟩),.int .i64 1] W fun e W'=>e=.returned (.int .u64 (s:Nat))∧RS W' B L4 e4∧Only B W W')
  (C5:s=3→∀W,RS W B L4 e4→Calls Tryz.prog 254 #[.pointer (some ⟨B,0,none⟩)] W (Lk B W (v5,L5,e5)))
  (N5:s≠3→v5=[]∧L5=L4∧e5=e4)
  (C6:∀W,RS W B L5 e5→Calls Tryz.prog 254 #[.pointer (some ⟨B,0,none⟩)] W (Lk B W (v6,L6,e6)))
  (hs:s<256)
  (X4:e4≠0→r=(e4,noLeafD,L4,e4)) (XS:e4=0→s<1∨3<s→r=(3,noLeafD,L4,e4)) (X6:e4=0→¬(s<1∨3<s)→e6≠0→r=(e6,noLeafD,L6,e6))
  (XB:e4=0→¬(s<1∨3<s)→e6=0→∀b,rlB v1.length v2.length v3.length s v5.length v6.length=b→r=if b=true then(0,⟨v1,v2,v3,s,v5,v6⟩,L6,e6)else(3,noLeafD,L6,e6)):
  Calls Tryz.prog 218 #[.pointer (some ⟨B,0,none⟩)] w (Zgj B w r):=by
 have hB:=h.lt;obtain⟨g,hg⟩:=eX w.heap.size;have HG:=Hd hg;have HB:=Hd (show B<g by omega);obtain⟨w0,hw0⟩:=eX (w.alloc (.cells #[.slice none 0 0,.slice none 0 0,.slice none 0 0,.int .u8 0,.slice none 0 0,.slice none 0 0] 44));have HW0:=Hd hw0;have HZ0:=Hd (show g+1≤w0.heap.size by rw[hw0,hg];simp);have G0:=Hd (show Blk w0 g 44 #[.slice none 0 0,.slice none 0 0,.slice none 0 0,.int .u8 0,.slice none 0 0,.slice none 0 0] by rw[hw0,hg];exact Blk.new _ _ _);have A0:=Hd (Al.nil w0 (g+1));have O0:=Hd (show Only B w w0 by rw[hw0];exact(Only.refl _ _).alloc _);have R0:=Hd (show RS w0 B L0 0 by rw[hw0];exact h.low ((Below.refl w.heap.size w).alloc lR (.cells #[.slice none 0 0,.slice none 0 0,.slice none 0 0,.int .u8 0,.slice none 0 0,.slice none 0 0] 44)) hB);have HC1:=Hd C1;have HC2:=Hd C2;have HC3:=Hd C3;have HC4:=Hd C4;have HC5:=Hd C5;have HN5:=Hd N5;have HC6:=Hd C6;have HX4:=Hd X4;have HXS:=Hd XS;have HX6:=Hd X6;have HXB:=Hd XB;have HER:=Hd fun(L:List Nat) (er:Nat) W=>Gh B L er W;have HRG:=Hd @Jc;obtain⟨S,hS⟩:=eX (Zgj B w r);rw[←hS];have HS:=Hd (show∀(e:Ending) (w':World) {c:Array Value} {k:Nat} {d:LeafD} {R:List Nat} {re:Nat},e=.returned (.tuple #[.agg c,.int .u8 (k:Nat)])→r=(k,d,R,re)→LeafO w' w.heap.size d c→RS w' B R re→Only B w w'→S e w' from by
  rintro e w' c k d R re rfl rfl h1 h2 h3;rw[hS];exact⟨c,rfl,h1,h2,h3⟩)
 clear h hB hg hw0 C1 C2 C3 C4 C5 N5 C6 X4 XS X6 XB hS;go_enter Tryz.func218,Tryz.ntmps218;go_wp2_with fail;rw[←HW0.out,←HG.out];refine(HC1.out w0 R0.out).mono ?_;rintro e w1 ⟨u1,rfl,hown,hrs,honly⟩;obtain⟨a1,c1,rfl⟩:=Hi hown;have hi:=hown.mono (B':=g+1) HZ0.out;have HZ1:=Hd (dG HZ0.out honly.size);have A1:=Hd (A0.out.only honly (by have:=HB.out;omega));have G1:=Hd (G0.out.only honly (by have:=HB.out;omega));have O1:=Hd (O0.out.trans honly);have R1:=Hd hrs;replace A1:=Hd (A1.out.cons hi);clear hown hrs honly hi;go_wp2_with fail;refine(HC2.out w1 R1.out).mono ?_;rintro e w2 ⟨u2,rfl,hown,hrs,honly⟩;obtain⟨a2,c2,rfl⟩:=Hi hown;have hi:=hown.mono (B':=g+1) HZ1.out;have HZ2:=Hd (dG HZ1.out honly.size);have A2:=Hd (A1.out.only honly (by have:=HB.out;omega));have G2:=Hd (G1.out.only honly (by have:=HB.out;omega));have O2:=Hd (O1.out.trans honly);have R2:=Hd hrs;replace A2:=Hd (A2.out.cons hi);clear hown hrs honly hi;go_wp2_with fail;refine(HC3.out w2 R2.out).mono ?_;rintro e w3 ⟨u3,rfl,hown,hrs,honly⟩;obtain⟨a3,c3,rfl⟩:=Hi hown;have hi:=hown.mono (B':=g+1) HZ2.out;have HZ3:=Hd (dG HZ2.out honly.size);have A3:=Hd (A2.out.only honly (by have:=HB.out;omega));have G3:=Hd (G2.out.only honly (by have:=HB.out;omega));have O3:=Hd (O2.out.trans honly);have R3:=Hd hrs;replace A3:=Hd (A3.out.cons hi);clear hown hrs honly hi;go_wp2_with fail;refine(HC4.out w3 R3.out).mono ?_;rintro e w4 ⟨rfl,hrs,honly⟩;have HZ4:=Hd (dG HZ3.out honly.size);have A4:=Hd (A3.out.only honly (by have:=HB.out;omega));have G4:=Hd (G3.out.only honly (by have:=HB.out;omega));have O4:=Hd (O3.out.trans honly);have R4:=Hd hrs;clear hrs honly;obtain⟨q,hq⟩:=eX w4.heap.size;have HQ:=Hd hq;have HQ1:=Hd (show g+1≤q by rw[hq];exact HZ4.out);have hws:IntKind.u8.wrap (s:Int)=(s:Int):=(by rw[IntKind.wrap_u8];omega);clear hq;go_wp2_with (refine Aa rfl 44 (.tmp 4) (.tmp 16) rfl w4.heap.size #[.slice a1 v1.length c1,.slice a2 v2.length c2,.slice a3 v3.length c3,.int .u8 s,.slice none 0 0,.slice none 0 0] rfl rfl 44 #[.slice none 0 0,.slice none 0 0,.slice none 0 0,.int .u8 0,.slice none 0 0,.slice none 0 0] (Blk.new _ _ _) (by kernel_rfl) rfl rfl ?_);rintro w5 hblk hbl hoth hsize;have hb:Below w4.heap.size w4 w5:=(bR.alloc lR _).trans (hbl _ lR);have HZ5:=Hd (dG HZ4.out hb.size);have A5:=Hd (A4.out.below hb);have G5:=Hd (G4.out.below hb G4.out.lt);have O5:=Hd (Pm O4.out hb);have R5:=Hd (R4.out.below hb);rw[←HQ.out]at hblk⊢;have Q5:=Hd hblk;have y3:=hblk.cell 3;simp only[bK,bL,bM]at y3;clear hblk hbl hoth hsize hb hws;go_wp2_with fail;refine(HER.out _ _ _ R5.out).mono ?_;rintro e w' ⟨rfl,rfl⟩
 by_cases h4:e4=0
 ·have HE4:=Hd h4;have h4b:((e4:Int) !=0)=false:=by rw[bne_eq_false_iff_eq];omega
  by_cases hs1:s<1∨3<s
  ·have HXS2:=Hd (HXS.out HE4.out hs1);clear h4
   by_cases hs0:s<1
   ·have hl1:decide ((s:Int)<1)=true:=decide_eq_true (by omega);clear hs0 hs1;go_wp2_with (refine Aa rfl 44 (.tmp 2) (.tmp 31) rfl g #[.slice none 0 0,.slice none 0 0,.slice none 0 0,.int .u8 0,.slice none 0 0,.slice none 0 0] rfl rfl 44 #[.slice none 0 0,.slice none 0 0,.slice none 0 0,.int .u8 0,.slice none 0 0,.slice none 0 0] G5.out (by kernel_rfl) rfl rfl ?_);rintro w9 hblk hbl hoth hsize;have P9:=Hd hblk;have O9:=Hd (Bq O5.out (hbl w.heap.size (by rw[HG.out];exact lR)));have R9:=Hd (R5.out.low (hbl g lR) HB.out);clear hblk hbl hoth hsize;go_wp2_with fail;refine bodyPost_ret (v:=.tuple #[.agg #[.slice none 0 0,.slice none 0 0,.slice none 0 0,.int .u8 0,.slice none 0 0,.slice none 0 0],.int .u8 3]) (Af Tryz.results218 _ _ g _ _ _ rfl P9.out Tryz.underlying44 rfl (by kernel_rfl)) rfl ?_;exact HS.out _ _ rfl HXS2.out (LeafO.none _ _) R9.out O9.out
   ·have hl1:decide ((s:Int)<1)=false:=decide_eq_false (by omega);have hl2:decide ((s:Int)>3)=true:=decide_eq_true (by omega);clear hs0 hs1;go_wp2_with (refine Aa rfl 44 (.tmp 2) (.tmp 31) rfl g #[.slice none 0 0,.slice none 0 0,.slice none 0 0,.int .u8 0,.slice none 0 0,.slice none 0 0] rfl rfl 44 #[.slice none 0 0,.slice none 0 0,.slice none 0 0,.int .u8 0,.slice none 0 0,.slice none 0 0] G5.out (by kernel_rfl) rfl rfl ?_);rintro w9 hblk hbl hoth hsize;have P9:=Hd hblk;have O9:=Hd (Bq O5.out (hbl w.heap.size (by rw[HG.out];exact lR)));have R9:=Hd (R5.out.low (hbl g lR) HB.out);clear hblk hbl hoth hsize;go_wp2_with fail;refine bodyPost_ret (v:=.tuple #[.agg #[.slice none 0 0,.slice none 0 0,.slice none 0 0,.int .u8 0,.slice none 0 0,.slice none 0 0],.int .u8 3]) (Af Tryz.results218 _ _ g _ _ _ rfl P9.out Tryz.underlying44 rfl (by kernel_rfl)) rfl ?_;exact HS.out _ _ rfl HXS2.out (LeafO.none _ _) R9.out O9.out
  ·have hl1:decide ((s:Int)<1)=false:=decide_eq_false (by omega);have hl2:decide ((s:Int)>3)=false:=decide_eq_false (by omega);have HSB:=Hd hs1;clear hs1 h4
   by_cases hs3:s=3
   ·have hq3:((s:Int)==3)=true:=(by rw[beq_iff_eq];omega);have HC52:=Hd (HC5.out hs3);clear hs3;go_wp2_with fail;refine(HC52.out w5 R5.out).mono ?_;rintro e w6 ⟨u5,rfl,hown,hrs,honly⟩;obtain⟨a5,c5,rfl⟩:=Hi hown;have hi:=hown.mono (B':=g+1) HZ5.out;have HZ6:=Hd (dG HZ5.out honly.size);have A6:=Hd (A5.out.only honly (by have:=HB.out;omega));have G6:=Hd (G5.out.only honly (by have:=HB.out;omega));have Q6:=Hd (Q5.out.only honly (by have:=HB.out;have:=HQ1.out;omega));have O6:=Hd (O5.out.trans honly);have R6:=Hd hrs;replace A6:=Hd (A6.out.cons hi);have hp:=Q6.out;have y4:=hp.cell 4;have z4:=hp.frozen 4;simp only[bK,bL,bM]at y4;have Q7:=Hd (show Blk (w6.setCell ⟨q,4,none⟩ (.slice a5 v5.length c5)) q 44 #[.slice a1 v1.length c1,.slice a2 v2.length c2,.slice a3 v3.length c3,.int .u8 s,.slice a5 v5.length c5,.slice none 0 0]from by simpa using hp.set 4 (.slice a5 v5.length c5));have HZ7:=Hd (show g+1≤(w6.setCell ⟨q,4,none⟩ (.slice a5 v5.length c5)).heap.size by have:=HZ6.out;simpa using this);have A7:=Hd (A6.out.setO hp (by decide) 4 (.slice a5 v5.length c5));have G7:=Hd (G6.out.far (p:=⟨q,4,none⟩) (by have:=HQ1.out;simp only;omega) (.slice a5 v5.length c5));have R7:=Hd (R6.out.setO (q:=q) (by have:=HB.out;have:=HQ1.out;omega) 4 (.slice a5 v5.length c5));have O7:=Hd (Vo O6.out (q:=q) (by have:=HQ1.out;have:=HG.out;omega) 4 (.slice a5 v5.length c5));generalize hwk:w6.setCell ⟨q,4,none⟩ (.slice a5 v5.length c5)=w7 at Q7 HZ7 A7 G7 R7 O7;have HWK7:=Hd hwk;clear hwk;clear hown hrs honly hi hp y3;go_wp2_with fail;rw[HWK7.out];refine(HC6.out w7 R7.out).mono ?_;rintro e w8 ⟨u6,rfl,hown,hrs,honly⟩;obtain⟨a6,c6,rfl⟩:=Hi hown;have hi:=hown.mono (B':=g+1) HZ7.out;have HZ8:=Hd (dG HZ7.out honly.size);have A8:=Hd (A7.out.only honly (by have:=HB.out;omega));have G8:=Hd (G7.out.only honly (by have:=HB.out;omega));have Q8:=Hd (Q7.out.only honly (by have:=HB.out;have:=HQ1.out;omega));have O8:=Hd (O7.out.trans honly);have R8:=Hd hrs;replace A8:=Hd (A8.out.cons hi);have hp:=Q8.out;have y5:=hp.cell 5;have z5:=hp.frozen 5;simp only[bK,bL,bM]at y5;have Q9:=Hd (show Blk (w8.setCell ⟨q,5,none⟩ (.slice a6 v6.length c6)) q 44 #[.slice a1 v1.length c1,.slice a2 v2.length c2,.slice a3 v3.length c3,.int .u8 s,.slice a5 v5.length c5,.slice a6 v6.length c6]from by simpa using hp.set 5 (.slice a6 v6.length c6));have HZ9:=Hd (show g+1≤(w8.setCell ⟨q,5,none⟩ (.slice a6 v6.length c6)).heap.size by have:=HZ8.out;simpa using this);have A9:=Hd (A8.out.setO hp (by decide) 5 (.slice a6 v6.length c6));have G9:=Hd (G8.out.far (p:=⟨q,5,none⟩) (by have:=HQ1.out;simp only;omega) (.slice a6 v6.length c6));have R9:=Hd (R8.out.setO (q:=q) (by have:=HB.out;have:=HQ1.out;omega) 5 (.slice a6 v6.length c6));have O9:=Hd (Vo O8.out (q:=q) (by have:=HQ1.out;have:=HG.out;omega) 5 (.slice a6 v6.length c6));generalize hwk:w8.setCell ⟨q,5,none⟩ (.slice a6 v6.length c6)=w9 at Q9 HZ9 A9 G9 R9 O9;have HWK9:=Hd hwk;clear hwk;clear hown hrs honly hi hp;go_wp2_with fail;rw[HWK9.out];refine(HER.out _ _ _ R9.out).mono ?_;rintro e w' ⟨rfl,rfl⟩;clear y5 z5
    by_cases h6:e6=0
    ·have HE6:=Hd h6;have h6b:((e6:Int) !=0)=false:=(by rw[bne_eq_false_iff_eq];omega);clear h6;go_wp2_with (refine Ai rfl 44 (.tmp 4) rfl q rfl 44 #[.slice a1 v1.length c1,.slice a2 v2.length c2,.slice a3 v3.length c3,.int .u8 s,.slice a5 v5.length c5,.slice a6 v6.length c6] (0,0) _ Q9.out Tryz.underlying44 rfl (by kernel_rfl) ?_);refine(HRG.out a1 a2 a3 a5 a6 v1.length v2.length v3.length v5.length v6.length c1 c2 c3 c5 c6 s _).mono ?_;rintro e w10 ⟨rfl,hb⟩;have HZ10:=Hd (dG HZ9.out hb.size);have A10:=Hd (A9.out.below hb);have G10:=Hd (G9.out.below hb G9.out.lt);have Q10:=Hd (Q9.out.below hb Q9.out.lt);have O10:=Hd (Pm O9.out hb);have R10:=Hd (R9.out.below hb);clear hb;obtain⟨RB,hRB⟩:=eX (rlB v1.length v2.length v3.length s v5.length v6.length);rw[←hRB];have HXB2:=Hd (HXB.out HE4.out HSB.out HE6.out RB (by rw[hRB]));clear hRB;cases RB with
     |false=>
      go_wp2_with (refine Aa rfl 44 (.tmp 2) (.tmp 50) rfl g #[.slice none 0 0,.slice none 0 0,.slice none 0 0,.int .u8 0,.slice none 0 0,.slice none 0 0] rfl rfl 44 #[.slice none 0 0,.slice none 0 0,.slice none 0 0,.int .u8 0,.slice none 0 0,.slice none 0 0] G10.out (by kernel_rfl) rfl rfl ?_);rintro w9 hblk hbl hoth hsize;have P9:=Hd hblk;have O9:=Hd (Bq O10.out (hbl w.heap.size (by rw[HG.out];exact lR)));have R9:=Hd (R10.out.low (hbl g lR) HB.out);clear hblk hbl hoth hsize;go_wp2_with fail;refine bodyPost_ret (v:=.tuple #[.agg #[.slice none 0 0,.slice none 0 0,.slice none 0 0,.int .u8 0,.slice none 0 0,.slice none 0 0],.int .u8 3]) (Af Tryz.results218 _ _ g _ _ _ rfl P9.out Tryz.underlying44 rfl (by kernel_rfl)) rfl ?_;exact HS.out _ _ rfl HXB2.out (LeafO.none _ _) R9.out O9.out
     |true=>
      go_wp2_with (first|(refine Ai rfl 44 (.tmp 4) rfl q rfl 44 #[.slice a1 v1.length c1,.slice a2 v2.length c2,.slice a3 v3.length c3,.int .u8 s,.slice a5 v5.length c5,.slice a6 v6.length c6] (0,0) _ Q10.out Tryz.underlying44 rfl (by kernel_rfl) ?_)|(refine Aa rfl 44 (.tmp 2) (.tmp 51) rfl g #[.slice a1 v1.length c1,.slice a2 v2.length c2,.slice a3 v3.length c3,.int .u8 s,.slice a5 v5.length c5,.slice a6 v6.length c6] rfl rfl 44 #[.slice none 0 0,.slice none 0 0,.slice none 0 0,.int .u8 0,.slice none 0 0,.slice none 0 0] G10.out (by kernel_rfl) rfl rfl ?_));rintro w20 hblk hbl hoth hsize;have P20:=Hd hblk;have O20:=Hd (Bq O10.out (hbl w.heap.size (by rw[HG.out];exact lR)));have R20:=Hd (R10.out.low (hbl g lR) HB.out);have A20:=Hd ((A10.out.other G10.out (by decide) (fun i _ hi=>hoth i hi)).mono (fN g));clear hblk hbl hoth hsize;go_wp2_with fail;refine bodyPost_ret (v:=.tuple #[.agg #[.slice a1 v1.length c1,.slice a2 v2.length c2,.slice a3 v3.length c3,.int .u8 s,.slice a5 v5.length c5,.slice a6 v6.length c6],.int .u8 0]) (Af Tryz.results218 _ _ g _ _ _ rfl P20.out Tryz.underlying44 rfl (by kernel_rfl)) rfl ?_;refine HS.out _ _ rfl HXB2.out ?_ R20.out O20.out;rw[←HG.out];exact⟨_,_,_,_,_,rfl,A20.out.nth 4 rfl,A20.out.nth 3 rfl,A20.out.nth 2 rfl,A20.out.nth 1 rfl,A20.out.nth 0 rfl⟩
    ·have HX62:=Hd (HX6.out HE4.out HSB.out h6);have h6b:((e6:Int) !=0)=true:=(by rw[bne_iff_ne];omega);clear h6;go_wp2_with (refine Aa rfl 44 (.tmp 2) (.tmp 45) rfl g #[.slice none 0 0,.slice none 0 0,.slice none 0 0,.int .u8 0,.slice none 0 0,.slice none 0 0] rfl rfl 44 #[.slice none 0 0,.slice none 0 0,.slice none 0 0,.int .u8 0,.slice none 0 0,.slice none 0 0] G9.out (by kernel_rfl) rfl rfl ?_);rintro w9 hblk hbl hoth hsize;have P9:=Hd hblk;have O9:=Hd (Bq O9.out (hbl w.heap.size (by rw[HG.out];exact lR)));have R9:=Hd (R9.out.low (hbl g lR) HB.out);clear hblk hbl hoth hsize;go_wp2_with fail;refine bodyPost_ret (v:=.tuple #[.agg #[.slice none 0 0,.slice none 0 0,.slice none 0 0,.int .u8 0,.slice none 0 0,.slice none 0 0],.int .u8 (e6:Nat)]) (Af Tryz.results218 _ _ g _ _ _ rfl P9.out Tryz.underlying44 rfl (by kernel_rfl)) rfl ?_;exact HS.out _ _ rfl HX62.out (LeafO.none _ _) R9.out O9.out
   ·have hq3:((s:Int)==3)=false:=(by rw[beq_eq_false_iff_ne];omega);obtain⟨hv5,hl5,he5⟩:=HN5.out hs3;have HV5:=Hd hv5;have R5b:=Hd (show RS w5 B L5 e5 by rw[hl5,he5];exact R5.out);clear hs3 hv5 hl5 he5;go_wp2_with fail;refine(HC6.out w5 R5b.out).mono ?_;rintro e w6 ⟨u6,rfl,hown,hrs,honly⟩;obtain⟨a6,c6,rfl⟩:=Hi hown;have hi:=hown.mono (B':=g+1) HZ5.out;have HZ6:=Hd (dG HZ5.out honly.size);have A6:=Hd (A5.out.only honly (by have:=HB.out;omega));have G6:=Hd (G5.out.only honly (by have:=HB.out;omega));have Q6:=Hd (Q5.out.only honly (by have:=HB.out;have:=HQ1.out;omega));have O6:=Hd (O5.out.trans honly);have R6:=Hd hrs;replace A6:=Hd (A6.out.cons hi);have hp:=Q6.out;have y5:=hp.cell 5;have z5:=hp.frozen 5;simp only[bK,bL,bM]at y5;have Q7:=Hd (show Blk (w6.setCell ⟨q,5,none⟩ (.slice a6 v6.length c6)) q 44 #[.slice a1 v1.length c1,.slice a2 v2.length c2,.slice a3 v3.length c3,.int .u8 s,.slice none 0 0,.slice a6 v6.length c6]from by simpa using hp.set 5 (.slice a6 v6.length c6));have HZ7:=Hd (show g+1≤(w6.setCell ⟨q,5,none⟩ (.slice a6 v6.length c6)).heap.size by have:=HZ6.out;simpa using this);have A7:=Hd (A6.out.setO hp (by decide) 5 (.slice a6 v6.length c6));have G7:=Hd (G6.out.far (p:=⟨q,5,none⟩) (by have:=HQ1.out;simp only;omega) (.slice a6 v6.length c6));have R7:=Hd (R6.out.setO (q:=q) (by have:=HB.out;have:=HQ1.out;omega) 5 (.slice a6 v6.length c6));have O7:=Hd (Vo O6.out (q:=q) (by have:=HQ1.out;have:=HG.out;omega) 5 (.slice a6 v6.length c6));generalize hwk:w6.setCell ⟨q,5,none⟩ (.slice a6 v6.length c6)=w7 at Q7 HZ7 A7 G7 R7 O7;have HWK7:=Hd hwk;clear hwk;clear hown hrs honly hi hp;go_wp2_with fail;rw[HWK7.out];refine(HER.out _ _ _ R7.out).mono ?_;rintro e w' ⟨rfl,rfl⟩;clear y5 z5
    by_cases h6:e6=0
    ·have HE6:=Hd h6;have h6b:((e6:Int) !=0)=false:=(by rw[bne_eq_false_iff_eq];omega);clear h6;go_wp2_with (refine Ai rfl 44 (.tmp 4) rfl q rfl 44 #[.slice a1 v1.length c1,.slice a2 v2.length c2,.slice a3 v3.length c3,.int .u8 s,.slice none 0 0,.slice a6 v6.length c6] (0,0) _ Q7.out Tryz.underlying44 rfl (by kernel_rfl) ?_);refine(HRG.out a1 a2 a3 none a6 v1.length v2.length v3.length 0 v6.length c1 c2 c3 0 c6 s _).mono ?_;rintro e w8 ⟨rfl,hb⟩;have HZ8:=Hd (dG HZ7.out hb.size);have A8:=Hd (A7.out.below hb);have G8:=Hd (G7.out.below hb G7.out.lt);have Q8:=Hd (Q7.out.below hb Q7.out.lt);have O8:=Hd (Pm O7.out hb);have R8:=Hd (R7.out.below hb);clear hb;obtain⟨RB,hRB⟩:=eX (rlB v1.length v2.length v3.length s 0 v6.length);rw[←hRB];have HXB2:=Hd (HXB.out HE4.out HSB.out HE6.out RB (by rw[hRB];rw[HV5.out];rfl));clear hRB;cases RB with
     |false=>
      go_wp2_with (refine Aa rfl 44 (.tmp 2) (.tmp 50) rfl g #[.slice none 0 0,.slice none 0 0,.slice none 0 0,.int .u8 0,.slice none 0 0,.slice none 0 0] rfl rfl 44 #[.slice none 0 0,.slice none 0 0,.slice none 0 0,.int .u8 0,.slice none 0 0,.slice none 0 0] G8.out (by kernel_rfl) rfl rfl ?_);rintro w9 hblk hbl hoth hsize;have P9:=Hd hblk;have O9:=Hd (Bq O8.out (hbl w.heap.size (by rw[HG.out];exact lR)));have R9:=Hd (R8.out.low (hbl g lR) HB.out);clear hblk hbl hoth hsize;go_wp2_with fail;refine bodyPost_ret (v:=.tuple #[.agg #[.slice none 0 0,.slice none 0 0,.slice none 0 0,.int .u8 0,.slice none 0 0,.slice none 0 0],.int .u8 3]) (Af Tryz.results218 _ _ g _ _ _ rfl P9.out Tryz.underlying44 rfl (by kernel_rfl)) rfl ?_;exact HS.out _ _ rfl HXB2.out (LeafO.none _ _) R9.out O9.out
     |true=>
      go_wp2_with (first|(refine Ai rfl 44 (.tmp 4) rfl q rfl 44 #[.slice a1 v1.length c1,.slice a2 v2.length c2,.slice a3 v3.length c3,.int .u8 s,.slice none 0 0,.slice a6 v6.length c6] (0,0) _ Q8.out Tryz.underlying44 rfl (by kernel_rfl) ?_)|(refine Aa rfl 44 (.tmp 2) (.tmp 51) rfl g #[.slice a1 v1.length c1,.slice a2 v2.length c2,.slice a3 v3.length c3,.int .u8 s,.slice none 0 0,.slice a6 v6.length c6] rfl rfl 44 #[.slice none 0 0,.slice none 0 0,.slice none 0 0,.int .u8 0,.slice none 0 0,.slice none 0 0] G8.out (by kernel_rfl) rfl rfl ?_));rintro w20 hblk hbl hoth hsize;have P20:=Hd hblk;have O20:=Hd (Bq O8.out (hbl w.heap.size (by rw[HG.out];exact lR)));have R20:=Hd (R8.out.low (hbl g lR) HB.out);have A20:=Hd ((A8.out.other G8.out (by decide) (fun i _ hi=>hoth i hi)).mono (fN g));clear hblk hbl hoth hsize;go_wp2_with fail;refine bodyPost_ret (v:=.tuple #[.agg #[.slice a1 v1.length c1,.slice a2 v2.length c2,.slice a3 v3.length c3,.int .u8 s,.slice none 0 0,.slice a6 v6.length c6],.int .u8 0]) (Af Tryz.results218 _ _ g _ _ _ rfl P20.out Tryz.underlying44 rfl (by kernel_rfl)) rfl ?_;refine HS.out _ _ rfl HXB2.out ?_ R20.out O20.out;rw[←HG.out];exact⟨_,_,_,_,_,by rw[HV5.out],A20.out.nth 3 rfl,A20.out.nth 2 rfl,A20.out.nth 1 rfl,by rw[HV5.out];exact Own.nil _ _ _,A20.out.nth 0 rfl⟩
    ·have HX62:=Hd (HX6.out HE4.out HSB.out h6);have h6b:((e6:Int) !=0)=true:=(by rw[bne_iff_ne];omega);clear h6;go_wp2_with (refine Aa rfl 44 (.tmp 2) (.tmp 45) rfl g #[.slice none 0 0,.slice none 0 0,.slice none 0 0,.int .u8 0,.slice none 0 0,.slice none 0 0] rfl rfl 44 #[.slice none 0 0,.slice none 0 0,.slice none 0 0,.int .u8 0,.slice none 0 0,.slice none 0 0] G7.out (by kernel_rfl) rfl rfl ?_);rintro w9 hblk hbl hoth hsize;have P9:=Hd hblk;have O9:=Hd (Bq O7.out (hbl w.heap.size (by rw[HG.out];exact lR)));have R9:=Hd (R7.out.low (hbl g lR) HB.out);clear hblk hbl hoth hsize;go_wp2_with fail;refine bodyPost_ret (v:=.tuple #[.agg #[.slice none 0 0,.slice none 0 0,.slice none 0 0,.int .u8 0,.slice none 0 0,.slice none 0 0],.int .u8 (e6:Nat)]) (Af Tryz.results218 _ _ g _ _ _ rfl P9.out Tryz.underlying44 rfl (by kernel_rfl)) rfl ?_;exact HS.out _ _ rfl HX62.out (LeafO.none _ _) R9.out O9.out
 ·have HX42:=Hd (HX4.out h4);have h4b:((e4:Int) !=0)=true:=(by rw[bne_iff_ne];omega);clear h4;go_wp2_with (refine Aa rfl 44 (.tmp 2) (.tmp 21) rfl g #[.slice none 0 0,.slice none 0 0,.slice none 0 0,.int .u8 0,.slice none 0 0,.slice none 0 0] rfl rfl 44 #[.slice none 0 0,.slice none 0 0,.slice none 0 0,.int .u8 0,.slice none 0 0,.slice none 0 0] G5.out (by kernel_rfl) rfl rfl ?_);rintro w9 hblk hbl hoth hsize;have P9:=Hd hblk;have O9:=Hd (Bq O5.out (hbl w.heap.size (by rw[HG.out];exact lR)));have R9:=Hd (R5.out.low (hbl g lR) HB.out);clear hblk hbl hoth hsize;go_wp2_with fail;refine bodyPost_ret (v:=.tuple #[.agg #[.slice none 0 0,.slice none 0 0,.slice none 0 0,.int .u8 0,.slice none 0 0,.slice none 0 0],.int .u8 (e4:Nat)]) (Af Tryz.results218 _ _ g _ _ _ rfl P9.out Tryz.underlying44 rfl (by kernel_rfl)) rfl ?_;exact HS.out _ _ rfl HX42.out (LeafO.none _ _) R9.out O9.out
theorem Zdj (L:List Nat)(er:Nat)(hL:∀n∈L,n<256):Ct (Eb L er 1).1<256:=by
 by_cases h:er=0
 ·subst h;rw[Cz];cases L with
  |nil=>decide
  |cons b M=>simp only[Zdf];exact hL b (by simp)
 ·rw[Zdh L h];exact(by decide:Ct []<256)
theorem Zac (B:Nat)(L:List Nat)(w:World)(h:RS w B L 0)(hl:L.length<1000000000)(hL:∀n∈L,n<256):
  Calls Tryz.prog 218 #[.pointer (some ⟨B,0,none⟩)] w (Zgj B w (Br L 0)):=by
 have p1:=Bb L 0;have p2:=Bb (Bf L 0).2.1 (Bf L 0).2.2;have p3:=Bb (Bf (Bf L 0).2.1 (Bf L 0).2.2).2.1 (Bf (Bf L 0).2.1 (Bf L 0).2.2).2.2;have hv:∀(M:List Nat) (er:Nat),Sub M L→∀W,RS W B M er→Calls Tryz.prog 254 #[.pointer (some ⟨B,0,none⟩)] W (Lk B W (Bf M er)):=fun M er hM W hW=>Zbx B M er W hW (by have:=hM.1;omega) fun n hn=>hL n (hM.2 n hn);unfold Br;simp only;have C1:=hv L 0 (Sub.refl _);have C2:=hv _ (Bf L 0).2.2 p1.2.1;generalize Bf L 0=r1 at p1 p2 p3 C1 C2⊢;have s1:=p1.2.1;have s2:=p2.2.1.trans s1;have C3:=hv _ (Bf r1.2.1 r1.2.2).2.2 s2;generalize Bf r1.2.1 r1.2.2=r2 at p2 p3 C2 C3 s2⊢;have s3:=p3.2.1.trans s2;generalize Bf r2.2.1 r2.2.2=r3 at p3 C3 s3⊢;have p4:=Fx r3.2.1 r3.2.2 1;have C4:=fun W hW=>Mx B r3.2.1 r3.2.2 1 W hW fun n hn=>hL n (s3.2 n hn);have hs:Ct (Eb r3.2.1 r3.2.2 1).1<256:=Zdj r3.2.1 r3.2.2 fun n hn=>hL n (s3.2 n hn);generalize Eb r3.2.1 r3.2.2 1=r4 at p4 C4 hs⊢;have s4:=p4.2.1.trans s3;have C5:=hv r4.2.1 r4.2.2 s4;obtain⟨r5,hr5⟩:=eX (if Ct r4.1=3 then Bf r4.2.1 r4.2.2 else([],r4.2));have p5:Sub r5.2.1 r4.2.1:=by
  rw[hr5];split
  ·exact(Bb _ _).2.1
  ·exact Sub.refl _
 have C6:=hv r5.2.1 r5.2.2 (p5.trans s4);rw[←hr5];refine Vp r1.1 r2.1 r3.1 r5.1 (Bf r5.2.1 r5.2.2).1 L r1.2.1 r2.2.1 r3.2.1 r4.2.1 r5.2.1 (Bf r5.2.1 r5.2.2).2.1 r1.2.2 r2.2.2 r3.2.2 r4.2.2 r5.2.2 (Bf r5.2.1 r5.2.2).2.2 (Ct r4.1) B _ w h C1 C2 C3 C4 (fun e=> ?_) (fun e=> ?_) C6 hs (fun e=> ?_) (fun e1 e2=> ?_) (fun e1 e2 e3=> ?_) (fun e1 e2 e3 b hb=> ?_)
 ·rw[if_pos e]at hr5;rw[hr5];exact C5
 ·rw[if_neg e]at hr5;rw[hr5];exact⟨rfl,rfl,rfl⟩
 ·rw[if_pos e]
 ·rw[if_neg (by omega),if_pos e2]
 ·rw[if_neg (by omega),if_neg e2,if_pos e3]
 ·rw[if_neg (by omega),if_neg e2,if_neg (by omega)];show(if Kg _=true then _ else _)=_;unfold Kg;simp only[hb]
end
def Ew (L:List Nat)(p:Nat):Nat×Nat×Nat:=
 match Bh (L.drop p) 0 with
 |(some n,R,_)=>(n,L.length-R.length,0)
 |(none,_,e)=>(0,p,e)
theorem Zdk {L:List Nat} {p:Nat}(h:L.length≤p):Ew L p=(0,p,4):=by unfold Ew;rw[List.drop_of_length_le h];rfl
theorem Zgk {L:List Nat} {p b:Nat} {M:List Nat}(h:L.drop p=b::M) {k:Nat}(hk:b/64=k):Ew L p=
  if k=3 then(0,p,3)else if M.length<2^k-1 then(0,p,4)
  else if lenS (Ct (b%64::M.take (2^k-1)):Nat)=2^k then(Ct (b%64::M.take (2^k-1)),L.length-(M.drop (2^k-1)).length,0)else(0,p,3):=by
 subst hk;unfold Ew;rw[h];show(match Oh b M with
  |(some n,R,_)=>(n,L.length-R.length,0)
  |(none,_,e)=>(0,p,e))=_
 unfold Oh
 by_cases c1:b/64=3
 ·rw[if_pos c1,if_pos c1]
 ·rw[if_neg c1,if_neg c1]
  by_cases c2:M.length<2^(b/64)-1
  ·rw[if_pos c2,if_pos c2]
  ·rw[if_neg c2,if_neg c2]
   by_cases c3:lenS (Ct (b%64::M.take (2^(b/64)-1)):Nat)=2^(b/64)
   ·rw[if_pos c3,if_pos c3]
   ·rw[if_neg c3,if_neg c3]
theorem Nr {M:List Nat} {i:Nat}(c:Nat)(hi:i<M.length):Ct (c::M.take (i+1))=Ct (c::M.take i)*256+M.getD i 0:=by
 rw[List.take_succ_eq_append_getElem hi,←List.cons_append,Mq,aH,aI hi];rfl
theorem Vq:∀(M:List Nat) (c:Nat),c<64→(∀x∈M,x<256)→M.length≤3→Ct (c::M)<1073741824:=by
 intro M c hc hM hl
 match M,hM,hl with
 |[],_,_=>simp[Ct];omega
 |[a],h,_=>have:=h a (by simp);simp[Ct];omega
 |[a,b],h,_=>have:=h a (by simp);have:=h b (by simp);simp[Ct];omega
 |[a,b,d],h,_=>have:=h a (by simp);have:=h b (by simp);have:=h d (by simp);simp[Ct];omega
 |_::_::_::_::_,_,h=>simp at h
theorem Zdl (v:Value)(L:List Nat)(p:Nat)(w:World)(h:Rd w v (bvs L))(hL:∀n∈L,n<256)(hl:L.length≤1000000000)(hp:p≤L.length):
  Calls Tryz.prog 286 #[v,.int .i64 (p:Nat)] w fun e w'=>e=.returned (.tuple #[.int .i64 ((Ew L p).1:Nat),.int .i64 ((Ew L p).2.1:Nat),.int .i64 ((Ew L p).2.2:Nat)])∧Below w.heap.size w w':=by
 by_cases hlt:p<L.length
 ·rcases h.cases with⟨a,cap,rfl,rfl⟩|⟨b,off,cap,h0,h1,h2,rfl,hb,hc⟩
  ·simp at hlt
  ·obtain⟨c,M,hd⟩:∃c M,L.drop p=c::M:=⟨L[p],L.drop (p+1),by rw[List.drop_eq_getElem_cons hlt]⟩;have hcm:c=L.getD p 0:=by
    have:(L.drop p)[0]? =some c:=(by rw[hd];rfl);rw[gF]at this;rw[aH,show p=p+0 by omega,this];rfl
   have hml:M.length+1+p=L.length:=by
    have:(L.drop p).length=M.length+1:=(by rw[hd];rfl);rw[dE]at this;omega
   have hMg:∀i,i<M.length→M.getD i 0=L.getD (p+(1+i)) 0:=fun i hi=>by
    have:(L.drop p)[i+1]? =M[i]? :=(by rw[hd];rfl);rw[gF]at this;rw[aH,aH,←this,show p+(i+1)=p+(1+i) by omega]
   have hMb:∀x∈M,x<256:=fun x hx=>hL x (gC (i:=p) (by rw[hd];exact gE _ hx));have hcb:c<256:=hL c (gC (i:=p) (by rw[hd];simp));have c0:=hc p hlt;rw[←hcm]at c0;have HC:=Hd fun(i:Nat) (hi:i<M.length)=>(show w.cell? ⟨b,off+(p+(1+i)),none⟩=some (.int .u8 ((M.getD i 0:Nat):Int))from by rw[hMg i hi];exact hc _ (by omega));have HM:=Hd hMb;have RE:=fun k (hk:c/64=k)=>Zgk hd hk;obtain⟨ln,hln⟩:=eX L.length;rw[←hln]at hml hl hlt RE⊢;obtain⟨RES,hRES⟩:=eX (Ew L p);simp only[←hRES]at RE;rw[←hRES];have HRE:=Hd RE;have HML:=Hd hml;have hge:decide ((p:Int)≥(ln:Int))=false:=decide_eq_false (by omega);have hge2:decide ((ln:Int)≤(p:Int))=false:=decide_eq_false (by omega);have hge3:decide (ln≤p)=false:=decide_eq_false (by omega);have hpI:(p:Int)<(ln:Int):=(by omega);have HWC:=Hd (show IntKind.i64.wrap (c:Int)=(c:Int)from IntWalk.i64_in _ ⟨by omega,by omega⟩);clear hc hd hcm hMg hMb hL h h1 h2 hp RE hml hln hRES h0;rcases(show c<64∨(64≤c∧c<128)∨(128≤c∧c<192)∨192≤c by omega)with hk|⟨hk,hk2⟩|⟨hk,hk2⟩|hk
   ·have d64a:decide ((c:Int)≥64)=false:=decide_eq_false (by omega);have d64b:decide ((64:Int)≤(c:Int))=false:=decide_eq_false (by omega);have d64c:decide (64≤c)=false:=decide_eq_false (by omega);have d128a:decide ((c:Int)≥128)=false:=decide_eq_false (by omega);have d128b:decide ((128:Int)≤(c:Int))=false:=decide_eq_false (by omega);have d128c:decide (128≤c)=false:=decide_eq_false (by omega);have d192a:decide ((c:Int)≥192)=false:=decide_eq_false (by omega);have d192b:decide ((192:Int)≤(c:Int))=false:=decide_eq_false (by omega);have d192c:decide (192≤c)=false:=decide_eq_false (by omega);have HRK:=Hd (HRE.out 0 (by omega));have hcm65:(c:Int)%64=((c%64:Nat):Int):=(by omega);have hcm64:eH (c:Int) 64=((c%64:Nat):Int):=(eI (by omega)).trans hcm65;have hm64:c%64<64:=aL _ (by omega);obtain⟨m,hm⟩:=eX (c%64);rw[←hm]at hcm64 hcm65 hm64 HRK;have HCM:=Hd hcm64;have HCN:=Hd hcm65;clear hm hcm64 hcm65
    by_cases hs:M.length<0
    ·exact absurd hs (by omega)
    ·have g1:decide ((p:Int)+1>(ln:Int))=false:=decide_eq_false (by have:=HML.out;omega);have g2:decide ((ln:Int)<(p:Int)+1)=false:=decide_eq_false (by have:=HML.out;omega);have g3:decide (ln<p+1)=false:=decide_eq_false (by have:=HML.out;omega);have HRX:=Hd (HRK.out.trans ((if_neg (by omega)).trans (if_neg (show¬M.length<2^0-1 by omega))));have HS:=Hd (show 0≤M.length by omega);obtain⟨N,hN⟩:∃N:Nat→Nat,N=fun i=>Ct (m::M.take i):=⟨_,rfl⟩;have hN0:N 0=m:=(by rw[hN];simp[Ct]);have HN0:=Hd hN0;have HNS:=Hd (show∀i,i<M.length→N (i+1)=N i*256+M.getD i 0 from fun i hi=>by rw[hN];exact Nr m hi);have HNB:=Hd (show∀i,i≤3→N i<1073741824 from fun i hi=>by rw[hN];exact Vq _ m hm64 (fun x hx=>HM.out x (gD hx)) (by rw[dC];omega));have HNE:=Hd (show Ct (m::M.take (2^0-1))=N 0 by rw[hN]);clear hk hs HRK hN hN0 hm64;have hwc:=HWC.out;have hcm64:=HCM.out;have hcm65:=HCN.out;go_enter Tryz.func286,Tryz.ntmps286;go_wp2_with fail;clear hwc hcm64 hcm65
     go_loopg [8,9] 0 (fun q nv iv wr=>∃i k:Nat,i+q=0∧k=1+i∧nv=.int .i64 (N i:Nat)∧iv=.int .i64 (k:Nat)∧wr=w)
     case atStart=>exact⟨0,1,by omega,rfl,by rw[HN0.out],rfl,rfl⟩
     case round=>
      obtain⟨i,k,hi,hki,rfl,rfl,rfl⟩:=hrel;have HI:=Hd hi;have HKI:=Hd hki
      by_cases hlt2:i<0
      ·exact absurd hlt2 (by omega)
      ·obtain rfl:i=0:=(by omega);have hl1:decide ((k:Int)<1)=false:=decide_eq_false (by omega);have hl2:decide (k<1)=false:=decide_eq_false (by omega);clear hi hlt2 hki;have hnb:=HNB.out 0 (by omega);obtain⟨n0,hn0⟩:=eX (N 0);rw[←hn0]at hnb HNE⊢;have HLN:=Hd (Pt n0 wr hnb);have HLL:=Hd (lenB_len hnb);have HRY:=Hd (show RES=if lenS (n0:Int)=1 then(n0,ln-(M.length-0),0)else(0,p,3)from by
        have:=HRX.out;rw[HNE.out,dE]at this;exact this)
       clear hnb hn0;go_wp2_with fail;refine HLN.out.mono ?_;rintro e w2 ⟨u,rfl,ho,hb2⟩;obtain⟨ua,uc,rfl⟩:∃a c,u=.slice a (lenS (n0:Int)) c:=(by obtain⟨a,c,e,_⟩:=ho.rd;rw[bvs_len,HLL.out]at e;exact⟨a,c,e⟩);have HB2:=Hd hb2;clear ho hb2;obtain⟨sz,hsz⟩:=eX (lenS (n0:Int));rw[←hsz]at HRY⊢;clear hsz HLL
       by_cases he:sz=1
       ·have HRZ:=Hd (HRY.out.trans (if_pos he));subst he;go_wp2_with fail
        go_ret3
        rw[HRZ.out];exact⟨by have:=HML.out;have:=HS.out;rw[show ln-(M.length-0)=p+1 by omega];rfl,HB2.out⟩
       ·have HRZ:=Hd (HRY.out.trans (if_neg he));have hne:((sz:Int) !=1)=true:=(by rw[bne_iff_ne];omega);clear he;go_wp2_with fail
        go_ret3
        rw[HRZ.out];exact⟨rfl,HB2.out⟩
   ·have d64a:decide ((c:Int)≥64)=true:=decide_eq_true (by omega);have d64b:decide ((64:Int)≤(c:Int))=true:=decide_eq_true (by omega);have d64c:decide (64≤c)=true:=decide_eq_true (by omega);have d128a:decide ((c:Int)≥128)=false:=decide_eq_false (by omega);have d128b:decide ((128:Int)≤(c:Int))=false:=decide_eq_false (by omega);have d128c:decide (128≤c)=false:=decide_eq_false (by omega);have d192a:decide ((c:Int)≥192)=false:=decide_eq_false (by omega);have d192b:decide ((192:Int)≤(c:Int))=false:=decide_eq_false (by omega);have d192c:decide (192≤c)=false:=decide_eq_false (by omega);have HRK:=Hd (HRE.out 1 (by omega));have hcm65:(c:Int)%64=((c%64:Nat):Int):=(by omega);have hcm64:eH (c:Int) 64=((c%64:Nat):Int):=(eI (by omega)).trans hcm65;have hm64:c%64<64:=aL _ (by omega);obtain⟨m,hm⟩:=eX (c%64);rw[←hm]at hcm64 hcm65 hm64 HRK;have HCM:=Hd hcm64;have HCN:=Hd hcm65;clear hm hcm64 hcm65
    by_cases hs:M.length<1
    ·have g1:decide ((p:Int)+2>(ln:Int))=true:=decide_eq_true (by have:=HML.out;omega);have g2:decide ((ln:Int)<(p:Int)+2)=true:=decide_eq_true (by have:=HML.out;omega);have g3:decide (ln<p+2)=true:=decide_eq_true (by have:=HML.out;omega);have HRX:=Hd (HRK.out.trans ((if_neg (by omega)).trans (if_pos (show M.length<2^1-1 by omega))));clear hk hs HRK hk2;have hwc:=HWC.out;have hcm64:=HCM.out;have hcm65:=HCN.out;go_enter Tryz.func286,Tryz.ntmps286;go_wp2_with fail
     go_ret3
     rw[HRX.out];exact⟨rfl,bR⟩
    ·have g1:decide ((p:Int)+2>(ln:Int))=false:=decide_eq_false (by have:=HML.out;omega);have g2:decide ((ln:Int)<(p:Int)+2)=false:=decide_eq_false (by have:=HML.out;omega);have g3:decide (ln<p+2)=false:=decide_eq_false (by have:=HML.out;omega);have HRX:=Hd (HRK.out.trans ((if_neg (by omega)).trans (if_neg (show¬M.length<2^1-1 by omega))));have HS:=Hd (show 1≤M.length by omega);obtain⟨N,hN⟩:∃N:Nat→Nat,N=fun i=>Ct (m::M.take i):=⟨_,rfl⟩;have hN0:N 0=m:=(by rw[hN];simp[Ct]);have HN0:=Hd hN0;have HNS:=Hd (show∀i,i<M.length→N (i+1)=N i*256+M.getD i 0 from fun i hi=>by rw[hN];exact Nr m hi);have HNB:=Hd (show∀i,i≤3→N i<1073741824 from fun i hi=>by rw[hN];exact Vq _ m hm64 (fun x hx=>HM.out x (gD hx)) (by rw[dC];omega));have HNE:=Hd (show Ct (m::M.take (2^1-1))=N 1 by rw[hN]);clear hk hs HRK hN hN0 hm64 hk2;have hwc:=HWC.out;have hcm64:=HCM.out;have hcm65:=HCN.out;go_enter Tryz.func286,Tryz.ntmps286;go_wp2_with fail;clear hwc hcm64 hcm65
     go_loopg [8,9] 1 (fun q nv iv wr=>∃i k:Nat,i+q=1∧k=1+i∧nv=.int .i64 (N i:Nat)∧iv=.int .i64 (k:Nat)∧wr=w)
     case atStart=>exact⟨0,1,by omega,rfl,by rw[HN0.out],rfl,rfl⟩
     case round=>
      obtain⟨i,k,hi,hki,rfl,rfl,rfl⟩:=hrel;have HI:=Hd hi;have HKI:=Hd hki
      by_cases hlt2:i<1
      ·have cc:=HC.out i (by have:=HS.out;omega);have hnb:=HNB.out i (by omega);have hns:=HNS.out i (by have:=HS.out;omega);have hnb2:=HNB.out (i+1) (by omega);have hx:=HM.out (M.getD i 0) (by rw[aH,aI (by have:=HS.out;omega)];exact aJ _);obtain⟨n0,hn0⟩:=eX (N i);obtain⟨y,hy⟩:=eX (M.getD i 0);rw[←hn0,←hy]at hns;rw[←hy]at cc hx;rw[←hn0]at hnb⊢;rw[hns]at hnb2;have HNS2:=Hd hns;have hl1:decide ((k:Int)<2)=true:=decide_eq_true (by omega);have hl2:decide (k<2)=true:=decide_eq_true (by omega);have cj:wr.cell? ⟨b,off+(p+k),none⟩=some (.int .u8 ((y:Nat):Int)):=(by rw[hki];exact cc);have hpl:(p:Int)+(k:Int)<(ln:Int):=(by have:=HML.out;have:=HS.out;omega);have hk4:k≤3:=(by omega);have HW5:=Hd (show IntKind.i64.wrap (y:Int)=(y:Int)from IntWalk.i64_in _ ⟨by omega,by omega⟩);have hw5:=HW5.out;clear hi hn0 hy hns hnb2 cc hki;go_wp2_with fail;go_roundg (gk-1);case measure=>have:=HI.out;omega
       case rel=>exact⟨i+1,k+1,by have:=HI.out;omega,by have:=HKI.out;omega,by rw[HNS2.out];exact congrArg (Value.int .i64) (by omega),by go_num,rfl⟩
      ·obtain rfl:i=1:=(by omega);have hl1:decide ((k:Int)<2)=false:=decide_eq_false (by omega);have hl2:decide (k<2)=false:=decide_eq_false (by omega);clear hi hlt2 hki;have hnb:=HNB.out 1 (by omega);obtain⟨n0,hn0⟩:=eX (N 1);rw[←hn0]at hnb HNE⊢;have HLN:=Hd (Pt n0 wr hnb);have HLL:=Hd (lenB_len hnb);have HRY:=Hd (show RES=if lenS (n0:Int)=2 then(n0,ln-(M.length-1),0)else(0,p,3)from by
        have:=HRX.out;rw[HNE.out,dE]at this;exact this)
       clear hnb hn0;go_wp2_with fail;refine HLN.out.mono ?_;rintro e w2 ⟨u,rfl,ho,hb2⟩;obtain⟨ua,uc,rfl⟩:∃a c,u=.slice a (lenS (n0:Int)) c:=(by obtain⟨a,c,e,_⟩:=ho.rd;rw[bvs_len,HLL.out]at e;exact⟨a,c,e⟩);have HB2:=Hd hb2;clear ho hb2;obtain⟨sz,hsz⟩:=eX (lenS (n0:Int));rw[←hsz]at HRY⊢;clear hsz HLL
       by_cases he:sz=2
       ·have HRZ:=Hd (HRY.out.trans (if_pos he));subst he;go_wp2_with fail
        go_ret3
        rw[HRZ.out];exact⟨by have:=HML.out;have:=HS.out;rw[show ln-(M.length-1)=p+2 by omega];rfl,HB2.out⟩
       ·have HRZ:=Hd (HRY.out.trans (if_neg he));have hne:((sz:Int) !=2)=true:=(by rw[bne_iff_ne];omega);clear he;go_wp2_with fail
        go_ret3
        rw[HRZ.out];exact⟨rfl,HB2.out⟩
   ·have d64a:decide ((c:Int)≥64)=true:=decide_eq_true (by omega);have d64b:decide ((64:Int)≤(c:Int))=true:=decide_eq_true (by omega);have d64c:decide (64≤c)=true:=decide_eq_true (by omega);have d128a:decide ((c:Int)≥128)=true:=decide_eq_true (by omega);have d128b:decide ((128:Int)≤(c:Int))=true:=decide_eq_true (by omega);have d128c:decide (128≤c)=true:=decide_eq_true (by omega);have d192a:decide ((c:Int)≥192)=false:=decide_eq_false (by omega);have d192b:decide ((192:Int)≤(c:Int))=false:=decide_eq_false (by omega);have d192c:decide (192≤c)=false:=decide_eq_false (by omega);have HRK:=Hd (HRE.out 2 (by omega));have hcm65:(c:Int)%64=((c%64:Nat):Int):=(by omega);have hcm64:eH (c:Int) 64=((c%64:Nat):Int):=(eI (by omega)).trans hcm65;have hm64:c%64<64:=aL _ (by omega);obtain⟨m,hm⟩:=eX (c%64);rw[←hm]at hcm64 hcm65 hm64 HRK;have HCM:=Hd hcm64;have HCN:=Hd hcm65;clear hm hcm64 hcm65
    by_cases hs:M.length<3
    ·have g1:decide ((p:Int)+4>(ln:Int))=true:=decide_eq_true (by have:=HML.out;omega);have g2:decide ((ln:Int)<(p:Int)+4)=true:=decide_eq_true (by have:=HML.out;omega);have g3:decide (ln<p+4)=true:=decide_eq_true (by have:=HML.out;omega);have HRX:=Hd (HRK.out.trans ((if_neg (by omega)).trans (if_pos (show M.length<2^2-1 by omega))));clear hk hs HRK hk2;have hwc:=HWC.out;have hcm64:=HCM.out;have hcm65:=HCN.out;go_enter Tryz.func286,Tryz.ntmps286;go_wp2_with fail
     go_ret3
     rw[HRX.out];exact⟨rfl,bR⟩
    ·have g1:decide ((p:Int)+4>(ln:Int))=false:=decide_eq_false (by have:=HML.out;omega);have g2:decide ((ln:Int)<(p:Int)+4)=false:=decide_eq_false (by have:=HML.out;omega);have g3:decide (ln<p+4)=false:=decide_eq_false (by have:=HML.out;omega);have HRX:=Hd (HRK.out.trans ((if_neg (by omega)).trans (if_neg (show¬M.length<2^2-1 by omega))));have HS:=Hd (show 3≤M.length by omega);obtain⟨N,hN⟩:∃N:Nat→Nat,N=fun i=>Ct (m::M.take i):=⟨_,rfl⟩;have hN0:N 0=m:=(by rw[hN];simp[Ct]);have HN0:=Hd hN0;have HNS:=Hd (show∀i,i<M.length→N (i+1)=N i*256+M.getD i 0 from fun i hi=>by rw[hN];exact Nr m hi);have HNB:=Hd (show∀i,i≤3→N i<1073741824 from fun i hi=>by rw[hN];exact Vq _ m hm64 (fun x hx=>HM.out x (gD hx)) (by rw[dC];omega));have HNE:=Hd (show Ct (m::M.take (2^2-1))=N 3 by rw[hN]);clear hk hs HRK hN hN0 hm64 hk2;have hwc:=HWC.out;have hcm64:=HCM.out;have hcm65:=HCN.out;go_enter Tryz.func286,Tryz.ntmps286;go_wp2_with fail;clear hwc hcm64 hcm65
     go_loopg [8,9] 3 (fun q nv iv wr=>∃i k:Nat,i+q=3∧k=1+i∧nv=.int .i64 (N i:Nat)∧iv=.int .i64 (k:Nat)∧wr=w)
     case atStart=>exact⟨0,1,by omega,rfl,by rw[HN0.out],rfl,rfl⟩
     case round=>
      obtain⟨i,k,hi,hki,rfl,rfl,rfl⟩:=hrel;have HI:=Hd hi;have HKI:=Hd hki
      by_cases hlt2:i<3
      ·have cc:=HC.out i (by have:=HS.out;omega);have hnb:=HNB.out i (by omega);have hns:=HNS.out i (by have:=HS.out;omega);have hnb2:=HNB.out (i+1) (by omega);have hx:=HM.out (M.getD i 0) (by rw[aH,aI (by have:=HS.out;omega)];exact aJ _);obtain⟨n0,hn0⟩:=eX (N i);obtain⟨y,hy⟩:=eX (M.getD i 0);rw[←hn0,←hy]at hns;rw[←hy]at cc hx;rw[←hn0]at hnb⊢;rw[hns]at hnb2;have HNS2:=Hd hns;have hl1:decide ((k:Int)<4)=true:=decide_eq_true (by omega);have hl2:decide (k<4)=true:=decide_eq_true (by omega);have cj:wr.cell? ⟨b,off+(p+k),none⟩=some (.int .u8 ((y:Nat):Int)):=(by rw[hki];exact cc);have hpl:(p:Int)+(k:Int)<(ln:Int):=(by have:=HML.out;have:=HS.out;omega);have hk4:k≤3:=(by omega);have HW5:=Hd (show IntKind.i64.wrap (y:Int)=(y:Int)from IntWalk.i64_in _ ⟨by omega,by omega⟩);have hw5:=HW5.out;clear hi hn0 hy hns hnb2 cc hki;go_wp2_with fail;go_roundg (gk-1);case measure=>have:=HI.out;omega
       case rel=>exact⟨i+1,k+1,by have:=HI.out;omega,by have:=HKI.out;omega,by rw[HNS2.out];exact congrArg (Value.int .i64) (by omega),by go_num,rfl⟩
      ·obtain rfl:i=3:=(by omega);have hl1:decide ((k:Int)<4)=false:=decide_eq_false (by omega);have hl2:decide (k<4)=false:=decide_eq_false (by omega);clear hi hlt2 hki;have hnb:=HNB.out 3 (by omega);obtain⟨n0,hn0⟩:=eX (N 3);rw[←hn0]at hnb HNE⊢;have HLN:=Hd (Pt n0 wr hnb);have HLL:=Hd (lenB_len hnb);have HRY:=Hd (show RES=if lenS (n0:Int)=4 then(n0,ln-(M.length-3),0)else(0,p,3)from by
        have:=HRX.out;rw[HNE.out,dE]at this;exact this)
       clear hnb hn0;go_wp2_with fail;refine HLN.out.mono ?_;rintro e w2 ⟨u,rfl,ho,hb2⟩;obtain⟨ua,uc,rfl⟩:∃a c,u=.slice a (lenS (n0:Int)) c:=(by obtain⟨a,c,e,_⟩:=ho.rd;rw[bvs_len,HLL.out]at e;exact⟨a,c,e⟩);have HB2:=Hd hb2;clear ho hb2;obtain⟨sz,hsz⟩:=eX (lenS (n0:Int));rw[←hsz]at HRY⊢;clear hsz HLL
       by_cases he:sz=4
       ·have HRZ:=Hd (HRY.out.trans (if_pos he));subst he;go_wp2_with fail
        go_ret3
        rw[HRZ.out];exact⟨by have:=HML.out;have:=HS.out;rw[show ln-(M.length-3)=p+4 by omega];rfl,HB2.out⟩
       ·have HRZ:=Hd (HRY.out.trans (if_neg he));have hne:((sz:Int) !=4)=true:=(by rw[bne_iff_ne];omega);clear he;go_wp2_with fail
        go_ret3
        rw[HRZ.out];exact⟨rfl,HB2.out⟩
   ·have d64a:decide ((c:Int)≥64)=true:=decide_eq_true (by omega);have d64b:decide ((64:Int)≤(c:Int))=true:=decide_eq_true (by omega);have d64c:decide (64≤c)=true:=decide_eq_true (by omega);have d128a:decide ((c:Int)≥128)=true:=decide_eq_true (by omega);have d128b:decide ((128:Int)≤(c:Int))=true:=decide_eq_true (by omega);have d128c:decide (128≤c)=true:=decide_eq_true (by omega);have d192a:decide ((c:Int)≥192)=true:=decide_eq_true (by omega);have d192b:decide ((192:Int)≤(c:Int))=true:=decide_eq_true (by omega);have d192c:decide (192≤c)=true:=decide_eq_true (by omega);have HRK:=Hd (HRE.out 3 (by omega));have HRX:=Hd (HRK.out.trans (if_pos rfl));clear hk HRK;go_enter Tryz.func286,Tryz.ntmps286;go_wp2_with fail
    go_ret3
    rw[HRX.out];exact⟨rfl,bR⟩
 ·obtain⟨a,cap,rfl,-,-⟩:=id h;rw[Zdk (by omega),bvs_len];have hpl:p=L.length:=(by omega);subst hpl;obtain⟨ln,hln⟩:=eX L.length;rw[←hln];clear h hL hl hp hlt hln;go_enter Tryz.func286,Tryz.ntmps286;go_wp2_with fail
  go_ret3
  exact⟨rfl,bR⟩
theorem Ts {w:World} {v:Value} {xs:List Value}(h:Rd w v xs) {T:TypeId}(ht:Tryz.prog.underlying T=some (.slice (Tryz.prog.elem T)))(hs:∀w,(sizeOf (Tryz.prog.elem T)).run Tryz.prog w=.ok 1 w) {k e:Nat}(hk:k≤e)(he:e≤xs.length):
  ∃a c,(∀w',(Instr.sliceAt T v (some (.int .i64 (k:Nat))) (some (.int .i64 (e:Nat))) none).run Tryz.prog w'=.ok (.slice a (e-k) c) w')∧∀w',Rd w' v xs→Rd w' (.slice a (e-k) c) ((xs.drop k).take (e-k)):=by
 obtain⟨a,cap,rfl,h1,h2,_⟩:=h;refine⟨if cap=k then a else a.map (·.add (k*1)),cap-k,fun w'=> ?_,fun w' hr=> ?_⟩
 ·rw[run_sliceAt_slice (h:=ht),run_slice_lh (ht:=ht) (h0:=by omega) (h1:=by omega) (h2:=by omega),hs]
  rfl
 ·obtain⟨a',cap',e',h3,h4,h5⟩:=hr;simp only[Value.slice.injEq]at e';obtain⟨rfl,-,rfl⟩:=e';have el:((xs.drop k).take (e-k)).length=e-k:=(by simp;omega);refine⟨_,cap-k,by rw[el],by rw[el];omega,by omega,?_⟩
  by_cases e0:e=k
  ·left
   refine⟨by rw[e0];simp,?_⟩
   split
   ·rename_i hc;intro _;omega
   ·rcases h5 with⟨h6,h7⟩|⟨b,off,rfl,_⟩
    ·intro hn;cases a with
     |none=>have:=h7 rfl;omega
     |some x=>simp at hn
    ·intro hn;simp at hn
  ·right
   rcases h5 with⟨h6,_⟩|⟨b,off,rfl,hc⟩
   ·rw[h6]at he;simp at he;omega
   ·refine⟨b,off+k,?_,fun j u hu=> ?_⟩
    ·rw[if_neg (by omega)];simp[Addr.add_lit]
    ·rw[List.getElem?_take]at hu
     split at hu
     ·rw[gF]at hu;rw[Nat.add_assoc];exact hc _ u hu
     ·cases hu
theorem Zi3 (L:List Nat)(k n:Nat):bvs ((L.drop k).take n)=((bvs L).drop k).take n:=by simp[bvs,List.map_take,List.map_drop]
theorem Iw (N:List Nat):((Bh N 0).1=none→(Bh N 0).2.2≠0)∧∀n,(Bh N 0).1=some n→(Bh N 0).2.2=0∧(Bh N 0).2.1=N.drop (N.length-(Bh N 0).2.1.length)∧n<1073741824:=by
 cases N with
 |nil=>exact⟨fun _=>(by decide:(4:Nat)≠0),fun n h=>(by cases h)⟩
 |cons b M=>
  have e:Bh (b::M) 0=Oh b M:=rfl;rw[e];unfold Oh
  by_cases c1:b/64=3
  ·rw[if_pos c1];exact⟨fun _=>(by decide:(3:Nat)≠0),fun n h=>(by cases h)⟩
  ·rw[if_neg c1]
   by_cases c2:M.length<2^(b/64)-1
   ·rw[if_pos c2];exact⟨fun _=>(by decide:(4:Nat)≠0),fun n h=>(by cases h)⟩
   ·rw[if_neg c2]
    by_cases c3:lenS (Ct (b%64::M.take (2^(b/64)-1)):Nat)=2^(b/64)
    ·rw[if_pos c3];refine⟨fun h=>(by cases h),fun n h=>⟨rfl,?_,?_⟩⟩
     ·simp only[dE,bO];rw[show M.length+1-(M.length-(2^(b/64)-1))=(2^(b/64)-1)+1 by omega,List.drop_succ_cons]
     ·cases h;have hp:=Nat.two_pow_pos (b/64);unfold lenS at c3
      split at c3
      ·omega
      ·rename_i h;omega
    ·rw[if_neg c3];exact⟨fun _=>(by decide:(3:Nat)≠0),fun n h=>(by cases h)⟩
theorem Zgl (L:List Nat)(p:Nat)(hp:p≤L.length):(Ew L p).2.1≤L.length∧(Ew L p).1<1073741824:=by
 have h:=(Iw (L.drop p)).2;unfold Ew;rcases hq:Bh (L.drop p) 0 with⟨n,M,e⟩;rw[hq]at h;cases n with
 |none=>exact⟨hp,(by decide:0<1073741824)⟩
 |some n=>exact⟨by simp only;omega,(h n rfl).2.2⟩
def Ns (L:List Nat)(p:Nat):List Nat×Nat×Nat:=
 if(Bf (L.drop p) 0).2.2=0 then((Bf (L.drop p) 0).1,L.length-(Bf (L.drop p) 0).2.1.length,0)else([],p,(Bf (L.drop p) 0).2.2)
theorem Zgm (L:List Nat)(p:Nat)(hp:p≤L.length):Ns L p=if(Ew L p).2.2≠0 then([],p,(Ew L p).2.2)else if L.length<(Ew L p).2.1+(Ew L p).1 then([],p,4)else((L.drop (Ew L p).2.1).take (Ew L p).1,(Ew L p).2.1+(Ew L p).1,0):=by
 have hsub:=Iv (L.drop p) 0;have hsuf:=Iw (L.drop p);unfold Ns Ew Bf;rcases hq:Bh (L.drop p) 0 with⟨n,M,e⟩;rw[hq]at hsub hsuf;have hlen:=hsub.1;rw[dE]at hlen;simp only at hlen hsuf;cases n with
 |none=>
  have he:e≠0:=hsuf.1 rfl;simp only;rw[if_neg he,if_pos he]
 |some n=>
  obtain⟨he,hM,-⟩:=hsuf.2 n rfl;subst he;simp only[ne_eq,not_true_eq_false,if_false]
  by_cases hn:(M.length:Int)<(n:Int)
  ·rw[show Bw M 0 (n:Int)=([],M,4) by unfold Bw;rw[if_neg (by simp),if_neg (by omega),if_pos hn],if_neg (by simp),if_pos (by omega)]
  ·rw[show Bw M 0 (n:Int)=(M.take n,M.drop n,0) by unfold Bw;rw[if_neg (by simp),if_neg (by omega),if_neg hn,Int.toNat_natCast],if_pos rfl,if_neg (by omega)];have e2:L.drop (L.length-M.length)=M:=by
    rw[hM,List.drop_drop]
    congr 1
    rw[dE,dE];omega
   rw[e2];simp only[dE]
   congr 1
   congr 1
   omega
theorem Zdm (v:Value)(L:List Nat)(p:Nat)(w:World)(h:Rd w v (bvs L))(hL:∀n∈L,n<256)(hl:L.length≤1000000000)(hp:p≤L.length):
  Calls Tryz.prog 266 #[v,.int .i64 (p:Nat)] w fun e w'=>∃u,e=.returned (.tuple #[u,.int .i64 ((Ns L p).2.1:Nat),.int .i64 ((Ns L p).2.2:Nat)])∧(∀W,Rd W v (bvs L)→Rd W u (bvs (Ns L p).1))∧Below w.heap.size w w':=by
 have HR0:=Zdl v L p w h hL hl hp;have hbd:=Zgl L p hp;rw[Zgm L p hp];obtain⟨a,cap,rfl,hc1,hc2⟩:=id h;rw[bvs_len]at hc1 h HR0⊢;obtain⟨n,hn⟩:=eX ((Ew L p).1);obtain⟨nx,hnx⟩:=eX ((Ew L p).2.1);obtain⟨er,her⟩:=eX ((Ew L p).2.2);rw[←hn,←hnx,←her]at HR0⊢;rw[←hnx,←hn]at hbd;obtain⟨ln,hln⟩:=eX L.length;have HRD:=Hd h;rw[←hln]at HR0 hbd hl hc1⊢;have HR:=Hd HR0;clear HR0 h hL hp hn hnx her
 by_cases he:er=0
 ·have he2:((er:Int) !=0)=false:=(by rw[bne_eq_false_iff_eq];omega);rw[if_neg (by omega)];clear he
  by_cases hlt:ln<nx+n
  ·rw[if_pos hlt];have hw:wrap64 ((ln:Int)-(nx:Int))=(ln:Int)-(nx:Int):=(by unfold wrap64;omega);have g1:decide ((n:Int)>(ln:Int)-(nx:Int))=true:=decide_eq_true (by omega);have g2:decide ((ln:Int)-(nx:Int)<(n:Int))=true:=decide_eq_true (by omega);clear hlt hbd hl hc1 hc2 hln;go_enter Tryz.func266,Tryz.ntmps266;go_wp2_with fail;refine HR.out.mono ?_;rintro e w2 ⟨rfl,hb⟩;have HB:=Hd hb;clear hb;go_wp2_with fail
   go_ret3
   exact⟨_,rfl,fun W _=>(Own.nil W 0 5).rd,HB.out⟩
  ·rw[if_neg hlt];have hw:wrap64 ((ln:Int)-(nx:Int))=(ln:Int)-(nx:Int):=(by unfold wrap64;omega);obtain⟨ne,hne⟩:=eX (nx+n);obtain⟨sa,sc,hsl,hsr⟩:=Ts (T:=28) HRD.out (by kernel_rfl) (fun w=>by kernel_rfl) (k:=nx) (e:=ne) (by omega) (by rw[bvs_len];omega);rw[←hln]at hsl;have hnn:ne-nx=n:=(by omega);rw[hnn]at hsl hsr;have HSR:=Hd hsr;have HNE:=Hd hne;have hsl2:∀w',(Instr.sliceAt 28 (.slice a ln cap) (some (.int .i64 (nx:Nat))) (some (.int .i64 ((nx:Int)+(n:Int)))) none).run Tryz.prog w'=.ok (.slice sa n sc) w':=by
    intro w';have:=hsl w'
    rwa [show((ne:Nat):Int)=(nx:Int)+(n:Int) by omega]at this
   have hnl:(nx:Int)+(n:Int)≤1000000000:=(by omega);clear hsl hsr hne hnn;have g1:decide ((n:Int)>(ln:Int)-(nx:Int))=false:=decide_eq_false (by omega);have g2:decide ((ln:Int)-(nx:Int)<(n:Int))=false:=decide_eq_false (by omega);have HLN:=Hd hln;clear hlt hbd hl hc1 hc2 hln;go_enter Tryz.func266,Tryz.ntmps266;go_wp2_with fail;refine HR.out.mono ?_;rintro e w2 ⟨rfl,hb⟩;have HB:=Hd hb;clear hb;go_wp2_with fail
   go_ret3
   exact⟨_,rfl,fun W hW=>by rw[Zi3];exact HSR.out W (by have:=HLN.out;rw[←this];exact hW),HB.out⟩
 ·have he2:((er:Int) !=0)=true:=(by rw[bne_iff_ne];omega);rw[if_pos he];clear he hbd hl hc1 hc2 hln;go_enter Tryz.func266,Tryz.ntmps266;go_wp2_with fail;refine HR.out.mono ?_;rintro e w2 ⟨rfl,hb⟩;have HB:=Hd hb;clear hb;go_wp2_with fail
  go_ret3
  exact⟨_,rfl,fun W _=>(Own.nil W 0 5).rd,HB.out⟩
end Go.Proofs.YtfofaiommeckbaaGreat
