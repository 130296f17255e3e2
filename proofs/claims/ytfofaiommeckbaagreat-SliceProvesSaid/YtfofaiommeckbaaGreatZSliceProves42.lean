import Derived.Test.YtfofaiommeckbaaGreatZSliceProves19
import Derived.Laws.OwnMore
import Derived.Test.YtfofaiommeckbaaGreatZSliceProves21
import Derived.Test.YtfofaiommeckbaaGreatZSliceProves22
open Go.Value renaming slice → q9, int → rA, pointer → rB
open Go.IntKind renaming u8 → rD
open Option renaming none → rF
open Go.Proofs.Tryz
open List renaming getD_eq_getElem?_getD → aH, append_assoc → bW, cons_append → iH, nil_append → iI, eq_nil_of_length_eq_zero → bS, mem_cons_of_mem → iJ, length_drop → eE, length_take → cD, length_cons → bY, getElem?_toArray → bZ, getElem?_cons_zero → cA, getElem?_cons_succ → cB
open Bool renaming and_eq_true → cJ
open Nat renaming le_trans → bM, le_succ → gG
set_option linter.unusedVariables false
set_option maxRecDepth 100000
set_option maxHeartbeats 40000000
namespace Go.Proofs.YtfofaiommeckbaaGreat
open Go.RowKit WalkM WireM
theorem Zjb {L:List Int}:Ki L=true↔L.Pairwise (· < ·)∧∀x∈L,0≤x∧x<65536:=by
 constructor
 ·intro h;refine⟨?_,Hn h⟩;rw[Fm]at h;have c:∀j,∀i,i<j→j<L.length→L.getD i 0<L.getD j 0:=by
   intro j
   induction j with
   |zero=>intro i a;omega
   |succ j ih=>
    intro i a b;have h1:=(h (j+1) b).1;unfold Hi at h1;rw[if_neg (by omega),Nat.add_sub_cancel]at h1
    by_cases e:i=j
    ·subst e;exact h1
    ·have:=ih i (by omega) (by omega);omega
  rw[List.pairwise_iff_getElem];intro i j a b d;have:=c j i d b;simpa [aH,a,b]using this
 ·rintro⟨h1,h2⟩;rw[Fm];intro i a;have f:=h2 _ (List.getElem_mem a);have e:L.getD i 0=L[i]:=(by simp[aH,a]);rw[e];refine⟨?_,f.2⟩;unfold Hi
  split
  ·omega
  ·have:=(List.pairwise_iff_getElem.1 h1) (i-1) i (by omega) a (by omega);rw[show L.getD (i-1) 0=L[i-1] by simp[aH,show i-1<L.length by omega]];exact this
theorem Hy {w:World} {g:Nat}(vs:List Value)(o:Nat):w.grownBy (w.setCells g o vs) (some g):=by
 have h:=Gi g vs o w;exact⟨h.1.1,h.1.2,h.1.3,h.2.1,fun k hk hne=>h.2.2 k hk fun e=>hne (by rw[e])⟩
end Go.Proofs.YtfofaiommeckbaaGreat
namespace Go.Proofs.YtfofaiommeckbaaGreat
open Go.RowKit WireM
def Ew (L:List Nat)(er:Nat):Nat×LeafD×List Nat×Nat:=
 let r1:=Fc L er
 let r2:=Fc r1.2.1 r1.2.2
 let r3:=Fc r2.2.1 r2.2.2
 let r4:=Hf r3.2.1 r3.2.2 1
 let s:=Gr r4.1
 if r4.2.2≠0 then(r4.2.2,noLeafD,r4.2)else
 if s<1∨3<s then(3,noLeafD,r4.2)else
 let r5:=if s=3 then Fc r4.2.1 r4.2.2 else([],r4.2)
 let r6:=Fc r5.2.1 r5.2.2
 if r6.2.2≠0 then(r6.2.2,noLeafD,r6.2)else
 if Ls ⟨r1.1,r2.1,r3.1,s,r5.1,r6.1⟩=true then(0,⟨r1.1,r2.1,r3.1,s,r5.1,r6.1⟩,r6.2)else(3,noLeafD,r6.2)
def Zg1:Nat→List Nat→List Int
 |0,_=>[]
 |k+1,L=>if 4≤L.length then((Gr (L.take 4):Nat):Int)::Zg1 k (L.drop 4)else []
def Io (L:List Nat)(er:Nat):Nat×ParD×List Nat×Nat:=
 let r1:=Fc L er
 let r2:=Fc r1.2.1 r1.2.2
 let r3:=Fc r2.2.1 r2.2.2
 if r3.2.2≠0 then(r3.2.2,noParD,r3.2)else
 let l:=Zg1 r3.1.length r3.1
 if r3.1.length%4=0∧rpB r1.1.length r2.1.length l=true then(0,⟨r1.1,r2.1,l⟩,r3.2)else(3,noParD,r3.2)
def Cz (L:List Nat)(er:Nat):Nat×NodeD×List Nat×Nat:=
 let r:=Hf L er 1
 let k:=Gr r.1
 if r.2.2≠0 then(r.2.2,Aq,r.2)else
 if k=0 then(0,Aq,r.2)else
 if k=1 then(let q:=Ew r.2.1 r.2.2;if q.1=0 then(0,⟨1,q.2.1,noParD⟩,q.2.2)else(q.1,Aq,q.2.2))else
 if k=2 then(let q:=Io r.2.1 r.2.2;if q.1=0 then(0,⟨2,noLeafD,q.2.1⟩,q.2.2)else(q.1,Aq,q.2.2))else
 (3,Aq,r.2)
theorem Ff {v:List Nat}(hv:v.length≤1000)(R:List Nat):Fc (Bf v++R) 0=(v,R,0):=Zh8 (by omega) R
theorem Nn {s:Nat}(hs:s<256)(R:List Nat):Hf (s::R) 0 1=([s],R,0):=by
 have:=Zh9 (s:=1) (n:=s) (by decide) R;have e:beN 1 s=[s]:=(by unfold beN beN;simp;omega);rw[e]at this;simpa using this
theorem Xy (s:Nat):Gr [s]=s:=by simp[Gr]
theorem Zcd {d:LeafD}(h:Ls d=true)(R:List Nat):Ew (Kj d++Bf d.sig++R) 0=(0,d,R,0):=by
 have a:=h;unfold Ls rlB at a;have c:=of_decide_eq_true a;obtain⟨m,n,l,f,j,g,i,k⟩:=c;unfold Ew Kj Pe;simp only[List.map_cons,List.map_nil,List.flatten_cons,List.flatten_nil,List.append_nil,bW];rw[Ff (by omega)];simp only;rw[Ff (by omega)];simp only;rw[Ff (by omega)];simp only[iH,iI];rw[Nn (by omega)];simp only[Xy,ne_eq,not_true_eq_false,if_false];rw[if_neg (by omega)]
 by_cases hs:d.source=3
 ·simp only[hs,if_true];rw[Ff (by omega)];simp only;rw[Ff (by omega)];simp only[not_true_eq_false,if_false];have e:(⟨d.box,d.sign,d.ident,3,d.par,d.sig⟩:LeafD)=d:=(by rw[←hs]);rw[e,h];simp
 ·simp only[hs,if_false,iI];rw[Ff (by omega)];simp only[not_true_eq_false,if_false];have b:d.par=[]:=bS (by omega);have e:(⟨d.box,d.sign,d.ident,d.source,[],d.sig⟩:LeafD)=d:=(by rw[←b]);rw[e,h];simp
theorem Zao:∀(L:List Int) (k:Nat),L.length≤k→(∀x∈L,0≤x∧x<65536)→Zg1 k (Ci L)=L
 |[],k,_,_=>by cases k<;>rfl
 |x::L,0,h,_=>by simp at h
 |x::L,k+1,h,hb=>by
  have hx:=hb x (by simp);have e:Ci (x::L)=beN 4 x.toNat++Ci L:=(by simp[Ci]);unfold Zg1;rw[e,if_pos (by rw[List.length_append,beN_len];omega)];have b:(beN 4 x.toNat).length=4:=beN_len _ _;rw[List.take_append_of_le_length (by omega),List.take_of_length_le (by omega),List.drop_append_of_le_length (by omega),List.drop_of_length_le (by omega),iI];rw[Zao L k (by simp at h;omega) fun y a=>hb y (iJ _ a),Zh]
  congr 1
  omega
theorem Zf3 {p:ParD}(h:rpB p.box.length p.hash.length p.late=true)(c:p.late.length≤200)(R:List Nat):Io (Zgz p++R) 0=(0,p,R,0):=by
 have a:=h;unfold rpB at a;rw[cJ]at a;have d:=of_decide_eq_true a.2;have b:=Zjb.1 a.1;unfold Io Zgz;simp only[bW];rw[Ff (by omega)];simp only;rw[Ff (by omega)];simp only;rw[Ff (by rw[Fn];omega)];simp only[ne_eq,not_true_eq_false,if_false];rw[Zao _ _ (by rw[Fn];omega) b.2,h,Fn,if_pos ⟨by omega,rfl⟩]
theorem Zce {d:NodeD}(h:At d=true)(q:d.par.late.length≤200)(R:List Nat):Cz (Bm d++R) 0=(0,d,R,0):=by
 unfold At at h;unfold Cz Bm;obtain⟨k,l,p⟩:=d;simp only at h q⊢
 by_cases h0:k=0
 ·subst h0;simp only[if_true]at h;rw[cJ]at h;have h1:=of_decide_eq_true h.1;have h2:=of_decide_eq_true h.2;simp only[if_neg (show¬(0=1) by omega),if_neg (show¬(0=2) by omega),iH,iI];rw[Nn (by omega)];simp only[Xy,ne_eq,not_true_eq_false,if_false,if_true];obtain⟨a,b,c,s,e,f⟩:=l;obtain⟨x,y,z⟩:=p;simp only at h1 h2;have e1:a=[]:=bS (by omega);have e2:b=[]:=bS (by omega);have e3:c=[]:=bS (by omega);have o:e=[]:=bS (by omega);have j:f=[]:=bS (by omega);have i:x=[]:=bS (by omega);have n:y=[]:=bS (by omega);have g:z=[]:=bS (by omega);have m:s=0:=(by omega);subst e1 e2 e3 o j i n g m
  rfl
 ·by_cases h1:k=1
  ·subst h1;simp only[if_true,if_false,Nat.reduceEqDiff]at h;rw[cJ]at h;have h2:=of_decide_eq_true h.2;simp only[if_true,iH];rw[Nn (by omega)];simp only[Xy,ne_eq,not_true_eq_false,if_false,if_true,if_neg (show¬(1=0) by omega)];rw[Zcd (d:=l) h.1];simp only[if_true];obtain⟨x,y,z⟩:=p;simp only at h2;have i:x=[]:=bS (by omega);have n:y=[]:=bS (by omega);have g:z=[]:=bS (by omega);subst i n g
   rfl
  ·by_cases h2:k=2
   ·subst h2;simp only[if_true,if_false,Nat.reduceEqDiff]at h;rw[cJ]at h;have h3:=of_decide_eq_true h.1;simp only[if_true,if_neg (show¬(2=1) by omega),iH];rw[Nn (by omega)];simp only[Xy,ne_eq,not_true_eq_false,if_false,if_true,if_neg (show¬(2=0) by omega),if_neg (show¬(2=1) by omega)];rw[Zf3 h.2 q];simp only[if_true];obtain⟨a,b,c,s,e,f⟩:=l;simp only at h3;have e1:a=[]:=bS (by omega);have e2:b=[]:=bS (by omega);have e3:c=[]:=bS (by omega);have o:e=[]:=bS (by omega);have j:f=[]:=bS (by omega);have m:s=0:=(by omega);subst e1 e2 e3 o j m
    rfl
   ·simp[h0,h1,h2]at h
def Sub (M L:List Nat):Prop:=M.length≤L.length∧∀x∈M,x∈L
theorem Sub.refl (L:List Nat):Sub L L:=⟨lR,fun _ h=>h⟩
theorem Sub.trans {A B C:List Nat}(h:Sub A B)(k:Sub B C):Sub A C:=⟨bM h.1 k.1,fun x hx=>k.2 x (h.2 x hx)⟩
theorem Sub.nil (L:List Nat):Sub [] L:=⟨Nat.zero_le _,fun _ h=>by simp at h⟩
theorem Sub.drop (L:List Nat)(n:Nat):Sub (L.drop n) L:=⟨by rw[eE];omega,fun _ h=>List.mem_of_mem_drop h⟩
theorem Sub.take (L:List Nat)(n:Nat):Sub (L.take n) L:=⟨by rw[cD];omega,fun _ h=>List.mem_of_mem_take h⟩
def Zjc (L:List Nat)(r:List Nat×List Nat×Nat):Prop:=Sub r.1 L∧Sub r.2.1 L∧r.1.length+r.2.1.length≤L.length
theorem Pa (L:List Nat)(er:Nat)(n:Int):Zjc L (Dd L er n):=by
 unfold Dd
 split
 ·exact⟨Sub.nil _,Sub.refl _,by simp⟩
 ·split
  ·exact⟨Sub.nil _,Sub.refl _,by simp⟩
  ·split
   ·exact⟨Sub.nil _,Sub.refl _,by simp⟩
   ·exact⟨Sub.take _ _,Sub.drop _ _,by simp only[cD,eE];omega⟩
theorem Hc (L:List Nat)(er:Nat)(n:Int):Zjc L (Hf L er n):=Pa _ _ _
theorem Xz (L:List Nat)(er:Nat):Sub (Do L er).2.1 L:=by
 unfold Do
 split
 ·exact Sub.refl _
 ·split
  ·exact Sub.refl _
  ·rename_i b M
   have hs:Sub M (b::M):=⟨by simp,fun x hx=>iJ _ hx⟩;unfold Zg
   split
   ·exact hs
   ·split
    ·exact hs
    ·split<;>exact(Sub.drop _ _).trans hs
theorem Bo (L:List Nat)(er:Nat):Zjc L (Fc L er):=by
 have h:=Xz L er;unfold Fc
 split
 ·rename_i M e hm
  rw[hm]at h;exact⟨Sub.nil _,h,by have:=h.1;simpa using this⟩
 ·rename_i n M e hm
  rw[hm]at h;obtain⟨p1,p2,p3⟩:=Pa M e (n:Int);exact⟨p1.trans h,p2.trans h,bM p3 h.1⟩
theorem Zf4 (L:List Nat):Dd L 0 1=match L with|[]=>([],[],4)|b::M=>([b],M,0):=by
 unfold Dd;cases L with
 |nil=>simp
 |cons b M=>simp only[ne_eq,not_true_eq_false,if_false];rw[if_neg (by omega),if_neg (by simp only[bY];omega)];simp
theorem Tb (L:List Nat):Hf L 0 1=match L with|[]=>([],[],4)|b::M=>([b],M,0):=by
 rw[Hf,if_pos (by decide)];exact Zf4 L
theorem Zjd (L:List Nat) {er:Nat}(h:er≠0)(n:Int):Dd L er n=([],L,er):=by rw[Dd,if_pos h]
theorem Zlz (L:List Nat) {er:Nat}(h:er≠0)(n:Int):Hf L er n=([],L,er):=Zjd L h _
theorem Zje {L:List Nat} {er:Nat} {n:Int}(h:(Dd L er n).2.2=0):er=0∧0≤n∧n≤L.length∧Dd L er n=(L.take n.toNat,L.drop n.toNat,0):=by
 unfold Dd at h⊢
 split at h
 ·rename_i h1;exact absurd h h1
 ·rename_i h1
  split at h
  ·cases h
  ·rename_i h2
   split at h
   ·cases h
   ·rename_i h3
    rw[if_neg h1,if_neg h2,if_neg h3];exact⟨by simpa using h1,by omega,by omega,rfl⟩
theorem Zf5 {L:List Nat}(h:(Ew L 0).1=0):Ls (Ew L 0).2.1=true∧(Ew L 0).2.2.2=0∧Sub (Ew L 0).2.2.1 L∧
  ((∀n∈L,n<256)→(∀n∈(Ew L 0).2.1.box,n<256)∧(∀n∈(Ew L 0).2.1.sign,n<256)∧(∀n∈(Ew L 0).2.1.ident,n<256)∧(∀n∈(Ew L 0).2.1.par,n<256)∧∀n∈(Ew L 0).2.1.sig,n<256):=by
 unfold Ew at h⊢;simp only at h⊢;generalize hr1:Fc L 0=r1 at h⊢;have c:=Bo L 0;rw[hr1]at c;generalize hr2:Fc r1.2.1 r1.2.2=r2 at h⊢;have e:=Bo r1.2.1 r1.2.2;rw[hr2]at e;generalize hr3:Fc r2.2.1 r2.2.2=r3 at h⊢;have d:=Bo r2.2.1 r2.2.2;rw[hr3]at d;generalize hr4:Hf r3.2.1 r3.2.2 1=r4 at h⊢;have l:=Hc r3.2.1 r3.2.2 1;rw[hr4]at l
 split at h
 ·rename_i h1;exact absurd h h1
 ·rename_i h1
  split at h
  ·cases h
  ·rename_i h2
   generalize hr5:(if Gr r4.1=3 then Fc r4.2.1 r4.2.2 else([],r4.2))=r5 at h⊢;have k:Zjc r4.2.1 r5:=by
    rw[←hr5]
    split
    ·exact Bo _ _
    ·exact⟨Sub.nil _,Sub.refl _,by simp⟩
   generalize hr6:Fc r5.2.1 r5.2.2=r6 at h⊢;have f:=Bo r5.2.1 r5.2.2;rw[hr6]at f
   split at h
   ·rename_i h3;exact absurd h h3
   ·rename_i h3
    split at h
    ·rename_i h4
     rw[if_neg h1,if_neg h2,if_neg h3,if_pos h4];have m:=c.2.1;have i:=e.2.1.trans m;have o:=d.2.1.trans i;have j:=l.2.1.trans o;have g:=k.2.1.trans j;exact⟨h4,by simpa using h3,f.2.1.trans g,fun b=>⟨fun n a=>b n (c.1.2 n a),fun n a=>b n ((e.1.trans m).2 n a),fun n a=>b n ((d.1.trans i).2 n a),fun n a=>b n ((k.1.trans j).2 n a),fun n a=>b n ((f.1.trans g).2 n a)⟩⟩
    ·cases h
theorem Zap:∀(k:Nat) (L:List Nat),4*(Zg1 k L).length≤L.length
 |0,L=>by simp[Zg1]
 |k+1,L=>by
  unfold Zg1
  split
  ·have:=Zap k (L.drop 4);rw[eE]at this;rw[bY];omega
  ·simp
theorem Zjf {L:List Nat}(h:(Io L 0).1=0):rpB (Io L 0).2.1.box.length (Io L 0).2.1.hash.length (Io L 0).2.1.late=true∧(Io L 0).2.2.2=0∧Sub (Io L 0).2.2.1 L∧4*(Io L 0).2.1.late.length≤L.length∧
  ((∀n∈L,n<256)→(∀n∈(Io L 0).2.1.box,n<256)∧∀n∈(Io L 0).2.1.hash,n<256):=by
 unfold Io at h⊢;simp only at h⊢;generalize hr1:Fc L 0=r1 at h⊢;have a:=Bo L 0;rw[hr1]at a;generalize hr2:Fc r1.2.1 r1.2.2=r2 at h⊢;have c:=Bo r1.2.1 r1.2.2;rw[hr2]at c;generalize hr3:Fc r2.2.1 r2.2.2=r3 at h⊢;have b:=Bo r2.2.1 r2.2.2;rw[hr3]at b
 split at h
 ·rename_i h1;exact absurd h h1
 ·rename_i h1
  split at h
  ·rename_i h2
   rw[if_neg h1,if_pos h2];have f:=a.2.1;have g:=c.2.1.trans f;have i:=Zap r3.1.length r3.1;have h3:=(b.1.trans g).1;exact⟨h2.2,by simpa using h1,b.2.1.trans g,by simp only;omega,fun e=>⟨fun n d=>e n (a.1.2 n d),fun n d=>e n ((c.1.trans f).2 n d)⟩⟩
  ·cases h
theorem Mm {α:Type} {P: α→Prop}:∀n∈([]:List α),P n:=fun n h=>by simp at h
structure TkOk (L:List Nat) (d:NodeD) (R:List Nat):Prop where
 right:At d=true
 sub:Sub R L
 len:R.length<L.length
 late:4*d.par.late.length≤L.length
 ok:(∀n∈L,n<256)→NodeOk d
theorem Ya:nlB noLeafD.box.length noLeafD.sign.length noLeafD.ident.length noLeafD.source noLeafD.par.length noLeafD.sig.length=true:=by decide
theorem Zcf:npB noParD.box.length noParD.hash.length noParD.late.length=true:=by decide
theorem Vv {L:List Nat}(h:(Cz L 0).1=0):(Cz L 0).2.2.2=0∧TkOk L (Cz L 0).2.1 (Cz L 0).2.2.1:=by
 unfold Cz at h⊢;simp only[Tb]at h⊢;cases L with
 |nil=>simp at h
 |cons b M=>
  have i:Sub M (b::M):=⟨by simp,fun x hx=>iJ _ hx⟩;simp only[Xy,ne_eq,not_true_eq_false,if_false]at h⊢
  by_cases h0:b=0
  ·rw[if_pos h0]at h⊢;exact⟨rfl,(by decide:At Aq=true),i,by simp,by simp[Aq,noParD],fun _=>Gt⟩
  ·rw[if_neg h0]at h⊢
   by_cases h1:b=1
   ·rw[if_pos h1]at h⊢
    split at h
    ·rename_i h2
     rw[if_pos h2];obtain⟨a,d,c,e⟩:=Zf5 h2;generalize Ew M 0=q at h2 a d c e⊢;refine⟨d,?_,c.trans i,by have:=c.1;simp only[bY];omega,by simp[noParD],fun g=> ?_⟩
     ·show(rlB _ _ _ _ _ _&&npB _ _ _)=true;rw[Zcf,Bool.and_true];exact a
     ·obtain⟨c1,c2,c3,c4,c5⟩:=e fun n f=>g n (iJ _ f);have:=of_decide_eq_true (p:=_) a;exact⟨show 1<256 by omega,by simp only;omega,c1,c2,c3,c4,c5,Mm,Mm,Mm⟩
    ·rename_i h2;exact absurd h h2
   ·rw[if_neg h1]at h⊢
    by_cases h2:b=2
    ·rw[if_pos h2]at h⊢
     split at h
     ·rename_i h3
      rw[if_pos h3];obtain⟨a,d,c,j,e⟩:=Zjf h3;generalize Io M 0=q at h3 a d c j e⊢;refine⟨d,?_,c.trans i,by have:=c.1;simp only[bY];omega,by simp only[bY];omega,fun g=> ?_⟩
      ·show(nlB noLeafD.box.length noLeafD.sign.length noLeafD.ident.length noLeafD.source noLeafD.par.length noLeafD.sig.length&&rpB q.2.1.box.length q.2.1.hash.length q.2.1.late)=true;rw[Ya,Bool.true_and];exact a
      ·obtain⟨c1,c2⟩:=e fun n f=>g n (iJ _ f);have k:=Hn (by unfold rpB at a;rw[cJ]at a;exact a.1);exact⟨show 2<256 by omega,show 0<256 by omega,Mm,Mm,Mm,Mm,Mm,c1,c2,fun n f=>by have:=k n f;omega⟩
     ·rename_i h3;exact absurd h h3
    ·rw[if_neg h2]at h;simp at h
section
theorem Only.alloc {B:Nat} {a w:World}(h:Only B a w)(o:Obj):Only B a (w.alloc o):=h.trans (Only.of (bR.alloc lR o))
theorem Only.then {B:Nat} {a b c:World}(h:Only B a b)(k:Below a.heap.size b c):Only B a c:=
 ⟨k.os.trans h.os,k.tape.trans h.tape,k.output.trans h.output,bM h.size k.size,fun i hi hne=>(k.block i hi).trans (h.block i hi hne)⟩
theorem Blk.only {w w':World} {g C:Nat} {t:TypeId} {cs:Array Value}(h:Blk w g t cs)(ho:Only C w w')(hne:g≠C):Blk w' g t cs:=
 (ho.block g h.lt (fun e=>hne (by simpa using e))).trans h
theorem Own.other {w w':World} {B q:Nat} {e t:TypeId} {v:Value} {xs:List Value} {cs:Array Value}(h:Own w B e v xs)(r:Blk w q t cs)(j:e≠t)(o:∀i,i<w.heap.size→i≠q→w'.heap[i]? =w.heap[i]?):Own w' B e v xs:=by
 have p:=h.ne_blk r j;have d:∀g,v.ownBlock=some g→g<w.heap.size:=by
  intro g a;rcases h.2 with⟨rfl,_⟩|⟨c,k,b,rfl,m,f,_⟩
  ·simp[Value.ownBlock]at a
  ·simp[Value.ownBlock]at a;subst a;exact(Array.getElem?_eq_some_iff.1 f).1
 obtain⟨l,n|⟨c,k,b,rfl,a,f,rest⟩⟩:=h
 ·exact⟨l,.inl n⟩
 ·exact⟨l,.inr ⟨c,k,b,rfl,a,by rw[o c (d c (by simp[Value.ownBlock])) (fun e=>p (by simp[Value.ownBlock,e]))];exact f,rest⟩⟩
theorem Own.setO {w:World} {B q:Nat} {e t:TypeId} {v:Value} {xs:List Value} {cs:Array Value}(h:Own w B e v xs)(hb:Blk w q t cs)(hne:e≠t)(i:Nat)(u:Value):Own (w.setCell ⟨q,i,rF⟩ u) B e v xs:=
 h.other hb hne fun j _ hj=>Below.heap_setCell w _ u j hj
theorem RS.setO {w:World} {B q:Nat} {L:List Nat} {er:Nat}(h:RS w B L er)(hq:B<q)(i:Nat)(u:Value):RS (w.setCell ⟨q,i,rF⟩ u) B L er:=
 h.low ((Below.refl q w).setCell (by simp) u) hq
theorem Ip {w:World} {B:Nat} {v:Value} {L:List Nat}(h:Own w B 5 v (bvs L)):∃a c,v=.slice a L.length c:=by
 obtain⟨a,c,e,_⟩:=h.rd;rw[bvs_len]at e;exact⟨a,c,e⟩
theorem Rb {B:Nat} {a b c:World}(h:Only B a b)(k:Below b.heap.size b c):Only B a c:=h.then (k.mono h.size)
theorem Bs {B:Nat} {a b c:World}(h:Only B a b)(k:Below a.heap.size b c):Only B a c:=h.then k
theorem Yb {B:Nat} {a b:World}(h:Only B a b) {q:Nat}(hq:a.heap.size≤q)(i:Nat)(u:Value):Only B a (b.setCell ⟨q,i,rF⟩ u):=
 h.then ((Below.refl a.heap.size b).setCell hq u)
def Al (w:World)(g:Nat)(l:List (Value×List Nat)):Prop:=∀p∈l,Own w g 5 p.1 (bvs p.2)
section
variable {w w':World} {g B q:Nat} {l:List (Value×List Nat)} {v:Value} {L:List Nat} {t:TypeId} {cs:Array Value}
theorem Al.nil (w:World)(g:Nat):Al w g []:=fun p h=>by simp at h
theorem Al.cons (h:Al w g l)(hv:Own w g 5 v (bvs L)):Al w g ((v,L)::l):=fun p hp=>by
 rcases List.mem_cons.1 hp with rfl|hp
 ·exact hv
 ·exact h p hp
theorem Al.only (h:Al w g l)(ho:Only B w w')(hB:B<g):Al w' g l:=fun p hp=>(h p hp).only ho hB
theorem Al.below (h:Al w g l)(hb:Below w.heap.size w w'):Al w' g l:=fun p hp=>(h p hp).below hb lR
theorem Al.mono (h:Al w g l) {g':Nat}(hg:g'≤g):Al w g' l:=fun p hp=>(h p hp).mono hg
theorem Al.setO (h:Al w g l)(hb:Blk w q t cs)(hne:(5:TypeId)≠t)(i:Nat)(u:Value):Al (w.setCell ⟨q,i,rF⟩ u) g l:=fun p hp=>(h p hp).setO hb hne i u
theorem Al.other (h:Al w g l)(hb:Blk w q t cs)(hne:(5:TypeId)≠t)(ho:∀i,i<w.heap.size→i≠q→w'.heap[i]? =w.heap[i]?):Al w' g l:=fun p hp=>(h p hp).other hb hne ho
theorem Al.nth (h:Al w g l)(i:Nat)(hi:l[i]? =some (v,L)):Own w g 5 v (bvs L):=h _ (List.mem_of_getElem? hi)
end
theorem LeafO.none (w:World)(B:Nat):LeafO w B noLeafD #[q9 rF 0 0,q9 rF 0 0,q9 rF 0 0,rA rD 0,q9 rF 0 0,q9 rF 0 0]:=⟨_,_,_,_,_,rfl,Own.nil _ _ _,Own.nil _ _ _,Own.nil _ _ _,Own.nil _ _ _,Own.nil _ _ _⟩
def Zjg (B:Nat)(w:World)(r:Nat×LeafD×List Nat×Nat)(e:Ending)(w':World):Prop:=
 ∃c,e=.returned (.tuple #[.agg c,rA rD (r.1:Nat)])∧LeafO w' w.heap.size r.2.1 c∧RS w' B r.2.2.1 r.2.2.2∧Only B w w'
theorem Yc (F G H E t L0 L1 L2 L3 L4 L5 L6:List Nat) (e1 e2 e3 X e5 N s B:Nat) (r:Nat×LeafD×List Nat×Nat) (w:World) (h:RS w B L0 0)
  (C1:∀W,RS W B L0 0→Calls prog 254 #[rB (some ⟨B,0,rF⟩)] W (Ms B W (F,L1,e1)))
  (C2:∀W,RS W B L1 e1→Calls prog 254 #[rB (some ⟨B,0,rF⟩)] W (Ms B W (G,L2,e2)))
  (C3:∀W,RS W B L2 e2→Calls prog 254 #[rB (some ⟨B,0,rF⟩)] W (Ms B W (H,L3,e3)))
  (C4:∀W,RS W B L3 e3→Calls prog 154 #[rB (some ⟨B,0,rF⟩),rA .i64 1] W fun e W'=>e=.returned (rA .u64 (s:Nat))∧RS W' B L4 X∧Only B W W')
  (C5:s=3→∀W,RS W B L4 X→Calls prog 254 #[rB (some ⟨B,0,rF⟩)] W (Ms B W (E,L5,e5)))
  (N5:s≠3→E=[]∧L5=L4∧e5=X)
  (C6:∀W,RS W B L5 e5→Calls prog 254 #[rB (some ⟨B,0,rF⟩)] W (Ms B W (t,L6,N)))
  (hs:s<256)
  (X4:X≠0→r=(X,noLeafD,L4,X)) (XS:X=0→s<1∨3<s→r=(3,noLeafD,L4,X)) (X6:X=0→¬(s<1∨3<s)→N≠0→r=(N,noLeafD,L6,N))
  (XB:X=0→¬(s<1∨3<s)→N=0→∀b,rlB F.length G.length H.length s E.length t.length=b→r=if b=true then(0,⟨F,G,H,s,E,t⟩,L6,N)else(3,noLeafD,L6,N)):
  Calls prog 218 #[rB (some ⟨B,0,rF⟩)] w (Zjg B w r):=by
 have hB:=h.lt;obtain⟨g,hg⟩:=eX w.heap.size;have Q:=Hd hg;have u:=Hd (show B<g by omega);obtain⟨w0,Y⟩:=eX (w.alloc (.cells #[q9 rF 0 0,q9 rF 0 0,q9 rF 0 0,rA rD 0,q9 rF 0 0,q9 rF 0 0] 44));have bJ:=Hd Y;have aY:=Hd (show g+1≤w0.heap.size by rw[Y,hg];simp);have G0:=Hd (show Blk w0 g 44 #[q9 rF 0 0,q9 rF 0 0,q9 rF 0 0,rA rD 0,q9 rF 0 0,q9 rF 0 0] by rw[Y,hg];exact Blk.new _ _ _);have A0:=Hd (Al.nil w0 (g+1));have O0:=Hd (show Only B w w0 by rw[Y];exact(Only.refl _ _).alloc _);have R0:=Hd (show RS w0 B L0 0 by rw[Y];exact h.low ((Below.refl w.heap.size w).alloc lR (.cells #[q9 rF 0 0,q9 rF 0 0,q9 rF 0 0,rA rD 0,q9 rF 0 0,q9 rF 0 0] 44)) hB);have bE:=Hd C1;have bQ:=Hd C2;have bK:=Hd C3;have bS:=Hd C4;have bO:=Hd C5;have bG:=Hd N5;have bB:=Hd C6;have bL:=Hd X4;have bN:=Hd XS;have bA:=Hd X6;have aV:=Hd XB;have aK:=Hd fun(L:List Nat) (er:Nat) W=>Hj B L er W;have aQ:=Hd @Kh;obtain⟨S,hS⟩:=eX (Zjg B w r);rw[←hS];have HS:=Hd (show∀(e:Ending) (w':World) {c:Array Value} {k:Nat} {d:LeafD} {R:List Nat} {re:Nat},e=.returned (.tuple #[.agg c,rA rD (k:Nat)])→r=(k,d,R,re)→LeafO w' w.heap.size d c→RS w' B R re→Only B w w'→S e w' from by
  rintro e w' c k d R re rfl rfl h1 h2 h3;rw[hS];exact⟨c,rfl,h1,h2,h3⟩)
 clear h hB hg Y C1 C2 C3 C4 C5 N5 C6 X4 XS X6 XB hS;go_enter func218,ntmps218;go_wp2_with fail;rw[←bJ.out,←Q.out];refine(bE.out w0 R0.out).mono ?_;rintro e w1 ⟨u1,rfl,m,o,a⟩;obtain⟨V,c1,rfl⟩:=Ip m;have D:=m.mono (B':=g+1) aY.out;have a0:=Hd (bM aY.out a.size);have A1:=Hd (A0.out.only a (by have:=u.out;omega));have G1:=Hd (G0.out.only a (by have:=u.out;omega));have O1:=Hd (O0.out.trans a);have R1:=Hd o;replace A1:=Hd (A1.out.cons D);clear m o a D;go_wp2_with fail;refine(bQ.out w1 R1.out).mono ?_;rintro e w2 ⟨u2,rfl,m,o,a⟩;obtain⟨T,c2,rfl⟩:=Ip m;have D:=m.mono (B':=g+1) a0.out;have aX:=Hd (bM a0.out a.size);have A2:=Hd (A1.out.only a (by have:=u.out;omega));have G2:=Hd (G1.out.only a (by have:=u.out;omega));have O2:=Hd (O1.out.trans a);have R2:=Hd o;replace A2:=Hd (A2.out.cons D);clear m o a D;go_wp2_with fail;refine(bK.out w2 R2.out).mono ?_;rintro e w3 ⟨u3,rfl,m,o,a⟩;obtain⟨U,c3,rfl⟩:=Ip m;have D:=m.mono (B':=g+1) aX.out;have bW:=Hd (bM aX.out a.size);have A3:=Hd (A2.out.only a (by have:=u.out;omega));have G3:=Hd (G2.out.only a (by have:=u.out;omega));have O3:=Hd (O2.out.trans a);have R3:=Hd o;replace A3:=Hd (A3.out.cons D);clear m o a D;go_wp2_with fail;refine(bS.out w3 R3.out).mono ?_;rintro e w4 ⟨rfl,o,a⟩;have aZ:=Hd (bM bW.out a.size);have A4:=Hd (A3.out.only a (by have:=u.out;omega));have G4:=Hd (G3.out.only a (by have:=u.out;omega));have O4:=Hd (O3.out.trans a);have R4:=Hd o;clear o a;obtain⟨q,hq⟩:=eX w4.heap.size;have HQ:=Hd hq;have z:=Hd (show g+1≤q by rw[hq];exact aZ.out);have bT:IntKind.u8.wrap (s:Int)=(s:Int):=(by rw[IntKind.wrap_u8];omega);clear hq;go_wp2_with (refine Aa rfl 44 (.tmp 4) (.tmp 16) rfl w4.heap.size #[.slice V F.length c1,.slice T G.length c2,.slice U H.length c3,rA rD s,q9 rF 0 0,q9 rF 0 0] rfl rfl 44 #[q9 rF 0 0,q9 rF 0 0,q9 rF 0 0,rA rD 0,q9 rF 0 0,q9 rF 0 0] (Blk.new _ _ _) (by kernel_rfl) rfl rfl ?_);rintro w5 f l n j;have A:Below w4.heap.size w4 w5:=(bR.alloc lR _).trans (l _ lR);have aD:=Hd (bM aZ.out A.size);have A5:=Hd (A4.out.below A);have G5:=Hd (G4.out.below A G4.out.lt);have O5:=Hd (Rb O4.out A);have R5:=Hd (R4.out.below A);rw[←HQ.out]at f⊢;have Q5:=Hd f;have y3:=f.cell 3;simp only[bZ,cA,cB]at y3;clear f l n j A bT;go_wp2_with fail;refine(aK.out _ _ _ R5.out).mono ?_;rintro e w' ⟨rfl,rfl⟩
 by_cases h4:X=0
 ·have aA:=Hd h4;have bU:((X:Int) !=0)=false:=by rw[bne_eq_false_iff_eq];omega
  by_cases hs1:s<1∨3<s
  ·have aF:=Hd (bN.out aA.out hs1);clear h4
   by_cases hs0:s<1
   ·have a7:decide ((s:Int)<1)=true:=decide_eq_true (by omega);clear hs0 hs1;go_wp2_with (refine Aa rfl 44 (.tmp 2) (.tmp 31) rfl g #[q9 rF 0 0,q9 rF 0 0,q9 rF 0 0,rA rD 0,q9 rF 0 0,q9 rF 0 0] rfl rfl 44 #[q9 rF 0 0,q9 rF 0 0,q9 rF 0 0,rA rD 0,q9 rF 0 0,q9 rF 0 0] G5.out (by kernel_rfl) rfl rfl ?_);rintro w9 f l n j;have P9:=Hd f;have K:=Hd (Bs O5.out (l w.heap.size (by rw[Q.out];exact lR)));have I:=Hd (R5.out.low (l g lR) u.out);clear f l n j;go_wp2_with fail;refine bodyPost_ret (v:=.tuple #[.agg #[q9 rF 0 0,q9 rF 0 0,q9 rF 0 0,rA rD 0,q9 rF 0 0,q9 rF 0 0],rA rD 3]) (Ad results218 _ _ g _ _ _ rfl P9.out underlying44 rfl (by kernel_rfl)) rfl ?_;exact HS.out _ _ rfl aF.out (LeafO.none _ _) I.out K.out
   ·have a7:decide ((s:Int)<1)=false:=decide_eq_false (by omega);have bH:decide ((s:Int)>3)=true:=decide_eq_true (by omega);clear hs0 hs1;go_wp2_with (refine Aa rfl 44 (.tmp 2) (.tmp 31) rfl g #[q9 rF 0 0,q9 rF 0 0,q9 rF 0 0,rA rD 0,q9 rF 0 0,q9 rF 0 0] rfl rfl 44 #[q9 rF 0 0,q9 rF 0 0,q9 rF 0 0,rA rD 0,q9 rF 0 0,q9 rF 0 0] G5.out (by kernel_rfl) rfl rfl ?_);rintro w9 f l n j;have P9:=Hd f;have K:=Hd (Bs O5.out (l w.heap.size (by rw[Q.out];exact lR)));have I:=Hd (R5.out.low (l g lR) u.out);clear f l n j;go_wp2_with fail;refine bodyPost_ret (v:=.tuple #[.agg #[q9 rF 0 0,q9 rF 0 0,q9 rF 0 0,rA rD 0,q9 rF 0 0,q9 rF 0 0],rA rD 3]) (Ad results218 _ _ g _ _ _ rfl P9.out underlying44 rfl (by kernel_rfl)) rfl ?_;exact HS.out _ _ rfl aF.out (LeafO.none _ _) I.out K.out
  ·have a7:decide ((s:Int)<1)=false:=decide_eq_false (by omega);have bH:decide ((s:Int)>3)=false:=decide_eq_false (by omega);have aE:=Hd hs1;clear hs1 h4
   by_cases hs3:s=3
   ·have bF:((s:Int)==3)=true:=(by rw[beq_iff_eq];omega);have aT:=Hd (bO.out hs3);clear hs3;go_wp2_with fail;refine(aT.out w5 R5.out).mono ?_;rintro e w6 ⟨u5,rfl,m,o,a⟩;obtain⟨P,c5,rfl⟩:=Ip m;have D:=m.mono (B':=g+1) aD.out;have aM:=Hd (bM aD.out a.size);have A6:=Hd (A5.out.only a (by have:=u.out;omega));have G6:=Hd (G5.out.only a (by have:=u.out;omega));have Q6:=Hd (Q5.out.only a (by have:=u.out;have:=z.out;omega));have O6:=Hd (O5.out.trans a);have R6:=Hd o;replace A6:=Hd (A6.out.cons D);have M:=Q6.out;have y4:=M.cell 4;have z4:=M.frozen 4;simp only[bZ,cA,cB]at y4;have Q7:=Hd (show Blk (w6.setCell ⟨q,4,rF⟩ (.slice P E.length c5)) q 44 #[.slice V F.length c1,.slice T G.length c2,.slice U H.length c3,rA rD s,.slice P E.length c5,q9 rF 0 0]from by simpa using M.set 4 (.slice P E.length c5));have Z:=Hd (show g+1≤(w6.setCell ⟨q,4,rF⟩ (.slice P E.length c5)).heap.size by have:=aM.out;simpa using this);have A7:=Hd (A6.out.setO M (by decide) 4 (.slice P E.length c5));have G7:=Hd (G6.out.far (p:=⟨q,4,rF⟩) (by have:=z.out;simp only;omega) (.slice P E.length c5));have R7:=Hd (R6.out.setO (q:=q) (by have:=u.out;have:=z.out;omega) 4 (.slice P E.length c5));have O7:=Hd (Yb O6.out (q:=q) (by have:=z.out;have:=Q.out;omega) 4 (.slice P E.length c5));generalize hwk:w6.setCell ⟨q,4,rF⟩ (.slice P E.length c5)=w7 at Q7 Z A7 G7 R7 O7;have aC:=Hd hwk;clear hwk;clear m o a D M y3;go_wp2_with fail;rw[aC.out];refine(bB.out w7 R7.out).mono ?_;rintro e w8 ⟨u6,rfl,m,o,a⟩;obtain⟨y,x,rfl⟩:=Ip m;have D:=m.mono (B':=g+1) Z.out;have a4:=Hd (bM Z.out a.size);have A8:=Hd (A7.out.only a (by have:=u.out;omega));have G8:=Hd (G7.out.only a (by have:=u.out;omega));have Q8:=Hd (Q7.out.only a (by have:=u.out;have:=z.out;omega));have O8:=Hd (O7.out.trans a);have R8:=Hd o;replace A8:=Hd (A8.out.cons D);have M:=Q8.out;have y5:=M.cell 5;have z5:=M.frozen 5;simp only[bZ,cA,cB]at y5;have Q9:=Hd (show Blk (w8.setCell ⟨q,5,rF⟩ (.slice y t.length x)) q 44 #[.slice V F.length c1,.slice T G.length c2,.slice U H.length c3,rA rD s,.slice P E.length c5,.slice y t.length x]from by simpa using M.set 5 (.slice y t.length x));have aS:=Hd (show g+1≤(w8.setCell ⟨q,5,rF⟩ (.slice y t.length x)).heap.size by have:=a4.out;simpa using this);have A9:=Hd (A8.out.setO M (by decide) 5 (.slice y t.length x));have G9:=Hd (G8.out.far (p:=⟨q,5,rF⟩) (by have:=z.out;simp only;omega) (.slice y t.length x));have I:=Hd (R8.out.setO (q:=q) (by have:=u.out;have:=z.out;omega) 5 (.slice y t.length x));have K:=Hd (Yb O8.out (q:=q) (by have:=z.out;have:=Q.out;omega) 5 (.slice y t.length x));generalize hwk:w8.setCell ⟨q,5,rF⟩ (.slice y t.length x)=w9 at Q9 aS A9 G9 I K;have bC:=Hd hwk;clear hwk;clear m o a D M;go_wp2_with fail;rw[bC.out];refine(aK.out _ _ _ I.out).mono ?_;rintro e w' ⟨rfl,rfl⟩;clear y5 z5
    by_cases h6:N=0
    ·have aG:=Hd h6;have aH:((N:Int) !=0)=false:=(by rw[bne_eq_false_iff_eq];omega);clear h6;go_wp2_with (refine Aw rfl 44 (.tmp 4) rfl q rfl 44 #[.slice V F.length c1,.slice T G.length c2,.slice U H.length c3,rA rD s,.slice P E.length c5,.slice y t.length x] (0,0) _ Q9.out underlying44 rfl (by kernel_rfl) ?_);refine(aQ.out V T U P y F.length G.length H.length E.length t.length c1 c2 c3 c5 x s _).mono ?_;rintro e bY ⟨rfl,A⟩;have bX:=Hd (bM aS.out A.size);have bV:=Hd (A9.out.below A);have aJ:=Hd (G9.out.below A G9.out.lt);have bD:=Hd (Q9.out.below A Q9.out.lt);have a9:=Hd (Rb K.out A);have aU:=Hd (I.out.below A);clear A;obtain⟨RB,O⟩:=eX (rlB F.length G.length H.length s E.length t.length);rw[←O];have J:=Hd (aV.out aA.out aE.out aG.out RB (by rw[O]));clear O;cases RB with
     |false=>
      go_wp2_with (refine Aa rfl 44 (.tmp 2) (.tmp 50) rfl g #[q9 rF 0 0,q9 rF 0 0,q9 rF 0 0,rA rD 0,q9 rF 0 0,q9 rF 0 0] rfl rfl 44 #[q9 rF 0 0,q9 rF 0 0,q9 rF 0 0,rA rD 0,q9 rF 0 0,q9 rF 0 0] aJ.out (by kernel_rfl) rfl rfl ?_);rintro w9 f l n j;have P9:=Hd f;have K:=Hd (Bs a9.out (l w.heap.size (by rw[Q.out];exact lR)));have I:=Hd (aU.out.low (l g lR) u.out);clear f l n j;go_wp2_with fail;refine bodyPost_ret (v:=.tuple #[.agg #[q9 rF 0 0,q9 rF 0 0,q9 rF 0 0,rA rD 0,q9 rF 0 0,q9 rF 0 0],rA rD 3]) (Ad results218 _ _ g _ _ _ rfl P9.out underlying44 rfl (by kernel_rfl)) rfl ?_;exact HS.out _ _ rfl J.out (LeafO.none _ _) I.out K.out
     |true=>
      go_wp2_with (first|(refine Aw rfl 44 (.tmp 4) rfl q rfl 44 #[.slice V F.length c1,.slice T G.length c2,.slice U H.length c3,rA rD s,.slice P E.length c5,.slice y t.length x] (0,0) _ bD.out underlying44 rfl (by kernel_rfl) ?_)|(refine Aa rfl 44 (.tmp 2) (.tmp 51) rfl g #[.slice V F.length c1,.slice T G.length c2,.slice U H.length c3,rA rD s,.slice P E.length c5,.slice y t.length x] rfl rfl 44 #[q9 rF 0 0,q9 rF 0 0,q9 rF 0 0,rA rD 0,q9 rF 0 0,q9 rF 0 0] aJ.out (by kernel_rfl) rfl rfl ?_));rintro bI f l n j;have aN:=Hd f;have aO:=Hd (Bs a9.out (l w.heap.size (by rw[Q.out];exact lR)));have aI:=Hd (aU.out.low (l g lR) u.out);have C:=Hd ((bV.out.other aJ.out (by decide) (fun i _ D=>n i D)).mono (gG g));clear f l n j;go_wp2_with fail;refine bodyPost_ret (v:=.tuple #[.agg #[.slice V F.length c1,.slice T G.length c2,.slice U H.length c3,rA rD s,.slice P E.length c5,.slice y t.length x],rA rD 0]) (Ad results218 _ _ g _ _ _ rfl aN.out underlying44 rfl (by kernel_rfl)) rfl ?_;refine HS.out _ _ rfl J.out ?_ aI.out aO.out;rw[←Q.out];exact⟨_,_,_,_,_,rfl,C.out.nth 4 rfl,C.out.nth 3 rfl,C.out.nth 2 rfl,C.out.nth 1 rfl,C.out.nth 0 rfl⟩
    ·have aB:=Hd (bA.out aA.out aE.out h6);have aH:((N:Int) !=0)=true:=(by rw[bne_iff_ne];omega);clear h6;go_wp2_with (refine Aa rfl 44 (.tmp 2) (.tmp 45) rfl g #[q9 rF 0 0,q9 rF 0 0,q9 rF 0 0,rA rD 0,q9 rF 0 0,q9 rF 0 0] rfl rfl 44 #[q9 rF 0 0,q9 rF 0 0,q9 rF 0 0,rA rD 0,q9 rF 0 0,q9 rF 0 0] G9.out (by kernel_rfl) rfl rfl ?_);rintro w9 f l n j;have P9:=Hd f;have K:=Hd (Bs K.out (l w.heap.size (by rw[Q.out];exact lR)));have I:=Hd (I.out.low (l g lR) u.out);clear f l n j;go_wp2_with fail;refine bodyPost_ret (v:=.tuple #[.agg #[q9 rF 0 0,q9 rF 0 0,q9 rF 0 0,rA rD 0,q9 rF 0 0,q9 rF 0 0],rA rD (N:Nat)]) (Ad results218 _ _ g _ _ _ rfl P9.out underlying44 rfl (by kernel_rfl)) rfl ?_;exact HS.out _ _ rfl aB.out (LeafO.none _ _) I.out K.out
   ·have bF:((s:Int)==3)=false:=(by rw[beq_eq_false_iff_ne];omega);obtain⟨a8,aW,aP⟩:=bG.out hs3;have aL:=Hd a8;have bP:=Hd (show RS w5 B L5 e5 by rw[aW,aP];exact R5.out);clear hs3 a8 aW aP;go_wp2_with fail;refine(bB.out w5 bP.out).mono ?_;rintro e w6 ⟨u6,rfl,m,o,a⟩;obtain⟨y,x,rfl⟩:=Ip m;have D:=m.mono (B':=g+1) aD.out;have aM:=Hd (bM aD.out a.size);have A6:=Hd (A5.out.only a (by have:=u.out;omega));have G6:=Hd (G5.out.only a (by have:=u.out;omega));have Q6:=Hd (Q5.out.only a (by have:=u.out;have:=z.out;omega));have O6:=Hd (O5.out.trans a);have R6:=Hd o;replace A6:=Hd (A6.out.cons D);have M:=Q6.out;have y5:=M.cell 5;have z5:=M.frozen 5;simp only[bZ,cA,cB]at y5;have Q7:=Hd (show Blk (w6.setCell ⟨q,5,rF⟩ (.slice y t.length x)) q 44 #[.slice V F.length c1,.slice T G.length c2,.slice U H.length c3,rA rD s,q9 rF 0 0,.slice y t.length x]from by simpa using M.set 5 (.slice y t.length x));have Z:=Hd (show g+1≤(w6.setCell ⟨q,5,rF⟩ (.slice y t.length x)).heap.size by have:=aM.out;simpa using this);have A7:=Hd (A6.out.setO M (by decide) 5 (.slice y t.length x));have G7:=Hd (G6.out.far (p:=⟨q,5,rF⟩) (by have:=z.out;simp only;omega) (.slice y t.length x));have R7:=Hd (R6.out.setO (q:=q) (by have:=u.out;have:=z.out;omega) 5 (.slice y t.length x));have O7:=Hd (Yb O6.out (q:=q) (by have:=z.out;have:=Q.out;omega) 5 (.slice y t.length x));generalize hwk:w6.setCell ⟨q,5,rF⟩ (.slice y t.length x)=w7 at Q7 Z A7 G7 R7 O7;have aC:=Hd hwk;clear hwk;clear m o a D M;go_wp2_with fail;rw[aC.out];refine(aK.out _ _ _ R7.out).mono ?_;rintro e w' ⟨rfl,rfl⟩;clear y5 z5
    by_cases h6:N=0
    ·have aG:=Hd h6;have aH:((N:Int) !=0)=false:=(by rw[bne_eq_false_iff_eq];omega);clear h6;go_wp2_with (refine Aw rfl 44 (.tmp 4) rfl q rfl 44 #[.slice V F.length c1,.slice T G.length c2,.slice U H.length c3,rA rD s,q9 rF 0 0,.slice y t.length x] (0,0) _ Q7.out underlying44 rfl (by kernel_rfl) ?_);refine(aQ.out V T U none y F.length G.length H.length 0 t.length c1 c2 c3 0 x s _).mono ?_;rintro e w8 ⟨rfl,A⟩;have a4:=Hd (bM Z.out A.size);have A8:=Hd (A7.out.below A);have G8:=Hd (G7.out.below A G7.out.lt);have Q8:=Hd (Q7.out.below A Q7.out.lt);have O8:=Hd (Rb O7.out A);have R8:=Hd (R7.out.below A);clear A;obtain⟨RB,O⟩:=eX (rlB F.length G.length H.length s 0 t.length);rw[←O];have J:=Hd (aV.out aA.out aE.out aG.out RB (by rw[O];rw[aL.out];rfl));clear O;cases RB with
     |false=>
      go_wp2_with (refine Aa rfl 44 (.tmp 2) (.tmp 50) rfl g #[q9 rF 0 0,q9 rF 0 0,q9 rF 0 0,rA rD 0,q9 rF 0 0,q9 rF 0 0] rfl rfl 44 #[q9 rF 0 0,q9 rF 0 0,q9 rF 0 0,rA rD 0,q9 rF 0 0,q9 rF 0 0] G8.out (by kernel_rfl) rfl rfl ?_);rintro w9 f l n j;have P9:=Hd f;have K:=Hd (Bs O8.out (l w.heap.size (by rw[Q.out];exact lR)));have I:=Hd (R8.out.low (l g lR) u.out);clear f l n j;go_wp2_with fail;refine bodyPost_ret (v:=.tuple #[.agg #[q9 rF 0 0,q9 rF 0 0,q9 rF 0 0,rA rD 0,q9 rF 0 0,q9 rF 0 0],rA rD 3]) (Ad results218 _ _ g _ _ _ rfl P9.out underlying44 rfl (by kernel_rfl)) rfl ?_;exact HS.out _ _ rfl J.out (LeafO.none _ _) I.out K.out
     |true=>
      go_wp2_with (first|(refine Aw rfl 44 (.tmp 4) rfl q rfl 44 #[.slice V F.length c1,.slice T G.length c2,.slice U H.length c3,rA rD s,q9 rF 0 0,.slice y t.length x] (0,0) _ Q8.out underlying44 rfl (by kernel_rfl) ?_)|(refine Aa rfl 44 (.tmp 2) (.tmp 51) rfl g #[.slice V F.length c1,.slice T G.length c2,.slice U H.length c3,rA rD s,q9 rF 0 0,.slice y t.length x] rfl rfl 44 #[q9 rF 0 0,q9 rF 0 0,q9 rF 0 0,rA rD 0,q9 rF 0 0,q9 rF 0 0] G8.out (by kernel_rfl) rfl rfl ?_));rintro bI f l n j;have aN:=Hd f;have aO:=Hd (Bs O8.out (l w.heap.size (by rw[Q.out];exact lR)));have aI:=Hd (R8.out.low (l g lR) u.out);have C:=Hd ((A8.out.other G8.out (by decide) (fun i _ D=>n i D)).mono (gG g));clear f l n j;go_wp2_with fail;refine bodyPost_ret (v:=.tuple #[.agg #[.slice V F.length c1,.slice T G.length c2,.slice U H.length c3,rA rD s,q9 rF 0 0,.slice y t.length x],rA rD 0]) (Ad results218 _ _ g _ _ _ rfl aN.out underlying44 rfl (by kernel_rfl)) rfl ?_;refine HS.out _ _ rfl J.out ?_ aI.out aO.out;rw[←Q.out];exact⟨_,_,_,_,_,by rw[aL.out],C.out.nth 3 rfl,C.out.nth 2 rfl,C.out.nth 1 rfl,by rw[aL.out];exact Own.nil _ _ _,C.out.nth 0 rfl⟩
    ·have aB:=Hd (bA.out aA.out aE.out h6);have aH:((N:Int) !=0)=true:=(by rw[bne_iff_ne];omega);clear h6;go_wp2_with (refine Aa rfl 44 (.tmp 2) (.tmp 45) rfl g #[q9 rF 0 0,q9 rF 0 0,q9 rF 0 0,rA rD 0,q9 rF 0 0,q9 rF 0 0] rfl rfl 44 #[q9 rF 0 0,q9 rF 0 0,q9 rF 0 0,rA rD 0,q9 rF 0 0,q9 rF 0 0] G7.out (by kernel_rfl) rfl rfl ?_);rintro w9 f l n j;have P9:=Hd f;have K:=Hd (Bs O7.out (l w.heap.size (by rw[Q.out];exact lR)));have I:=Hd (R7.out.low (l g lR) u.out);clear f l n j;go_wp2_with fail;refine bodyPost_ret (v:=.tuple #[.agg #[q9 rF 0 0,q9 rF 0 0,q9 rF 0 0,rA rD 0,q9 rF 0 0,q9 rF 0 0],rA rD (N:Nat)]) (Ad results218 _ _ g _ _ _ rfl P9.out underlying44 rfl (by kernel_rfl)) rfl ?_;exact HS.out _ _ rfl aB.out (LeafO.none _ _) I.out K.out
 ·have aR:=Hd (bL.out h4);have bU:((X:Int) !=0)=true:=(by rw[bne_iff_ne];omega);clear h4;go_wp2_with (refine Aa rfl 44 (.tmp 2) (.tmp 21) rfl g #[q9 rF 0 0,q9 rF 0 0,q9 rF 0 0,rA rD 0,q9 rF 0 0,q9 rF 0 0] rfl rfl 44 #[q9 rF 0 0,q9 rF 0 0,q9 rF 0 0,rA rD 0,q9 rF 0 0,q9 rF 0 0] G5.out (by kernel_rfl) rfl rfl ?_);rintro w9 f l n j;have P9:=Hd f;have K:=Hd (Bs O5.out (l w.heap.size (by rw[Q.out];exact lR)));have I:=Hd (R5.out.low (l g lR) u.out);clear f l n j;go_wp2_with fail;refine bodyPost_ret (v:=.tuple #[.agg #[q9 rF 0 0,q9 rF 0 0,q9 rF 0 0,rA rD 0,q9 rF 0 0,q9 rF 0 0],rA rD (X:Nat)]) (Ad results218 _ _ g _ _ _ rfl P9.out underlying44 rfl (by kernel_rfl)) rfl ?_;exact HS.out _ _ rfl aR.out (LeafO.none _ _) I.out K.out
theorem Zf6 (L:List Nat)(er:Nat)(hL:∀n∈L,n<256):Gr (Hf L er 1).1<256:=by
 by_cases h:er=0
 ·subst h;rw[Tb];cases L with
  |nil=>decide
  |cons b M=>simp only[Xy];exact hL b (by simp)
 ·rw[Zlz L h];exact(by decide:Gr []<256)
theorem Zcg (B:Nat)(L:List Nat)(w:World)(h:RS w B L 0)(E:L.length<1000000000)(l:∀n∈L,n<256):
  Calls prog 218 #[rB (some ⟨B,0,rF⟩)] w (Zjg B w (Ew L 0)):=by
 have j:=Bo L 0;have k:=Bo (Fc L 0).2.1 (Fc L 0).2.2;have g:=Bo (Fc (Fc L 0).2.1 (Fc L 0).2.2).2.1 (Fc (Fc L 0).2.1 (Fc L 0).2.2).2.2;have d:∀(M:List Nat) (er:Nat),Sub M L→∀W,RS W B M er→Calls prog 254 #[rB (some ⟨B,0,rF⟩)] W (Ms B W (Fc M er)):=fun M er x W o=>Zd2 B M er W o (by have:=x.1;omega) fun n f=>l n (x.2 n f);unfold Ew;simp only;have r:=d L 0 (Sub.refl _);have q:=d _ (Fc L 0).2.2 j.2.1;generalize Fc L 0=r1 at j k g r q⊢;have D:=j.2.1;have m:=k.2.1.trans D;have p:=d _ (Fc r1.2.1 r1.2.2).2.2 m;generalize Fc r1.2.1 r1.2.2=r2 at k g q p m⊢;have i:=g.2.1.trans m;generalize Fc r2.2.1 r2.2.2=r3 at g p i⊢;have s:=Hc r3.2.1 r3.2.2 1;have v:=fun W o=>Og B r3.2.1 r3.2.2 1 W o fun n f=>l n (i.2 n f);have t:Gr (Hf r3.2.1 r3.2.2 1).1<256:=Zf6 r3.2.1 r3.2.2 fun n f=>l n (i.2 n f);generalize Hf r3.2.1 r3.2.2 1=r4 at s v t⊢;have u:=s.2.1.trans i;have A:=d r4.2.1 r4.2.2 u;obtain⟨c,a⟩:=eX (if Gr r4.1=3 then Fc r4.2.1 r4.2.2 else([],r4.2));have z:Sub c.2.1 r4.2.1:=by
  rw[a];split
  ·exact(Bo _ _).2.1
  ·exact Sub.refl _
 have y:=d c.2.1 c.2.2 (z.trans u);rw[←a];refine Yc r1.1 r2.1 r3.1 c.1 (Fc c.2.1 c.2.2).1 L r1.2.1 r2.2.1 r3.2.1 r4.2.1 c.2.1 (Fc c.2.1 c.2.2).2.1 r1.2.2 r2.2.2 r3.2.2 r4.2.2 c.2.2 (Fc c.2.1 c.2.2).2.2 (Gr r4.1) B _ w h r q p v (fun e=> ?_) (fun e=> ?_) y t (fun e=> ?_) (fun e1 e2=> ?_) (fun e1 e2 e3=> ?_) (fun e1 e2 e3 b C=> ?_)
 ·rw[if_pos e]at a;rw[a];exact A
 ·rw[if_neg e]at a;rw[a];exact⟨rfl,rfl,rfl⟩
 ·rw[if_pos e]
 ·rw[if_neg (by omega),if_pos e2]
 ·rw[if_neg (by omega),if_neg e2,if_pos e3]
 ·rw[if_neg (by omega),if_neg e2,if_neg (by omega)];show(if Ls _=true then _ else _)=_;unfold Ls;simp only[C]
end
end Go.Proofs.YtfofaiommeckbaaGreat
