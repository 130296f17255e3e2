import Derived.Laws.OwnMore
import Derived.Test.YtfofaiommeckbaaGreatZTr14
open Go.Obj renaming cells -> rK
open Go.Ending renaming returned -> rM
open Go.Value renaming slice -> rD, int -> rE, pointer -> rF
open Go.IntKind renaming u8 -> rH
open Option renaming none -> rJ
open Go.Proofs.Tryz
open List renaming getD_eq_getElem?_getD -> aE, append_assoc -> cY, cons_append -> iM, nil_append -> iO, eq_nil_of_length_eq_zero -> aA, mem_cons_of_mem -> gW, length_drop -> eD, length_take -> bW, length_cons -> dB, getElem?_toArray -> bY, getElem?_cons_zero -> bZ, getElem?_cons_succ -> cA
open Bool renaming and_eq_true -> cK
open Nat renaming le_trans -> eN, le_succ -> gJ
set_option linter.unusedVariables false
set_option maxRecDepth 100000
set_option maxHeartbeats 40000000
namespace Go.Proofs.YtfofaiommeckbaaGreat
open Go.RowKit WalkM WireM
theorem Zjh {L:List Int}:Ji L=true↔L.Pairwise (· < ·)/\∀x∈L,0<=x/\x<65536:=by
 constructor
 ·intro h;refine⟨?_,Fu h⟩;rw[Fa]at h;have f:∀j,∀i,i<j->j<L.length->L.getD i 0<L.getD j 0:=by
   intro j
   induction j with
   |zero=>intro i a;omega
   |succ j ih=>
    intro i a c;have b:=(h (j+1) c).1;unfold Ha at b;rw[iN (by omega),Nat.add_sub_cancel]at b
    by_cases e:i=j
    ·subst e;exact b
    ·have:=ih i (by omega) (by omega);omega
  rw[List.pairwise_iff_getElem];intro i j a c d;have:=f j i d c;simpa [aE,a,c]using this
 ·rintro⟨b,h2⟩;rw[Fa];intro i a;have g:=h2 _ (List.getElem_mem a);have e:L.getD i 0=L[i]:=(by simp[aE,a]);rw[e];refine⟨?_,g.2⟩;unfold Ha
  split
  ·omega
  ·have:=(List.pairwise_iff_getElem.1 b) (i-1) i (by omega) a (by omega);rw[show L.getD (i-1) 0=L[i-1] by simp[aE,show i-1<L.length by omega]];exact this
theorem Hn {w:World} {g:Nat}(vs:List Value)(o:Nat):w.grownBy (w.setCells g o vs) (some g):=by
 have h:=Fv g vs o w;exact⟨h.1.1,h.1.2,h.1.3,h.2.1,fun k hk hne=>h.2.2 k hk fun e=>hne (by rw[e])⟩
end Go.Proofs.YtfofaiommeckbaaGreat
namespace Go.Proofs.YtfofaiommeckbaaGreat
open Go.RowKit WireM
def Eh (L:List Nat)(er:Nat):Nat×LeafD×List Nat×Nat:=
 let r1:=En L er
 let r2:=En r1.2.1 r1.2.2
 let r3:=En r2.2.1 r2.2.2
 let r4:=Gt r3.2.1 r3.2.2 1
 let s:=Ge r4.1
 if r4.2.2≠0 then(r4.2.2,noLeafD,r4.2)else
 if s<1\/3<s then(3,noLeafD,r4.2)else
 let r5:=if s=3 then En r4.2.1 r4.2.2 else([],r4.2)
 let r6:=En r5.2.1 r5.2.2
 if r6.2.2≠0 then(r6.2.2,noLeafD,r6.2)else
 if La ⟨r1.1,r2.1,r3.1,s,r5.1,r6.1⟩=true then(0,⟨r1.1,r2.1,r3.1,s,r5.1,r6.1⟩,r6.2)else(3,noLeafD,r6.2)
def Zg4:Nat->List Nat->List Int
 |0,_=>[]
 |k+1,L=>if 4<=L.length then((Ge (L.take 4):Nat):Int)::Zg4 k (L.drop 4)else []
def Hz (L:List Nat)(er:Nat):Nat×ParD×List Nat×Nat:=
 let r1:=En L er
 let r2:=En r1.2.1 r1.2.2
 let r3:=En r2.2.1 r2.2.2
 if r3.2.2≠0 then(r3.2.2,noParD,r3.2)else
 let l:=Zg4 r3.1.length r3.1
 if r3.1.length%4=0/\rpB r1.1.length r2.1.length l=true then(0,⟨r1.1,r2.1,l⟩,r3.2)else(3,noParD,r3.2)
def Cp (L:List Nat)(er:Nat):Nat×NodeD×List Nat×Nat:=
 let r:=Gt L er 1
 let k:=Ge r.1
 if r.2.2≠0 then(r.2.2,Ap,r.2)else
 if k=0 then(0,Ap,r.2)else
 if k=1 then(let q:=Eh r.2.1 r.2.2;if q.1=0 then(0,⟨1,q.2.1,noParD⟩,q.2.2)else(q.1,Ap,q.2.2))else
 if k=2 then(let q:=Hz r.2.1 r.2.2;if q.1=0 then(0,⟨2,noLeafD,q.2.1⟩,q.2.2)else(q.1,Ap,q.2.2))else
 (3,Ap,r.2)
theorem Et {v:List Nat}(hv:v.length<=1000)(R:List Nat):En (Ba v++R) 0=(v,R,0):=Zhq (by omega) R
theorem My {s:Nat}(hs:s<256)(R:List Nat):Gt (s::R) 0 1=([s],R,0):=by
 have:=Zhr (s:=1) (n:=s) (by decide) R;have e:beN 1 s=[s]:=(by unfold beN beN;simp;omega);rw[e]at this;simpa using this
theorem Xp (s:Nat):Ge [s]=s:=by simp[Ge]
theorem Zcg {d:LeafD}(h:La d=true)(R:List Nat):Eh (Jj d++Ba d.sig++R) 0=(0,d,R,0):=by
 have a:=h;unfold La rlB at a;have b:=oD a;obtain⟨f,g,i,j,k,l,m,n⟩:=b;unfold Eh Jj Oo;simp only[List.map_cons,List.map_nil,List.flatten_cons,List.flatten_nil,List.append_nil,cY];rw[Et (by omega)];simp only;rw[Et (by omega)];simp only;rw[Et (by omega)];simp only[iM,iO];rw[My (by omega)];simp only[Xp,ne_eq,not_true_eq_false,if_false];rw[iN (by omega)]
 by_cases hs:d.source=3
 ·simp only[hs,if_true];rw[Et (by omega)];simp only;rw[Et (by omega)];simp only[not_true_eq_false,if_false];have e:(⟨d.box,d.sign,d.ident,3,d.par,d.sig⟩:LeafD)=d:=(by rw[<-hs]);rw[e,h];simp
 ·simp only[hs,if_false,iO];rw[Et (by omega)];simp only[not_true_eq_false,if_false];have c:d.par=[]:=aA (by omega);have e:(⟨d.box,d.sign,d.ident,d.source,[],d.sig⟩:LeafD)=d:=(by rw[<-c]);rw[e,h];simp
theorem Zah:∀(L:List Int) (k:Nat),L.length<=k->(∀x∈L,0<=x/\x<65536)->Zg4 k (Cf L)=L
 |[],k,_,_=>by cases k<;>rfl
 |x::L,0,h,_=>by simp at h
 |x::L,k+1,h,hb=>by
  have hx:=hb x (by simp);have e:Cf (x::L)=beN 4 x.toNat++Cf L:=(by simp[Cf]);unfold Zg4;rw[e,iP (by rw[List.length_append,beN_len];omega)];have b:(beN 4 x.toNat).length=4:=beN_len _ _;rw[List.take_append_of_le_length (by omega),List.take_of_length_le (by omega),List.drop_append_of_le_length (by omega),List.drop_of_length_le (by omega),iO];rw[Zah L k (by simp at h;omega) fun y a=>hb y (gW _ a),Yy]
  congr 1
  omega
theorem Zf1 {p:ParD}(h:rpB p.box.length p.hash.length p.late=true)(d:p.late.length<=200)(R:List Nat):Hz (Zg2 p++R) 0=(0,p,R,0):=by
 have a:=h;unfold rpB at a;rw[cK]at a;have c:=oD a.2;have b:=Zjh.1 a.1;unfold Hz Zg2;simp only[cY];rw[Et (by omega)];simp only;rw[Et (by omega)];simp only;rw[Et (by rw[Fb];omega)];simp only[ne_eq,not_true_eq_false,if_false];rw[Zah _ _ (by rw[Fb];omega) b.2,h,Fb,iP ⟨by omega,rfl⟩]
theorem Zch {d:NodeD}(h:Aq d=true)(t:d.par.late.length<=200)(R:List Nat):Cp (Bk d++R) 0=(0,d,R,0):=by
 unfold Aq at h;unfold Cp Bk;obtain⟨k,l,p⟩:=d;simp only at h t|-
 by_cases h0:k=0
 ·subst h0;simp only[if_true]at h;rw[cK]at h;have g:=oD h.1;have h2:=oD h.2;simp only[iN (show¬(0=1) by omega),iN (show¬(0=2) by omega),iM,iO];rw[My (by omega)];simp only[Xp,ne_eq,not_true_eq_false,if_false,if_true];obtain⟨a,b,c,s,e,f⟩:=l;obtain⟨x,y,z⟩:=p;simp only at g h2;have i:a=[]:=aA (by omega);have e2:b=[]:=aA (by omega);have e3:c=[]:=aA (by omega);have j:e=[]:=aA (by omega);have m:f=[]:=aA (by omega);have n:x=[]:=aA (by omega);have o:y=[]:=aA (by omega);have q:z=[]:=aA (by omega);have r:s=0:=(by omega);subst i e2 e3 j m n o q r
  rfl
 ·by_cases g:k=1
  ·subst g;simp only[if_true,if_false,Nat.reduceEqDiff]at h;rw[cK]at h;have h2:=oD h.2;simp only[if_true,iM];rw[My (by omega)];simp only[Xp,ne_eq,not_true_eq_false,if_false,if_true,iN (show¬(1=0) by omega)];rw[Zcg (d:=l) h.1];simp only[if_true];obtain⟨x,y,z⟩:=p;simp only at h2;have n:x=[]:=aA (by omega);have o:y=[]:=aA (by omega);have q:z=[]:=aA (by omega);subst n o q
   rfl
  ·by_cases h2:k=2
   ·subst h2;simp only[if_true,if_false,Nat.reduceEqDiff]at h;rw[cK]at h;have h3:=oD h.1;simp only[if_true,iN (show¬(2=1) by omega),iM];rw[My (by omega)];simp only[Xp,ne_eq,not_true_eq_false,if_false,if_true,iN (show¬(2=0) by omega),iN (show¬(2=1) by omega)];rw[Zf1 h.2 t];simp only[if_true];obtain⟨a,b,c,s,e,f⟩:=l;simp only at h3;have i:a=[]:=aA (by omega);have e2:b=[]:=aA (by omega);have e3:c=[]:=aA (by omega);have j:e=[]:=aA (by omega);have m:f=[]:=aA (by omega);have r:s=0:=(by omega);subst i e2 e3 j m r
    rfl
   ·simp[h0,g,h2]at h
def Sub (M L:List Nat):Prop:=M.length<=L.length/\∀x∈M,x∈L
theorem Sub.refl (L:List Nat):Sub L L:=⟨lR,fun _ h=>h⟩
theorem Sub.trans {A B C:List Nat}(h:Sub A B)(k:Sub B C):Sub A C:=⟨eN h.1 k.1,fun x hx=>k.2 x (h.2 x hx)⟩
theorem Sub.nil (L:List Nat):Sub [] L:=⟨Nat.zero_le _,fun _ h=>by simp at h⟩
theorem Sub.drop (L:List Nat)(n:Nat):Sub (L.drop n) L:=⟨by rw[eD];omega,fun _ h=>List.mem_of_mem_drop h⟩
theorem Sub.take (L:List Nat)(n:Nat):Sub (L.take n) L:=⟨by rw[bW];omega,fun _ h=>List.mem_of_mem_take h⟩
def Zji (L:List Nat)(r:List Nat×List Nat×Nat):Prop:=Sub r.1 L/\Sub r.2.1 L/\r.1.length+r.2.1.length<=L.length
theorem Ok (L:List Nat)(er:Nat)(n:Int):Zji L (Cs L er n):=by
 unfold Cs
 split
 ·exact⟨Sub.nil _,Sub.refl _,by simp⟩
 ·split
  ·exact⟨Sub.nil _,Sub.refl _,by simp⟩
  ·split
   ·exact⟨Sub.nil _,Sub.refl _,by simp⟩
   ·exact⟨Sub.take _ _,Sub.drop _ _,by simp only[bW,eD];omega⟩
theorem Gs (L:List Nat)(er:Nat)(n:Int):Zji L (Gt L er n):=Ok _ _ _
theorem Xq (L:List Nat)(er:Nat):Sub (Db L er).2.1 L:=by
 unfold Db
 split
 ·exact Sub.refl _
 ·split
  ·exact Sub.refl _
  ·rename_i b M
   have hs:Sub M (b::M):=⟨by simp,fun x hx=>gW _ hx⟩;unfold Yp
   split
   ·exact hs
   ·split
    ·exact hs
    ·split<;>exact(Sub.drop _ _).trans hs
theorem Bh (L:List Nat)(er:Nat):Zji L (En L er):=by
 have h:=Xq L er;unfold En
 split
 ·rename_i M e hm
  rw[hm]at h;exact⟨Sub.nil _,h,by have:=h.1;simpa using this⟩
 ·rename_i n M e hm
  rw[hm]at h;obtain⟨p1,p2,p3⟩:=Ok M e (n:Int);exact⟨p1.trans h,p2.trans h,eN p3 h.1⟩
theorem Zf2 (L:List Nat):Cs L 0 1=match L with|[]=>([],[],4)|b::M=>([b],M,0):=by
 unfold Cs;cases L with
 |nil=>simp
 |cons b M=>simp only[ne_eq,not_true_eq_false,if_false];rw[iN (by omega),iN (by simp only[dB];omega)];simp
theorem Sk (L:List Nat):Gt L 0 1=match L with|[]=>([],[],4)|b::M=>([b],M,0):=by
 rw[Gt,iP (by decide)];exact Zf2 L
theorem Zjj (L:List Nat) {er:Nat}(h:er≠0)(n:Int):Cs L er n=([],L,er):=by rw[Cs,iP h]
theorem Zl0 (L:List Nat) {er:Nat}(h:er≠0)(n:Int):Gt L er n=([],L,er):=Zjj L h _
theorem Zjk {L:List Nat} {er:Nat} {n:Int}(h:(Cs L er n).2.2=0):er=0/\0<=n/\n<=L.length/\Cs L er n=(L.take n.toNat,L.drop n.toNat,0):=by
 unfold Cs at h|-
 split at h
 ·rename_i h1;exact absurd h h1
 ·rename_i h1
  split at h
  ·cases h
  ·rename_i h2
   split at h
   ·cases h
   ·rename_i h3
    rw[iN h1,iN h2,iN h3];exact⟨by simpa using h1,by omega,by omega,rfl⟩
theorem Zf3 {L:List Nat}(h:(Eh L 0).1=0):La (Eh L 0).2.1=true/\(Eh L 0).2.2.2=0/\Sub (Eh L 0).2.2.1 L/\
  ((∀n∈L,n<256)->(∀n∈(Eh L 0).2.1.box,n<256)/\(∀n∈(Eh L 0).2.1.sign,n<256)/\(∀n∈(Eh L 0).2.1.ident,n<256)/\(∀n∈(Eh L 0).2.1.par,n<256)/\∀n∈(Eh L 0).2.1.sig,n<256):=by
 unfold Eh at h|-;simp only at h|-;generalize hr1:En L 0=r1 at h|-;have c:=Bh L 0;rw[hr1]at c;generalize hr2:En r1.2.1 r1.2.2=r2 at h|-;have d:=Bh r1.2.1 r1.2.2;rw[hr2]at d;generalize hr3:En r2.2.1 r2.2.2=r3 at h|-;have e:=Bh r2.2.1 r2.2.2;rw[hr3]at e;generalize hr4:Gt r3.2.1 r3.2.2 1=r4 at h|-;have g:=Gs r3.2.1 r3.2.2 1;rw[hr4]at g
 split at h
 ·rename_i h1;exact absurd h h1
 ·rename_i h1
  split at h
  ·cases h
  ·rename_i h2
   generalize hr5:(if Ge r4.1=3 then En r4.2.1 r4.2.2 else([],r4.2))=r5 at h|-;have i:Zji r4.2.1 r5:=by
    rw[<-hr5]
    split
    ·exact Bh _ _
    ·exact⟨Sub.nil _,Sub.refl _,by simp⟩
   generalize hr6:En r5.2.1 r5.2.2=r6 at h|-;have f:=Bh r5.2.1 r5.2.2;rw[hr6]at f
   split at h
   ·rename_i h3;exact absurd h h3
   ·rename_i h3
    split at h
    ·rename_i h4
     rw[iN h1,iN h2,iN h3,iP h4];have j:=c.2.1;have k:=d.2.1.trans j;have o:=e.2.1.trans k;have l:=g.2.1.trans o;have m:=i.2.1.trans l;exact⟨h4,by simpa using h3,f.2.1.trans m,fun b=>⟨fun n a=>b n (c.1.2 n a),fun n a=>b n ((d.1.trans j).2 n a),fun n a=>b n ((e.1.trans k).2 n a),fun n a=>b n ((i.1.trans l).2 n a),fun n a=>b n ((f.1.trans m).2 n a)⟩⟩
    ·cases h
theorem Zai:∀(k:Nat) (L:List Nat),4*(Zg4 k L).length<=L.length
 |0,L=>by simp[Zg4]
 |k+1,L=>by
  unfold Zg4
  split
  ·have:=Zai k (L.drop 4);rw[eD]at this;rw[dB];omega
  ·simp
theorem Zjl {L:List Nat}(h:(Hz L 0).1=0):rpB (Hz L 0).2.1.box.length (Hz L 0).2.1.hash.length (Hz L 0).2.1.late=true/\(Hz L 0).2.2.2=0/\Sub (Hz L 0).2.2.1 L/\4*(Hz L 0).2.1.late.length<=L.length/\
  ((∀n∈L,n<256)->(∀n∈(Hz L 0).2.1.box,n<256)/\∀n∈(Hz L 0).2.1.hash,n<256):=by
 unfold Hz at h|-;simp only at h|-;generalize hr1:En L 0=r1 at h|-;have b:=Bh L 0;rw[hr1]at b;generalize hr2:En r1.2.1 r1.2.2=r2 at h|-;have c:=Bh r1.2.1 r1.2.2;rw[hr2]at c;generalize hr3:En r2.2.1 r2.2.2=r3 at h|-;have d:=Bh r2.2.1 r2.2.2;rw[hr3]at d
 split at h
 ·rename_i h1;exact absurd h h1
 ·rename_i h1
  split at h
  ·rename_i h2
   rw[iN h1,iP h2];have f:=b.2.1;have g:=c.2.1.trans f;have i:=Zai r3.1.length r3.1;have h3:=(d.1.trans g).1;exact⟨h2.2,by simpa using h1,d.2.1.trans g,by simp only;omega,fun e=>⟨fun n a=>e n (b.1.2 n a),fun n a=>e n ((c.1.trans f).2 n a)⟩⟩
  ·cases h
theorem Lv {α:Type} {P: α->Prop}:∀n∈([]:List α),P n:=fun n h=>by simp at h
structure TkOk (L:List Nat) (d:NodeD) (R:List Nat):Prop where
 right:Aq d=true
 sub:Sub R L
 len:R.length<L.length
 late:4*d.par.late.length<=L.length
 ok:(∀n∈L,n<256)->NodeOk d
theorem Xr:nlB noLeafD.box.length noLeafD.sign.length noLeafD.ident.length noLeafD.source noLeafD.par.length noLeafD.sig.length=true:=by decide
theorem Zci:npB noParD.box.length noParD.hash.length noParD.late.length=true:=by decide
theorem Vb {L:List Nat}(h:(Cp L 0).1=0):(Cp L 0).2.2.2=0/\TkOk L (Cp L 0).2.1 (Cp L 0).2.2.1:=by
 unfold Cp at h|-;simp only[Sk]at h|-;cases L with
 |nil=>simp at h
 |cons b M=>
  have i:Sub M (b::M):=⟨by simp,fun x hx=>gW _ hx⟩;simp only[Xp,ne_eq,not_true_eq_false,if_false]at h|-
  by_cases h0:b=0
  ·rw[iP h0]at h|-;exact⟨rfl,(by decide:Aq Ap=true),i,by simp,by simp[Ap,noParD],fun _=>Gh⟩
  ·rw[iN h0]at h|-
   by_cases h1:b=1
   ·rw[iP h1]at h|-
    split at h
    ·rename_i h2
     rw[iP h2];obtain⟨a,e,c,f⟩:=Zf3 h2;generalize Eh M 0=q at h2 a e c f|-;refine⟨e,?_,c.trans i,by have:=c.1;simp only[dB];omega,by simp[noParD],fun g=> ?_⟩
     ·show(rlB _ _ _ _ _ _&&npB _ _ _)=true;rw[Zci,Bool.and_true];exact a
     ·obtain⟨c1,c2,c3,c4,c5⟩:=f fun n d=>g n (gW _ d);have:=oD (p:=_) a;exact⟨show 1<256 by omega,by simp only;omega,c1,c2,c3,c4,c5,Lv,Lv,Lv⟩
    ·rename_i h2;exact absurd h h2
   ·rw[iN h1]at h|-
    by_cases h2:b=2
    ·rw[iP h2]at h|-
     split at h
     ·rename_i h3
      rw[iP h3];obtain⟨a,e,c,k,f⟩:=Zjl h3;generalize Hz M 0=q at h3 a e c k f|-;refine⟨e,?_,c.trans i,by have:=c.1;simp only[dB];omega,by simp only[dB];omega,fun g=> ?_⟩
      ·show(nlB noLeafD.box.length noLeafD.sign.length noLeafD.ident.length noLeafD.source noLeafD.par.length noLeafD.sig.length&&rpB q.2.1.box.length q.2.1.hash.length q.2.1.late)=true;rw[Xr,Bool.true_and];exact a
      ·obtain⟨c1,c2⟩:=f fun n d=>g n (gW _ d);have j:=Fu (by unfold rpB at a;rw[cK]at a;exact a.1);exact⟨show 2<256 by omega,show 0<256 by omega,Lv,Lv,Lv,Lv,Lv,c1,c2,fun n d=>by have:=j n d;omega⟩
     ·rename_i h3;exact absurd h h3
    ·rw[iN h2]at h;simp at h
section
theorem Only.alloc {B:Nat} {a w:World}(h:Only B a w)(o:Obj):Only B a (w.alloc o):=h.trans (Only.of (bR.alloc lR o))
theorem Only.then {B:Nat} {a b c:World}(h:Only B a b)(k:Below a.heap.size b c):Only B a c:=
 ⟨k.os.trans h.os,k.tape.trans h.tape,k.output.trans h.output,eN h.size k.size,fun i hi hne=>(k.block i hi).trans (h.block i hi hne)⟩
theorem Blk.only {w w':World} {g C:Nat} {t:TypeId} {cs:Array Value}(h:Blk w g t cs)(ho:Only C w w')(hne:g≠C):Blk w' g t cs:=
 (ho.block g h.lt (fun e=>hne (by simpa using e))).trans h
theorem Own.other {w w':World} {B q:Nat} {e t:TypeId} {v:Value} {xs:List Value} {cs:Array Value}(h:Own w B e v xs)(m:Blk w q t cs)(j:e≠t)(o:∀i,i<w.heap.size->i≠q->w'.heap[i]? =w.heap[i]?):Own w' B e v xs:=by
 have p:=h.ne_blk m j;have f:∀g,v.ownBlock=some g->g<w.heap.size:=by
  intro g b;rcases h.2 with⟨rfl,_⟩|⟨c,k,a,rfl,n,d,_⟩
  ·simp[Value.ownBlock]at b
  ·simp[Value.ownBlock]at b;subst b;exact(Array.getElem?_eq_some_iff.1 d).1
 obtain⟨l,r|⟨c,k,a,rfl,b,d,rest⟩⟩:=h
 ·exact⟨l,.inl r⟩
 ·exact⟨l,.inr ⟨c,k,a,rfl,b,by rw[o c (f c (by simp[Value.ownBlock])) (fun e=>p (by simp[Value.ownBlock,e]))];exact d,rest⟩⟩
theorem Own.setO {w:World} {B q:Nat} {e t:TypeId} {v:Value} {xs:List Value} {cs:Array Value}(h:Own w B e v xs)(hb:Blk w q t cs)(hne:e≠t)(i:Nat)(u:Value):Own (w.setCell ⟨q,i,rJ⟩ u) B e v xs:=
 h.other hb hne fun j _ hj=>Below.heap_setCell w _ u j hj
theorem RS.setO {w:World} {B q:Nat} {L:List Nat} {er:Nat}(h:RS w B L er)(hq:B<q)(i:Nat)(u:Value):RS (w.setCell ⟨q,i,rJ⟩ u) B L er:=
 h.low ((Below.refl q w).setCell (by simp) u) hq
theorem Ia {w:World} {B:Nat} {v:Value} {L:List Nat}(h:Own w B 5 v (bvs L)):∃a c,v=.slice a L.length c:=by
 obtain⟨a,c,e,_⟩:=h.rd;rw[bvs_len]at e;exact⟨a,c,e⟩
theorem Qk {B:Nat} {a b c:World}(h:Only B a b)(k:Below b.heap.size b c):Only B a c:=h.then (k.mono h.size)
theorem Bo {B:Nat} {a b c:World}(h:Only B a b)(k:Below a.heap.size b c):Only B a c:=h.then k
theorem Xs {B:Nat} {a b:World}(h:Only B a b) {q:Nat}(hq:a.heap.size<=q)(i:Nat)(u:Value):Only B a (b.setCell ⟨q,i,rJ⟩ u):=
 h.then ((Below.refl a.heap.size b).setCell hq u)
def Al (w:World)(g:Nat)(l:List (Value×List Nat)):Prop:=∀p∈l,Own w g 5 p.1 (bvs p.2)
section
variable {w w':World} {g B q:Nat} {l:List (Value×List Nat)} {v:Value} {L:List Nat} {t:TypeId} {cs:Array Value}
theorem Al.nil (w:World)(g:Nat):Al w g []:=fun p h=>by simp at h
theorem Al.cons (h:Al w g l)(hv:Own w g 5 v (bvs L)):Al w g ((v,L)::l):=fun p hp=>by
 rcases List.mem_cons.1 hp with rfl|hp
 ·exact hv
 ·exact h p hp
theorem Al.only (h:Al w g l)(ho:Only B w w')(hB:B<g):Al w' g l:=fun p hp=>(h p hp).only ho hB
theorem Al.below (h:Al w g l)(hb:Below w.heap.size w w'):Al w' g l:=fun p hp=>(h p hp).below hb lR
theorem Al.mono (h:Al w g l) {g':Nat}(hg:g'<=g):Al w g' l:=fun p hp=>(h p hp).mono hg
theorem Al.setO (h:Al w g l)(hb:Blk w q t cs)(hne:(5:TypeId)≠t)(i:Nat)(u:Value):Al (w.setCell ⟨q,i,rJ⟩ u) g l:=fun p hp=>(h p hp).setO hb hne i u
theorem Al.other (h:Al w g l)(hb:Blk w q t cs)(hne:(5:TypeId)≠t)(ho:∀i,i<w.heap.size->i≠q->w'.heap[i]? =w.heap[i]?):Al w' g l:=fun p hp=>(h p hp).other hb hne ho
theorem Al.nth (h:Al w g l)(i:Nat)(hi:l[i]? =some (v,L)):Own w g 5 v (bvs L):=h _ (List.mem_of_getElem? hi)
end
theorem LeafO.none (w:World)(B:Nat):LeafO w B noLeafD #[rD rJ 0 0,rD rJ 0 0,rD rJ 0 0,rE rH 0,rD rJ 0 0,rD rJ 0 0]:=⟨_,_,_,_,_,rfl,Own.nil _ _ _,Own.nil _ _ _,Own.nil _ _ _,Own.nil _ _ _,Own.nil _ _ _⟩
def Zjm (B:Nat)(w:World)(r:Nat×LeafD×List Nat×Nat)(e:Ending)(w':World):Prop:=
 ∃c,e=rM (.tuple #[.agg c,rE rH (r.1:Nat)])/\LeafO w' w.heap.size r.2.1 c/\RS w' B r.2.2.1 r.2.2.2/\Only B w w'
theorem Xt (F G H E t L0 L1 L2 L3 L4 L5 L6:List Nat) (e1 e2 e3 X e5 P s B:Nat) (r:Nat×LeafD×List Nat×Nat) (w:World) (h:RS w B L0 0)
  (C1:∀W,RS W B L0 0->Calls prog 254 #[rF (some ⟨B,0,rJ⟩)] W (Lz B W (F,L1,e1)))
  (C2:∀W,RS W B L1 e1->Calls prog 254 #[rF (some ⟨B,0,rJ⟩)] W (Lz B W (G,L2,e2)))
  (C3:∀W,RS W B L2 e2->Calls prog 254 #[rF (some ⟨B,0,rJ⟩)] W (Lz B W (H,L3,e3)))
  (C4:∀W,RS W B L3 e3->Calls prog 154 #[rF (some ⟨B,0,rJ⟩),rE .i64 1] W fun e W'=>e=rM (rE .u64 (s:Nat))/\RS W' B L4 X/\Only B W W')
  (C5:s=3->∀W,RS W B L4 X->Calls prog 254 #[rF (some ⟨B,0,rJ⟩)] W (Lz B W (E,L5,e5)))
  (N5:s≠3->E=[]/\L5=L4/\e5=X)
  (C6:∀W,RS W B L5 e5->Calls prog 254 #[rF (some ⟨B,0,rJ⟩)] W (Lz B W (t,L6,P)))
  (hs:s<256)
  (X4:X≠0->r=(X,noLeafD,L4,X)) (XS:X=0->s<1\/3<s->r=(3,noLeafD,L4,X)) (X6:X=0->¬(s<1\/3<s)->P≠0->r=(P,noLeafD,L6,P))
  (XB:X=0->¬(s<1\/3<s)->P=0->∀b,rlB F.length G.length H.length s E.length t.length=b->r=if b=true then(0,⟨F,G,H,s,E,t⟩,L6,P)else(3,noLeafD,L6,P)):
  Calls prog 218 #[rF (some ⟨B,0,rJ⟩)] w (Zjm B w r):=by
 have hB:=h.lt;obtain⟨g,hg⟩:=eX w.heap.size;have N:=Hd hg;have u:=Hd (show B<g by omega);obtain⟨w0,aA⟩:=eX (w.alloc (rK #[rD rJ 0 0,rD rJ 0 0,rD rJ 0 0,rE rH 0,rD rJ 0 0,rD rJ 0 0] 44));have bL:=Hd aA;have aX:=Hd (show g+1<=w0.heap.size by rw[aA,hg];simp);have G0:=Hd (show Blk w0 g 44 #[rD rJ 0 0,rD rJ 0 0,rD rJ 0 0,rE rH 0,rD rJ 0 0,rD rJ 0 0] by rw[aA,hg];exact Blk.new _ _ _);have A0:=Hd (Al.nil w0 (g+1));have O0:=Hd (show Only B w w0 by rw[aA];exact(Only.refl _ _).alloc _);have R0:=Hd (show RS w0 B L0 0 by rw[aA];exact h.low ((Below.refl w.heap.size w).alloc lR (rK #[rD rJ 0 0,rD rJ 0 0,rD rJ 0 0,rE rH 0,rD rJ 0 0,rD rJ 0 0] 44)) hB);have bF:=Hd C1;have bG:=Hd C2;have bH:=Hd C3;have bI:=Hd C4;have bJ:=Hd C5;have bK:=Hd N5;have aR:=Hd C6;have bM:=Hd X4;have bN:=Hd XS;have aV:=Hd X6;have aW:=Hd XB;have aJ:=Hd fun(L:List Nat) (er:Nat) W=>Gv B L er W;have aS:=Hd @Jh;obtain⟨S,hS⟩:=eX (Zjm B w r);rw[<-hS];have HS:=Hd (show∀(e:Ending) (w':World) {c:Array Value} {k:Nat} {d:LeafD} {R:List Nat} {re:Nat},e=rM (.tuple #[.agg c,rE rH (k:Nat)])->r=(k,d,R,re)->LeafO w' w.heap.size d c->RS w' B R re->Only B w w'->S e w' from by
  rintro e w' c k d R re rfl rfl h1 h2 h3;rw[hS];exact⟨c,rfl,h1,h2,h3⟩)
 clear h hB hg aA C1 C2 C3 C4 C5 N5 C6 X4 XS X6 XB hS;go_in;go_wp2_with fail;rw[<-bL.out,<-N.out];refine(bF.out w0 R0.out).mono ?_;rintro e w1 ⟨u1,rfl,m,o,a⟩;obtain⟨T,c1,rfl⟩:=Ia m;have D:=m.mono (B':=g+1) aX.out;have aY:=Hd (eN aX.out a.size);have A1:=Hd (A0.out.only a (by have:=u.out;omega));have G1:=Hd (G0.out.only a (by have:=u.out;omega));have O1:=Hd (O0.out.trans a);have R1:=Hd o;replace A1:=Hd (A1.out.cons D);clear m o a D;go_wp2_with fail;refine(bG.out w1 R1.out).mono ?_;rintro e w2 ⟨u2,rfl,m,o,a⟩;obtain⟨U,c2,rfl⟩:=Ia m;have D:=m.mono (B':=g+1) aY.out;have aZ:=Hd (eN aY.out a.size);have A2:=Hd (A1.out.only a (by have:=u.out;omega));have G2:=Hd (G1.out.only a (by have:=u.out;omega));have O2:=Hd (O1.out.trans a);have R2:=Hd o;replace A2:=Hd (A2.out.cons D);clear m o a D;go_wp2_with fail;refine(bH.out w2 R2.out).mono ?_;rintro e w3 ⟨u3,rfl,m,o,a⟩;obtain⟨V,c3,rfl⟩:=Ia m;have D:=m.mono (B':=g+1) aZ.out;have bO:=Hd (eN aZ.out a.size);have A3:=Hd (A2.out.only a (by have:=u.out;omega));have G3:=Hd (G2.out.only a (by have:=u.out;omega));have O3:=Hd (O2.out.trans a);have R3:=Hd o;replace A3:=Hd (A3.out.cons D);clear m o a D;go_wp2_with fail;refine(bI.out w3 R3.out).mono ?_;rintro e w4 ⟨rfl,o,a⟩;have a0:=Hd (eN bO.out a.size);have A4:=Hd (A3.out.only a (by have:=u.out;omega));have G4:=Hd (G3.out.only a (by have:=u.out;omega));have O4:=Hd (O3.out.trans a);have R4:=Hd o;clear o a;obtain⟨q,hq⟩:=eX w4.heap.size;have HQ:=Hd hq;have z:=Hd (show g+1<=q by rw[hq];exact a0.out);have bV:IntKind.u8.wrap (s:Int)=(s:Int):=(by rw[IntKind.wrap_u8];omega);clear hq;go_wp2_with (refine Aa rfl 44 (.tmp 4) (.tmp 16) rfl w4.heap.size #[.slice T F.length c1,.slice U G.length c2,.slice V H.length c3,rE rH s,rD rJ 0 0,rD rJ 0 0] rfl rfl 44 #[rD rJ 0 0,rD rJ 0 0,rD rJ 0 0,rE rH 0,rD rJ 0 0,rD rJ 0 0] (Blk.new _ _ _) (by kernel_rfl) rfl rfl ?_);rintro w5 f l n j;have A:Below w4.heap.size w4 w5:=(bR.alloc lR _).trans (l _ lR);have aF:=Hd (eN a0.out A.size);have A5:=Hd (A4.out.below A);have G5:=Hd (G4.out.below A G4.out.lt);have O5:=Hd (Qk O4.out A);have R5:=Hd (R4.out.below A);rw[<-HQ.out]at f|-;have Q5:=Hd f;have y3:=f.cell 3;simp only[bY,bZ,cA]at y3;clear f l n j A bV;go_wp2_with fail;refine(aJ.out _ _ _ R5.out).mono ?_;rintro e w' ⟨rfl,rfl⟩
 by_cases h4:X=0
 ·have aB:=Hd h4;have bS:((X:Int) !=0)=false:=by rw[bne_eq_false_iff_eq];omega
  by_cases hs1:s<1\/3<s
  ·have aG:=Hd (bN.out aB.out hs1);clear h4
   by_cases hs0:s<1
   ·have bB:decide ((s:Int)<1)=true:=dT (by omega);clear hs0 hs1;go_wp2_with (refine Aa rfl 44 (.tmp 2) (.tmp 31) rfl g #[rD rJ 0 0,rD rJ 0 0,rD rJ 0 0,rE rH 0,rD rJ 0 0,rD rJ 0 0] rfl rfl 44 #[rD rJ 0 0,rD rJ 0 0,rD rJ 0 0,rE rH 0,rD rJ 0 0,rD rJ 0 0] G5.out (by kernel_rfl) rfl rfl ?_);rintro w9 f l n j;have Z:=Hd f;have K:=Hd (Bo O5.out (l w.heap.size (by rw[N.out];exact lR)));have I:=Hd (R5.out.low (l g lR) u.out);clear f l n j;go_wp2_with fail;refine bodyPost_ret (v:=.tuple #[.agg #[rD rJ 0 0,rD rJ 0 0,rD rJ 0 0,rE rH 0,rD rJ 0 0,rD rJ 0 0],rE rH 3]) (Ad results218 _ _ g _ _ _ rfl Z.out underlying44 rfl (by kernel_rfl)) rfl ?_;exact HS.out _ _ rfl aG.out (LeafO.none _ _) I.out K.out
   ·have bB:decide ((s:Int)<1)=false:=dF (by omega);have bT:decide ((s:Int)>3)=true:=dT (by omega);clear hs0 hs1;go_wp2_with (refine Aa rfl 44 (.tmp 2) (.tmp 31) rfl g #[rD rJ 0 0,rD rJ 0 0,rD rJ 0 0,rE rH 0,rD rJ 0 0,rD rJ 0 0] rfl rfl 44 #[rD rJ 0 0,rD rJ 0 0,rD rJ 0 0,rE rH 0,rD rJ 0 0,rD rJ 0 0] G5.out (by kernel_rfl) rfl rfl ?_);rintro w9 f l n j;have Z:=Hd f;have K:=Hd (Bo O5.out (l w.heap.size (by rw[N.out];exact lR)));have I:=Hd (R5.out.low (l g lR) u.out);clear f l n j;go_wp2_with fail;refine bodyPost_ret (v:=.tuple #[.agg #[rD rJ 0 0,rD rJ 0 0,rD rJ 0 0,rE rH 0,rD rJ 0 0,rD rJ 0 0],rE rH 3]) (Ad results218 _ _ g _ _ _ rfl Z.out underlying44 rfl (by kernel_rfl)) rfl ?_;exact HS.out _ _ rfl aG.out (LeafO.none _ _) I.out K.out
  ·have bB:decide ((s:Int)<1)=false:=dF (by omega);have bT:decide ((s:Int)>3)=false:=dF (by omega);have aE:=Hd hs1;clear hs1 h4
   by_cases hs3:s=3
   ·have bU:((s:Int)==3)=true:=(by rw[beq_iff_eq];omega);have aQ:=Hd (bJ.out hs3);clear hs3;go_wp2_with fail;refine(aQ.out w5 R5.out).mono ?_;rintro e w6 ⟨u5,rfl,m,o,a⟩;obtain⟨O,c5,rfl⟩:=Ia m;have D:=m.mono (B':=g+1) aF.out;have aL:=Hd (eN aF.out a.size);have A6:=Hd (A5.out.only a (by have:=u.out;omega));have G6:=Hd (G5.out.only a (by have:=u.out;omega));have Q6:=Hd (Q5.out.only a (by have:=u.out;have:=z.out;omega));have O6:=Hd (O5.out.trans a);have R6:=Hd o;replace A6:=Hd (A6.out.cons D);have M:=Q6.out;have y4:=M.cell 4;have z4:=M.frozen 4;simp only[bY,bZ,cA]at y4;have Q7:=Hd (show Blk (w6.setCell ⟨q,4,rJ⟩ (.slice O E.length c5)) q 44 #[.slice T F.length c1,.slice U G.length c2,.slice V H.length c3,rE rH s,.slice O E.length c5,rD rJ 0 0]from by simpa using M.set 4 (.slice O E.length c5));have Y:=Hd (show g+1<=(w6.setCell ⟨q,4,rJ⟩ (.slice O E.length c5)).heap.size by have:=aL.out;simpa using this);have A7:=Hd (A6.out.setO M (by decide) 4 (.slice O E.length c5));have G7:=Hd (G6.out.far (p:=⟨q,4,rJ⟩) (by have:=z.out;simp only;omega) (.slice O E.length c5));have R7:=Hd (R6.out.setO (q:=q) (by have:=u.out;have:=z.out;omega) 4 (.slice O E.length c5));have O7:=Hd (Xs O6.out (q:=q) (by have:=z.out;have:=N.out;omega) 4 (.slice O E.length c5));generalize hwk:w6.setCell ⟨q,4,rJ⟩ (.slice O E.length c5)=w7 at Q7 Y A7 G7 R7 O7;have aC:=Hd hwk;clear hwk;clear m o a D M y3;go_wp2_with fail;rw[aC.out];refine(aR.out w7 R7.out).mono ?_;rintro e w8 ⟨u6,rfl,m,o,a⟩;obtain⟨x,y,rfl⟩:=Ia m;have D:=m.mono (B':=g+1) Y.out;have a4:=Hd (eN Y.out a.size);have A8:=Hd (A7.out.only a (by have:=u.out;omega));have G8:=Hd (G7.out.only a (by have:=u.out;omega));have Q8:=Hd (Q7.out.only a (by have:=u.out;have:=z.out;omega));have O8:=Hd (O7.out.trans a);have R8:=Hd o;replace A8:=Hd (A8.out.cons D);have M:=Q8.out;have y5:=M.cell 5;have z5:=M.frozen 5;simp only[bY,bZ,cA]at y5;have Q9:=Hd (show Blk (w8.setCell ⟨q,5,rJ⟩ (.slice x t.length y)) q 44 #[.slice T F.length c1,.slice U G.length c2,.slice V H.length c3,rE rH s,.slice O E.length c5,.slice x t.length y]from by simpa using M.set 5 (.slice x t.length y));have a7:=Hd (show g+1<=(w8.setCell ⟨q,5,rJ⟩ (.slice x t.length y)).heap.size by have:=a4.out;simpa using this);have A9:=Hd (A8.out.setO M (by decide) 5 (.slice x t.length y));have G9:=Hd (G8.out.far (p:=⟨q,5,rJ⟩) (by have:=z.out;simp only;omega) (.slice x t.length y));have I:=Hd (R8.out.setO (q:=q) (by have:=u.out;have:=z.out;omega) 5 (.slice x t.length y));have K:=Hd (Xs O8.out (q:=q) (by have:=z.out;have:=N.out;omega) 5 (.slice x t.length y));generalize hwk:w8.setCell ⟨q,5,rJ⟩ (.slice x t.length y)=w9 at Q9 a7 A9 G9 I K;have aT:=Hd hwk;clear hwk;clear m o a D M;go_wp2_with fail;rw[aT.out];refine(aJ.out _ _ _ I.out).mono ?_;rintro e w' ⟨rfl,rfl⟩;clear y5 z5
    by_cases h6:P=0
    ·have aI:=Hd h6;have aP:((P:Int) !=0)=false:=(by rw[bne_eq_false_iff_eq];omega);clear h6;go_wp2_with (refine As rfl 44 (.tmp 4) rfl q rfl 44 #[.slice T F.length c1,.slice U G.length c2,.slice V H.length c3,rE rH s,.slice O E.length c5,.slice x t.length y] (0,0) _ Q9.out underlying44 rfl (by kernel_rfl) ?_);refine(aS.out T U V O x F.length G.length H.length E.length t.length c1 c2 c3 c5 y s _).mono ?_;rintro e b0 ⟨rfl,A⟩;have bX:=Hd (eN a7.out A.size);have bE:=Hd (A9.out.below A);have aH:=Hd (G9.out.below A G9.out.lt);have bP:=Hd (Q9.out.below A Q9.out.lt);have a8:=Hd (Qk K.out A);have a9:=Hd (I.out.below A);clear A;obtain⟨RB,Q⟩:=eX (rlB F.length G.length H.length s E.length t.length);rw[<-Q];have J:=Hd (aW.out aB.out aE.out aI.out RB (by rw[Q]));clear Q;cases RB with
     |false=>
      go_wp2_with (refine Aa rfl 44 (.tmp 2) (.tmp 50) rfl g #[rD rJ 0 0,rD rJ 0 0,rD rJ 0 0,rE rH 0,rD rJ 0 0,rD rJ 0 0] rfl rfl 44 #[rD rJ 0 0,rD rJ 0 0,rD rJ 0 0,rE rH 0,rD rJ 0 0,rD rJ 0 0] aH.out (by kernel_rfl) rfl rfl ?_);rintro w9 f l n j;have Z:=Hd f;have K:=Hd (Bo a8.out (l w.heap.size (by rw[N.out];exact lR)));have I:=Hd (a9.out.low (l g lR) u.out);clear f l n j;go_wp2_with fail;refine bodyPost_ret (v:=.tuple #[.agg #[rD rJ 0 0,rD rJ 0 0,rD rJ 0 0,rE rH 0,rD rJ 0 0,rD rJ 0 0],rE rH 3]) (Ad results218 _ _ g _ _ _ rfl Z.out underlying44 rfl (by kernel_rfl)) rfl ?_;exact HS.out _ _ rfl J.out (LeafO.none _ _) I.out K.out
     |true=>
      go_wp2_with (first|(refine As rfl 44 (.tmp 4) rfl q rfl 44 #[.slice T F.length c1,.slice U G.length c2,.slice V H.length c3,rE rH s,.slice O E.length c5,.slice x t.length y] (0,0) _ bP.out underlying44 rfl (by kernel_rfl) ?_)|(refine Aa rfl 44 (.tmp 2) (.tmp 51) rfl g #[.slice T F.length c1,.slice U G.length c2,.slice V H.length c3,rE rH s,.slice O E.length c5,.slice x t.length y] rfl rfl 44 #[rD rJ 0 0,rD rJ 0 0,rD rJ 0 0,rE rH 0,rD rJ 0 0,rD rJ 0 0] aH.out (by kernel_rfl) rfl rfl ?_));rintro bW f l n j;have aN:=Hd f;have aM:=Hd (Bo a8.out (l w.heap.size (by rw[N.out];exact lR)));have aO:=Hd (a9.out.low (l g lR) u.out);have C:=Hd ((bE.out.other aH.out (by decide) (fun i _ D=>n i D)).mono (gJ g));clear f l n j;go_wp2_with fail;refine bodyPost_ret (v:=.tuple #[.agg #[.slice T F.length c1,.slice U G.length c2,.slice V H.length c3,rE rH s,.slice O E.length c5,.slice x t.length y],rE rH 0]) (Ad results218 _ _ g _ _ _ rfl aN.out underlying44 rfl (by kernel_rfl)) rfl ?_;refine HS.out _ _ rfl J.out ?_ aO.out aM.out;rw[<-N.out];exact⟨_,_,_,_,_,rfl,C.out.nth 4 rfl,C.out.nth 3 rfl,C.out.nth 2 rfl,C.out.nth 1 rfl,C.out.nth 0 rfl⟩
    ·have aD:=Hd (aV.out aB.out aE.out h6);have aP:((P:Int) !=0)=true:=(by rw[bne_iff_ne];omega);clear h6;go_wp2_with (refine Aa rfl 44 (.tmp 2) (.tmp 45) rfl g #[rD rJ 0 0,rD rJ 0 0,rD rJ 0 0,rE rH 0,rD rJ 0 0,rD rJ 0 0] rfl rfl 44 #[rD rJ 0 0,rD rJ 0 0,rD rJ 0 0,rE rH 0,rD rJ 0 0,rD rJ 0 0] G9.out (by kernel_rfl) rfl rfl ?_);rintro w9 f l n j;have Z:=Hd f;have K:=Hd (Bo K.out (l w.heap.size (by rw[N.out];exact lR)));have I:=Hd (I.out.low (l g lR) u.out);clear f l n j;go_wp2_with fail;refine bodyPost_ret (v:=.tuple #[.agg #[rD rJ 0 0,rD rJ 0 0,rD rJ 0 0,rE rH 0,rD rJ 0 0,rD rJ 0 0],rE rH (P:Nat)]) (Ad results218 _ _ g _ _ _ rfl Z.out underlying44 rfl (by kernel_rfl)) rfl ?_;exact HS.out _ _ rfl aD.out (LeafO.none _ _) I.out K.out
   ·have bU:((s:Int)==3)=false:=(by rw[qN];omega);obtain⟨bD,bC,bA⟩:=bK.out hs3;have aK:=Hd bD;have bQ:=Hd (show RS w5 B L5 e5 by rw[bC,bA];exact R5.out);clear hs3 bD bC bA;go_wp2_with fail;refine(aR.out w5 bQ.out).mono ?_;rintro e w6 ⟨u6,rfl,m,o,a⟩;obtain⟨x,y,rfl⟩:=Ia m;have D:=m.mono (B':=g+1) aF.out;have aL:=Hd (eN aF.out a.size);have A6:=Hd (A5.out.only a (by have:=u.out;omega));have G6:=Hd (G5.out.only a (by have:=u.out;omega));have Q6:=Hd (Q5.out.only a (by have:=u.out;have:=z.out;omega));have O6:=Hd (O5.out.trans a);have R6:=Hd o;replace A6:=Hd (A6.out.cons D);have M:=Q6.out;have y5:=M.cell 5;have z5:=M.frozen 5;simp only[bY,bZ,cA]at y5;have Q7:=Hd (show Blk (w6.setCell ⟨q,5,rJ⟩ (.slice x t.length y)) q 44 #[.slice T F.length c1,.slice U G.length c2,.slice V H.length c3,rE rH s,rD rJ 0 0,.slice x t.length y]from by simpa using M.set 5 (.slice x t.length y));have Y:=Hd (show g+1<=(w6.setCell ⟨q,5,rJ⟩ (.slice x t.length y)).heap.size by have:=aL.out;simpa using this);have A7:=Hd (A6.out.setO M (by decide) 5 (.slice x t.length y));have G7:=Hd (G6.out.far (p:=⟨q,5,rJ⟩) (by have:=z.out;simp only;omega) (.slice x t.length y));have R7:=Hd (R6.out.setO (q:=q) (by have:=u.out;have:=z.out;omega) 5 (.slice x t.length y));have O7:=Hd (Xs O6.out (q:=q) (by have:=z.out;have:=N.out;omega) 5 (.slice x t.length y));generalize hwk:w6.setCell ⟨q,5,rJ⟩ (.slice x t.length y)=w7 at Q7 Y A7 G7 R7 O7;have aC:=Hd hwk;clear hwk;clear m o a D M;go_wp2_with fail;rw[aC.out];refine(aJ.out _ _ _ R7.out).mono ?_;rintro e w' ⟨rfl,rfl⟩;clear y5 z5
    by_cases h6:P=0
    ·have aI:=Hd h6;have aP:((P:Int) !=0)=false:=(by rw[bne_eq_false_iff_eq];omega);clear h6;go_wp2_with (refine As rfl 44 (.tmp 4) rfl q rfl 44 #[.slice T F.length c1,.slice U G.length c2,.slice V H.length c3,rE rH s,rD rJ 0 0,.slice x t.length y] (0,0) _ Q7.out underlying44 rfl (by kernel_rfl) ?_);refine(aS.out T U V none x F.length G.length H.length 0 t.length c1 c2 c3 0 y s _).mono ?_;rintro e w8 ⟨rfl,A⟩;have a4:=Hd (eN Y.out A.size);have A8:=Hd (A7.out.below A);have G8:=Hd (G7.out.below A G7.out.lt);have Q8:=Hd (Q7.out.below A Q7.out.lt);have O8:=Hd (Qk O7.out A);have R8:=Hd (R7.out.below A);clear A;obtain⟨RB,Q⟩:=eX (rlB F.length G.length H.length s 0 t.length);rw[<-Q];have J:=Hd (aW.out aB.out aE.out aI.out RB (by rw[Q];rw[aK.out];rfl));clear Q;cases RB with
     |false=>
      go_wp2_with (refine Aa rfl 44 (.tmp 2) (.tmp 50) rfl g #[rD rJ 0 0,rD rJ 0 0,rD rJ 0 0,rE rH 0,rD rJ 0 0,rD rJ 0 0] rfl rfl 44 #[rD rJ 0 0,rD rJ 0 0,rD rJ 0 0,rE rH 0,rD rJ 0 0,rD rJ 0 0] G8.out (by kernel_rfl) rfl rfl ?_);rintro w9 f l n j;have Z:=Hd f;have K:=Hd (Bo O8.out (l w.heap.size (by rw[N.out];exact lR)));have I:=Hd (R8.out.low (l g lR) u.out);clear f l n j;go_wp2_with fail;refine bodyPost_ret (v:=.tuple #[.agg #[rD rJ 0 0,rD rJ 0 0,rD rJ 0 0,rE rH 0,rD rJ 0 0,rD rJ 0 0],rE rH 3]) (Ad results218 _ _ g _ _ _ rfl Z.out underlying44 rfl (by kernel_rfl)) rfl ?_;exact HS.out _ _ rfl J.out (LeafO.none _ _) I.out K.out
     |true=>
      go_wp2_with (first|(refine As rfl 44 (.tmp 4) rfl q rfl 44 #[.slice T F.length c1,.slice U G.length c2,.slice V H.length c3,rE rH s,rD rJ 0 0,.slice x t.length y] (0,0) _ Q8.out underlying44 rfl (by kernel_rfl) ?_)|(refine Aa rfl 44 (.tmp 2) (.tmp 51) rfl g #[.slice T F.length c1,.slice U G.length c2,.slice V H.length c3,rE rH s,rD rJ 0 0,.slice x t.length y] rfl rfl 44 #[rD rJ 0 0,rD rJ 0 0,rD rJ 0 0,rE rH 0,rD rJ 0 0,rD rJ 0 0] G8.out (by kernel_rfl) rfl rfl ?_));rintro bW f l n j;have aN:=Hd f;have aM:=Hd (Bo O8.out (l w.heap.size (by rw[N.out];exact lR)));have aO:=Hd (R8.out.low (l g lR) u.out);have C:=Hd ((A8.out.other G8.out (by decide) (fun i _ D=>n i D)).mono (gJ g));clear f l n j;go_wp2_with fail;refine bodyPost_ret (v:=.tuple #[.agg #[.slice T F.length c1,.slice U G.length c2,.slice V H.length c3,rE rH s,rD rJ 0 0,.slice x t.length y],rE rH 0]) (Ad results218 _ _ g _ _ _ rfl aN.out underlying44 rfl (by kernel_rfl)) rfl ?_;refine HS.out _ _ rfl J.out ?_ aO.out aM.out;rw[<-N.out];exact⟨_,_,_,_,_,by rw[aK.out],C.out.nth 3 rfl,C.out.nth 2 rfl,C.out.nth 1 rfl,by rw[aK.out];exact Own.nil _ _ _,C.out.nth 0 rfl⟩
    ·have aD:=Hd (aV.out aB.out aE.out h6);have aP:((P:Int) !=0)=true:=(by rw[bne_iff_ne];omega);clear h6;go_wp2_with (refine Aa rfl 44 (.tmp 2) (.tmp 45) rfl g #[rD rJ 0 0,rD rJ 0 0,rD rJ 0 0,rE rH 0,rD rJ 0 0,rD rJ 0 0] rfl rfl 44 #[rD rJ 0 0,rD rJ 0 0,rD rJ 0 0,rE rH 0,rD rJ 0 0,rD rJ 0 0] G7.out (by kernel_rfl) rfl rfl ?_);rintro w9 f l n j;have Z:=Hd f;have K:=Hd (Bo O7.out (l w.heap.size (by rw[N.out];exact lR)));have I:=Hd (R7.out.low (l g lR) u.out);clear f l n j;go_wp2_with fail;refine bodyPost_ret (v:=.tuple #[.agg #[rD rJ 0 0,rD rJ 0 0,rD rJ 0 0,rE rH 0,rD rJ 0 0,rD rJ 0 0],rE rH (P:Nat)]) (Ad results218 _ _ g _ _ _ rfl Z.out underlying44 rfl (by kernel_rfl)) rfl ?_;exact HS.out _ _ rfl aD.out (LeafO.none _ _) I.out K.out
 ·have aU:=Hd (bM.out h4);have bS:((X:Int) !=0)=true:=(by rw[bne_iff_ne];omega);clear h4;go_wp2_with (refine Aa rfl 44 (.tmp 2) (.tmp 21) rfl g #[rD rJ 0 0,rD rJ 0 0,rD rJ 0 0,rE rH 0,rD rJ 0 0,rD rJ 0 0] rfl rfl 44 #[rD rJ 0 0,rD rJ 0 0,rD rJ 0 0,rE rH 0,rD rJ 0 0,rD rJ 0 0] G5.out (by kernel_rfl) rfl rfl ?_);rintro w9 f l n j;have Z:=Hd f;have K:=Hd (Bo O5.out (l w.heap.size (by rw[N.out];exact lR)));have I:=Hd (R5.out.low (l g lR) u.out);clear f l n j;go_wp2_with fail;refine bodyPost_ret (v:=.tuple #[.agg #[rD rJ 0 0,rD rJ 0 0,rD rJ 0 0,rE rH 0,rD rJ 0 0,rD rJ 0 0],rE rH (X:Nat)]) (Ad results218 _ _ g _ _ _ rfl Z.out underlying44 rfl (by kernel_rfl)) rfl ?_;exact HS.out _ _ rfl aU.out (LeafO.none _ _) I.out K.out
theorem Zf4 (L:List Nat)(er:Nat)(hL:∀n∈L,n<256):Ge (Gt L er 1).1<256:=by
 by_cases h:er=0
 ·subst h;rw[Sk];cases L with
  |nil=>decide
  |cons b M=>simp only[Xp];exact hL b (by simp)
 ·rw[Zl0 L h];exact(by decide:Ge []<256)
theorem Zcj (B:Nat)(L:List Nat)(w:World)(h:RS w B L 0)(F:L.length<1000000000)(l:∀n∈L,n<256):
  Calls prog 218 #[rF (some ⟨B,0,rJ⟩)] w (Zjm B w (Eh L 0)):=by
 have o:=Bh L 0;have p:=Bh (En L 0).2.1 (En L 0).2.2;have g:=Bh (En (En L 0).2.1 (En L 0).2.2).2.1 (En (En L 0).2.1 (En L 0).2.2).2.2;have f:∀(M:List Nat) (er:Nat),Sub M L->∀W,RS W B M er->Calls prog 254 #[rF (some ⟨B,0,rJ⟩)] W (Lz B W (En M er)):=fun M er u W m=>Zdg B M er W m (by have:=u.1;omega) fun n d=>l n (u.2 n d);unfold Eh;simp only;have r:=f L 0 (Sub.refl _);have j:=f _ (En L 0).2.2 o.2.1;generalize En L 0=r1 at o p g r j|-;have E:=o.2.1;have q:=p.2.1.trans E;have k:=f _ (En r1.2.1 r1.2.2).2.2 q;generalize En r1.2.1 r1.2.2=r2 at p g j k q|-;have i:=g.2.1.trans q;generalize En r2.2.1 r2.2.2=r3 at g k i|-;have x:=Gs r3.2.1 r3.2.2 1;have s:=fun W m=>Nk B r3.2.1 r3.2.2 1 W m fun n d=>l n (i.2 n d);have v:Ge (Gt r3.2.1 r3.2.2 1).1<256:=Zf4 r3.2.1 r3.2.2 fun n d=>l n (i.2 n d);generalize Gt r3.2.1 r3.2.2 1=r4 at x s v|-;have y:=x.2.1.trans i;have z:=f r4.2.1 r4.2.2 y;obtain⟨c,a⟩:=eX (if Ge r4.1=3 then En r4.2.1 r4.2.2 else([],r4.2));have D:Sub c.2.1 r4.2.1:=by
  rw[a];split
  ·exact(Bh _ _).2.1
  ·exact Sub.refl _
 have A:=f c.2.1 c.2.2 (D.trans y);rw[<-a];refine Xt r1.1 r2.1 r3.1 c.1 (En c.2.1 c.2.2).1 L r1.2.1 r2.2.1 r3.2.1 r4.2.1 c.2.1 (En c.2.1 c.2.2).2.1 r1.2.2 r2.2.2 r3.2.2 r4.2.2 c.2.2 (En c.2.1 c.2.2).2.2 (Ge r4.1) B _ w h r j k s (fun e=> ?_) (fun e=> ?_) A v (fun e=> ?_) (fun t e2=> ?_) (fun t e2 e3=> ?_) (fun t e2 e3 b C=> ?_)
 ·rw[iP e]at a;rw[a];exact z
 ·rw[iN e]at a;rw[a];exact⟨rfl,rfl,rfl⟩
 ·rw[iP e]
 ·rw[iN (by omega),iP e2]
 ·rw[iN (by omega),iN e2,iP e3]
 ·rw[iN (by omega),iN e2,iN (by omega)];show(if La _=true then _ else _)=_;unfold La;simp only[C]
end
