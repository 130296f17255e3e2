import Derived.Test.YtfofaiommeckbaaGreatZTr27
import Derived.Test.YtfofaiommeckbaaGreatZTr24
open Go.Obj renaming cells -> rK
open Go.Ending renaming returned -> rM
open Go.Value renaming slice -> rD, int -> rE, pointer -> rF
open Go.IntKind renaming i64 -> rG, u8 -> rH
open Option renaming none -> rJ
open Go.Proofs.Tryz
open Nat renaming le_trans -> eN, lt_of_lt_of_le -> bO, two_pow_pos -> fK, log2 -> aY
open List renaming cons_append -> iM, mem_cons_of_mem -> gW, replicate -> cJ, getElem?_toArray -> bY, getElem?_cons_zero -> bZ, getElem?_cons_succ -> cA, filterMap_cons -> dG, filterMap_nil -> dH, contains_cons -> dJ, contains_nil -> dK, length_append -> aD, length_cons -> dB
open Bool renaming or_false -> dO, or_true -> dP, eq_iff_iff -> gH
open Int renaming tmod -> eL, tmod_eq_emod_of_nonneg -> eM
set_option linter.unusedVariables false
set_option maxRecDepth 100000
set_option maxHeartbeats 40000000
namespace Go.Proofs.YtfofaiommeckbaaGreat
open Go.RowKit Go.Maps WalkM WireM
section
structure On3 (B ob sb:Nat) (w w':World):Prop where
 os:w'.os=w.os
 tape:w'.tape=w.tape
 output:w'.output=w.output
 size:w.heap.size<=w'.heap.size
 block:∀i,i<w.heap.size->i≠B->i≠ob->i≠sb->w'.heap[i]? =w.heap[i]?
section
variable {B ob sb g n m:Nat} {w w' w2:World} {F:Int->Option NodeD} {H:Int->Option (List Nat)}
theorem On3.trans (h:On3 B ob sb w w')(k:On3 B ob sb w' w2):On3 B ob sb w w2:=
 ⟨k.os.trans h.os,k.tape.trans h.tape,k.output.trans h.output,eN h.size k.size,fun i hi h1 h2 h3=>(k.block i (bO hi h.size) h1 h2 h3).trans (h.block i hi h1 h2 h3)⟩
theorem On3.of {C:Nat}(h:Only C w w')(hC:C=B\/C=ob\/C=sb):On3 B ob sb w w':=
 ⟨h.os,h.tape,h.output,h.size,fun i hi h1 h2 h3=>h.block i hi fun e=>by cases e;rcases hC with rfl|rfl|rfl<;>contradiction⟩
theorem On3.below (h:Below w.heap.size w w'):On3 B ob sb w w':=On3.of (C:=B) (Only.of h) (.inl rfl)
theorem Blk.on3 {p:Nat} {t:TypeId} {cs:Array Value}(h:Blk w p t cs)(k:On3 B ob sb w w')(h1:p≠B)(h2:p≠ob)(h3:p≠sb):Blk w' p t cs:=(k.block p h.lt h1 h2 h3).trans h
theorem On3.low {C:Nat}(h:On3 B ob sb w w')(h1:C<=B)(h2:C<=ob)(h3:C<=sb)(h4:C<=w.heap.size):Below C w w':=
 ⟨h.os,h.tape,h.output,h.size,fun i hi=>h.block i (by omega) (by omega) (by omega) (by omega)⟩
structure PcS (w:World) (ob sb g n m:Nat) (F:Int->Option NodeD) (H:Int->Option (List Nat)):Prop where
 nodes:∃G:Int->Option Value,MapF w ob n G/\∀x,match F x with
  |none=>G x=none
  |some d=>∃c,G x=some (.agg c)/\NodeO w g d c
 runs:∃G:Int->Option Value,MapF w sb m G/\∀x,match H x with
  |none=>G x=none
  |some L=>∃v,G x=some v/\Own w g 5 v (bvs L)
theorem Io {G:Int->Option Value} (h:∀x,match F x with
  |none=>G x=none
  |some d=>∃c,G x=some (.agg c)/\NodeO w g d c) (k:∀d c,NodeO w g d c->NodeO w' g d c):∀x,match F x with
  |none=>G x=none
  |some d=>∃c,G x=some (.agg c)/\NodeO w' g d c:=by
 intro x;have:=h x;revert this;cases F x with
 |none=>exact fun h=>h
 |some d=>rintro⟨c,a,h2⟩;exact⟨c,a,k d c h2⟩
theorem Ib {G:Int->Option Value} (h:∀x,match H x with
  |none=>G x=none
  |some L=>∃v,G x=some v/\Own w g 5 v (bvs L)) (k:∀v xs,Own w g 5 v xs->Own w' g 5 v xs):∀x,match H x with
  |none=>G x=none
  |some L=>∃v,G x=some v/\Own w' g 5 v (bvs L):=by
 intro x;have:=h x;revert this;cases H x with
 |none=>exact fun h=>h
 |some L=>rintro⟨v,a,h2⟩;exact⟨v,a,k v _ h2⟩
theorem PcS.only {C:Nat}(h:PcS w ob sb g n m F H)(k:Only C w w')(f:C<g)(j:C≠ob)(h2:C≠sb):PcS w' ob sb g n m F H:=by
 obtain⟨⟨G,a,b⟩,⟨i,c,d⟩⟩:=h;exact⟨⟨G,a.grown k (fun e=>by cases e;exact j rfl),Io b fun d c l=>l.onlyQ k f⟩,⟨i,c.grown k (fun e=>by cases e;exact h2 rfl),Ib d fun v xs o=>o.only k f⟩⟩
theorem PcS.below (h:PcS w ob sb g n m F H)(k:Below w.heap.size w w'):PcS w' ob sb g n m F H:=by
 obtain⟨⟨G,a,b⟩,⟨G',c,d⟩⟩:=h;exact⟨⟨G,a.below k lR,Io b fun d c hd=>hd.below k lR⟩,⟨G',c.below k lR,Ib d fun v xs hv=>hv.below k lR⟩⟩
theorem PcS.le {n' m':Nat}(h:PcS w ob sb g n m F H)(h1:n<=n')(h2:m<=m'):PcS w ob sb g n' m' F H:=by
 obtain⟨⟨G,a,b⟩,⟨G',c,d⟩⟩:=h;exact⟨⟨G,a.mono h1,b⟩,⟨G',c.mono h2,d⟩⟩
end
def Lw (F:Int->Option NodeD)(l:List (Int×NodeD)):Int->Option NodeD:=fun y=>(Aj l y).or (F y)
def Pd (H:Int->Option (List Nat))(l:List (Int×List Nat)):Int->Option (List Nat):=fun y=>(Ay l y).or (H y)
theorem Zjo (F:Int->Option NodeD):Lw F []=F:=by funext y;rfl
theorem Zjp (H:Int->Option (List Nat)):Pd H []=H:=by funext y;rfl
theorem Zf8 (l m:List (Int×NodeD))(y:Int):Aj (l++m) y=(Aj l y).or (Aj m y):=by
 induction l with
 |nil=>rfl
 |cons p l ih=>
  rw[iM,Aj,Aj]
  split
  ·rfl
  ·exact ih
theorem Zf9 (l m:List (Int×List Nat))(y:Int):Ay (l++m) y=(Ay l y).or (Ay m y):=by
 induction l with
 |nil=>rfl
 |cons p l ih=>
  rw[iM,Ay,Ay]
  split
  ·rfl
  ·exact ih
theorem Om {l:List (Int×NodeD)} {y:Int} {d:NodeD}(h:Aj l y=some d) {P:Int->Prop}(hP:∀p∈l,P p.1):P y:=hP _ (Cv h)
theorem Vc {l:List (Int×List Nat)} {y:Int} {L:List Nat}(h:Ay l y=some L) {P:Int->Prop}(hP:∀p∈l,P p.1):P y:=by
 induction l with
 |nil=>cases h
 |cons p l ih=>
  rw[Ay]at h
  split at h
  ·rename_i e;rw[<-e];exact hP p (by simp)
  ·exact ih h fun q hq=>hP q (gW _ hq)
theorem Zjq (F:Int->Option NodeD) {l r:List (Int×NodeD)} {x:Int} {d:NodeD}(f:∀p∈l,p.1<x)(c:∀p∈r,x<p.1):Lw (Lw (Lw F [(x,d)]) l) r=Lw F (l++(x,d)::r):=by
 funext y
 unfold Lw;rw[Zf8,Aj,Aj];cases h1:Aj l y with
 |some a=>
  have g:y<x:=Om (P:=fun z=>z<x) h1 f;have h2:Aj r y=none:=by
   cases h2:Aj r y with
   |none=>rfl
   |some b=>have:x<y:=Om (P:=fun z=>x<z) h2 c;omega
  rw[h2];rfl
 |none=>
  by_cases e:x=y
  ·have h2:Aj r y=none:=by
    cases h2:Aj r y with
    |none=>rfl
    |some b=>have:x<y:=Om (P:=fun z=>x<z) h2 c;omega
   rw[h2];simp[Aj,e]
  ·simp[Aj,e]
theorem Zjr (H:Int->Option (List Nat)) {l r:List (Int×List Nat)} {x:Int}(c:∀p∈l,p.1<x)(d:∀p∈r,x<p.1):Pd (Pd H l) r=Pd H (l++r):=by
 funext y
 unfold Pd;rw[Zf9];cases h1:Ay l y with
 |some a=>
  have e:y<x:=Vc (P:=fun z=>z<x) h1 c;have h2:Ay r y=none:=by
   cases h2:Ay r y with
   |none=>rfl
   |some b=>have:x<y:=Vc (P:=fun z=>x<z) h2 d;omega
  rw[h2];rfl
 |none=>simp
section
variable {B ob sb g n m:Nat} {w w':World} {F:Int->Option NodeD} {H:Int->Option (List Nat)} {x:Int}
theorem PcS.putN {d:NodeD} {c:Array Value} {G:Int->Option Value} (h:PcS w ob sb g n m F H) (j:∀x,match F x with
  |none=>G x=none
  |some d=>∃c,G x=some (.agg c)/\NodeO w g d c) (l:MapF w' ob (n+1) (fun y=>if y=x then some (.agg c)else G y)) (k:Only ob w w') (b:NodeO w g d c) (a:ob<g) (h2:ob≠sb):PcS w' ob sb g (n+1) m (Lw F [(x,d)]) H:=by
 obtain⟨-,⟨i,e,f⟩⟩:=h;refine⟨⟨_,l,fun y=> ?_⟩,⟨i,e.grown k (fun e=>by cases e;exact h2 rfl),Ib f fun v xs o=>o.only k a⟩⟩;unfold Lw;rw[Aj,Aj]
 by_cases e:x=y
 ·rw[iP e,iP e.symm];exact⟨c,rfl,b.onlyQ k a⟩
 ·rw[iN e,iN (fun e2=>e e2.symm)];exact Io j (fun d c b=>b.onlyQ k a) y
theorem PcS.putS {L:List Nat} {v:Value} {G:Int->Option Value} (h:PcS w ob sb g n m F H) (d:∀x,match H x with
  |none=>G x=none
  |some L=>∃v,G x=some v/\Own w g 5 v (bvs L)) (j:MapF w' sb (m+1) (fun y=>if y=x then some v else G y)) (k:Only sb w w') (i:Own w g 5 v (bvs L)) (a:sb<g) (h2:ob≠sb):PcS w' ob sb g n (m+1) F (Pd H [(x,L)]):=by
 obtain⟨⟨c,e,f⟩,-⟩:=h;refine⟨⟨c,e.grown k (fun e=>by cases e;exact h2 rfl),Io f fun v xs b=>b.onlyQ k a⟩,⟨_,j,fun y=> ?_⟩⟩;unfold Pd;rw[Ay,Ay]
 by_cases e:x=y
 ·rw[iP e,iP e.symm];exact⟨v,rfl,i.only k a⟩
 ·rw[iN e,iN (fun e2=>e e2.symm)];exact Ib d (fun v xs b=>b.only k a) y
end
end
def Zga (B ob sb g n m:Nat)(F:Int->Option NodeD)(H:Int->Option (List Nat))(r:RdR)(w:World)(e:Ending)(w':World):Prop:=
 e=rM (rE rH (r.er:Nat))/\On3 B ob sb w w'/\(r.er=0->RS w' B r.rest 0/\PcS w' ob sb g (n+r.op.length) (m+r.sh.length) (Lw F r.op) (Pd H r.sh))
def Zjs (k:Nat):Prop:=
 ∀(x:Nat) (lv ow:Int) (B ob sb g n m:Nat) (L:List Nat) (F:Int->Option NodeD) (H:Int->Option (List Nat)) (w:World),IsLev x k->x+2^k<=131071->2^k<=x+1->B<ob->B<sb->ob≠sb->ob<g->sb<g->g<=w.heap.size->
  RS w B L 0->PcS w ob sb g n m F H->n+m+L.length<=900000000->(∀y∈L,y<256)->
  Calls prog 121 #[.agg #[rE rG lv,rE rG ow,.map (some ob),.map (some sb)],rF (some ⟨B,0,rJ⟩),rE rG (x:Nat)] w (Zga B ob sb g n m F H (rdP k x L) w)
theorem Zam (k x:Nat)(L:List Nat):∃K,rdP k x L=Zcv x L K:=by cases k<;>exact⟨_,rfl⟩
theorem Zcn (L:List Nat):(∃fe M,fe≠0/\Ot L 0=(false,M,fe)/\∀x K,Zcv x L K=Ql fe)\/(∃M,L=0::M/\Ot L 0=(false,M,0))\/∃M,L=1::M/\Ot L 0=(true,M,0):=by
 cases L with
 |nil=>exact .inl ⟨4,[],by decide,rfl,fun _ _=>rfl⟩
 |cons b M=>
  by_cases h1:1<b
  ·exact .inl ⟨3,M,by decide,by simp[Ot,h1],fun x K=>by simp[Zcv,h1]⟩
  ·by_cases h0:b=0
   ·subst h0;exact .inr (.inl ⟨M,rfl,rfl⟩)
   ·obtain rfl:b=1:=(by omega);exact .inr (.inr ⟨M,rfl,rfl⟩)
theorem Zm5 (M:List Nat):(M.length<32/\Cs M 0 32=([],M,4))\/(¬M.length<32/\Cs M 0 32=(M.take 32,M.drop 32,0)):=by
 unfold Cs
 by_cases h:M.length<32
 ·exact .inl ⟨h,by rw[iN (by simp),iN (by omega),iP (by omega)]⟩
 ·exact .inr ⟨h,by rw[iN (by simp),iN (by omega),iN (by omega)];rfl⟩
theorem NodeO.shape {w:World} {B:Nat} {d:NodeD} {c:Array Value}(h:NodeO w B d c):∃x0 x1 x2 x3 x4 u0 u1 u2,c=#[rE rH (d.kind:Nat),x0,x1,x2,rE rH (d.leaf.source:Nat),x3,x4,u0,u1,u2]:=by
 obtain⟨x0,x1,x2,x3,x4,u0,u1,u2,e,-⟩:=h;exact⟨x0,x1,x2,x3,x4,u0,u1,u2,e⟩
theorem Zgb (k x:Nat)(lv ow:Int)(B ob sb g n m b:Nat)(L M:List Nat)(F:Int->Option NodeD)(H:Int->Option (List Nat))(w:World)(p:RS w B L 0)(o:∀y∈L,y<256)(c:b≠0)(q:Ot L 0=(false,M,b)):
  Calls prog 121 #[.agg #[rE rG lv,rE rG ow,.map (some ob),.map (some sb)],rF (some ⟨B,0,rJ⟩),rE rG (x:Nat)] w (Zga B ob sb g n m F H (Ql b) w):=by
 have r:=Hd (show Calls prog 177 #[rF (some ⟨B,0,rJ⟩)] (w.alloc (rK #[rE rG lv,rE rG ow,.map (some ob),.map (some sb)] 101)) (Zht B (w.alloc (rK #[rE rG lv,rE rG ow,.map (some ob),.map (some sb)] 101)) (false,M,b))from by
  have:=Rh B L 0 (w.alloc (rK #[rE rG lv,rE rG ow,.map (some ob),.map (some sb)] 101)) (p.below ((Below.refl w.heap.size w).alloc lR _)) o
  rwa [q]at this)
 have f:=Hd fun(L:List Nat) (er:Nat) W=>Gv B L er W;have j:=Hd (On3.below (B:=B) (ob:=ob) (sb:=sb) ((Below.refl w.heap.size w).alloc lR (rK #[rE rG lv,rE rG ow,.map (some ob),.map (some sb)] 101)));have t:((b:Int) !=0)=true:=(by rw[bne_iff_ne];omega);have i:=Hd c;clear p o q c;go_in;go_wp2_with fail;refine r.out.mono ?_;rintro e u ⟨rfl,d,a⟩;have s:=Hd d;have l:=Hd (j.out.trans (On3.of a (.inl rfl)));clear d a;go_wp2_with fail;refine(f.out _ _ _ s.out).mono ?_;rintro e w' ⟨rfl,rfl⟩;go_wp2_with fail;go_ret;exact⟨rfl,l.out,fun h=>absurd h i.out⟩
theorem Zgc (k x:Nat)(lv ow:Int)(B ob sb g n m:Nat)(M:List Nat)(F:Int->Option NodeD)(H:Int->Option (List Nat))(w:World)(hx:x<=131071)(S:B<ob)(T:B<sb)(U:ob≠sb)(V:ob<g)(X:sb<g)(aO:g<=w.heap.size)(hR:RS w B (0::M) 0)(hP:PcS w ob sb g n m F H)(hn:n+m+M.length<=900000000)(hL:∀y∈0::M,y<256):
  Calls prog 121 #[.agg #[rE rG lv,rE rG ow,.map (some ob),.map (some sb)],rF (some ⟨B,0,rJ⟩),rE rG (x:Nat)] w (Zga B ob sb g n m F H (if M.length<32 then Ql 4 else⟨0,[],[((x:Int),M.take 32)],M.drop 32⟩) w):=by
 have HF:=Hd (show Calls prog 177 #[rF (some ⟨B,0,rJ⟩)] (w.alloc (rK #[rE rG lv,rE rG ow,.map (some ob),.map (some sb)] 101)) (Zht B (w.alloc (rK #[rE rG lv,rE rG ow,.map (some ob),.map (some sb)] 101)) (false,M,0))from Rh B (0::M) 0 (w.alloc (rK #[rE rG lv,rE rG ow,.map (some ob),.map (some sb)] 101)) (hR.below ((Below.refl w.heap.size w).alloc lR _)) hL);have t:=Hd fun(L:List Nat) (er:Nat) W=>Gv B L er W;have A:=Hd fun(W:World) (h:RS W B M 0)=>Tn B M 0 32 W h (by omega);obtain⟨p,hp⟩:=eX w.heap.size;have HP:=Hd hp;have aH:=Hd (On3.below (B:=B) (ob:=ob) (sb:=sb) ((Below.refl w.heap.size w).alloc lR (rK #[rE rG lv,rE rG ow,.map (some ob),.map (some sb)] 101)));have P1:=Hd (show Blk (w.alloc (rK #[rE rG lv,rE rG ow,.map (some ob),.map (some sb)] 101)) w.heap.size 101 #[rE rG lv,rE rG ow,.map (some ob),.map (some sb)]from Blk.new _ _ _);have aJ:=Hd (hP.below ((Below.refl w.heap.size w).alloc lR (rK #[rE rG lv,rE rG ow,.map (some ob),.map (some sb)] 101)));have j:=Hd (show B<ob/\B<sb/\ob≠sb/\ob<g/\sb<g/\g<=p/\m+1<=900000001 from⟨S,T,U,V,X,by omega,by omega⟩);have aL:=Hd (show inI (x:Int)from by unfold inI;omega);have z:=Hd (Zm5 M);obtain⟨RR,o⟩:=eX (if M.length<32 then Ql 4 else⟨0,[],[((x:Int),M.take 32)],M.drop 32⟩);rw[<-o];have aK:=Hd o;obtain⟨tv,tr,te,aD⟩:∃a b c,Cs M 0 32=(a,b,c):=⟨_,_,_,rfl⟩;rw[aD]at A z;clear hR hL hP hp S T U V X aO hn hx aD o;go_in;go_wp2_with fail;refine HF.out.mono ?_;rintro e s ⟨rfl,aB,d⟩;have R2:=Hd aB;have aI:=Hd (aH.out.trans (On3.of d (.inl rfl)));have P2:=Hd (P1.out.only d (by obtain⟨D,E,I,J,N,O,P⟩:=j.out;have:=HP.out;omega));have S2:=Hd (aJ.out.only d (by obtain⟨D,E,I,J,N,O,P⟩:=j.out;omega) (by obtain⟨D,E,I,J,N,O,P⟩:=j.out;omega) (by obtain⟨D,E,I,J,N,O,P⟩:=j.out;omega));have C:=Hd (show g<=s.heap.size from by obtain⟨D,E,I,J,N,O,P⟩:=j.out;have:=P2.out.lt;have:=HP.out;omega);rw[<-HP.out]at P2|-;clear aB d;go_wp2_with fail;refine(t.out _ _ _ R2.out).mono ?_;rintro e w' ⟨rfl,rfl⟩;go_wp2_with fail;obtain⟨⟨G,aM,aN⟩,⟨G',Q,R⟩⟩:=id S2.out;have aG:=Hd Q;have aF:=Hd R;clear aM aN Q R;refine Au [eF (rF (some ⟨p,3,rJ⟩)),eF (.map (some sb)),eF (rE rG (x:Nat)),eF (rF (some ⟨B,0,rJ⟩)),fun v w'=>Own w' s.heap.size 5 v (bvs tv)/\RS w' B tr te,fun v w'=>RS w' B tr te/\PcS w' ob sb g n (m+1) F (Pd H [((x:Int),tv)])/\On3 B ob sb s w']
  ((cJ 6 false).set 5 true) (fun x=>Only B s x) (fun x y=>Only B x y) (some 4) 5 (by kernel_rfl) ?_ ⟨rfl,rfl,rfl,lR,fun _ _ _=>rfl⟩ (fun x y _ h=>Only.of h) (fun x y hx hs=>hx.trans hs) (by kernel_rfl) (by kernel_rfl) (by kernel_rfl) ?_ ?_
 ·exact kE (kE (kE (kE (Cw (fun v x y h _ hb=>⟨h.1.below hb lR,h.2.below hb⟩) (Ag (fun _ _ _ _ _ _=>trivial) Ae)))))
 ·refine gP8 ?_ rfl (gP8 ?_ rfl (gP8 ?_ rfl (gP8 ?_ rfl (Oq (by kernel_rfl) ?_ (gO8 ?_ .nil)))));all_goals
   intro a wx i Y ho hf;have i:Only B s wx:=i;refine⟨rfl,?_⟩;intro K hK;try have aY:a.tmps[3]?.getD undef=rF (some ⟨p,0,rJ⟩):=ho 3 (by kernel_rfl)
   try have aW:a.tmps[1]?.getD undef=rF (some ⟨B,0,rJ⟩):=ho 1 (by kernel_rfl)
   try have aX:a.tmps[2]?.getD undef=rE rG (x:Nat):=ho 2 (by kernel_rfl)
   try have aU:=eqn hf.1
   try have aV:=eqn hf.2.1
   have aR:=P2.out.only i (by obtain⟨D,E,I,J,N,O,P⟩:=j.out;omega);have aE:=aR.cell 3;simp only[bY,bZ,cA]at aE;try(refine Hd ?_;go_simp;exact hK _ rfl)
  ·go_simp;refine(A.out wx (R2.out.below Y)).mono ?_;rintro e w7 ⟨v,rfl,h1,h2,h3⟩;exact hK _ _ ⟨h1.mono Y.size,h2⟩ (fun _=>Cc rfl h3)
  ·obtain⟨o1,r1⟩:Own wx s.heap.size 5 (a.tmps[25]?.getD undef) (bvs tv)/\RS wx B tr te:=hf.2.2.1;obtain⟨v1,r⟩:=eX (a.tmps[25]?.getD undef);rw[<-r]at o1;have aZ:=r.symm;clear r;obtain⟨b1,b2,b3,b4,b5,b6,b7⟩:=j.out;obtain⟨w',aT,aP,q⟩:=(aG.out.grown i (fun e=>by cases e;omega)).run_put underlying99 aL.out (by unfold maxLen;omega) v1;have aQ:=(S2.out.only i (by omega) (by omega) (by omega)).putS (Ib aF.out (fun v xs hv=>hv.only i (by omega))) aP q (o1.mono C.out) (by omega) b3;have aS:=r1.only q b2 (by have:=i.size;have:=C.out;omega);go_simp;exact hK undef _ ⟨aS,aQ,(On3.of i (.inl rfl)).trans (On3.of q (.inr (.inr rfl)))⟩ (fun h=>absurd rfl h)
 ·rintro f w5 l;obtain⟨aA,aC,Z⟩:RS w5 B tr te/\PcS w5 ob sb g n (m+1) F (Pd H [((x:Int),tv)])/\On3 B ob sb s w5:=l.2.2.2.2.2.1;clear l;simp only[Ak,At,Ei,dG,dH,dJ,dK,Nat.reduceBEq,Nat.reduceAdd,dO,dP,cond_true,cond_false];have R5:=Hd aA;have S5:=Hd aC;have u:=Hd (aI.out.trans Z);clear aA aC Z;go_wp2_with fail;refine(t.out _ _ _ R5.out).mono ?_;rintro e w' ⟨rfl,rfl⟩;go_wp2_with fail;go_ret;rw[aK.out];rcases z.out with⟨h,e⟩|⟨h,e⟩
  ·cases e;simp only[iP h];exact⟨rfl,u.out,fun h=>absurd h (by decide)⟩
  ·cases e;simp only[iN h];exact⟨rfl,u.out,fun _=>⟨R5.out,by have:=S5.out;rw[Zjo];exact this⟩⟩
theorem Zgd (k x:Nat)(dE:k<=16)(IH:∀j,k=j+1->Zjs j)(lv ow:Int)(B ob sb g n m:Nat)(M:List Nat)(F:Int->Option NodeD)(H:Int->Option (List Nat))(w:World)(b6:IsLev x k)(hx:x+2^k<=131071)(aI:2^k<=x+1)(bX:B<ob)(b0:B<sb)(b1:ob≠sb)(b2:ob<g)(b3:sb<g)(c7:g<=w.heap.size)(hR:RS w B (1::M) 0)(hP:PcS w ob sb g n m F H)(hn:n+m+(1::M).length<=900000000)(hL:∀y∈1::M,y<256):
  Calls prog 121 #[.agg #[rE rG lv,rE rG ow,.map (some ob),.map (some sb)],rF (some ⟨B,0,rJ⟩),rE rG (x:Nat)] w (Zga B ob sb g n m F H (rdP k x (1::M)) w):=by
 have dA:M.length+1=(1::M).length:=rfl;have HF:=Hd (show Calls prog 177 #[rF (some ⟨B,0,rJ⟩)] (w.alloc (rK #[rE rG lv,rE rG ow,.map (some ob),.map (some sb)] 101)) (Zht B (w.alloc (rK #[rE rG lv,rE rG ow,.map (some ob),.map (some sb)] 101)) (true,M,0))from Rh B (1::M) 0 (w.alloc (rK #[rE rG lv,rE rG ow,.map (some ob),.map (some sb)] 101)) (hR.below ((Below.refl w.heap.size w).alloc lR _)) hL);have cN:=Hd fun(L:List Nat) (er:Nat) W=>Gv B L er W;have aY:∀y∈M,y<256:=fun y hy=>hL y (gW _ hy);have bP:=Hd fun(W:World) (h:RS W B M 0)=>Zcm B M W h (by omega) aY;have bL:=Hd fun(h:(Cp M 0).1=0)=>Vb h;have cR:Hid (∀K,Zcv x (1::M) K=Ol x M K):=Hd fun K=>rfl;have bO:Hid (∀K,Ol x M K=if(Cp M 0).1≠0 then Ql (Cp M 0).1 else if x%2=0/\(Cp M 0).2.1.kind=2\/x%2=1/\(Cp M 0).2.1.kind=1 then Ql 3 else K (Cp M 0).2.1 (Cp M 0).2.2.1):=Hd fun K=>rfl;obtain⟨te,d,R,re,hq⟩:∃a b c d,Cp M 0=(a,b,c,d):=⟨_,_,_,_,rfl⟩;rw[hq]at bP bL;simp only[hq]at bO;have b8:n+m+M.length+1<=900000000:=(by omega);obtain⟨p,hp⟩:=eX w.heap.size;have HP:=Hd hp;have cT:=Hd (On3.below (B:=B) (ob:=ob) (sb:=sb) ((Below.refl w.heap.size w).alloc lR (rK #[rE rG lv,rE rG ow,.map (some ob),.map (some sb)] 101)));have P1:=Hd (show Blk (w.alloc (rK #[rE rG lv,rE rG ow,.map (some ob),.map (some sb)] 101)) w.heap.size 101 #[rE rG lv,rE rG ow,.map (some ob),.map (some sb)]from Blk.new _ _ _);have cW:=Hd (hP.below ((Below.refl w.heap.size w).alloc lR (rK #[rE rG lv,rE rG ow,.map (some ob),.map (some sb)] 101)));have i:=Hd (show B<ob/\B<sb/\ob≠sb/\ob<g/\sb<g/\g<=p/\n+1<=900000001 from⟨bX,b0,b1,b2,b3,by omega,by omega⟩);have dD:x<=131071:=(by have:=fK k;omega);have bQ:=Hd (show inI (x:Int)from by unfold inI;omega);clear dD;have cX:=Hd hx;have cY:=Hd aI;have aR:=Hd b6;have aS:=Hd b8;have cS:=Hd aY;clear hR hL hP hp bX b0 b1 b2 b3 c7 hn hx aI b6 hq dA aY b8;go_in;go_wp2_with fail;refine HF.out.mono ?_;rintro e w2 ⟨rfl,aG,s⟩;have R2:=Hd aG;have cU:=Hd (cT.out.trans (On3.of s (.inl rfl)));have P2:=Hd (P1.out.only s (by obtain⟨t,u,l,z,A,C,D⟩:=i.out;have:=HP.out;omega));have S2:=Hd (cW.out.only s (by obtain⟨t,u,l,z,A,C,D⟩:=i.out;omega) (by obtain⟨t,u,l,z,A,C,D⟩:=i.out;omega) (by obtain⟨t,u,l,z,A,C,D⟩:=i.out;omega));have bS:=Hd (show p+1<=w2.heap.size from by have:=P2.out.lt;have:=HP.out;omega);rw[<-HP.out]at P2|-;clear aG s;go_wp2_with fail;refine(cN.out _ _ _ R2.out).mono ?_;rintro e w' ⟨rfl,rfl⟩;go_wp2_with fail;refine(bP.out w2 R2.out).mono ?_;rintro e w3 ⟨c,rfl,X,aG,s⟩;replace X:NodeO w3 w2.heap.size d c:=X;have aN:=Hd X.c.oneL;have bU:=Hd (X.mono (B':=p) (by have:=bS.out;omega));obtain⟨x0,x1,x2,x3,x4,u0,u1,u2,rfl⟩:=X.shape;have R3:=Hd aG;have cV:=Hd (cU.out.trans (On3.of s (.inl rfl)));have P3:=Hd (P2.out.only s (by obtain⟨t,u,l,z,A,C,D⟩:=i.out;omega));have S3:=Hd (S2.out.only s (by obtain⟨t,u,l,z,A,C,D⟩:=i.out;omega) (by obtain⟨t,u,l,z,A,C,D⟩:=i.out;omega) (by obtain⟨t,u,l,z,A,C,D⟩:=i.out;omega));have cZ:=Hd (eN bS.out s.size);clear aG s X;obtain⟨kd,a8⟩:=eX d.kind;obtain⟨sr,cD⟩:=eX d.leaf.source;rw[<-a8,<-cD]at bU aN|-;have cQ:=Hd a8;clear a8 cD;obtain⟨q,hq⟩:=eX w3.heap.size;have HQ:=Hd hq;clear hq;go_wp2_with (refine Aa rfl 52 (.tmp 9) (.tmp 31) rfl w3.heap.size #[rE rH kd,x0,x1,x2,rE rH sr,x3,x4,u0,u1,u2] rfl rfl 52 #[rE rH 0,rD rJ 0 0,rD rJ 0 0,rD rJ 0 0,rE rH 0,rD rJ 0 0,rD rJ 0 0,rD rJ 0 0,rD rJ 0 0,rD rJ 0 0] (Blk.new _ _ _) (by kernel_rfl) rfl aN.out ?_);rintro w4 U b4 b9 bD;have I:Below w3.heap.size w3 w4:=((Below.refl w3.heap.size w3).alloc lR (rK #[rE rH 0,rD rJ 0 0,rD rJ 0 0,rD rJ 0 0,rE rH 0,rD rJ 0 0,rD rJ 0 0,rD rJ 0 0,rD rJ 0 0,rD rJ 0 0] 52)).trans (b4 w3.heap.size lR);have R4:=Hd (R3.out.below I);have Y:=Hd (cV.out.trans (On3.below I));have P4:=Hd (P3.out.below I P3.out.lt);have S4:=Hd (S3.out.below I);have bV:=Hd (bU.out.below I lR);have aV:=Hd (eN cZ.out I.size);rw[<-HQ.out]at U|-;have Q4:=Hd U;have y0:=U.cell 0;simp only[bY,bZ]at y0;clear U b4 b9 bD I;have aU:Hid (∀K,rdP k x (1::M)=Zcv x (1::M) K->rdP k x (1::M)=if te≠0 then Ql te else if x%2=0/\kd=2\/x%2=1/\kd=1 then Ql 3 else K d R):=Hd fun K e=>by
  rw[e,cR.out,bO.out,cQ.out]
 by_cases h1:te=0
 ·have c5:((te:Int) !=0)=false:=(by rw[bne_eq_false_iff_eq];omega);obtain⟨bC,aF⟩:=bL.out h1;have bC:re=0:=bC;have aF:TkOk M d R:=aF;subst bC;have V:=Hd h1;have aQ:=Hd (show R.length<M.length/\Sub R M from⟨aF.len,aF.sub⟩);clear h1 aF;cases k with
  |zero=>
   have S:x%2=0:=Hh aR.out;have b7:eL (x:Int) 2=0:=(by rw[eM (by omega)];omega);have a9:(x:Int)%2=0:=(by omega);have Z:=Hd (aU.out _ rfl)
   by_cases hk2:kd=2
   ·have e2:((kd:Int)==2)=true:=(by rw[beq_iff_eq];omega);have E:=Hd (show rdP 0 x (1::M)=Ql 3 from by rw[Z.out,iN (by have:=V.out;omega),iP (.inl ⟨S,hk2⟩)]);clear hk2 S;go_wp2_with fail;go_ret;rw[E.out];exact⟨rfl,Y.out,fun h=>absurd h (by decide)⟩
   ·have e2:((kd:Int)==2)=false:=(by rw[qN];omega);have E:=Hd (show rdP 0 x (1::M)=⟨0,[((x:Int),d)],[],R⟩from by rw[Z.out,iN (by have:=V.out;omega),iN (by omega)]);obtain⟨⟨G,aA,aB⟩,-⟩:=id S4.out;have aM:=P4.out.cell 2;simp only[bY,bZ,cA]at aM;have aO:=Hd aA;have aP:=Hd aB;clear hk2 S aA aB;go_wp2_with (first
     |(refine As rfl 52 (.tmp 9) rfl q rfl 52 #[rE rH kd,x0,x1,x2,rE rH sr,x3,x4,u0,u1,u2] (0,0) _ Q4.out underlying52 rfl (by kernel_rfl) ?_)
     |(refine Ep rfl (.tmp 57) (.tmp 58) (.tmp 59) rfl underlying98 rfl aO.out rfl bQ.out (by obtain⟨t,u,l,z,A,C,D⟩:=i.out;unfold maxLen;omega) _ rfl ?_))
    intro w5 aC N;have S5:=Hd (S4.out.putN aP.out aC N (bV.out.mono (by obtain⟨t,u,l,z,A,C,D⟩:=i.out;omega)) (by obtain⟨t,u,l,z,A,C,D⟩:=i.out;omega) (by obtain⟨t,u,l,z,A,C,D⟩:=i.out;exact l));have R5:=Hd (R4.out.only N (by obtain⟨t,u,l,z,A,C,D⟩:=i.out;omega) (by obtain⟨t,u,l,z,A,C,D⟩:=i.out;have:=aV.out;omega));have aT:=Hd (Y.out.trans (On3.of N (.inr (.inl rfl))));clear aC N y0;go_wp2_with fail;go_ret;rw[E.out];exact⟨rfl,aT.out,fun _=>⟨R5.out,by have:=S5.out;rw[Zjp];exact this⟩⟩
  |succ j=>
   have aE:x%2=1:=Fn aR.out;have b7:eL (x:Int) 2=1:=(by rw[eM (by omega)];omega);have a9:(x:Int)%2=1:=(by omega);have Z:=Hd (aU.out _ rfl)
   by_cases hk2:kd=1
   ·have e2:((kd:Int)==1)=true:=(by rw[beq_iff_eq];omega);have E:=Hd (show rdP (j+1) x (1::M)=Ql 3 from by rw[Z.out,iN (by have:=V.out;omega),iP (.inr ⟨aE,hk2⟩)]);clear hk2 aE;go_wp2_with fail;go_ret;rw[E.out];exact⟨rfl,Y.out,fun h=>absurd h (by decide)⟩
   ·have e2:((kd:Int)==1)=false:=(by rw[qN];omega);have E:=Hd (show rdP (j+1) x (1::M)=Zcl x d (rdP j (x-2^j) R) (rdP j (x+2^j) (rdP j (x-2^j) R).rest)from by rw[Z.out,iN (by have:=V.out;omega),iN (by omega)]);have c4:2^(j+1)=2*2^j:=(by rw[Nat.pow_succ];omega);have c8:=fK j;have hX:=cX.out;have c6:=cY.out;have aH:x<=131070:=(by omega);obtain⟨kl,kr,cF,cG,kx⟩:=kids_lev aH aR.out;have aJ:=fun(W:World)=>Gb (x:Int) W;have aL:=fun(W:World)=>Ev (x:Int) W;rw[kl]at aJ;rw[kr]at aL;have b5:=aQ.out;have dC:=aS.out;have aZ:∀y∈R,y<256:=fun y hy=>cS.out y (b5.2.2 y hy);have I1:=fun(W:World) (n' m':Nat) (F':Int->Option NodeD) (H':Int->Option (List Nat)) (bA:n'+m'+R.length<=900000000) (h1:g<=W.heap.size) (h2:RS W B R 0) (h3:PcS W ob sb g n' m' F' H')=>IH j rfl (x-2^j) lv ow B ob sb g n' m' R F' H' W cF (by omega) (by omega) (by obtain⟨t,u,l,z,A,C,D⟩:=i.out;omega) (by obtain⟨t,u,l,z,A,C,D⟩:=i.out;omega) (by obtain⟨t,u,l,z,A,C,D⟩:=i.out;exact l) (by obtain⟨t,u,l,z,A,C,D⟩:=i.out;omega) (by obtain⟨t,u,l,z,A,C,D⟩:=i.out;omega) h1 h2 h3 bA aZ;have aK:=fun(h:(rdP j (x-2^j) R).er=0)=>Zal j (x-2^j) R (by omega) h;obtain⟨r,cB⟩:=eX (rdP j (x-2^j) R);rw[<-cB]at I1 aK E;have I2:=fun(W:World) (n' m':Nat) (F':Int->Option NodeD) (H':Int->Option (List Nat)) (he:r.er=0) (bA:n'+m'+r.rest.length<=900000000) (h1:g<=W.heap.size) (h2:RS W B r.rest 0) (h3:PcS W ob sb g n' m' F' H')=>IH j rfl (x+2^j) lv ow B ob sb g n' m' r.rest F' H' W cG (by omega) (by omega) (by obtain⟨t,u,l,z,A,C,D⟩:=i.out;omega) (by obtain⟨t,u,l,z,A,C,D⟩:=i.out;omega) (by obtain⟨t,u,l,z,A,C,D⟩:=i.out;exact l) (by obtain⟨t,u,l,z,A,C,D⟩:=i.out;omega) (by obtain⟨t,u,l,z,A,C,D⟩:=i.out;omega) h1 h2 h3 bA fun y hy=>aZ y ((aK he).sub.2 y hy);have aW:=fun(h:(rdP j (x+2^j) r.rest).er=0)=>Zal j (x+2^j) r.rest (by omega) h;obtain⟨P,cC⟩:=eX (rdP j (x+2^j) r.rest);rw[<-cC]at I2 aW E;have B1:r.er=0->(∀p∈r.op,p.1<(x:Int))/\(∀p∈r.sh,p.1<(x:Int))/\r.op.length+r.sh.length+r.rest.length<=R.length:=fun h=>by
     have o:=aK h;exact⟨fun p hp=>by have:=(o.opIn p hp).2;omega,fun p hp=>by have:=(o.shIn p hp).2;omega,o.len⟩
    have B2:P.er=0->(∀p∈P.op,(x:Int)<p.1)/\(∀p∈P.sh,(x:Int)<p.1):=fun h=>by
     have o:=aW h;exact⟨fun p hp=>by have:=(o.opIn p hp).1;omega,fun p hp=>by have:=(o.shIn p hp).1;omega⟩
    obtain⟨xl,aI⟩:=eX (x-2^j);obtain⟨xr,cE⟩:=eX (x+2^j);rw[<-aI]at I1 aJ;rw[<-cE]at I2 aL;have cO:=Hd I1;have cP:=Hd I2;have bF:=Hd aJ;have bG:=Hd aL;have bE:=Hd B1;have cM:=Hd B2;obtain⟨⟨G,aA,aB⟩,-⟩:=id S4.out;have aM:=P4.out.cell 2;simp only[bY,bZ,cA]at aM;have aO:=Hd aA;have aP:=Hd aB;clear hk2 aE aA aB I1 I2 aJ aL B1 B2 aK aW cB cC aI cE kl kr cF cG kx hX c6 aH c4 c8 b5 dC aZ;go_wp2_with (first
     |(refine As rfl 52 (.tmp 9) rfl q rfl 52 #[rE rH kd,x0,x1,x2,rE rH sr,x3,x4,u0,u1,u2] (0,0) _ Q4.out underlying52 rfl (by kernel_rfl) ?_)
     |(refine Ep rfl (.tmp 57) (.tmp 58) (.tmp 59) rfl underlying98 rfl aO.out rfl bQ.out (by obtain⟨t,u,l,z,A,C,D⟩:=i.out;unfold maxLen;omega) _ rfl ?_))
    intro w5 aC N;have S5:=Hd (S4.out.putN aP.out aC N (bV.out.mono (by obtain⟨t,u,l,z,A,C,D⟩:=i.out;omega)) (by obtain⟨t,u,l,z,A,C,D⟩:=i.out;omega) (by obtain⟨t,u,l,z,A,C,D⟩:=i.out;exact l));have R5:=Hd (R4.out.only N (by obtain⟨t,u,l,z,A,C,D⟩:=i.out;omega) (by obtain⟨t,u,l,z,A,C,D⟩:=i.out;have:=aV.out;omega));have aT:=Hd (Y.out.trans (On3.of N (.inr (.inl rfl))));have bW:=Hd (P4.out.only N (by obtain⟨t,u,l,z,A,C,D⟩:=i.out;omega));have bT:=Hd (eN aV.out N.size);have bH:=Hd fun(W:World) (hw:Below w5.heap.size w5 W)=>cO.out W (n+1) m (Lw F [((x:Int),d)]) H (by have:=aQ.out.1;have:=aS.out;omega) (by obtain⟨t,u,l,z,A,C,D⟩:=i.out;have:=bT.out;have:=hw.size;omega) (R5.out.below hw) (S5.out.below hw);clear aC N y0 aM;go_wp2_with fail;refine Bp [eF (.agg #[rE rG lv,rE rG ow,.map (some ob),.map (some sb)]),eF (rF (some ⟨B,0,rJ⟩)),eF (rE rG (x:Nat)),eF (rE rG (xl:Nat)),fun v w'=>v=rE rH (r.er:Nat)/\(r.er=0->RS w' B r.rest 0/\PcS w' ob sb g (n+1+r.op.length) (m+r.sh.length) (Lw (Lw F [((x:Int),d)]) r.op) (Pd (H) r.sh)),eF (rE rH (r.er:Nat))]
     (cJ 6 true) (fun x=>On3 B ob sb w5 x) (fun x y=>On3 B ob sb x y) (some 4) (by kernel_rfl) ?_ ⟨rfl,rfl,rfl,lR,fun _ _ _ _ _=>rfl⟩ (fun x y _ h=>On3.below h) (fun x y hx hs=>hx.trans hs) (by kernel_rfl) (by kernel_rfl) ?_ ?_
    ·exact kE (kE (kE (kE (Cw (fun v x y h _ I=>⟨h.1,fun e=>⟨(h.2 e).1.below I,(h.2 e).2.below I⟩⟩) (Ag (fun _ _ _ h _ _=>h) Ae)))))
    ·refine gO ?_ (gP ?_ rfl (gP ?_ rfl (gO ?_ (gOw (by kernel_rfl) ?_ (gP ?_ rfl .nil)))));all_goals
      intro a wx Q a0 ho hf;have Q:On3 B ob sb w5 wx:=Q;refine⟨rfl,?_⟩;intro K T;try have aX:a.tmps[3]?.getD undef=rF (some ⟨p,0,rJ⟩):=ho 3 (by kernel_rfl)
      try have c1:a.tmps[1]?.getD undef=rF (some ⟨B,0,rJ⟩):=ho 1 (by kernel_rfl)
      try have c2:a.tmps[2]?.getD undef=rE rG (x:Nat):=ho 2 (by kernel_rfl)
      try have cH:=eqn hf.1
      try have cI:=eqn hf.2.1
      try have cK:=eqn hf.2.2.1
      try(refine Hd ?_;go_simp;exact T _ rfl)
     ·have bB:=bW.out.on3 Q (by obtain⟨t,u,l,z,A,C,D⟩:=i.out;omega) (by obtain⟨t,u,l,z,A,C,D⟩:=i.out;omega) (by obtain⟨t,u,l,z,A,C,D⟩:=i.out;omega);exact wp_load_row 101 (.tmp 3) rfl _ (evs aX) _ _ (0,0) _ bB underlying101 rfl (by kernel_rfl) (T _ _ rfl (Af rfl bR))
     ·go_simp;refine(bF.out wx).mono ?_;rintro e w7 ⟨rfl,rfl⟩;exact T _ _ rfl (Af rfl bR)
     ·go_simp;refine(bH.out wx a0).mono ?_;rintro e w7 ⟨rfl,h2,h3⟩;exact T _ _ ⟨rfl,h3⟩ (Cc rfl h2)
     ·refine Hd ?_;have cL:a.tmps[67]?.getD undef=rE rH (r.er:Nat):=hf.1.1;go_simp;exact T _ rfl
    ·rintro f w6 I J;have I:On3 B ob sb w5 w6:=I;have O:r.er=0->RS w6 B r.rest 0/\PcS w6 ob sb g (n+1+r.op.length) (m+r.sh.length) (Lw (Lw F [((x:Int),d)]) r.op) (Pd (H) r.sh):=J.2.2.2.2.1.2;have Sr:f 11=rE rH (r.er:Nat):=J.2.2.2.2.2.1;clear J;simp only[Ak,At,Ei,dG,dH,dJ,dK,Nat.reduceBEq,Nat.reduceAdd,dO,dP,cond_true,cond_false];rw[Sr];clear Sr;have bJ:=Hd (aT.out.trans I);have c3:=Hd (bW.out.on3 I (by obtain⟨t,u,l,z,A,C,D⟩:=i.out;omega) (by obtain⟨t,u,l,z,A,C,D⟩:=i.out;omega) (by obtain⟨t,u,l,z,A,C,D⟩:=i.out;omega));have c0:=Hd (eN bT.out I.size);have bM:=Hd O;clear I O
     by_cases hl0:r.er=0
     ·have c9:((r.er:Int) !=0)=false:=(by rw[bne_eq_false_iff_eq];omega);have HL0:=Hd hl0;have bI:=Hd fun(W:World) (hw:Below w6.heap.size w6 W)=>cP.out W (n+1+r.op.length) (m+r.sh.length) (Lw (Lw F [((x:Int),d)]) r.op) (Pd H r.sh) hl0 (by have:=aQ.out.1;have:=aS.out;have:=(bE.out hl0).2.2;omega) (by obtain⟨t,u,l,z,A,C,D⟩:=i.out;have:=c0.out;have:=hw.size;omega) ((bM.out hl0).1.below hw) ((bM.out hl0).2.below hw);clear hl0;go_wp2_with fail;refine Bp [eF (.agg #[rE rG lv,rE rG ow,.map (some ob),.map (some sb)]),eF (rF (some ⟨B,0,rJ⟩)),eF (rE rG (x:Nat)),eF (rE rG (xr:Nat)),fun v w'=>v=rE rH (P.er:Nat)/\(P.er=0->RS w' B P.rest 0/\PcS w' ob sb g (n+1+r.op.length+P.op.length) (m+r.sh.length+P.sh.length) (Lw (Lw (Lw F [((x:Int),d)]) r.op) P.op) (Pd (Pd H r.sh) P.sh)),eF (rE rH (P.er:Nat))]
       (cJ 6 true) (fun x=>On3 B ob sb w6 x) (fun x y=>On3 B ob sb x y) (some 4) (by kernel_rfl) ?_ ⟨rfl,rfl,rfl,lR,fun _ _ _ _ _=>rfl⟩ (fun x y _ h=>On3.below h) (fun x y hx hs=>hx.trans hs) (by kernel_rfl) (by kernel_rfl) ?_ ?_
      ·exact kE (kE (kE (kE (Cw (fun v x y h _ I=>⟨h.1,fun e=>⟨(h.2 e).1.below I,(h.2 e).2.below I⟩⟩) (Ag (fun _ _ _ h _ _=>h) Ae)))))
      ·refine gO ?_ (gP ?_ rfl (gP ?_ rfl (gO ?_ (gOw (by kernel_rfl) ?_ (gP ?_ rfl .nil)))));all_goals
        intro a wx Q a0 ho hf;have Q:On3 B ob sb w6 wx:=Q;refine⟨rfl,?_⟩;intro K T;try have aX:a.tmps[3]?.getD undef=rF (some ⟨p,0,rJ⟩):=ho 3 (by kernel_rfl)
        try have c1:a.tmps[1]?.getD undef=rF (some ⟨B,0,rJ⟩):=ho 1 (by kernel_rfl)
        try have c2:a.tmps[2]?.getD undef=rE rG (x:Nat):=ho 2 (by kernel_rfl)
        try have cH:=eqn hf.1
        try have cI:=eqn hf.2.1
        try have cK:=eqn hf.2.2.1
        try(refine Hd ?_;go_simp;exact T _ rfl)
       ·have bB:=c3.out.on3 Q (by obtain⟨t,u,l,z,A,C,D⟩:=i.out;omega) (by obtain⟨t,u,l,z,A,C,D⟩:=i.out;omega) (by obtain⟨t,u,l,z,A,C,D⟩:=i.out;omega);exact wp_load_row 101 (.tmp 3) rfl _ (evs aX) _ _ (0,0) _ bB underlying101 rfl (by kernel_rfl) (T _ _ rfl (Af rfl bR))
       ·go_simp;refine(bG.out wx).mono ?_;rintro e w7 ⟨rfl,rfl⟩;exact T _ _ rfl (Af rfl bR)
       ·go_simp;refine(bI.out wx a0).mono ?_;rintro e w7 ⟨rfl,h2,h3⟩;exact T _ _ ⟨rfl,h3⟩ (Cc rfl h2)
       ·refine Hd ?_;have cL:a.tmps[75]?.getD undef=rE rH (P.er:Nat):=hf.1.1;go_simp;exact T _ rfl
      ·rintro f w7 I J;have I:On3 B ob sb w6 w7:=I;have O:P.er=0->RS w7 B P.rest 0/\PcS w7 ob sb g (n+1+r.op.length+P.op.length) (m+r.sh.length+P.sh.length) (Lw (Lw (Lw F [((x:Int),d)]) r.op) P.op) (Pd (Pd H r.sh) P.sh):=J.2.2.2.2.1.2;have Sr:f 6=rE rH (P.er:Nat):=J.2.2.2.2.2.1;clear J;simp only[Ak,At,Ei,dG,dH,dJ,dK,Nat.reduceBEq,Nat.reduceAdd,dO,dP,cond_true,cond_false];rw[Sr];clear Sr;have bK:=Hd (bJ.out.trans I);have bN:=Hd O;clear I O;go_wp2_with fail;go_ret;rw[E.out];unfold Zcl;rw[iN (by have:=HL0.out;omega)]
       by_cases hr0:P.er=0
       ·obtain⟨l1,l2,l3⟩:=bE.out HL0.out;obtain⟨r1,r2⟩:=cM.out hr0;obtain⟨p1,p2⟩:=bN.out hr0;rw[iN (by omega)];refine⟨by rw[hr0];rfl,bK.out,fun _=>⟨p1,?_⟩⟩;have e1:=Zjq F (d:=d) l1 r1;have e2:=Zjr H l2 r2;rw[e1,e2]at p2;exact p2.le (by simp only[aD,dB];omega) (by simp only[aD];omega)
       ·rw[iP hr0];exact⟨rfl,bK.out,fun h=>absurd h hr0⟩
     ·have c9:((r.er:Int) !=0)=true:=(by rw[bne_iff_ne];omega);have HL0:=Hd hl0;clear hl0;go_wp2_with fail;go_ret;rw[E.out];unfold Zcl;rw[iP HL0.out];exact⟨rfl,bJ.out,fun h=>absurd h HL0.out⟩
 ·have c5:((te:Int) !=0)=true:=(by rw[bne_iff_ne];omega);obtain⟨K,T⟩:=Zam k x (1::M);have E:=Hd (show rdP k x (1::M)=Ql te from by rw[aU.out K T,iP h1]);have V:=Hd h1;clear h1 T;go_wp2_with fail;go_ret;rw[E.out];exact⟨rfl,Y.out,fun h=>absurd h V.out⟩
theorem Zjt:∀k,k<=16->Zjs k:=by
 have step:∀k,k<=16->(∀j,k=j+1->Zjs j)->Zjs k:=by
  intro k hk u x lv ow B ob sb g n m L F H w y h2 d h3 p q r s t f b c a;rcases Zcn L with⟨v,M,o,l,z⟩|⟨M,rfl,l⟩|⟨M,rfl,l⟩
  ·obtain⟨K,i⟩:=Zam k x L;rw[i,z];exact Zgb k x lv ow B ob sb g n m v L M F H w f a o l
  ·obtain⟨K,i⟩:=Zam k x (0::M);rw[i];exact Zgc k x lv ow B ob sb g n m M F H w (by have:=fK k;omega) h3 p q r s t f b (by simp only[dB]at c;omega) a
  ·exact Zgd k x hk u lv ow B ob sb g n m M F H w y h2 d h3 p q r s t f b c a
 intro k
 induction k with
 |zero=>intro h;exact step 0 h fun j e=>by cases e
 |succ k ih=>intro h;exact step (k+1) h fun j e=>by cases e;exact ih (by omega)
def Fk (L:List Nat)(s:Int)(P:Nat->Bool):Nat×Nat×List Nat×Nat:=
 if(Gt L 0 s).2.2≠0 then(0,(Gt L 0 s).2.2,(Gt L 0 s).2)else if P (Ge (Gt L 0 s).1)=true then(Ge (Gt L 0 s).1,0,(Gt L 0 s).2)else(0,3,(Gt L 0 s).2)
def Zge (B:Nat)(w:World)(r:Nat×Nat×List Nat×Nat)(e:Ending)(w':World):Prop:=
 e=rM (.tuple #[rE rG (r.1:Nat),rE rH (r.2.1:Nat)])/\RS w' B r.2.2.1 r.2.2.2/\Only B w w'
theorem Zgf {L:List Nat} {er:Nat} {n:Int}(h:(Cs L er n).2.2≠0):(Cs L er n).1=[]:=by
 unfold Cs at h|-
 by_cases h1:er≠0
 ·rw[iP h1]
 ·rw[iN h1]at h|-
  by_cases h2:n<0
  ·rw[iP h2]
  ·rw[iN h2]at h|-
   by_cases h3:(L.length:Int)<n
   ·rw[iP h3]
   ·rw[iN h3]at h;exact absurd rfl h
theorem Zgg {L:List Nat} {s:Int}(c:∀n∈L,n<256)(g:s=1\/s=4):Ge (Gt L 0 s).1<4294967296:=by
 have p:=Gs L 0 s
 by_cases h:(Gt L 0 s).2.2=0
 ·have:=Zjk (L:=L) (er:=0) (n:=if Zcx s=true then s else-1) h;have a:Zcx s=true:=by rcases g with rfl|rfl<;>decide
  rw[iP a]at this;have e:Gt L 0 s=Cs L 0 s:=(by rw[Gt,iP a]);rw[e,this.2.2.2];have d:(L.take s.toNat).length<=4:=(by rw[List.length_take];omega);have b:=Qv _ _ rfl fun n f=>c n (List.mem_of_mem_take (i:=s.toNat) f);have h2:256^(L.take s.toNat).length<=256^4:=Nat.pow_le_pow_right (by omega) d;exact bO b (eN h2 (by decide))
 ·have:(Gt L 0 s).1=[]:=Zgf h;rw[this];decide
theorem Qm (g:Nat) (c:Value) (H:∀args w,(callFunc g args).run prog w=.ok (.enter g args) w) (B:Nat) (L:List Nat) (s:Int) (P:Nat->Bool) (w:World) (h:RS w B L 0) (C:s=1\/s=4) (u:∀n∈L,n<256)
  (z:∀(n:Nat) (W:World),n<4294967296->Only B w W->Calls prog g #[rE rG (n:Nat),c] W fun e D=>e=rM (.bool (P n))/\D=W):
  Calls prog 118 #[rF (some ⟨B,0,rJ⟩),rE rG s,.func (.func g) #[] #[c]] w (Zge B w (Fk L s P)):=by
 have A:=Hd (Nk B L 0 s w h u);have y:=Zgg u C;have q:=Hd fun(L:List Nat) (er:Nat) W=>Gv B L er W;unfold Fk;obtain⟨m,p⟩:=eX (Ge (Gt L 0 s).1);obtain⟨M,v⟩:=eX ((Gt L 0 s).2.1);obtain⟨er,b⟩:=eX ((Gt L 0 s).2.2);have r:Hid (Calls prog 154 #[rF (some ⟨B,0,rJ⟩),rE rG s] w fun e w'=>e=rM (rE .u64 (m:Nat))/\RS w' B M er/\Only B w w'):=Hd (by rw[p,v,b];exact A.out);have e2:(Gt L 0 s).2=(M,er):=(by rw[v,b]);rw[<-p]at y;rw[<-b,<-p,e2];have d:=Hd fun(W:World) (E:Only B w W)=>z m W y E;have F:IntKind.i64.wrap (m:Int)=(m:Int):=IntWalk.i64_in _ ⟨by omega,by omega⟩;obtain⟨R,x⟩:=eX ((if er≠0 then(0,er,M,er)else if P m=true then(m,0,M,er)else(0,3,M,er):Nat×Nat×List Nat×Nat));rw[<-x];have k:=Hd x;obtain⟨G,f⟩:=eX (P m);rw[<-f]at d k;clear A h C u y z p v b e2 x f;go_in;go_wp2_with fail;refine r.out.mono ?_;rintro e I ⟨rfl,i,a⟩;have o:=Hd i;have l:=Hd a;clear i a;go_wp2_with fail;refine(q.out _ _ _ o.out).mono ?_;rintro e w' ⟨rfl,rfl⟩
 by_cases h1:er=0
 ·have t:((er:Int) !=0)=false:=(by rw[bne_eq_false_iff_eq];omega);have j:=Hd h1;clear h1;go_wp2_with fail;refine(d.out _ l.out).mono ?_;rintro e w' ⟨rfl,rfl⟩;cases G with
  |true=>
   go_wp2_with fail;go_ret2;rw[k.out,iN (by have:=j.out;omega),iP trivial];exact⟨rfl,o.out,l.out⟩
  |false=>
   go_wp2_with fail;go_ret2;rw[k.out,iN (by have:=j.out;omega),iN (by simp)];exact⟨rfl,o.out,l.out⟩
 ·have t:((er:Int) !=0)=true:=(by rw[bne_iff_ne];omega);have j:=Hd h1;clear h1;go_wp2_with fail;go_ret2;rw[k.out,iP j.out];exact⟨rfl,o.out,l.out⟩
theorem Zgh (g:Nat) (G:∀args w,(callFunc g args).run prog w=.ok (.enter g args) w) (B:Nat) (L:List Nat) (s:Int) (P:Nat->Bool) (w:World) (h:RS w B L 0) (A:s=1\/s=4) (t:∀n∈L,n<256)
  (y:∀(n:Nat) (W:World),n<4294967296->Only B w W->Calls prog g #[rE rG (n:Nat)] W fun e C=>e=rM (.bool (P n))/\C=W):
  Calls prog 118 #[rF (some ⟨B,0,rJ⟩),rE rG s,.func (.func g) #[] #[]] w (Zge B w (Fk L s P)):=by
 have z:=Hd (Nk B L 0 s w h t);have x:=Zgg t A;have p:=Hd fun(L:List Nat) (er:Nat) W=>Gv B L er W;unfold Fk;obtain⟨m,o⟩:=eX (Ge (Gt L 0 s).1);obtain⟨M,u⟩:=eX ((Gt L 0 s).2.1);obtain⟨er,b⟩:=eX ((Gt L 0 s).2.2);have q:Hid (Calls prog 154 #[rF (some ⟨B,0,rJ⟩),rE rG s] w fun e w'=>e=rM (rE .u64 (m:Nat))/\RS w' B M er/\Only B w w'):=Hd (by rw[o,u,b];exact z.out);have e2:(Gt L 0 s).2=(M,er):=(by rw[u,b]);rw[<-o]at x;rw[<-b,<-o,e2];have c:=Hd fun(W:World) (D:Only B w W)=>y m W x D;have E:IntKind.i64.wrap (m:Int)=(m:Int):=IntWalk.i64_in _ ⟨by omega,by omega⟩;obtain⟨R,v⟩:=eX ((if er≠0 then(0,er,M,er)else if P m=true then(m,0,M,er)else(0,3,M,er):Nat×Nat×List Nat×Nat));rw[<-v];have j:=Hd v;obtain⟨F,d⟩:=eX (P m);rw[<-d]at c j;clear z h A t x y o u b e2 v d;go_in;go_wp2_with fail;refine q.out.mono ?_;rintro e H ⟨rfl,f,a⟩;have l:=Hd f;have k:=Hd a;clear f a;go_wp2_with fail;refine(p.out _ _ _ l.out).mono ?_;rintro e w' ⟨rfl,rfl⟩
 by_cases h1:er=0
 ·have r:((er:Int) !=0)=false:=(by rw[bne_eq_false_iff_eq];omega);have i:=Hd h1;clear h1;go_wp2_with fail;refine(c.out _ k.out).mono ?_;rintro e w' ⟨rfl,rfl⟩;cases F with
  |true=>
   go_wp2_with fail;go_ret2;rw[j.out,iN (by have:=i.out;omega),iP trivial];exact⟨rfl,l.out,k.out⟩
  |false=>
   go_wp2_with fail;go_ret2;rw[j.out,iN (by have:=i.out;omega),iN (by simp)];exact⟨rfl,l.out,k.out⟩
 ·have r:((er:Int) !=0)=true:=(by rw[bne_iff_ne];omega);have i:=Hd h1;clear h1;go_wp2_with fail;go_ret2;rw[j.out,iP i.out];exact⟨rfl,l.out,k.out⟩
def Zm6 (only:Bool)(n i:Nat)(L:List Nat):Nat×SparseD:=
 if(rdP (aY n) (n-1) L).er≠0 then((rdP (aY n) (n-1) L).er,Iq)else
 if Zhe (rdP (aY n) (n-1) L).rest 0≠0 then(Zhe (rdP (aY n) (n-1) L).rest 0,Iq)else
 if Ah ⟨n,i,(rdP (aY n) (n-1) L).op,(rdP (aY n) (n-1) L).sh⟩ only=true then(0,⟨n,i,(rdP (aY n) (n-1) L).op,(rdP (aY n) (n-1) L).sh⟩)else(3,Iq)
def Zm7 (only:Bool)(n:Nat)(L:List Nat):Nat×SparseD:=
 if(Fk L 4 fun i=>decide (i<n)).2.1≠0 then((Fk L 4 fun i=>decide (i<n)).2.1,Iq)else
 Zm6 only n (Fk L 4 fun i=>decide (i<n)).1 (Fk L 4 fun i=>decide (i<n)).2.2.1
def Zm8 (only:Bool)(L:List Nat):Nat×SparseD:=
 if(Fk L 4 fits).2.1≠0 then((Fk L 4 fits).2.1,Iq)else
 Zm7 only (Fk L 4 fits).1 (Fk L 4 fits).2.2.1
def ofT (only:Bool)(mk:Nat)(b:List Nat):Nat×SparseD:=
 if 1048576<b.length then(6,Iq)else
 if(Fk b 1 fun n=>n==mk).2.1≠0 then((Fk b 1 fun n=>n==mk).2.1,Iq)else
 Zm8 only (Fk b 1 fun n=>n==mk).2.2.1
def Zju (r:Nat×SparseD)(w:World)(e:Ending)(w':World):Prop:=Below w.heap.size w w'/\
 if r.1=0 then∃ob sb gg,e=rM (.tuple #[.agg #[rE rG r.2.leaves,rE rG r.2.own,.map (some ob),.map (some sb)],rE rH 0])/\w.heap.size<=ob/\w.heap.size<=sb/\ob≠sb/\ob<gg/\sb<gg/\PcS w' ob sb gg r.2.op.length r.2.sh.length (Aj r.2.op) (Ay r.2.sh)
 else e=rM (.tuple #[.agg #[rE rG 0,rE rG 0,.map none,.map none],rE rH (r.1:Nat)])
theorem PcS.pieceN {w:World} {ob sb g n m:Nat} {F:Int->Option NodeD} {H:Int->Option (List Nat)}(h:PcS w ob sb g n m F H):PieceN w ob n F:=by
 obtain⟨⟨G,h1,h2⟩,-⟩:=h;refine⟨G,h1,fun x=> ?_⟩;have:=h2 x;revert this;cases F x with
 |none=>exact fun h=>h
 |some d=>rintro⟨c,h3,h4⟩;exact⟨c,h3,h4.c⟩
theorem PcS.pieceH {w:World} {ob sb g n m:Nat} {F:Int->Option NodeD} {H:Int->Option (List Nat)}(h:PcS w ob sb g n m F H):PieceH w sb m H:=by
 obtain⟨-,G,h1,h2⟩:=h;refine⟨G,h1,fun x=> ?_⟩;have:=h2 x;revert this;cases H x with
 |none=>exact fun h=>h
 |some d=>rintro⟨c,h3,h4⟩;exact⟨c,h3,h4.rd⟩
theorem Zgi (n g mk:Nat)(w:World)(d:w.cell? ⟨g,0,rJ⟩=some (rE rG (mk:Nat))):
  Calls prog 119 #[rE rG (n:Nat),rF (some ⟨g,0,rJ⟩)] w fun e w'=>e=rM (.bool (n==mk))/\w'=w:=by
 obtain⟨b,a⟩:=eX ((n==mk));have c:((n:Int)==(mk:Int))=b:=(by rw[a,gH,beq_iff_eq,beq_iff_eq];omega);rw[<-a];clear a;go_in;go_wp2_with fail;go_ret;exact⟨by first|rfl|(rw[c]),rfl⟩
theorem Zgj (n g lv:Nat)(w:World)(f:w.cell? ⟨g,0,rJ⟩=some (rE rG (lv:Nat))):
  Calls prog 120 #[rE rG (n:Nat),rF (some ⟨g,0,rJ⟩)] w fun e w'=>e=rM (.bool (decide (n<lv)))/\w'=w:=by
 obtain⟨b,a⟩:=eX (decide (n<lv));have c:decide (n<lv)=b:=a.symm;have d:decide ((n:Int)<(lv:Int))=b:=(by rw[a,gH,dI,dI];omega);rw[<-a];clear a;go_in;go_wp2_with fail;go_ret;exact⟨by first|rfl|(rw[c])|(rw[d]),rfl⟩
end Go.Proofs.YtfofaiommeckbaaGreat
namespace Go.Proofs.YtfofaiommeckbaaGreat
open Go.RowKit WalkM WireM
theorem Zan (L:List Nat)(P:Nat->Bool):Fk L 1 P=match L with|[]=>(0,4,[],4)|b::M=>if P b=true then(b,0,M,0)else(0,3,M,0):=by
 unfold Fk;rw[Sk];cases L with
 |nil=>rfl
 |cons b M=>simp only[Xp];rfl
theorem Ko (L:List Nat)(P:Nat->Bool):Fk L 4 P=if L.length<4 then(0,4,L,4)else if P (Iv L)=true then(Iv L,0,L.drop 4,0)else(0,3,L.drop 4,0):=by
 unfold Fk;have e:Gt L 0 4=if L.length<4 then([],L,4)else(L.take 4,L.drop 4,0):=by
  unfold Gt Cs;have a:Zcx 4=true:=(by decide);rw[iP a,iN (by decide),iN (by decide)]
  by_cases h:L.length<4
  ·rw[iP h,iP (by omega)]
  ·rw[iN h,iN (by omega)];rfl
 rw[e]
 by_cases h:L.length<4
 ·rw[iP h,iP h];rfl
 ·rw[iN h,iN h];rfl
theorem Sl (only:Bool)(mk:Nat)(b:List Nat):ofT only mk b=ofS only mk b:=by
 unfold ofT ofS
 by_cases h:1048576<b.length
 ·rw[iP h,iP h]
 ·rw[iN h,iN h,Zan];cases b with
  |nil=>rfl
  |cons c L=>
   simp only[beq_iff_eq]
   by_cases hc:c=mk
   ·rw[iP hc];simp only[ne_eq,not_true_eq_false,if_false,hc];unfold Zm8;rw[Ko]
    by_cases h4:L.length<4
    ·simp only[iP h4];rfl
    ·simp only[iN h4]
     by_cases hf:fits (Iv L)=true
     ·have a:¬fits (Iv L)=false:=(by rw[hf];decide);simp only[iP hf,iN a];unfold Zm7;rw[Ko,List.length_drop]
      by_cases h8:L.length<8
      ·simp only[iP h8,iP (show L.length-4<4 by omega)];rfl
      ·simp only[iN h8,iN (show¬L.length-4<4 by omega),List.drop_drop]
       by_cases hi:Iv (L.drop 4)<Iv L
       ·simp only[iP (show decide (Iv (L.drop 4)<Iv L)=true by simpa using hi),iN (show¬Iv L<=Iv (L.drop 4) by omega)];unfold Zm6 Zhe;simp only[ne_eq,not_true_eq_false,if_false]
        by_cases he:(rdP (aY (Iv L)) (Iv L-1) (L.drop 8)).er=0
        ·simp only[he,not_true_eq_false,if_false]
         by_cases hr:(rdP (aY (Iv L)) (Iv L-1) (L.drop 8)).rest=[]
         ·simp only[hr,not_true_eq_false,if_false,if_true]
         ·simp only[hr,not_false_eq_true,if_false,if_true];rfl
        ·simp only[he,not_false_eq_true,if_true]
       ·simp only[iN (show¬decide (Iv (L.drop 4)<Iv L)=true by simpa using hi),iP (show Iv L<=Iv (L.drop 4) by omega)];rfl
     ·have a:fits (Iv L)=false:=(by simpa using hf);simp only[iN hf,iP a];rfl
   ·rw[iN hc];simp only[ne_eq,hc,not_false_eq_true,if_true];rfl
