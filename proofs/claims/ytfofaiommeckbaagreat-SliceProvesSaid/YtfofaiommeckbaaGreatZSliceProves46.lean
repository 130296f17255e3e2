import Derived.Test.YtfofaiommeckbaaGreatZSliceProves45
import Derived.Test.YtfofaiommeckbaaGreatZSliceProves39
open Go.Value renaming slice → q9, int → rA, pointer → rB
open Go.IntKind renaming i64 → rC, u8 → rD
open Option renaming none → rF
open Go.Proofs.Tryz
open Nat renaming le_trans → bM, lt_of_lt_of_le → dS, two_pow_pos → fB, log2 → aX
open List renaming cons_append → iH, mem_cons_of_mem → iJ, replicate → cI, getElem?_toArray → bZ, getElem?_cons_zero → cA, getElem?_cons_succ → cB, filterMap_cons → cX, filterMap_nil → cY, contains_cons → cZ, contains_nil → dA, length_append → aG, length_cons → bY
open Bool renaming or_false → dB, or_true → dC, eq_iff_iff → gA
open Int renaming tmod → fC, tmod_eq_emod_of_nonneg → fD
set_option linter.unusedVariables false
set_option maxRecDepth 100000
set_option maxHeartbeats 40000000
namespace Go.Proofs.YtfofaiommeckbaaGreat
open Go.RowKit Go.Maps WalkM WireM
section
structure On3 (B ob sb:Nat) (w w':World):Prop where
 os:w'.os=w.os
 tape:w'.tape=w.tape
 output:w'.output=w.output
 size:w.heap.size≤w'.heap.size
 block:∀i,i<w.heap.size→i≠B→i≠ob→i≠sb→w'.heap[i]? =w.heap[i]?
section
variable {B ob sb g n m:Nat} {w w' w2:World} {F:Int→Option NodeD} {H:Int→Option (List Nat)}
theorem On3.trans (h:On3 B ob sb w w')(k:On3 B ob sb w' w2):On3 B ob sb w w2:=
 ⟨k.os.trans h.os,k.tape.trans h.tape,k.output.trans h.output,bM h.size k.size,fun i hi h1 h2 h3=>(k.block i (dS hi h.size) h1 h2 h3).trans (h.block i hi h1 h2 h3)⟩
theorem On3.of {C:Nat}(h:Only C w w')(hC:C=B∨C=ob∨C=sb):On3 B ob sb w w':=
 ⟨h.os,h.tape,h.output,h.size,fun i hi h1 h2 h3=>h.block i hi fun e=>by cases e;rcases hC with rfl|rfl|rfl<;>contradiction⟩
theorem On3.below (h:Below w.heap.size w w'):On3 B ob sb w w':=On3.of (C:=B) (Only.of h) (.inl rfl)
theorem Blk.on3 {p:Nat} {t:TypeId} {cs:Array Value}(h:Blk w p t cs)(k:On3 B ob sb w w')(h1:p≠B)(h2:p≠ob)(h3:p≠sb):Blk w' p t cs:=(k.block p h.lt h1 h2 h3).trans h
theorem On3.low {C:Nat}(h:On3 B ob sb w w')(h1:C≤B)(h2:C≤ob)(h3:C≤sb)(h4:C≤w.heap.size):Below C w w':=
 ⟨h.os,h.tape,h.output,h.size,fun i hi=>h.block i (by omega) (by omega) (by omega) (by omega)⟩
structure PcS (w:World) (ob sb g n m:Nat) (F:Int→Option NodeD) (H:Int→Option (List Nat)):Prop where
 nodes:∃G:Int→Option Value,MapF w ob n G∧∀x,match F x with
  |none=>G x=none
  |some d=>∃c,G x=some (.agg c)∧NodeO w g d c
 runs:∃G:Int→Option Value,MapF w sb m G∧∀x,match H x with
  |none=>G x=none
  |some L=>∃v,G x=some v∧Own w g 5 v (bvs L)
theorem Jj {G:Int→Option Value} (h:∀x,match F x with
  |none=>G x=none
  |some d=>∃c,G x=some (.agg c)∧NodeO w g d c) (k:∀d c,NodeO w g d c→NodeO w' g d c):∀x,match F x with
  |none=>G x=none
  |some d=>∃c,G x=some (.agg c)∧NodeO w' g d c:=by
 intro x;have:=h x;revert this;cases F x with
 |none=>exact fun h=>h
 |some d=>rintro⟨c,h1,h2⟩;exact⟨c,h1,k d c h2⟩
theorem Iq {G:Int→Option Value} (h:∀x,match H x with
  |none=>G x=none
  |some L=>∃v,G x=some v∧Own w g 5 v (bvs L)) (k:∀v xs,Own w g 5 v xs→Own w' g 5 v xs):∀x,match H x with
  |none=>G x=none
  |some L=>∃v,G x=some v∧Own w' g 5 v (bvs L):=by
 intro x;have:=h x;revert this;cases H x with
 |none=>exact fun h=>h
 |some L=>rintro⟨v,h1,h2⟩;exact⟨v,h1,k v _ h2⟩
theorem PcS.only {C:Nat}(h:PcS w ob sb g n m F H)(k:Only C w w')(f:C<g)(h1:C≠ob)(h2:C≠sb):PcS w' ob sb g n m F H:=by
 obtain⟨⟨G,a,b⟩,⟨l,c,d⟩⟩:=h;exact⟨⟨G,a.grown k (fun e=>by cases e;exact h1 rfl),Jj b fun d c i=>i.onlyQ k f⟩,⟨l,c.grown k (fun e=>by cases e;exact h2 rfl),Iq d fun v xs j=>j.only k f⟩⟩
theorem PcS.below (h:PcS w ob sb g n m F H)(k:Below w.heap.size w w'):PcS w' ob sb g n m F H:=by
 obtain⟨⟨G,a,b⟩,⟨G',c,d⟩⟩:=h;exact⟨⟨G,a.below k lR,Jj b fun d c hd=>hd.below k lR⟩,⟨G',c.below k lR,Iq d fun v xs hv=>hv.below k lR⟩⟩
theorem PcS.le {n' m':Nat}(h:PcS w ob sb g n m F H)(h1:n≤n')(h2:m≤m'):PcS w ob sb g n' m' F H:=by
 obtain⟨⟨G,a,b⟩,⟨G',c,d⟩⟩:=h;exact⟨⟨G,a.mono h1,b⟩,⟨G',c.mono h2,d⟩⟩
end
def Mn (F:Int→Option NodeD)(l:List (Int×NodeD)):Int→Option NodeD:=fun y=>(Ag l y).or (F y)
def Ps (H:Int→Option (List Nat))(l:List (Int×List Nat)):Int→Option (List Nat):=fun y=>(Ax l y).or (H y)
theorem Zji (F:Int→Option NodeD):Mn F []=F:=by funext y;rfl
theorem Zjj (H:Int→Option (List Nat)):Ps H []=H:=by funext y;rfl
theorem Zga (l m:List (Int×NodeD))(y:Int):Ag (l++m) y=(Ag l y).or (Ag m y):=by
 induction l with
 |nil=>rfl
 |cons p l ih=>
  rw[iH,Ag,Ag]
  split
  ·rfl
  ·exact ih
theorem Zgb (l m:List (Int×List Nat))(y:Int):Ax (l++m) y=(Ax l y).or (Ax m y):=by
 induction l with
 |nil=>rfl
 |cons p l ih=>
  rw[iH,Ax,Ax]
  split
  ·rfl
  ·exact ih
theorem Pc {l:List (Int×NodeD)} {y:Int} {d:NodeD}(h:Ag l y=some d) {P:Int→Prop}(hP:∀p∈l,P p.1):P y:=hP _ (Br h)
theorem Vw {l:List (Int×List Nat)} {y:Int} {L:List Nat}(h:Ax l y=some L) {P:Int→Prop}(hP:∀p∈l,P p.1):P y:=by
 induction l with
 |nil=>cases h
 |cons p l ih=>
  rw[Ax]at h
  split at h
  ·rename_i e;rw[←e];exact hP p (by simp)
  ·exact ih h fun q hq=>hP q (iJ _ hq)
theorem Zjk (F:Int→Option NodeD) {l r:List (Int×NodeD)} {x:Int} {d:NodeD}(f:∀p∈l,p.1<x)(c:∀p∈r,x<p.1):Mn (Mn (Mn F [(x,d)]) l) r=Mn F (l++(x,d)::r):=by
 funext y
 unfold Mn;rw[Zga,Ag,Ag];cases h1:Ag l y with
 |some a=>
  have g:y<x:=Pc (P:=fun z=>z<x) h1 f;have h2:Ag r y=none:=by
   cases h2:Ag r y with
   |none=>rfl
   |some b=>have:x<y:=Pc (P:=fun z=>x<z) h2 c;omega
  rw[h2];rfl
 |none=>
  by_cases e:x=y
  ·have h2:Ag r y=none:=by
    cases h2:Ag r y with
    |none=>rfl
    |some b=>have:x<y:=Pc (P:=fun z=>x<z) h2 c;omega
   rw[h2];simp[Ag,e]
  ·simp[Ag,e]
theorem Zjl (H:Int→Option (List Nat)) {l r:List (Int×List Nat)} {x:Int}(c:∀p∈l,p.1<x)(d:∀p∈r,x<p.1):Ps (Ps H l) r=Ps H (l++r):=by
 funext y
 unfold Ps;rw[Zgb];cases h1:Ax l y with
 |some a=>
  have e:y<x:=Vw (P:=fun z=>z<x) h1 c;have h2:Ax r y=none:=by
   cases h2:Ax r y with
   |none=>rfl
   |some b=>have:x<y:=Vw (P:=fun z=>x<z) h2 d;omega
  rw[h2];rfl
 |none=>simp
section
variable {B ob sb g n m:Nat} {w w':World} {F:Int→Option NodeD} {H:Int→Option (List Nat)} {x:Int}
theorem PcS.putN {d:NodeD} {c:Array Value} {G:Int→Option Value} (h:PcS w ob sb g n m F H) (i:∀x,match F x with
  |none=>G x=none
  |some d=>∃c,G x=some (.agg c)∧NodeO w g d c) (j:MapF w' ob (n+1) (fun y=>if y=x then some (.agg c)else G y)) (k:Only ob w w') (a:NodeO w g d c) (h1:ob<g) (h2:ob≠sb):PcS w' ob sb g (n+1) m (Mn F [(x,d)]) H:=by
 obtain⟨-,⟨l,e,f⟩⟩:=h;refine⟨⟨_,j,fun y=> ?_⟩,⟨l,e.grown k (fun e=>by cases e;exact h2 rfl),Iq f fun v xs b=>b.only k h1⟩⟩;unfold Mn;rw[Ag,Ag]
 by_cases e:x=y
 ·rw[if_pos e,if_pos e.symm];exact⟨c,rfl,a.onlyQ k h1⟩
 ·rw[if_neg e,if_neg (fun e2=>e e2.symm)];exact Jj i (fun d c a=>a.onlyQ k h1) y
theorem PcS.putS {L:List Nat} {v:Value} {G:Int→Option Value} (h:PcS w ob sb g n m F H) (c:∀x,match H x with
  |none=>G x=none
  |some L=>∃v,G x=some v∧Own w g 5 v (bvs L)) (d:MapF w' sb (m+1) (fun y=>if y=x then some v else G y)) (k:Only sb w w') (b:Own w g 5 v (bvs L)) (h1:sb<g) (h2:ob≠sb):PcS w' ob sb g n (m+1) F (Ps H [(x,L)]):=by
 obtain⟨⟨i,e,f⟩,-⟩:=h;refine⟨⟨i,e.grown k (fun e=>by cases e;exact h2 rfl),Jj f fun v xs a=>a.onlyQ k h1⟩,⟨_,d,fun y=> ?_⟩⟩;unfold Ps;rw[Ax,Ax]
 by_cases e:x=y
 ·rw[if_pos e,if_pos e.symm];exact⟨v,rfl,b.only k h1⟩
 ·rw[if_neg e,if_neg (fun e2=>e e2.symm)];exact Iq c (fun v xs a=>a.only k h1) y
end
end
def Zgc (B ob sb g n m:Nat)(F:Int→Option NodeD)(H:Int→Option (List Nat))(r:RdR)(w:World)(e:Ending)(w':World):Prop:=
 e=.returned (rA rD (r.er:Nat))∧On3 B ob sb w w'∧(r.er=0→RS w' B r.rest 0∧PcS w' ob sb g (n+r.op.length) (m+r.sh.length) (Mn F r.op) (Ps H r.sh))
def Zjm (k:Nat):Prop:=
 ∀(x:Nat) (lv ow:Int) (B ob sb g n m:Nat) (L:List Nat) (F:Int→Option NodeD) (H:Int→Option (List Nat)) (w:World),IsLev x k→x+2^k≤131071→2^k≤x+1→B<ob→B<sb→ob≠sb→ob<g→sb<g→g≤w.heap.size→
  RS w B L 0→PcS w ob sb g n m F H→n+m+L.length≤900000000→(∀y∈L,y<256)→
  Calls prog 121 #[.agg #[rA rC lv,rA rC ow,.map (some ob),.map (some sb)],rB (some ⟨B,0,rF⟩),rA rC (x:Nat)] w (Zgc B ob sb g n m F H (rdP k x L) w)
theorem Zat (k x:Nat)(L:List Nat):∃K,rdP k x L=Zcu x L K:=by cases k<;>exact⟨_,rfl⟩
theorem Zck (L:List Nat):(∃fe M,fe≠0∧Pm L 0=(false,M,fe)∧∀x K,Zcu x L K=Rc fe)∨(∃M,L=0::M∧Pm L 0=(false,M,0))∨∃M,L=1::M∧Pm L 0=(true,M,0):=by
 cases L with
 |nil=>exact .inl ⟨4,[],by decide,rfl,fun _ _=>rfl⟩
 |cons b M=>
  by_cases h1:1<b
  ·exact .inl ⟨3,M,by decide,by simp[Pm,h1],fun x K=>by simp[Zcu,h1]⟩
  ·by_cases h0:b=0
   ·subst h0;exact .inr (.inl ⟨M,rfl,rfl⟩)
   ·obtain rfl:b=1:=(by omega);exact .inr (.inr ⟨M,rfl,rfl⟩)
theorem Zm3 (M:List Nat):(M.length<32∧Dd M 0 32=([],M,4))∨(¬M.length<32∧Dd M 0 32=(M.take 32,M.drop 32,0)):=by
 unfold Dd
 by_cases h:M.length<32
 ·exact .inl ⟨h,by rw[if_neg (by simp),if_neg (by omega),if_pos (by omega)]⟩
 ·exact .inr ⟨h,by rw[if_neg (by simp),if_neg (by omega),if_neg (by omega)];rfl⟩
theorem NodeO.shape {w:World} {B:Nat} {d:NodeD} {c:Array Value}(h:NodeO w B d c):∃x0 x1 x2 x3 x4 u0 u1 u2,c=#[rA rD (d.kind:Nat),x0,x1,x2,rA rD (d.leaf.source:Nat),x3,x4,u0,u1,u2]:=by
 obtain⟨x0,x1,x2,x3,x4,u0,u1,u2,e,-⟩:=h;exact⟨x0,x1,x2,x3,x4,u0,u1,u2,e⟩
theorem Zgd (k x:Nat)(lv ow:Int)(B ob sb g n m d:Nat)(L M:List Nat)(F:Int→Option NodeD)(H:Int→Option (List Nat))(w:World)(o:RS w B L 0)(p:∀y∈L,y<256)(b:d≠0)(q:Pm L 0=(false,M,d)):
  Calls prog 121 #[.agg #[rA rC lv,rA rC ow,.map (some ob),.map (some sb)],rB (some ⟨B,0,rF⟩),rA rC (x:Nat)] w (Zgc B ob sb g n m F H (Rc d) w):=by
 have r:=Hd (show Calls prog 177 #[rB (some ⟨B,0,rF⟩)] (w.alloc (.cells #[rA rC lv,rA rC ow,.map (some ob),.map (some sb)] 101)) (Zib B (w.alloc (.cells #[rA rC lv,rA rC ow,.map (some ob),.map (some sb)] 101)) (false,M,d))from by
  have:=Sc B L 0 (w.alloc (.cells #[rA rC lv,rA rC ow,.map (some ob),.map (some sb)] 101)) (o.below ((Below.refl w.heap.size w).alloc lR _)) p
  rwa [q]at this)
 have i:=Hd fun(L:List Nat) (er:Nat) W=>Hj B L er W;have l:=Hd (On3.below (B:=B) (ob:=ob) (sb:=sb) ((Below.refl w.heap.size w).alloc lR (.cells #[rA rC lv,rA rC ow,.map (some ob),.map (some sb)] 101)));have s:((d:Int) !=0)=true:=(by rw[bne_iff_ne];omega);have j:=Hd b;clear o p q b;go_enter func121,ntmps121;go_wp2_with fail;refine r.out.mono ?_;rintro e u ⟨rfl,c,a⟩;have t:=Hd c;have f:=Hd (l.out.trans (On3.of a (.inl rfl)));clear c a;go_wp2_with fail;refine(i.out _ _ _ t.out).mono ?_;rintro e w' ⟨rfl,rfl⟩;go_wp2_with fail;go_ret;exact⟨rfl,f.out,fun h=>absurd h j.out⟩
theorem Zge (k x:Nat)(lv ow:Int)(B ob sb g n m:Nat)(M:List Nat)(F:Int→Option NodeD)(H:Int→Option (List Nat))(w:World)(hx:x≤131071)(Y:B<ob)(aB:B<sb)(S:ob≠sb)(V:ob<g)(R:sb<g)(aI:g≤w.heap.size)(hR:RS w B (0::M) 0)(hP:PcS w ob sb g n m F H)(hn:n+m+M.length≤900000000)(hL:∀y∈0::M,y<256):
  Calls prog 121 #[.agg #[rA rC lv,rA rC ow,.map (some ob),.map (some sb)],rB (some ⟨B,0,rF⟩),rA rC (x:Nat)] w (Zgc B ob sb g n m F H (if M.length<32 then Rc 4 else⟨0,[],[((x:Int),M.take 32)],M.drop 32⟩) w):=by
 have HF:=Hd (show Calls prog 177 #[rB (some ⟨B,0,rF⟩)] (w.alloc (.cells #[rA rC lv,rA rC ow,.map (some ob),.map (some sb)] 101)) (Zib B (w.alloc (.cells #[rA rC lv,rA rC ow,.map (some ob),.map (some sb)] 101)) (false,M,0))from Sc B (0::M) 0 (w.alloc (.cells #[rA rC lv,rA rC ow,.map (some ob),.map (some sb)] 101)) (hR.below ((Below.refl w.heap.size w).alloc lR _)) hL);have J:=Hd fun(L:List Nat) (er:Nat) W=>Hj B L er W;have C:=Hd fun(W:World) (h:RS W B M 0)=>Un B M 0 32 W h (by omega);obtain⟨p,hp⟩:=eX w.heap.size;have HP:=Hd hp;have aN:=Hd (On3.below (B:=B) (ob:=ob) (sb:=sb) ((Below.refl w.heap.size w).alloc lR (.cells #[rA rC lv,rA rC ow,.map (some ob),.map (some sb)] 101)));have P1:=Hd (show Blk (w.alloc (.cells #[rA rC lv,rA rC ow,.map (some ob),.map (some sb)] 101)) w.heap.size 101 #[rA rC lv,rA rC ow,.map (some ob),.map (some sb)]from Blk.new _ _ _);have aQ:=Hd (hP.below ((Below.refl w.heap.size w).alloc lR (.cells #[rA rC lv,rA rC ow,.map (some ob),.map (some sb)] 101)));have j:=Hd (show B<ob∧B<sb∧ob≠sb∧ob<g∧sb<g∧g≤p∧m+1≤900000001 from⟨Y,aB,S,V,R,by omega,by omega⟩);have aJ:=Hd (show inI (x:Int)from by unfold inI;omega);have Z:=Hd (Zm3 M);obtain⟨RR,o⟩:=eX (if M.length<32 then Rc 4 else⟨0,[],[((x:Int),M.take 32)],M.drop 32⟩);rw[←o];have aO:=Hd o;obtain⟨tv,tr,te,E⟩:∃a b c,Dd M 0 32=(a,b,c):=⟨_,_,_,rfl⟩;rw[E]at C Z;clear hR hL hP hp Y aB S V R aI hn hx E o;go_enter func121,ntmps121;go_wp2_with fail;refine HF.out.mono ?_;rintro e q ⟨rfl,N,d⟩;have R2:=Hd N;have aF:=Hd (aN.out.trans (On3.of d (.inl rfl)));have P2:=Hd (P1.out.only d (by obtain⟨U,u,O,T,X,a6,Q⟩:=j.out;have:=HP.out;omega));have S2:=Hd (aQ.out.only d (by obtain⟨U,u,O,T,X,a6,Q⟩:=j.out;omega) (by obtain⟨U,u,O,T,X,a6,Q⟩:=j.out;omega) (by obtain⟨U,u,O,T,X,a6,Q⟩:=j.out;omega));have P:=Hd (show g≤q.heap.size from by obtain⟨U,u,O,T,X,a6,Q⟩:=j.out;have:=P2.out.lt;have:=HP.out;omega);rw[←HP.out]at P2⊢;clear N d;go_wp2_with fail;refine(J.out _ _ _ R2.out).mono ?_;rintro e w' ⟨rfl,rfl⟩;go_wp2_with fail;obtain⟨⟨G,aM,aE⟩,⟨G',D,I⟩⟩:=id S2.out;have aH:=Hd D;have aR:=Hd I;clear aM aE D I;refine Au [eF (rB (some ⟨p,3,rF⟩)),eF (.map (some sb)),eF (rA rC (x:Nat)),eF (rB (some ⟨B,0,rF⟩)),fun v w'=>Own w' q.heap.size 5 v (bvs tv)∧RS w' B tr te,fun v w'=>RS w' B tr te∧PcS w' ob sb g n (m+1) F (Ps H [((x:Int),tv)])∧On3 B ob sb q w']
  ((cI 6 false).set 5 true) (fun x=>Only B q x) (fun x y=>Only B x y) (some 4) 5 (by kernel_rfl) ?_ ⟨rfl,rfl,rfl,lR,fun _ _ _=>rfl⟩ (fun x y _ h=>Only.of h) (fun x y hx hs=>hx.trans hs) (by kernel_rfl) (by kernel_rfl) (by kernel_rfl) ?_ ?_
 ·exact kE (kE (kE (kE (Cl (fun v x y h _ hb=>⟨h.1.below hb lR,h.2.below hb⟩) (Ai (fun _ _ _ _ _ _=>trivial) Ah)))))
 ·refine gP8 ?_ rfl (gP8 ?_ rfl (gP8 ?_ rfl (gP8 ?_ rfl (Md (by kernel_rfl) ?_ (gO8 ?_ .nil)))));all_goals
   intro a wx i z ho hf;have i:Only B q wx:=i;refine⟨rfl,?_⟩;intro K hK;try have aT:a.tmps[3]?.getD undef=rB (some ⟨p,0,rF⟩):=ho 3 (by kernel_rfl)
   try have aU:a.tmps[1]?.getD undef=rB (some ⟨B,0,rF⟩):=ho 1 (by kernel_rfl)
   try have aY:a.tmps[2]?.getD undef=rA rC (x:Nat):=ho 2 (by kernel_rfl)
   try have aV:=eqn hf.1
   try have aX:=eqn hf.2.1
   have aD:=P2.out.only i (by obtain⟨U,u,O,T,X,a6,Q⟩:=j.out;omega);have aK:=aD.cell 3;simp only[bZ,cA,cB]at aK;try(refine Hd ?_;go_simp;exact hK _ rfl)
  ·go_simp;refine(C.out wx (R2.out.below z)).mono ?_;rintro e w7 ⟨v,rfl,h1,h2,h3⟩;exact hK _ _ ⟨h1.mono z.size,h2⟩ (fun _=>Bv rfl h3)
  ·obtain⟨o1,r1⟩:Own wx q.heap.size 5 (a.tmps[25]?.getD undef) (bvs tv)∧RS wx B tr te:=hf.2.2.1;obtain⟨v1,r⟩:=eX (a.tmps[25]?.getD undef);rw[←r]at o1;have aW:=r.symm;clear r;obtain⟨b1,b2,b3,b4,b5,b6,b7⟩:=j.out;obtain⟨w',aS,aG,s⟩:=(aH.out.grown i (fun e=>by cases e;omega)).run_put underlying99 aJ.out (by unfold maxLen;omega) v1;have aL:=(S2.out.only i (by omega) (by omega) (by omega)).putS (Iq aR.out (fun v xs hv=>hv.only i (by omega))) aG s (o1.mono P.out) (by omega) b3;have aP:=r1.only s b2 (by have:=i.size;have:=P.out;omega);go_simp;exact hK undef _ ⟨aP,aL,(On3.of i (.inl rfl)).trans (On3.of s (.inr (.inr rfl)))⟩ (fun h=>absurd rfl h)
 ·rintro f w5 l;obtain⟨A,aC,t⟩:RS w5 B tr te∧PcS w5 ob sb g n (m+1) F (Ps H [((x:Int),tv)])∧On3 B ob sb q w5:=l.2.2.2.2.2.1;clear l;simp only[Am,Az,Ex,cX,cY,cZ,dA,Nat.reduceBEq,Nat.reduceAdd,dB,dC,cond_true,cond_false];have R5:=Hd A;have S5:=Hd aC;have aA:=Hd (aF.out.trans t);clear A aC t;go_wp2_with fail;refine(J.out _ _ _ R5.out).mono ?_;rintro e w' ⟨rfl,rfl⟩;go_wp2_with fail;go_ret;rw[aO.out];rcases Z.out with⟨h,e⟩|⟨h,e⟩
  ·cases e;simp only[if_pos h];exact⟨rfl,aA.out,fun h=>absurd h (by decide)⟩
  ·cases e;simp only[if_neg h];exact⟨rfl,aA.out,fun _=>⟨R5.out,by have:=S5.out;rw[Zji];exact this⟩⟩
theorem Zgf (k x:Nat)(dL:k≤16)(IH:∀j,k=j+1→Zjm j)(lv ow:Int)(B ob sb g n m:Nat)(M:List Nat)(F:Int→Option NodeD)(H:Int→Option (List Nat))(w:World)(b6:IsLev x k)(hx:x+2^k≤131071)(aH:2^k≤x+1)(b4:B<ob)(cJ:B<sb)(bW:ob≠sb)(b3:ob<g)(bU:sb<g)(cS:g≤w.heap.size)(hR:RS w B (1::M) 0)(hP:PcS w ob sb g n m F H)(hn:n+m+(1::M).length≤900000000)(hL:∀y∈1::M,y<256):
  Calls prog 121 #[.agg #[rA rC lv,rA rC ow,.map (some ob),.map (some sb)],rB (some ⟨B,0,rF⟩),rA rC (x:Nat)] w (Zgc B ob sb g n m F H (rdP k x (1::M)) w):=by
 have cL:M.length+1=(1::M).length:=rfl;have HF:=Hd (show Calls prog 177 #[rB (some ⟨B,0,rF⟩)] (w.alloc (.cells #[rA rC lv,rA rC ow,.map (some ob),.map (some sb)] 101)) (Zib B (w.alloc (.cells #[rA rC lv,rA rC ow,.map (some ob),.map (some sb)] 101)) (true,M,0))from Sc B (1::M) 0 (w.alloc (.cells #[rA rC lv,rA rC ow,.map (some ob),.map (some sb)] 101)) (hR.below ((Below.refl w.heap.size w).alloc lR _)) hL);have cT:=Hd fun(L:List Nat) (er:Nat) W=>Hj B L er W;have aT:∀y∈M,y<256:=fun y hy=>hL y (iJ _ hy);have bX:=Hd fun(W:World) (h:RS W B M 0)=>Zcj B M W h (by omega) aT;have bG:=Hd fun(h:(Cz M 0).1=0)=>Vv h;have dK:Hid (∀K,Zcu x (1::M) K=Pb x M K):=Hd fun K=>rfl;have b0:Hid (∀K,Pb x M K=if(Cz M 0).1≠0 then Rc (Cz M 0).1 else if x%2=0∧(Cz M 0).2.1.kind=2∨x%2=1∧(Cz M 0).2.1.kind=1 then Rc 3 else K (Cz M 0).2.1 (Cz M 0).2.2.1):=Hd fun K=>rfl;obtain⟨te,d,R,re,hq⟩:∃a b c d,Cz M 0=(a,b,c,d):=⟨_,_,_,_,rfl⟩;rw[hq]at bX bG;simp only[hq]at b0;have cC:n+m+M.length+1≤900000000:=(by omega);obtain⟨p,hp⟩:=eX w.heap.size;have HP:=Hd hp;have c9:=Hd (On3.below (B:=B) (ob:=ob) (sb:=sb) ((Below.refl w.heap.size w).alloc lR (.cells #[rA rC lv,rA rC ow,.map (some ob),.map (some sb)] 101)));have P1:=Hd (show Blk (w.alloc (.cells #[rA rC lv,rA rC ow,.map (some ob),.map (some sb)] 101)) w.heap.size 101 #[rA rC lv,rA rC ow,.map (some ob),.map (some sb)]from Blk.new _ _ _);have dG:=Hd (hP.below ((Below.refl w.heap.size w).alloc lR (.cells #[rA rC lv,rA rC ow,.map (some ob),.map (some sb)] 101)));have i:=Hd (show B<ob∧B<sb∧ob≠sb∧ob<g∧sb<g∧g≤p∧n+1≤900000001 from⟨b4,cJ,bW,b3,bU,by omega,by omega⟩);have cV:x≤131071:=(by have:=fB k;omega);have bJ:=Hd (show inI (x:Int)from by unfold inI;omega);clear cV;have cU:=Hd hx;have cW:=Hd aH;have bA:=Hd b6;have aQ:=Hd cC;have cP:=Hd aT;clear hR hL hP hp b4 cJ bW b3 bU cS hn hx aH b6 hq cL aT cC;go_enter func121,ntmps121;go_wp2_with fail;refine HF.out.mono ?_;rintro e w2 ⟨rfl,aB,s⟩;have R2:=Hd aB;have cK:=Hd (c9.out.trans (On3.of s (.inl rfl)));have P2:=Hd (P1.out.only s (by obtain⟨A,t,l,z,C,D,u⟩:=i.out;have:=HP.out;omega));have S2:=Hd (dG.out.only s (by obtain⟨A,t,l,z,C,D,u⟩:=i.out;omega) (by obtain⟨A,t,l,z,C,D,u⟩:=i.out;omega) (by obtain⟨A,t,l,z,C,D,u⟩:=i.out;omega));have bN:=Hd (show p+1≤w2.heap.size from by have:=P2.out.lt;have:=HP.out;omega);rw[←HP.out]at P2⊢;clear aB s;go_wp2_with fail;refine(cT.out _ _ _ R2.out).mono ?_;rintro e w' ⟨rfl,rfl⟩;go_wp2_with fail;refine(bX.out w2 R2.out).mono ?_;rintro e w3 ⟨c,rfl,V,aB,s⟩;replace V:NodeO w3 w2.heap.size d c:=V;have aN:=Hd V.c.oneL;have b5:=Hd (V.mono (B':=p) (by have:=bN.out;omega));obtain⟨x0,x1,x2,x3,x4,u0,u1,u2,rfl⟩:=V.shape;have R3:=Hd aB;have cM:=Hd (cK.out.trans (On3.of s (.inl rfl)));have P3:=Hd (P2.out.only s (by obtain⟨A,t,l,z,C,D,u⟩:=i.out;omega));have S3:=Hd (S2.out.only s (by obtain⟨A,t,l,z,C,D,u⟩:=i.out;omega) (by obtain⟨A,t,l,z,C,D,u⟩:=i.out;omega) (by obtain⟨A,t,l,z,C,D,u⟩:=i.out;omega));have dJ:=Hd (bM bN.out s.size);clear aB s V;obtain⟨kd,aZ⟩:=eX d.kind;obtain⟨sr,bF⟩:=eX d.leaf.source;rw[←aZ,←bF]at b5 aN⊢;have cR:=Hd aZ;clear aZ bF;obtain⟨q,hq⟩:=eX w3.heap.size;have HQ:=Hd hq;clear hq;go_wp2_with (refine Aa rfl 52 (.tmp 9) (.tmp 31) rfl w3.heap.size #[rA rD kd,x0,x1,x2,rA rD sr,x3,x4,u0,u1,u2] rfl rfl 52 #[rA rD 0,q9 rF 0 0,q9 rF 0 0,q9 rF 0 0,rA rD 0,q9 rF 0 0,q9 rF 0 0,q9 rF 0 0,q9 rF 0 0,q9 rF 0 0] (Blk.new _ _ _) (by kernel_rfl) rfl aN.out ?_);rintro w4 T b7 bQ aX;have I:Below w3.heap.size w3 w4:=((Below.refl w3.heap.size w3).alloc lR (.cells #[rA rD 0,q9 rF 0 0,q9 rF 0 0,q9 rF 0 0,rA rD 0,q9 rF 0 0,q9 rF 0 0,q9 rF 0 0,q9 rF 0 0,q9 rF 0 0] 52)).trans (b7 w3.heap.size lR);have R4:=Hd (R3.out.below I);have aC:=Hd (cM.out.trans (On3.below I));have P4:=Hd (P3.out.below I P3.out.lt);have S4:=Hd (S3.out.below I);have bV:=Hd (b5.out.below I lR);have aV:=Hd (bM dJ.out I.size);rw[←HQ.out]at T⊢;have Q4:=Hd T;have y0:=T.cell 0;simp only[bZ,cA]at y0;clear T b7 bQ aX I;have a0:Hid (∀K,rdP k x (1::M)=Zcu x (1::M) K→rdP k x (1::M)=if te≠0 then Rc te else if x%2=0∧kd=2∨x%2=1∧kd=1 then Rc 3 else K d R):=Hd fun K e=>by
  rw[e,dK.out,b0.out,cR.out]
 by_cases h1:te=0
 ·have c4:((te:Int) !=0)=false:=(by rw[bne_eq_false_iff_eq];omega);obtain⟨a9,aA⟩:=bG.out h1;have a9:re=0:=a9;have aA:TkOk M d R:=aA;subst a9;have X:=Hd h1;have aW:=Hd (show R.length<M.length∧Sub R M from⟨aA.len,aA.sub⟩);clear h1 aA;cases k with
  |zero=>
   have S:x%2=0:=Gf bA.out;have bP:fC (x:Int) 2=0:=(by rw[fD (by omega)];omega);have aU:(x:Int)%2=0:=(by omega);have aF:=Hd (a0.out _ rfl)
   by_cases hk2:kd=2
   ·have e2:((kd:Int)==2)=true:=(by rw[beq_iff_eq];omega);have E:=Hd (show rdP 0 x (1::M)=Rc 3 from by rw[aF.out,if_neg (by have:=X.out;omega),if_pos (.inl ⟨S,hk2⟩)]);clear hk2 S;go_wp2_with fail;go_ret;rw[E.out];exact⟨rfl,aC.out,fun h=>absurd h (by decide)⟩
   ·have e2:((kd:Int)==2)=false:=(by rw[beq_eq_false_iff_ne];omega);have E:=Hd (show rdP 0 x (1::M)=⟨0,[((x:Int),d)],[],R⟩from by rw[aF.out,if_neg (by have:=X.out;omega),if_neg (by omega)]);obtain⟨⟨G,aE,Y⟩,-⟩:=id S4.out;have aM:=P4.out.cell 2;simp only[bZ,cA,cB]at aM;have aY:=Hd aE;have bC:=Hd Y;clear hk2 S aE Y;go_wp2_with (first
     |(refine Aw rfl 52 (.tmp 9) rfl q rfl 52 #[rA rD kd,x0,x1,x2,rA rD sr,x3,x4,u0,u1,u2] (0,0) _ Q4.out underlying52 rfl (by kernel_rfl) ?_)
     |(refine Fe rfl (.tmp 57) (.tmp 58) (.tmp 59) rfl underlying98 rfl aY.out rfl bJ.out (by obtain⟨A,t,l,z,C,D,u⟩:=i.out;unfold maxLen;omega) _ rfl ?_))
    intro w5 Z O;have S5:=Hd (S4.out.putN bC.out Z O (bV.out.mono (by obtain⟨A,t,l,z,C,D,u⟩:=i.out;omega)) (by obtain⟨A,t,l,z,C,D,u⟩:=i.out;omega) (by obtain⟨A,t,l,z,C,D,u⟩:=i.out;exact l));have R5:=Hd (R4.out.only O (by obtain⟨A,t,l,z,C,D,u⟩:=i.out;omega) (by obtain⟨A,t,l,z,C,D,u⟩:=i.out;have:=aV.out;omega));have bB:=Hd (aC.out.trans (On3.of O (.inr (.inl rfl))));clear Z O y0;go_wp2_with fail;go_ret;rw[E.out];exact⟨rfl,bB.out,fun _=>⟨R5.out,by have:=S5.out;rw[Zjj];exact this⟩⟩
  |succ j=>
   have aI:x%2=1:=Fb bA.out;have bP:fC (x:Int) 2=1:=(by rw[fD (by omega)];omega);have aU:(x:Int)%2=1:=(by omega);have aF:=Hd (a0.out _ rfl)
   by_cases hk2:kd=1
   ·have e2:((kd:Int)==1)=true:=(by rw[beq_iff_eq];omega);have E:=Hd (show rdP (j+1) x (1::M)=Rc 3 from by rw[aF.out,if_neg (by have:=X.out;omega),if_pos (.inr ⟨aI,hk2⟩)]);clear hk2 aI;go_wp2_with fail;go_ret;rw[E.out];exact⟨rfl,aC.out,fun h=>absurd h (by decide)⟩
   ·have e2:((kd:Int)==1)=false:=(by rw[beq_eq_false_iff_ne];omega);have E:=Hd (show rdP (j+1) x (1::M)=Zch x d (rdP j (x-2^j) R) (rdP j (x+2^j) (rdP j (x-2^j) R).rest)from by rw[aF.out,if_neg (by have:=X.out;omega),if_neg (by omega)]);have cO:2^(j+1)=2*2^j:=(by rw[Nat.pow_succ];omega);have c3:=fB j;have hX:=cU.out;have c2:=cW.out;have aD:x≤131070:=(by omega);obtain⟨kl,kr,bL,cD,kx⟩:=kids_lev aD bA.out;have aL:=fun(W:World)=>Ia (x:Int) W;have aJ:=fun(W:World)=>Gm (x:Int) W;rw[kl]at aL;rw[kr]at aJ;have bH:=aW.out;have c5:=aQ.out;have bD:∀y∈R,y<256:=fun y hy=>cP.out y (bH.2.2 y hy);have I1:=fun(W:World) (n' m':Nat) (F':Int→Option NodeD) (H':Int→Option (List Nat)) (aS:n'+m'+R.length≤900000000) (h1:g≤W.heap.size) (h2:RS W B R 0) (h3:PcS W ob sb g n' m' F' H')=>IH j rfl (x-2^j) lv ow B ob sb g n' m' R F' H' W bL (by omega) (by omega) (by obtain⟨A,t,l,z,C,D,u⟩:=i.out;omega) (by obtain⟨A,t,l,z,C,D,u⟩:=i.out;omega) (by obtain⟨A,t,l,z,C,D,u⟩:=i.out;exact l) (by obtain⟨A,t,l,z,C,D,u⟩:=i.out;omega) (by obtain⟨A,t,l,z,C,D,u⟩:=i.out;omega) h1 h2 h3 aS bD;have aK:=fun(h:(rdP j (x-2^j) R).er=0)=>Zar j (x-2^j) R (by omega) h;obtain⟨r,b2⟩:=eX (rdP j (x-2^j) R);rw[←b2]at I1 aK E;have I2:=fun(W:World) (n' m':Nat) (F':Int→Option NodeD) (H':Int→Option (List Nat)) (he:r.er=0) (aS:n'+m'+r.rest.length≤900000000) (h1:g≤W.heap.size) (h2:RS W B r.rest 0) (h3:PcS W ob sb g n' m' F' H')=>IH j rfl (x+2^j) lv ow B ob sb g n' m' r.rest F' H' W cD (by omega) (by omega) (by obtain⟨A,t,l,z,C,D,u⟩:=i.out;omega) (by obtain⟨A,t,l,z,C,D,u⟩:=i.out;omega) (by obtain⟨A,t,l,z,C,D,u⟩:=i.out;exact l) (by obtain⟨A,t,l,z,C,D,u⟩:=i.out;omega) (by obtain⟨A,t,l,z,C,D,u⟩:=i.out;omega) h1 h2 h3 aS fun y hy=>bD y ((aK he).sub.2 y hy);have a8:=fun(h:(rdP j (x+2^j) r.rest).er=0)=>Zar j (x+2^j) r.rest (by omega) h;obtain⟨P,b9⟩:=eX (rdP j (x+2^j) r.rest);rw[←b9]at I2 a8 E;have B1:r.er=0→(∀p∈r.op,p.1<(x:Int))∧(∀p∈r.sh,p.1<(x:Int))∧r.op.length+r.sh.length+r.rest.length≤R.length:=fun h=>by
     have o:=aK h;exact⟨fun p hp=>by have:=(o.opIn p hp).2;omega,fun p hp=>by have:=(o.shIn p hp).2;omega,o.len⟩
    have B2:P.er=0→(∀p∈P.op,(x:Int)<p.1)∧(∀p∈P.sh,(x:Int)<p.1):=fun h=>by
     have o:=a8 h;exact⟨fun p hp=>by have:=(o.opIn p hp).1;omega,fun p hp=>by have:=(o.shIn p hp).1;omega⟩
    obtain⟨xl,aH⟩:=eX (x-2^j);obtain⟨xr,cG⟩:=eX (x+2^j);rw[←aH]at I1 aL;rw[←cG]at I2 aJ;have dE:=Hd I1;have dH:=Hd I2;have bT:=Hd aL;have bI:=Hd aJ;have cH:=Hd B1;have cN:=Hd B2;obtain⟨⟨G,aE,Y⟩,-⟩:=id S4.out;have aM:=P4.out.cell 2;simp only[bZ,cA,cB]at aM;have aY:=Hd aE;have bC:=Hd Y;clear hk2 aI aE Y I1 I2 aL aJ B1 B2 aK a8 b2 b9 aH cG kl kr bL cD kx hX c2 aD cO c3 bH c5 bD;go_wp2_with (first
     |(refine Aw rfl 52 (.tmp 9) rfl q rfl 52 #[rA rD kd,x0,x1,x2,rA rD sr,x3,x4,u0,u1,u2] (0,0) _ Q4.out underlying52 rfl (by kernel_rfl) ?_)
     |(refine Fe rfl (.tmp 57) (.tmp 58) (.tmp 59) rfl underlying98 rfl aY.out rfl bJ.out (by obtain⟨A,t,l,z,C,D,u⟩:=i.out;unfold maxLen;omega) _ rfl ?_))
    intro w5 Z O;have S5:=Hd (S4.out.putN bC.out Z O (bV.out.mono (by obtain⟨A,t,l,z,C,D,u⟩:=i.out;omega)) (by obtain⟨A,t,l,z,C,D,u⟩:=i.out;omega) (by obtain⟨A,t,l,z,C,D,u⟩:=i.out;exact l));have R5:=Hd (R4.out.only O (by obtain⟨A,t,l,z,C,D,u⟩:=i.out;omega) (by obtain⟨A,t,l,z,C,D,u⟩:=i.out;have:=aV.out;omega));have bB:=Hd (aC.out.trans (On3.of O (.inr (.inl rfl))));have bS:=Hd (P4.out.only O (by obtain⟨A,t,l,z,C,D,u⟩:=i.out;omega));have bK:=Hd (bM aV.out O.size);have b1:=Hd fun(W:World) (hw:Below w5.heap.size w5 W)=>dE.out W (n+1) m (Mn F [((x:Int),d)]) H (by have:=aW.out.1;have:=aQ.out;omega) (by obtain⟨A,t,l,z,C,D,u⟩:=i.out;have:=bK.out;have:=hw.size;omega) (R5.out.below hw) (S5.out.below hw);clear Z O y0 aM;go_wp2_with fail;refine Bt [eF (.agg #[rA rC lv,rA rC ow,.map (some ob),.map (some sb)]),eF (rB (some ⟨B,0,rF⟩)),eF (rA rC (x:Nat)),eF (rA rC (xl:Nat)),fun v w'=>v=rA rD (r.er:Nat)∧(r.er=0→RS w' B r.rest 0∧PcS w' ob sb g (n+1+r.op.length) (m+r.sh.length) (Mn (Mn F [((x:Int),d)]) r.op) (Ps (H) r.sh)),eF (rA rD (r.er:Nat))]
     (cI 6 true) (fun x=>On3 B ob sb w5 x) (fun x y=>On3 B ob sb x y) (some 4) (by kernel_rfl) ?_ ⟨rfl,rfl,rfl,lR,fun _ _ _ _ _=>rfl⟩ (fun x y _ h=>On3.below h) (fun x y hx hs=>hx.trans hs) (by kernel_rfl) (by kernel_rfl) ?_ ?_
    ·exact kE (kE (kE (kE (Cl (fun v x y h _ I=>⟨h.1,fun e=>⟨(h.2 e).1.below I,(h.2 e).2.below I⟩⟩) (Ai (fun _ _ _ h _ _=>h) Ah)))))
    ·refine gO ?_ (gP ?_ rfl (gP ?_ rfl (gO ?_ (gOw (by kernel_rfl) ?_ (gP ?_ rfl .nil)))));all_goals
      intro a wx Q aR ho hf;have Q:On3 B ob sb w5 wx:=Q;refine⟨rfl,?_⟩;intro K U;try have aP:a.tmps[3]?.getD undef=rB (some ⟨p,0,rF⟩):=ho 3 (by kernel_rfl)
      try have cQ:a.tmps[1]?.getD undef=rB (some ⟨B,0,rF⟩):=ho 1 (by kernel_rfl)
      try have dI:a.tmps[2]?.getD undef=rA rC (x:Nat):=ho 2 (by kernel_rfl)
      try have c8:=eqn hf.1
      try have dF:=eqn hf.2.1
      try have c1:=eqn hf.2.2.1
      try(refine Hd ?_;go_simp;exact U _ rfl)
     ·have aO:=bS.out.on3 Q (by obtain⟨A,t,l,z,C,D,u⟩:=i.out;omega) (by obtain⟨A,t,l,z,C,D,u⟩:=i.out;omega) (by obtain⟨A,t,l,z,C,D,u⟩:=i.out;omega);exact wp_load_row 101 (.tmp 3) rfl _ (evs aP) _ _ (0,0) _ aO underlying101 rfl (by kernel_rfl) (U _ _ rfl (Af rfl bR))
     ·go_simp;refine(bT.out wx).mono ?_;rintro e w7 ⟨rfl,rfl⟩;exact U _ _ rfl (Af rfl bR)
     ·go_simp;refine(b1.out wx aR).mono ?_;rintro e w7 ⟨rfl,h2,h3⟩;exact U _ _ ⟨rfl,h3⟩ (Bv rfl h2)
     ·refine Hd ?_;have dD:a.tmps[67]?.getD undef=rA rD (r.er:Nat):=hf.1.1;go_simp;exact U _ rfl
    ·rintro f w6 I N;have I:On3 B ob sb w5 w6:=I;have J:r.er=0→RS w6 B r.rest 0∧PcS w6 ob sb g (n+1+r.op.length) (m+r.sh.length) (Mn (Mn F [((x:Int),d)]) r.op) (Ps (H) r.sh):=N.2.2.2.2.1.2;have Sr:f 11=rA rD (r.er:Nat):=N.2.2.2.2.2.1;clear N;simp only[Am,Az,Ex,cX,cY,cZ,dA,Nat.reduceBEq,Nat.reduceAdd,dB,dC,cond_true,cond_false];rw[Sr];clear Sr;have bO:=Hd (bB.out.trans I);have c0:=Hd (bS.out.on3 I (by obtain⟨A,t,l,z,C,D,u⟩:=i.out;omega) (by obtain⟨A,t,l,z,C,D,u⟩:=i.out;omega) (by obtain⟨A,t,l,z,C,D,u⟩:=i.out;omega));have c6:=Hd (bM bK.out I.size);have b8:=Hd J;clear I J
     by_cases hl0:r.er=0
     ·have c7:((r.er:Int) !=0)=false:=(by rw[bne_eq_false_iff_eq];omega);have HL0:=Hd hl0;have bE:=Hd fun(W:World) (hw:Below w6.heap.size w6 W)=>dH.out W (n+1+r.op.length) (m+r.sh.length) (Mn (Mn F [((x:Int),d)]) r.op) (Ps H r.sh) hl0 (by have:=aW.out.1;have:=aQ.out;have:=(cH.out hl0).2.2;omega) (by obtain⟨A,t,l,z,C,D,u⟩:=i.out;have:=c6.out;have:=hw.size;omega) ((b8.out hl0).1.below hw) ((b8.out hl0).2.below hw);clear hl0;go_wp2_with fail;refine Bt [eF (.agg #[rA rC lv,rA rC ow,.map (some ob),.map (some sb)]),eF (rB (some ⟨B,0,rF⟩)),eF (rA rC (x:Nat)),eF (rA rC (xr:Nat)),fun v w'=>v=rA rD (P.er:Nat)∧(P.er=0→RS w' B P.rest 0∧PcS w' ob sb g (n+1+r.op.length+P.op.length) (m+r.sh.length+P.sh.length) (Mn (Mn (Mn F [((x:Int),d)]) r.op) P.op) (Ps (Ps H r.sh) P.sh)),eF (rA rD (P.er:Nat))]
       (cI 6 true) (fun x=>On3 B ob sb w6 x) (fun x y=>On3 B ob sb x y) (some 4) (by kernel_rfl) ?_ ⟨rfl,rfl,rfl,lR,fun _ _ _ _ _=>rfl⟩ (fun x y _ h=>On3.below h) (fun x y hx hs=>hx.trans hs) (by kernel_rfl) (by kernel_rfl) ?_ ?_
      ·exact kE (kE (kE (kE (Cl (fun v x y h _ I=>⟨h.1,fun e=>⟨(h.2 e).1.below I,(h.2 e).2.below I⟩⟩) (Ai (fun _ _ _ h _ _=>h) Ah)))))
      ·refine gO ?_ (gP ?_ rfl (gP ?_ rfl (gO ?_ (gOw (by kernel_rfl) ?_ (gP ?_ rfl .nil)))));all_goals
        intro a wx Q aR ho hf;have Q:On3 B ob sb w6 wx:=Q;refine⟨rfl,?_⟩;intro K U;try have aP:a.tmps[3]?.getD undef=rB (some ⟨p,0,rF⟩):=ho 3 (by kernel_rfl)
        try have cQ:a.tmps[1]?.getD undef=rB (some ⟨B,0,rF⟩):=ho 1 (by kernel_rfl)
        try have dI:a.tmps[2]?.getD undef=rA rC (x:Nat):=ho 2 (by kernel_rfl)
        try have c8:=eqn hf.1
        try have dF:=eqn hf.2.1
        try have c1:=eqn hf.2.2.1
        try(refine Hd ?_;go_simp;exact U _ rfl)
       ·have aO:=c0.out.on3 Q (by obtain⟨A,t,l,z,C,D,u⟩:=i.out;omega) (by obtain⟨A,t,l,z,C,D,u⟩:=i.out;omega) (by obtain⟨A,t,l,z,C,D,u⟩:=i.out;omega);exact wp_load_row 101 (.tmp 3) rfl _ (evs aP) _ _ (0,0) _ aO underlying101 rfl (by kernel_rfl) (U _ _ rfl (Af rfl bR))
       ·go_simp;refine(bI.out wx).mono ?_;rintro e w7 ⟨rfl,rfl⟩;exact U _ _ rfl (Af rfl bR)
       ·go_simp;refine(bE.out wx aR).mono ?_;rintro e w7 ⟨rfl,h2,h3⟩;exact U _ _ ⟨rfl,h3⟩ (Bv rfl h2)
       ·refine Hd ?_;have dD:a.tmps[75]?.getD undef=rA rD (P.er:Nat):=hf.1.1;go_simp;exact U _ rfl
      ·rintro f w7 I N;have I:On3 B ob sb w6 w7:=I;have J:P.er=0→RS w7 B P.rest 0∧PcS w7 ob sb g (n+1+r.op.length+P.op.length) (m+r.sh.length+P.sh.length) (Mn (Mn (Mn F [((x:Int),d)]) r.op) P.op) (Ps (Ps H r.sh) P.sh):=N.2.2.2.2.1.2;have Sr:f 6=rA rD (P.er:Nat):=N.2.2.2.2.2.1;clear N;simp only[Am,Az,Ex,cX,cY,cZ,dA,Nat.reduceBEq,Nat.reduceAdd,dB,dC,cond_true,cond_false];rw[Sr];clear Sr;have cE:=Hd (bO.out.trans I);have cF:=Hd J;clear I J;go_wp2_with fail;go_ret;rw[E.out];unfold Zch;rw[if_neg (by have:=HL0.out;omega)]
       by_cases hr0:P.er=0
       ·obtain⟨l1,l2,l3⟩:=cH.out HL0.out;obtain⟨r1,r2⟩:=cN.out hr0;obtain⟨p1,p2⟩:=cF.out hr0;rw[if_neg (by omega)];refine⟨by rw[hr0];rfl,cE.out,fun _=>⟨p1,?_⟩⟩;have e1:=Zjk F (d:=d) l1 r1;have e2:=Zjl H l2 r2;rw[e1,e2]at p2;exact p2.le (by simp only[aG,bY];omega) (by simp only[aG];omega)
       ·rw[if_pos hr0];exact⟨rfl,cE.out,fun h=>absurd h hr0⟩
     ·have c7:((r.er:Int) !=0)=true:=(by rw[bne_iff_ne];omega);have HL0:=Hd hl0;clear hl0;go_wp2_with fail;go_ret;rw[E.out];unfold Zch;rw[if_pos HL0.out];exact⟨rfl,bO.out,fun h=>absurd h HL0.out⟩
 ·have c4:((te:Int) !=0)=true:=(by rw[bne_iff_ne];omega);obtain⟨K,U⟩:=Zat k x (1::M);have E:=Hd (show rdP k x (1::M)=Rc te from by rw[a0.out K U,if_pos h1]);have X:=Hd h1;clear h1 U;go_wp2_with fail;go_ret;rw[E.out];exact⟨rfl,aC.out,fun h=>absurd h X.out⟩
theorem Zjn:∀k,k≤16→Zjm k:=by
 have step:∀k,k≤16→(∀j,k=j+1→Zjm j)→Zjm k:=by
  intro k hk y x lv ow B ob sb g n m L F H w h1 h2 i h3 r q p s t o b c a;rcases Zck L with⟨u,M,f,d,v⟩|⟨M,rfl,d⟩|⟨M,rfl,d⟩
  ·obtain⟨K,l⟩:=Zat k x L;rw[l,v];exact Zgd k x lv ow B ob sb g n m u L M F H w o a f d
  ·obtain⟨K,l⟩:=Zat k x (0::M);rw[l];exact Zge k x lv ow B ob sb g n m M F H w (by have:=fB k;omega) h3 r q p s t o b (by simp only[bY]at c;omega) a
  ·exact Zgf k x hk y lv ow B ob sb g n m M F H w h1 h2 i h3 r q p s t o b c a
 intro k
 induction k with
 |zero=>intro h;exact step 0 h fun j e=>by cases e
 |succ k ih=>intro h;exact step (k+1) h fun j e=>by cases e;exact ih (by omega)
def Fy (L:List Nat)(s:Int)(P:Nat→Bool):Nat×Nat×List Nat×Nat:=
 if(Hf L 0 s).2.2≠0 then(0,(Hf L 0 s).2.2,(Hf L 0 s).2)else if P (Gr (Hf L 0 s).1)=true then(Gr (Hf L 0 s).1,0,(Hf L 0 s).2)else(0,3,(Hf L 0 s).2)
def Zgg (B:Nat)(w:World)(r:Nat×Nat×List Nat×Nat)(e:Ending)(w':World):Prop:=
 e=.returned (.tuple #[rA rC (r.1:Nat),rA rD (r.2.1:Nat)])∧RS w' B r.2.2.1 r.2.2.2∧Only B w w'
theorem Zgh {L:List Nat} {er:Nat} {n:Int}(h:(Dd L er n).2.2≠0):(Dd L er n).1=[]:=by
 unfold Dd at h⊢
 by_cases h1:er≠0
 ·rw[if_pos h1]
 ·rw[if_neg h1]at h⊢
  by_cases h2:n<0
  ·rw[if_pos h2]
  ·rw[if_neg h2]at h⊢
   by_cases h3:(L.length:Int)<n
   ·rw[if_pos h3]
   ·rw[if_neg h3]at h;exact absurd rfl h
theorem Zgi {L:List Nat} {s:Int}(d:∀n∈L,n<256)(b:s=1∨s=4):Gr (Hf L 0 s).1<4294967296:=by
 have p:=Hc L 0 s
 by_cases h:(Hf L 0 s).2.2=0
 ·have:=Zje (L:=L) (er:=0) (n:=if Zcy s=true then s else-1) h;have a:Zcy s=true:=by rcases b with rfl|rfl<;>decide
  rw[if_pos a]at this;have e:Hf L 0 s=Dd L 0 s:=(by rw[Hf,if_pos a]);rw[e,this.2.2.2];have c:(L.take s.toNat).length≤4:=(by rw[List.length_take];omega);have h1:=Ro _ _ rfl fun n f=>d n (List.mem_of_mem_take (i:=s.toNat) f);have h2:256^(L.take s.toNat).length≤256^4:=Nat.pow_le_pow_right (by omega) c;exact dS h1 (bM h2 (by decide))
 ·have:(Hf L 0 s).1=[]:=Zgh h;rw[this];decide
theorem Re (g:Nat) (c:Value) (I:∀args w,(callFunc g args).run prog w=.ok (.enter g args) w) (B:Nat) (L:List Nat) (s:Int) (P:Nat→Bool) (w:World) (h:RS w B L 0) (A:s=1∨s=4) (u:∀n∈L,n<256)
  (C:∀(n:Nat) (W:World),n<4294967296→Only B w W→Calls prog g #[rA rC (n:Nat),c] W fun e D=>e=.returned (.bool (P n))∧D=W):
  Calls prog 118 #[rB (some ⟨B,0,rF⟩),rA rC s,.func (.func g) #[] #[c]] w (Zgg B w (Fy L s P)):=by
 have z:=Hd (Og B L 0 s w h u);have y:=Zgi u A;have v:=Hd fun(L:List Nat) (er:Nat) W=>Hj B L er W;unfold Fy;obtain⟨m,o⟩:=eX (Gr (Hf L 0 s).1);obtain⟨M,x⟩:=eX ((Hf L 0 s).2.1);obtain⟨er,b⟩:=eX ((Hf L 0 s).2.2);have q:Hid (Calls prog 154 #[rB (some ⟨B,0,rF⟩),rA rC s] w fun e w'=>e=.returned (rA .u64 (m:Nat))∧RS w' B M er∧Only B w w'):=Hd (by rw[o,x,b];exact z.out);have e2:(Hf L 0 s).2=(M,er):=(by rw[x,b]);rw[←o]at y;rw[←b,←o,e2];have i:=Hd fun(W:World) (G:Only B w W)=>C m W y G;have F:IntKind.i64.wrap (m:Int)=(m:Int):=IntWalk.i64_in _ ⟨by omega,by omega⟩;obtain⟨R,t⟩:=eX ((if er≠0 then(0,er,M,er)else if P m=true then(m,0,M,er)else(0,3,M,er):Nat×Nat×List Nat×Nat));rw[←t];have p:=Hd t;obtain⟨E,d⟩:=eX (P m);rw[←d]at i p;clear z h A u y C o x b e2 t d;go_enter func118,ntmps118;go_wp2_with fail;refine q.out.mono ?_;rintro e H ⟨rfl,f,a⟩;have l:=Hd f;have j:=Hd a;clear f a;go_wp2_with fail;refine(v.out _ _ _ l.out).mono ?_;rintro e w' ⟨rfl,rfl⟩
 by_cases h1:er=0
 ·have r:((er:Int) !=0)=false:=(by rw[bne_eq_false_iff_eq];omega);have k:=Hd h1;clear h1;go_wp2_with fail;refine(i.out _ j.out).mono ?_;rintro e w' ⟨rfl,rfl⟩;cases E with
  |true=>
   go_wp2_with fail;go_ret2;rw[p.out,if_neg (by have:=k.out;omega),if_pos trivial];exact⟨rfl,l.out,j.out⟩
  |false=>
   go_wp2_with fail;go_ret2;rw[p.out,if_neg (by have:=k.out;omega),if_neg (by simp)];exact⟨rfl,l.out,j.out⟩
 ·have r:((er:Int) !=0)=true:=(by rw[bne_iff_ne];omega);have k:=Hd h1;clear h1;go_wp2_with fail;go_ret2;rw[p.out,if_pos k.out];exact⟨rfl,l.out,j.out⟩
theorem Zgj (g:Nat) (H:∀args w,(callFunc g args).run prog w=.ok (.enter g args) w) (B:Nat) (L:List Nat) (s:Int) (P:Nat→Bool) (w:World) (h:RS w B L 0) (z:s=1∨s=4) (t:∀n∈L,n<256)
  (A:∀(n:Nat) (W:World),n<4294967296→Only B w W→Calls prog g #[rA rC (n:Nat)] W fun e C=>e=.returned (.bool (P n))∧C=W):
  Calls prog 118 #[rB (some ⟨B,0,rF⟩),rA rC s,.func (.func g) #[] #[]] w (Zgg B w (Fy L s P)):=by
 have y:=Hd (Og B L 0 s w h t);have x:=Zgi t z;have u:=Hd fun(L:List Nat) (er:Nat) W=>Hj B L er W;unfold Fy;obtain⟨m,l⟩:=eX (Gr (Hf L 0 s).1);obtain⟨M,v⟩:=eX ((Hf L 0 s).2.1);obtain⟨er,b⟩:=eX ((Hf L 0 s).2.2);have p:Hid (Calls prog 154 #[rB (some ⟨B,0,rF⟩),rA rC s] w fun e w'=>e=.returned (rA .u64 (m:Nat))∧RS w' B M er∧Only B w w'):=Hd (by rw[l,v,b];exact y.out);have e2:(Hf L 0 s).2=(M,er):=(by rw[v,b]);rw[←l]at x;rw[←b,←l,e2];have f:=Hd fun(W:World) (F:Only B w W)=>A m W x F;have E:IntKind.i64.wrap (m:Int)=(m:Int):=IntWalk.i64_in _ ⟨by omega,by omega⟩;obtain⟨R,r⟩:=eX ((if er≠0 then(0,er,M,er)else if P m=true then(m,0,M,er)else(0,3,M,er):Nat×Nat×List Nat×Nat));rw[←r];have o:=Hd r;obtain⟨D,c⟩:=eX (P m);rw[←c]at f o;clear y h z t x A l v b e2 r c;go_enter func118,ntmps118;go_wp2_with fail;refine p.out.mono ?_;rintro e G ⟨rfl,d,a⟩;have k:=Hd d;have i:=Hd a;clear d a;go_wp2_with fail;refine(u.out _ _ _ k.out).mono ?_;rintro e w' ⟨rfl,rfl⟩
 by_cases h1:er=0
 ·have q:((er:Int) !=0)=false:=(by rw[bne_eq_false_iff_eq];omega);have j:=Hd h1;clear h1;go_wp2_with fail;refine(f.out _ i.out).mono ?_;rintro e w' ⟨rfl,rfl⟩;cases D with
  |true=>
   go_wp2_with fail;go_ret2;rw[o.out,if_neg (by have:=j.out;omega),if_pos trivial];exact⟨rfl,k.out,i.out⟩
  |false=>
   go_wp2_with fail;go_ret2;rw[o.out,if_neg (by have:=j.out;omega),if_neg (by simp)];exact⟨rfl,k.out,i.out⟩
 ·have q:((er:Int) !=0)=true:=(by rw[bne_iff_ne];omega);have j:=Hd h1;clear h1;go_wp2_with fail;go_ret2;rw[o.out,if_pos j.out];exact⟨rfl,k.out,i.out⟩
def Zm8 (only:Bool)(n i:Nat)(L:List Nat):Nat×SparseD:=
 if(rdP (aX n) (n-1) L).er≠0 then((rdP (aX n) (n-1) L).er,Kd)else
 if Zhb (rdP (aX n) (n-1) L).rest 0≠0 then(Zhb (rdP (aX n) (n-1) L).rest 0,Kd)else
 if Ay ⟨n,i,(rdP (aX n) (n-1) L).op,(rdP (aX n) (n-1) L).sh⟩ only=true then(0,⟨n,i,(rdP (aX n) (n-1) L).op,(rdP (aX n) (n-1) L).sh⟩)else(3,Kd)
def Zm9 (only:Bool)(n:Nat)(L:List Nat):Nat×SparseD:=
 if(Fy L 4 fun i=>decide (i<n)).2.1≠0 then((Fy L 4 fun i=>decide (i<n)).2.1,Kd)else
 Zm8 only n (Fy L 4 fun i=>decide (i<n)).1 (Fy L 4 fun i=>decide (i<n)).2.2.1
def Zna (only:Bool)(L:List Nat):Nat×SparseD:=
 if(Fy L 4 fits).2.1≠0 then((Fy L 4 fits).2.1,Kd)else
 Zm9 only (Fy L 4 fits).1 (Fy L 4 fits).2.2.1
def ofT (only:Bool)(mk:Nat)(b:List Nat):Nat×SparseD:=
 if 1048576<b.length then(6,Kd)else
 if(Fy b 1 fun n=>n==mk).2.1≠0 then((Fy b 1 fun n=>n==mk).2.1,Kd)else
 Zna only (Fy b 1 fun n=>n==mk).2.2.1
def Zjo (r:Nat×SparseD)(w:World)(e:Ending)(w':World):Prop:=Below w.heap.size w w'∧
 if r.1=0 then∃ob sb gg,e=.returned (.tuple #[.agg #[rA rC r.2.leaves,rA rC r.2.own,.map (some ob),.map (some sb)],rA rD 0])∧w.heap.size≤ob∧w.heap.size≤sb∧ob≠sb∧ob<gg∧sb<gg∧PcS w' ob sb gg r.2.op.length r.2.sh.length (Ag r.2.op) (Ax r.2.sh)
 else e=.returned (.tuple #[.agg #[rA rC 0,rA rC 0,.map none,.map none],rA rD (r.1:Nat)])
theorem PcS.pieceN {w:World} {ob sb g n m:Nat} {F:Int→Option NodeD} {H:Int→Option (List Nat)}(h:PcS w ob sb g n m F H):Vk w ob n F:=by
 obtain⟨⟨G,h1,h2⟩,-⟩:=h;refine⟨G,h1,fun x=> ?_⟩;have:=h2 x;revert this;cases F x with
 |none=>exact fun h=>h
 |some d=>rintro⟨c,h3,h4⟩;exact⟨c,h3,h4.c⟩
theorem PcS.pieceH {w:World} {ob sb g n m:Nat} {F:Int→Option NodeD} {H:Int→Option (List Nat)}(h:PcS w ob sb g n m F H):Vl w sb m H:=by
 obtain⟨-,G,h1,h2⟩:=h;refine⟨G,h1,fun x=> ?_⟩;have:=h2 x;revert this;cases H x with
 |none=>exact fun h=>h
 |some d=>rintro⟨c,h3,h4⟩;exact⟨c,h3,h4.rd⟩
theorem Zgk (n g mk:Nat)(w:World)(d:w.cell? ⟨g,0,rF⟩=some (rA rC (mk:Nat))):
  Calls prog 119 #[rA rC (n:Nat),rB (some ⟨g,0,rF⟩)] w fun e w'=>e=.returned (.bool (n==mk))∧w'=w:=by
 obtain⟨b,c⟩:=eX ((n==mk));have a:((n:Int)==(mk:Int))=b:=(by rw[c,gA,beq_iff_eq,beq_iff_eq];omega);rw[←c];clear c;go_enter func119,ntmps119;go_wp2_with fail;go_ret;exact⟨by first|rfl|(rw[a]),rfl⟩
theorem Zgl (n g lv:Nat)(w:World)(f:w.cell? ⟨g,0,rF⟩=some (rA rC (lv:Nat))):
  Calls prog 120 #[rA rC (n:Nat),rB (some ⟨g,0,rF⟩)] w fun e w'=>e=.returned (.bool (decide (n<lv)))∧w'=w:=by
 obtain⟨b,a⟩:=eX (decide (n<lv));have d:decide (n<lv)=b:=a.symm;have c:decide ((n:Int)<(lv:Int))=b:=(by rw[a,gA,decide_eq_true_iff,decide_eq_true_iff];omega);rw[←a];clear a;go_enter func120,ntmps120;go_wp2_with fail;go_ret;exact⟨by first|rfl|(rw[d])|(rw[c]),rfl⟩
end Go.Proofs.YtfofaiommeckbaaGreat
namespace Go.Proofs.YtfofaiommeckbaaGreat
open Go.RowKit WalkM WireM
theorem Zau (L:List Nat)(P:Nat→Bool):Fy L 1 P=match L with|[]=>(0,4,[],4)|b::M=>if P b=true then(b,0,M,0)else(0,3,M,0):=by
 unfold Fy;rw[Tb];cases L with
 |nil=>rfl
 |cons b M=>simp only[Xy];rfl
theorem Lf (L:List Nat)(P:Nat→Bool):Fy L 4 P=if L.length<4 then(0,4,L,4)else if P (Js L)=true then(Js L,0,L.drop 4,0)else(0,3,L.drop 4,0):=by
 unfold Fy;have e:Hf L 0 4=if L.length<4 then([],L,4)else(L.take 4,L.drop 4,0):=by
  unfold Hf Dd;have a:Zcy 4=true:=(by decide);rw[if_pos a,if_neg (by decide),if_neg (by decide)]
  by_cases h:L.length<4
  ·rw[if_pos h,if_pos (by omega)]
  ·rw[if_neg h,if_neg (by omega)];rfl
 rw[e]
 by_cases h:L.length<4
 ·rw[if_pos h,if_pos h];rfl
 ·rw[if_neg h,if_neg h];rfl
theorem Ye (only:Bool)(mk:Nat)(b:List Nat):ofT only mk b=ofS only mk b:=by
 unfold ofT ofS
 by_cases h:1048576<b.length
 ·rw[if_pos h,if_pos h]
 ·rw[if_neg h,if_neg h,Zau];cases b with
  |nil=>rfl
  |cons c L=>
   simp only[beq_iff_eq]
   by_cases hc:c=mk
   ·rw[if_pos hc];simp only[ne_eq,not_true_eq_false,if_false,hc];unfold Zna;rw[Lf]
    by_cases h4:L.length<4
    ·simp only[if_pos h4];rfl
    ·simp only[if_neg h4]
     by_cases hf:fits (Js L)=true
     ·have a:¬fits (Js L)=false:=(by rw[hf];decide);simp only[if_pos hf,if_neg a];unfold Zm9;rw[Lf,List.length_drop]
      by_cases h8:L.length<8
      ·simp only[if_pos h8,if_pos (show L.length-4<4 by omega)];rfl
      ·simp only[if_neg h8,if_neg (show¬L.length-4<4 by omega),List.drop_drop]
       by_cases hi:Js (L.drop 4)<Js L
       ·simp only[if_pos (show decide (Js (L.drop 4)<Js L)=true by simpa using hi),if_neg (show¬Js L≤Js (L.drop 4) by omega)];unfold Zm8 Zhb;simp only[ne_eq,not_true_eq_false,if_false]
        by_cases he:(rdP (aX (Js L)) (Js L-1) (L.drop 8)).er=0
        ·simp only[he,not_true_eq_false,if_false]
         by_cases hr:(rdP (aX (Js L)) (Js L-1) (L.drop 8)).rest=[]
         ·simp only[hr,not_true_eq_false,if_false,if_true]
         ·simp only[hr,not_false_eq_true,if_false,if_true];rfl
        ·simp only[he,not_false_eq_true,if_true]
       ·simp only[if_neg (show¬decide (Js (L.drop 4)<Js L)=true by simpa using hi),if_pos (show Js L≤Js (L.drop 4) by omega)];rfl
     ·have a:fits (Js L)=false:=(by simpa using hf);simp only[if_neg hf,if_pos a];rfl
   ·rw[if_neg hc];simp only[ne_eq,hc,not_false_eq_true,if_true];rfl
end Go.Proofs.YtfofaiommeckbaaGreat
