/- Vocabulary: a piece that is being read: two maps that grow, behind a reader. -/
import Derived.Test.YtfofaiommeckbaaGreatZSliceSoundB
import Derived.Test.YtfofaiommeckbaaGreatZSliceSound42
import Derived.Test.YtfofaiommeckbaaGreatZSliceSound46
open Nat renaming le_trans → bO, lt_of_lt_of_le → dX, two_pow_pos → fK, log2 → aZ
open List renaming cons_append → iL, mem_cons_of_mem → gW, replicate → cK, getElem?_toArray → cC, getElem?_cons_zero → cD, getElem?_cons_succ → cE, filterMap_cons → cZ, filterMap_nil → dA, contains_cons → dB, contains_nil → dC, length_append → aI, length_cons → cB, map_map → iM, map_id → iN, map_congr_left → iG
open Bool renaming or_false → dD, or_true → dE, eq_iff_iff → fX, and_eq_true → cL
open Int renaming tmod → dN, tmod_eq_emod_of_nonneg → dO
set_option linter.unusedVariables false
set_option maxRecDepth 100000
set_option maxHeartbeats 40000000
namespace Go.Proofs.YtfofaiommeckbaaGreat
open Go.RowKit Go.Maps WalkM WireM
section
structure On3 (B ob sb:Nat) (w w':World):Prop where
 os:w'.os=w.os
 tape:w'.tape=w.tape
 output:w'.output=w.output
 size:w.heap.size≤w'.heap.size
 block:∀i,i<w.heap.size→i≠B→i≠ob→i≠sb→w'.heap[i]? =w.heap[i]?
section
variable {B ob sb g n m:Nat} {w w' w2:World} {F:Int→Option NodeD} {H:Int→Option (List Nat)}
theorem On3.trans (h:On3 B ob sb w w')(k:On3 B ob sb w' w2):On3 B ob sb w w2:=
 ⟨k.os.trans h.os,k.tape.trans h.tape,k.output.trans h.output,bO h.size k.size,fun i hi h1 h2 h3=>(k.block i (dX hi h.size) h1 h2 h3).trans (h.block i hi h1 h2 h3)⟩
theorem On3.of {C:Nat}(h:Only C w w')(hC:C=B∨C=ob∨C=sb):On3 B ob sb w w':=
 ⟨h.os,h.tape,h.output,h.size,fun i hi h1 h2 h3=>h.block i hi fun e=>by cases e;rcases hC with rfl|rfl|rfl<;>contradiction⟩
theorem On3.below (h:Below w.heap.size w w'):On3 B ob sb w w':=On3.of (C:=B) (Only.of h) (.inl rfl)
theorem Blk.on3 {p:Nat} {t:TypeId} {cs:Array Value}(h:Blk w p t cs)(k:On3 B ob sb w w')(h1:p≠B)(h2:p≠ob)(h3:p≠sb):Blk w' p t cs:=(k.block p h.lt h1 h2 h3).trans h
theorem On3.low {C:Nat}(h:On3 B ob sb w w')(h1:C≤B)(h2:C≤ob)(h3:C≤sb)(h4:C≤w.heap.size):Below C w w':=
 ⟨h.os,h.tape,h.output,h.size,fun i hi=>h.block i (by omega) (by omega) (by omega) (by omega)⟩
structure PcS (w:World) (ob sb g n m:Nat) (F:Int→Option NodeD) (H:Int→Option (List Nat)):Prop where
 nodes:∃G:Int→Option Value,MapF w ob n G∧∀x,match F x with
  |none=>G x=none
  |some d=>∃c,G x=some (.agg c)∧NodeO w g d c
 runs:∃G:Int→Option Value,MapF w sb m G∧∀x,match H x with
  |none=>G x=none
  |some L=>∃v,G x=some v∧Own w g 5 v (bvs L)
theorem Is {G:Int→Option Value} (h:∀x,match F x with
  |none=>G x=none
  |some d=>∃c,G x=some (.agg c)∧NodeO w g d c) (k:∀d c,NodeO w g d c→NodeO w' g d c):∀x,match F x with
  |none=>G x=none
  |some d=>∃c,G x=some (.agg c)∧NodeO w' g d c:=by
 intro x;have:=h x;revert this;cases F x with
 |none=>exact fun h=>h
 |some d=>rintro⟨c,a,h2⟩;exact⟨c,a,k d c h2⟩
theorem Ie {G:Int→Option Value} (h:∀x,match H x with
  |none=>G x=none
  |some L=>∃v,G x=some v∧Own w g 5 v (bvs L)) (k:∀v xs,Own w g 5 v xs→Own w' g 5 v xs):∀x,match H x with
  |none=>G x=none
  |some L=>∃v,G x=some v∧Own w' g 5 v (bvs L):=by
 intro x;have:=h x;revert this;cases H x with
 |none=>exact fun h=>h
 |some L=>rintro⟨v,a,h2⟩;exact⟨v,a,k v _ h2⟩
theorem PcS.only {C:Nat}(h:PcS w ob sb g n m F H)(k:Only C w w')(f:C<g)(i:C≠ob)(h2:C≠sb):PcS w' ob sb g n m F H:=by
 obtain⟨⟨G,a,b⟩,⟨j,c,d⟩⟩:=h;exact⟨⟨G,a.grown k (fun e=>by cases e;exact i rfl),Is b fun d c o=>o.onlyQ k f⟩,⟨j,c.grown k (fun e=>by cases e;exact h2 rfl),Ie d fun v xs l=>l.only k f⟩⟩
theorem PcS.below (h:PcS w ob sb g n m F H)(k:Below w.heap.size w w'):PcS w' ob sb g n m F H:=by
 obtain⟨⟨G,a,b⟩,⟨G',c,d⟩⟩:=h;exact⟨⟨G,a.below k lR,Is b fun d c hd=>hd.below k lR⟩,⟨G',c.below k lR,Ie d fun v xs hv=>hv.below k lR⟩⟩
theorem PcS.le {n' m':Nat}(h:PcS w ob sb g n m F H)(h1:n≤n')(h2:m≤m'):PcS w ob sb g n' m' F H:=by
 obtain⟨⟨G,a,b⟩,⟨G',c,d⟩⟩:=h;exact⟨⟨G,a.mono h1,b⟩,⟨G',c.mono h2,d⟩⟩
end
def Lo (F:Int→Option NodeD)(l:List (Int×NodeD)):Int→Option NodeD:=fun y=>(Ai l y).or (F y)
def Oq (H:Int→Option (List Nat))(l:List (Int×List Nat)):Int→Option (List Nat):=fun y=>(Ax l y).or (H y)
theorem Zis (F:Int→Option NodeD):Lo F []=F:=by funext y;rfl
theorem Zit (H:Int→Option (List Nat)):Oq H []=H:=by funext y;rfl
theorem Zfo (l m:List (Int×NodeD))(y:Int):Ai (l++m) y=(Ai l y).or (Ai m y):=by
 induction l with
 |nil=>rfl
 |cons p l ih=>
  rw[iL,Ai,Ai]
  split
  ·rfl
  ·exact ih
theorem Zfp (l m:List (Int×List Nat))(y:Int):Ax (l++m) y=(Ax l y).or (Ax m y):=by
 induction l with
 |nil=>rfl
 |cons p l ih=>
  rw[iL,Ax,Ax]
  split
  ·rfl
  ·exact ih
theorem Nz {l:List (Int×NodeD)} {y:Int} {d:NodeD}(h:Ai l y=some d) {P:Int→Prop}(hP:∀p∈l,P p.1):P y:=hP _ (Dw h)
theorem Us {l:List (Int×List Nat)} {y:Int} {L:List Nat}(h:Ax l y=some L) {P:Int→Prop}(hP:∀p∈l,P p.1):P y:=by
 induction l with
 |nil=>cases h
 |cons p l ih=>
  rw[Ax]at h
  split at h
  ·rename_i e;rw[←e];exact hP p (by simp)
  ·exact ih h fun q hq=>hP q (gW _ hq)
theorem Ziu (F:Int→Option NodeD) {l r:List (Int×NodeD)} {x:Int} {d:NodeD}(f:∀p∈l,p.1<x)(c:∀p∈r,x<p.1):Lo (Lo (Lo F [(x,d)]) l) r=Lo F (l++(x,d)::r):=by
 funext y
 unfold Lo;rw[Zfo,Ai,Ai];cases h1:Ai l y with
 |some a=>
  have g:y<x:=Nz (P:=fun z=>z<x) h1 f;have h2:Ai r y=none:=by
   cases h2:Ai r y with
   |none=>rfl
   |some b=>have:x<y:=Nz (P:=fun z=>x<z) h2 c;omega
  rw[h2];rfl
 |none=>
  by_cases e:x=y
  ·have h2:Ai r y=none:=by
    cases h2:Ai r y with
    |none=>rfl
    |some b=>have:x<y:=Nz (P:=fun z=>x<z) h2 c;omega
   rw[h2];simp[Ai,e]
  ·simp[Ai,e]
theorem Ziv (H:Int→Option (List Nat)) {l r:List (Int×List Nat)} {x:Int}(d:∀p∈l,p.1<x)(c:∀p∈r,x<p.1):Oq (Oq H l) r=Oq H (l++r):=by
 funext y
 unfold Oq;rw[Zfp];cases h1:Ax l y with
 |some a=>
  have e:y<x:=Us (P:=fun z=>z<x) h1 d;have h2:Ax r y=none:=by
   cases h2:Ax r y with
   |none=>rfl
   |some b=>have:x<y:=Us (P:=fun z=>x<z) h2 c;omega
  rw[h2];rfl
 |none=>simp
section
variable {B ob sb g n m:Nat} {w w':World} {F:Int→Option NodeD} {H:Int→Option (List Nat)} {x:Int}
theorem PcS.putN {d:NodeD} {c:Array Value} {G:Int→Option Value} (h:PcS w ob sb g n m F H) (j:∀x,match F x with
  |none=>G x=none
  |some d=>∃c,G x=some (.agg c)∧NodeO w g d c) (l:MapF w' ob (n+1) (fun y=>if y=x then some (.agg c)else G y)) (k:Only ob w w') (b:NodeO w g d c) (a:ob<g) (h2:ob≠sb):PcS w' ob sb g (n+1) m (Lo F [(x,d)]) H:=by
 obtain⟨-,⟨i,e,f⟩⟩:=h;refine⟨⟨_,l,fun y=> ?_⟩,⟨i,e.grown k (fun e=>by cases e;exact h2 rfl),Ie f fun v xs o=>o.only k a⟩⟩;unfold Lo;rw[Ai,Ai]
 by_cases e:x=y
 ·rw[if_pos e,if_pos e.symm];exact⟨c,rfl,b.onlyQ k a⟩
 ·rw[if_neg e,if_neg (fun e2=>e e2.symm)];exact Is j (fun d c b=>b.onlyQ k a) y
theorem PcS.putS {L:List Nat} {v:Value} {G:Int→Option Value} (h:PcS w ob sb g n m F H) (d:∀x,match H x with
  |none=>G x=none
  |some L=>∃v,G x=some v∧Own w g 5 v (bvs L)) (i:MapF w' sb (m+1) (fun y=>if y=x then some v else G y)) (k:Only sb w w') (j:Own w g 5 v (bvs L)) (a:sb<g) (h2:ob≠sb):PcS w' ob sb g n (m+1) F (Oq H [(x,L)]):=by
 obtain⟨⟨c,e,f⟩,-⟩:=h;refine⟨⟨c,e.grown k (fun e=>by cases e;exact h2 rfl),Is f fun v xs b=>b.onlyQ k a⟩,⟨_,i,fun y=> ?_⟩⟩;unfold Oq;rw[Ax,Ax]
 by_cases e:x=y
 ·rw[if_pos e,if_pos e.symm];exact⟨v,rfl,j.only k a⟩
 ·rw[if_neg e,if_neg (fun e2=>e e2.symm)];exact Ie d (fun v xs b=>b.only k a) y
end
end
def Zfq (B ob sb g n m:Nat)(F:Int→Option NodeD)(H:Int→Option (List Nat))(r:RdR)(w:World)(e:Ending)(w':World):Prop:=
 e=.returned (.int .u8 (r.er:Nat))∧On3 B ob sb w w'∧(r.er=0→RS w' B r.rest 0∧PcS w' ob sb g (n+r.op.length) (m+r.sh.length) (Lo F r.op) (Oq H r.sh))
def Ziw (k:Nat):Prop:=
 ∀(x:Nat) (lv ow:Int) (B ob sb g n m:Nat) (L:List Nat) (F:Int→Option NodeD) (H:Int→Option (List Nat)) (w:World),IsLev x k→x+2^k≤131071→2^k≤x+1→B<ob→B<sb→ob≠sb→ob<g→sb<g→g≤w.heap.size→
  RS w B L 0→PcS w ob sb g n m F H→n+m+L.length≤900000000→(∀y∈L,y<256)→
  Calls Tryz.prog 121 #[.agg #[.int .i64 lv,.int .i64 ow,.map (some ob),.map (some sb)],.pointer (some ⟨B,0,none⟩),.int .i64 (x:Nat)] w (Zfq B ob sb g n m F H (rdP k x L) w)
theorem Zfr (k x:Nat)(L:List Nat):∃K,rdP k x L=Nx x L K:=by cases k<;>exact⟨_,rfl⟩
theorem Zbz (L:List Nat):(∃fe M,fe≠0∧Om L 0=(false,M,fe)∧∀x K,Nx x L K=Sf fe)∨(∃M,L=0::M∧Om L 0=(false,M,0))∨∃M,L=1::M∧Om L 0=(true,M,0):=by
 cases L with
 |nil=>exact .inl ⟨4,[],by decide,rfl,fun _ _=>rfl⟩
 |cons b M=>
  by_cases h1:1<b
  ·exact .inl ⟨3,M,by decide,by simp[Om,h1],fun x K=>by simp[Nx,h1]⟩
  ·by_cases h0:b=0
   ·subst h0;exact .inr (.inl ⟨M,rfl,rfl⟩)
   ·obtain rfl:b=1:=(by omega);exact .inr (.inr ⟨M,rfl,rfl⟩)
theorem Zmd (M:List Nat):(M.length<32∧Cm M 0 32=([],M,4))∨(¬M.length<32∧Cm M 0 32=(M.take 32,M.drop 32,0)):=by
 unfold Cm
 by_cases h:M.length<32
 ·exact .inl ⟨h,by rw[if_neg (by simp),if_neg (by omega),if_pos (by omega)]⟩
 ·exact .inr ⟨h,by rw[if_neg (by simp),if_neg (by omega),if_neg (by omega)];rfl⟩
theorem NodeO.shape {w:World} {B:Nat} {d:NodeD} {c:Array Value}(h:NodeO w B d c):∃x0 x1 x2 x3 x4 u0 u1 u2,c=#[.int .u8 (d.kind:Nat),x0,x1,x2,.int .u8 (d.leaf.source:Nat),x3,x4,u0,u1,u2]:=by
 obtain⟨x0,x1,x2,x3,x4,u0,u1,u2,e,-⟩:=h;exact⟨x0,x1,x2,x3,x4,u0,u1,u2,e⟩
theorem Zfs (k x:Nat)(lv ow:Int)(B ob sb g n m d:Nat)(L M:List Nat)(F:Int→Option NodeD)(H:Int→Option (List Nat))(w:World)(p:RS w B L 0)(o:∀y∈L,y<256)(b:d≠0)(q:Om L 0=(false,M,d)):
  Calls Tryz.prog 121 #[.agg #[.int .i64 lv,.int .i64 ow,.map (some ob),.map (some sb)],.pointer (some ⟨B,0,none⟩),.int .i64 (x:Nat)] w (Zfq B ob sb g n m F H (Sf d) w):=by
 have t:=Hd (show Calls Tryz.prog 177 #[.pointer (some ⟨B,0,none⟩)] (w.alloc (.cells #[.int .i64 lv,.int .i64 ow,.map (some ob),.map (some sb)] 101)) (Zhj B (w.alloc (.cells #[.int .i64 lv,.int .i64 ow,.map (some ob),.map (some sb)] 101)) (false,M,d))from by
  have:=Rb B L 0 (w.alloc (.cells #[.int .i64 lv,.int .i64 ow,.map (some ob),.map (some sb)] 101)) (p.below ((Below.refl w.heap.size w).alloc lR _)) o
  rwa [q]at this)
 have l:=Hd fun(L:List Nat) (er:Nat) W=>Hb B L er W;have f:=Hd (On3.below (B:=B) (ob:=ob) (sb:=sb) ((Below.refl w.heap.size w).alloc lR (.cells #[.int .i64 lv,.int .i64 ow,.map (some ob),.map (some sb)] 101)));have r:((d:Int) !=0)=true:=(by rw[bne_iff_ne];omega);have i:=Hd b;clear p o q b;go_enter Tryz.func121,Tryz.ntmps121;go_wp2_with fail;refine t.out.mono ?_;rintro e u ⟨rfl,c,a⟩;have s:=Hd c;have j:=Hd (f.out.trans (On3.of a (.inl rfl)));clear c a;go_wp2_with fail;refine(l.out _ _ _ s.out).mono ?_;rintro e w' ⟨rfl,rfl⟩;go_wp2_with fail;go_ret;exact⟨rfl,j.out,fun h=>absurd h i.out⟩
theorem Zft (k x:Nat)(lv ow:Int)(B ob sb g n m:Nat)(M:List Nat)(F:Int→Option NodeD)(H:Int→Option (List Nat))(w:World)(hx:x≤131071)(aA:B<ob)(A:B<sb)(P:ob≠sb)(z:ob<g)(U:sb<g)(aO:g≤w.heap.size)(hR:RS w B (0::M) 0)(hP:PcS w ob sb g n m F H)(hn:n+m+M.length≤900000000)(hL:∀y∈0::M,y<256):
  Calls Tryz.prog 121 #[.agg #[.int .i64 lv,.int .i64 ow,.map (some ob),.map (some sb)],.pointer (some ⟨B,0,none⟩),.int .i64 (x:Nat)] w (Zfq B ob sb g n m F H (if M.length<32 then Sf 4 else⟨0,[],[((x:Int),M.take 32)],M.drop 32⟩) w):=by
 have HF:=Hd (show Calls Tryz.prog 177 #[.pointer (some ⟨B,0,none⟩)] (w.alloc (.cells #[.int .i64 lv,.int .i64 ow,.map (some ob),.map (some sb)] 101)) (Zhj B (w.alloc (.cells #[.int .i64 lv,.int .i64 ow,.map (some ob),.map (some sb)] 101)) (false,M,0))from Rb B (0::M) 0 (w.alloc (.cells #[.int .i64 lv,.int .i64 ow,.map (some ob),.map (some sb)] 101)) (hR.below ((Below.refl w.heap.size w).alloc lR _)) hL);have D:=Hd fun(L:List Nat) (er:Nat) W=>Hb B L er W;have t:=Hd fun(W:World) (h:RS W B M 0)=>Tp B M 0 32 W h (by omega);obtain⟨p,hp⟩:=eX w.heap.size;have HP:=Hd hp;have aP:=Hd (On3.below (B:=B) (ob:=ob) (sb:=sb) ((Below.refl w.heap.size w).alloc lR (.cells #[.int .i64 lv,.int .i64 ow,.map (some ob),.map (some sb)] 101)));have P1:=Hd (show Blk (w.alloc (.cells #[.int .i64 lv,.int .i64 ow,.map (some ob),.map (some sb)] 101)) w.heap.size 101 #[.int .i64 lv,.int .i64 ow,.map (some ob),.map (some sb)]from Blk.new _ _ _);have aQ:=Hd (hP.below ((Below.refl w.heap.size w).alloc lR (.cells #[.int .i64 lv,.int .i64 ow,.map (some ob),.map (some sb)] 101)));have j:=Hd (show B<ob∧B<sb∧ob≠sb∧ob<g∧sb<g∧g≤p∧m+1≤900000001 from⟨aA,A,P,z,U,by omega,by omega⟩);have aI:=Hd (show inI (x:Int)from by unfold inI;omega);have Y:=Hd (Zmd M);obtain⟨RR,o⟩:=eX (if M.length<32 then Sf 4 else⟨0,[],[((x:Int),M.take 32)],M.drop 32⟩);rw[←o];have aN:=Hd o;obtain⟨tv,tr,te,C⟩:∃a b c,Cm M 0 32=(a,b,c):=⟨_,_,_,rfl⟩;rw[C]at t Y;clear hR hL hP hp aA A P z U aO hn hx C o;go_enter Tryz.func121,Tryz.ntmps121;go_wp2_with fail;refine HF.out.mono ?_;rintro e r ⟨rfl,V,d⟩;have R2:=Hd V;have aK:=Hd (aP.out.trans (On3.of d (.inl rfl)));have P2:=Hd (P1.out.only d (by obtain⟨u,a2,T,I,Z,N,a7⟩:=j.out;have:=HP.out;omega));have S2:=Hd (aQ.out.only d (by obtain⟨u,a2,T,I,Z,N,a7⟩:=j.out;omega) (by obtain⟨u,a2,T,I,Z,N,a7⟩:=j.out;omega) (by obtain⟨u,a2,T,I,Z,N,a7⟩:=j.out;omega));have aB:=Hd (show g≤r.heap.size from by obtain⟨u,a2,T,I,Z,N,a7⟩:=j.out;have:=P2.out.lt;have:=HP.out;omega);rw[←HP.out]at P2⊢;clear V d;go_wp2_with fail;refine(D.out _ _ _ R2.out).mono ?_;rintro e w' ⟨rfl,rfl⟩;go_wp2_with fail;obtain⟨⟨G,aD,aL⟩,⟨G',Q,X⟩⟩:=id S2.out;have aM:=Hd Q;have aC:=Hd X;clear aD aL Q X;refine Aw [eF (.pointer (some ⟨p,3,none⟩)),eF (.map (some sb)),eF (.int .i64 (x:Nat)),eF (.pointer (some ⟨B,0,none⟩)),fun v w'=>Own w' r.heap.size 5 v (bvs tv)∧RS w' B tr te,fun v w'=>RS w' B tr te∧PcS w' ob sb g n (m+1) F (Oq H [((x:Int),tv)])∧On3 B ob sb r w']
  ((cK 6 false).set 5 true) (fun x=>Only B r x) (fun x y=>Only B x y) (some 4) 5 (by kernel_rfl) ?_ ⟨rfl,rfl,rfl,lR,fun _ _ _=>rfl⟩ (fun x y _ h=>Only.of h) (fun x y hx hs=>hx.trans hs) (by kernel_rfl) (by kernel_rfl) (by kernel_rfl) ?_ ?_
 ·exact kE (kE (kE (kE (Cv (fun v x y h _ hb=>⟨h.1.below hb lR,h.2.below hb⟩) (Ah (fun _ _ _ _ _ _=>trivial) Ae)))))
 ·refine gP8 ?_ rfl (gP8 ?_ rfl (gP8 ?_ rfl (gP8 ?_ rfl (Lz (by kernel_rfl) ?_ (gO8 ?_ .nil)))));all_goals
   intro a wx i S ho hf;have i:Only B r wx:=i;refine⟨rfl,?_⟩;intro K hK;try have aW:a.tmps[3]?.getD undef=.pointer (some ⟨p,0,none⟩):=ho 3 (by kernel_rfl)
   try have aU:a.tmps[1]?.getD undef=.pointer (some ⟨B,0,none⟩):=ho 1 (by kernel_rfl)
   try have aX:a.tmps[2]?.getD undef=.int .i64 (x:Nat):=ho 2 (by kernel_rfl)
   try have aT:=eqn hf.1
   try have aS:=eqn hf.2.1
   have aJ:=P2.out.only i (by obtain⟨u,a2,T,I,Z,N,a7⟩:=j.out;omega);have aE:=aJ.cell 3;simp only[cC,cD,cE]at aE;try(refine Hd ?_;go_simp;exact hK _ rfl)
  ·go_simp;refine(t.out wx (R2.out.below S)).mono ?_;rintro e w7 ⟨v,rfl,h1,h2,h3⟩;exact hK _ _ ⟨h1.mono S.size,h2⟩ (fun _=>Ca rfl h3)
  ·obtain⟨o1,r1⟩:Own wx r.heap.size 5 (a.tmps[25]?.getD undef) (bvs tv)∧RS wx B tr te:=hf.2.2.1;obtain⟨v1,q⟩:=eX (a.tmps[25]?.getD undef);rw[←q]at o1;have aV:=q.symm;clear q;obtain⟨b1,b2,b3,b4,b5,b6,b7⟩:=j.out;obtain⟨w',aR,aG,s⟩:=(aM.out.grown i (fun e=>by cases e;omega)).run_put Tryz.underlying99 aI.out (by unfold maxLen;omega) v1;have aH:=(S2.out.only i (by omega) (by omega) (by omega)).putS (Ie aC.out (fun v xs hv=>hv.only i (by omega))) aG s (o1.mono aB.out) (by omega) b3;have aF:=r1.only s b2 (by have:=i.size;have:=aB.out;omega);go_simp;exact hK undef _ ⟨aF,aH,(On3.of i (.inl rfl)).trans (On3.of s (.inr (.inr rfl)))⟩ (fun h=>absurd rfl h)
 ·rintro f w5 l;obtain⟨R,J,E⟩:RS w5 B tr te∧PcS w5 ob sb g n (m+1) F (Oq H [((x:Int),tv)])∧On3 B ob sb r w5:=l.2.2.2.2.2.1;clear l;simp only[Aj,Aq,Dr,cZ,dA,dB,dC,Nat.reduceBEq,Nat.reduceAdd,dD,dE,cond_true,cond_false];have R5:=Hd R;have S5:=Hd J;have O:=Hd (aK.out.trans E);clear R J E;go_wp2_with fail;refine(D.out _ _ _ R5.out).mono ?_;rintro e w' ⟨rfl,rfl⟩;go_wp2_with fail;go_ret;rw[aN.out];rcases Y.out with⟨h,e⟩|⟨h,e⟩
  ·cases e;simp only[if_pos h];exact⟨rfl,O.out,fun h=>absurd h (by decide)⟩
  ·cases e;simp only[if_neg h];exact⟨rfl,O.out,fun _=>⟨R5.out,by have:=S5.out;rw[Zis];exact this⟩⟩
theorem Zfu (k x:Nat)(dL:k≤16)(IH:∀j,k=j+1→Ziw j)(lv ow:Int)(B ob sb g n m:Nat)(M:List Nat)(F:Int→Option NodeD)(H:Int→Option (List Nat))(w:World)(bY:IsLev x k)(hx:x+2^k≤131071)(aB:2^k≤x+1)(cG:B<ob)(bN:B<sb)(b0:ob≠sb)(bL:ob<g)(b3:sb<g)(c9:g≤w.heap.size)(hR:RS w B (1::M) 0)(hP:PcS w ob sb g n m F H)(hn:n+m+(1::M).length≤900000000)(hL:∀y∈1::M,y<256):
  Calls Tryz.prog 121 #[.agg #[.int .i64 lv,.int .i64 ow,.map (some ob),.map (some sb)],.pointer (some ⟨B,0,none⟩),.int .i64 (x:Nat)] w (Zfq B ob sb g n m F H (rdP k x (1::M)) w):=by
 have cU:M.length+1=(1::M).length:=rfl;have HF:=Hd (show Calls Tryz.prog 177 #[.pointer (some ⟨B,0,none⟩)] (w.alloc (.cells #[.int .i64 lv,.int .i64 ow,.map (some ob),.map (some sb)] 101)) (Zhj B (w.alloc (.cells #[.int .i64 lv,.int .i64 ow,.map (some ob),.map (some sb)] 101)) (true,M,0))from Rb B (1::M) 0 (w.alloc (.cells #[.int .i64 lv,.int .i64 ow,.map (some ob),.map (some sb)] 101)) (hR.below ((Below.refl w.heap.size w).alloc lR _)) hL);have cR:=Hd fun(L:List Nat) (er:Nat) W=>Hb B L er W;have aV:∀y∈M,y<256:=fun y hy=>hL y (gW _ hy);have bI:=Hd fun(W:World) (h:RS W B M 0)=>Zbr B M W h (by omega) aV;have b9:=Hd fun(h:(Bj M 0).1=0)=>Nw h;have c4:Hid (∀K,Nx x (1::M) K=Kk x M K):=Hd fun K=>rfl;have b8:Hid (∀K,Kk x M K=if(Bj M 0).1≠0 then Sf (Bj M 0).1 else if x%2=0∧(Bj M 0).2.1.kind=2∨x%2=1∧(Bj M 0).2.1.kind=1 then Sf 3 else K (Bj M 0).2.1 (Bj M 0).2.2.1):=Hd fun K=>rfl;obtain⟨te,d,R,re,hq⟩:∃a b c d,Bj M 0=(a,b,c,d):=⟨_,_,_,_,rfl⟩;rw[hq]at bI b9;simp only[hq]at b8;have bW:n+m+M.length+1≤900000000:=(by omega);obtain⟨p,hp⟩:=eX w.heap.size;have HP:=Hd hp;have dF:=Hd (On3.below (B:=B) (ob:=ob) (sb:=sb) ((Below.refl w.heap.size w).alloc lR (.cells #[.int .i64 lv,.int .i64 ow,.map (some ob),.map (some sb)] 101)));have P1:=Hd (show Blk (w.alloc (.cells #[.int .i64 lv,.int .i64 ow,.map (some ob),.map (some sb)] 101)) w.heap.size 101 #[.int .i64 lv,.int .i64 ow,.map (some ob),.map (some sb)]from Blk.new _ _ _);have dJ:=Hd (hP.below ((Below.refl w.heap.size w).alloc lR (.cells #[.int .i64 lv,.int .i64 ow,.map (some ob),.map (some sb)] 101)));have i:=Hd (show B<ob∧B<sb∧ob≠sb∧ob<g∧sb<g∧g≤p∧n+1≤900000001 from⟨cG,bN,b0,bL,b3,by omega,by omega⟩);have cJ:x≤131071:=(by have:=fK k;omega);have bQ:=Hd (show inI (x:Int)from by unfold inI;omega);clear cJ;have c3:=Hd hx;have c5:=Hd aB;have aY:=Hd bY;have aO:=Hd bW;have c8:=Hd aV;clear hR hL hP hp cG bN b0 bL b3 c9 hn hx aB bY hq cU aV bW;go_enter Tryz.func121,Tryz.ntmps121;go_wp2_with fail;refine HF.out.mono ?_;rintro e w2 ⟨rfl,aG,s⟩;have R2:=Hd aG;have cV:=Hd (dF.out.trans (On3.of s (.inl rfl)));have P2:=Hd (P1.out.only s (by obtain⟨t,D,l,u,A,z,C⟩:=i.out;have:=HP.out;omega));have S2:=Hd (dJ.out.only s (by obtain⟨t,D,l,u,A,z,C⟩:=i.out;omega) (by obtain⟨t,D,l,u,A,z,C⟩:=i.out;omega) (by obtain⟨t,D,l,u,A,z,C⟩:=i.out;omega));have cH:=Hd (show p+1≤w2.heap.size from by have:=P2.out.lt;have:=HP.out;omega);rw[←HP.out]at P2⊢;clear aG s;go_wp2_with fail;refine(cR.out _ _ _ R2.out).mono ?_;rintro e w' ⟨rfl,rfl⟩;go_wp2_with fail;refine(bI.out w2 R2.out).mono ?_;rintro e w3 ⟨c,rfl,V,aG,s⟩;replace V:NodeO w3 w2.heap.size d c:=V;have aN:=Hd V.c.oneL;have cI:=Hd (V.mono (B':=p) (by have:=cH.out;omega));obtain⟨x0,x1,x2,x3,x4,u0,u1,u2,rfl⟩:=V.shape;have R3:=Hd aG;have cP:=Hd (cV.out.trans (On3.of s (.inl rfl)));have P3:=Hd (P2.out.only s (by obtain⟨t,D,l,u,A,z,C⟩:=i.out;omega));have S3:=Hd (S2.out.only s (by obtain⟨t,D,l,u,A,z,C⟩:=i.out;omega) (by obtain⟨t,D,l,u,A,z,C⟩:=i.out;omega) (by obtain⟨t,D,l,u,A,z,C⟩:=i.out;omega));have cQ:=Hd (bO cH.out s.size);clear aG s V;obtain⟨kd,bD⟩:=eX d.kind;obtain⟨sr,b4⟩:=eX d.leaf.source;rw[←bD,←b4]at cI aN⊢;have dG:=Hd bD;clear bD b4;obtain⟨q,hq⟩:=eX w3.heap.size;have HQ:=Hd hq;clear hq;go_wp2_with (refine Aa rfl 52 (.tmp 9) (.tmp 31) rfl w3.heap.size #[.int .u8 kd,x0,x1,x2,.int .u8 sr,x3,x4,u0,u1,u2] rfl rfl 52 #[.int .u8 0,.slice none 0 0,.slice none 0 0,.slice none 0 0,.int .u8 0,.slice none 0 0,.slice none 0 0,.slice none 0 0,.slice none 0 0,.slice none 0 0] (Blk.new _ _ _) (by kernel_rfl) rfl aN.out ?_);rintro w4 T cA cF aP;have E:Below w3.heap.size w3 w4:=((Below.refl w3.heap.size w3).alloc lR (.cells #[.int .u8 0,.slice none 0 0,.slice none 0 0,.slice none 0 0,.int .u8 0,.slice none 0 0,.slice none 0 0,.slice none 0 0,.slice none 0 0,.slice none 0 0] 52)).trans (cA w3.heap.size lR);have R4:=Hd (R3.out.below E);have aF:=Hd (cP.out.trans (On3.below E));have P4:=Hd (P3.out.below E P3.out.lt);have S4:=Hd (S3.out.below E);have bZ:=Hd (cI.out.below E lR);have aZ:=Hd (bO cQ.out E.size);rw[←HQ.out]at T⊢;have Q4:=Hd T;have y0:=T.cell 0;simp only[cC,cD]at y0;clear T cA cF aP E;have aU:Hid (∀K,rdP k x (1::M)=Nx x (1::M) K→rdP k x (1::M)=if te≠0 then Sf te else if x%2=0∧kd=2∨x%2=1∧kd=1 then Sf 3 else K d R):=Hd fun K e=>by
  rw[e,c4.out,b8.out,dG.out]
 by_cases h1:te=0
 ·have cT:((te:Int) !=0)=false:=(by rw[bne_eq_false_iff_eq];omega);obtain⟨bC,aD⟩:=b9.out h1;have bC:re=0:=bC;have aD:TkOk M d R:=aD;subst bC;have X:=Hd h1;have aW:=Hd (show R.length<M.length∧Sub R M from⟨aD.len,aD.sub⟩);clear h1 aD;cases k with
  |zero=>
   have S:x%2=0:=Dv aY.out;have bM:dN (x:Int) 2=0:=(by rw[dO (by omega)];omega);have aX:(x:Int)%2=0:=(by omega);have aH:=Hd (aU.out _ rfl)
   by_cases hk2:kd=2
   ·have e2:((kd:Int)==2)=true:=(by rw[beq_iff_eq];omega);have I:=Hd (show rdP 0 x (1::M)=Sf 3 from by rw[aH.out,if_neg (by have:=X.out;omega),if_pos (.inl ⟨S,hk2⟩)]);clear hk2 S;go_wp2_with fail;go_ret;rw[I.out];exact⟨rfl,aF.out,fun h=>absurd h (by decide)⟩
   ·have e2:((kd:Int)==2)=false:=(by rw[beq_eq_false_iff_ne];omega);have I:=Hd (show rdP 0 x (1::M)=⟨0,[((x:Int),d)],[],R⟩from by rw[aH.out,if_neg (by have:=X.out;omega),if_neg (by omega)]);obtain⟨⟨G,Y,aE⟩,-⟩:=id S4.out;have aK:=P4.out.cell 2;simp only[cC,cD,cE]at aK;have a0:=Hd Y;have aQ:=Hd aE;clear hk2 S Y aE;go_wp2_with (first
     |(refine Au rfl 52 (.tmp 9) rfl q rfl 52 #[.int .u8 kd,x0,x1,x2,.int .u8 sr,x3,x4,u0,u1,u2] (0,0) _ Q4.out Tryz.underlying52 rfl (by kernel_rfl) ?_)
     |(refine Fa rfl (.tmp 57) (.tmp 58) (.tmp 59) rfl Tryz.underlying98 rfl a0.out rfl bQ.out (by obtain⟨t,D,l,u,A,z,C⟩:=i.out;unfold maxLen;omega) _ rfl ?_))
    intro w5 aA O;have S5:=Hd (S4.out.putN aQ.out aA O (bZ.out.mono (by obtain⟨t,D,l,u,A,z,C⟩:=i.out;omega)) (by obtain⟨t,D,l,u,A,z,C⟩:=i.out;omega) (by obtain⟨t,D,l,u,A,z,C⟩:=i.out;exact l));have R5:=Hd (R4.out.only O (by obtain⟨t,D,l,u,A,z,C⟩:=i.out;omega) (by obtain⟨t,D,l,u,A,z,C⟩:=i.out;have:=aZ.out;omega));have a8:=Hd (aF.out.trans (On3.of O (.inr (.inl rfl))));clear aA O y0;go_wp2_with fail;go_ret;rw[I.out];exact⟨rfl,a8.out,fun _=>⟨R5.out,by have:=S5.out;rw[Zit];exact this⟩⟩
  |succ j=>
   have Z:x%2=1:=Fv aY.out;have bM:dN (x:Int) 2=1:=(by rw[dO (by omega)];omega);have aX:(x:Int)%2=1:=(by omega);have aH:=Hd (aU.out _ rfl)
   by_cases hk2:kd=1
   ·have e2:((kd:Int)==1)=true:=(by rw[beq_iff_eq];omega);have I:=Hd (show rdP (j+1) x (1::M)=Sf 3 from by rw[aH.out,if_neg (by have:=X.out;omega),if_pos (.inr ⟨Z,hk2⟩)]);clear hk2 Z;go_wp2_with fail;go_ret;rw[I.out];exact⟨rfl,aF.out,fun h=>absurd h (by decide)⟩
   ·have e2:((kd:Int)==1)=false:=(by rw[beq_eq_false_iff_ne];omega);have I:=Hd (show rdP (j+1) x (1::M)=Um x d (rdP j (x-2^j) R) (rdP j (x+2^j) (rdP j (x-2^j) R).rest)from by rw[aH.out,if_neg (by have:=X.out;omega),if_neg (by omega)]);have dH:2^(j+1)=2*2^j:=(by rw[Nat.pow_succ];omega);have c6:=fK j;have hX:=c3.out;have cN:=c5.out;have aC:x≤131070:=(by omega);obtain⟨kl,kr,bS,bV,kx⟩:=kids_lev aC aY.out;have aM:=fun(W:World)=>Hs (x:Int) W;have aJ:=fun(W:World)=>Gh (x:Int) W;rw[kl]at aM;rw[kr]at aJ;have b2:=aW.out;have c1:=aO.out;have aR:∀y∈R,y<256:=fun y hy=>c8.out y (b2.2.2 y hy);have I1:=fun(W:World) (n' m':Nat) (F':Int→Option NodeD) (H':Int→Option (List Nat)) (bA:n'+m'+R.length≤900000000) (h1:g≤W.heap.size) (h2:RS W B R 0) (h3:PcS W ob sb g n' m' F' H')=>IH j rfl (x-2^j) lv ow B ob sb g n' m' R F' H' W bS (by omega) (by omega) (by obtain⟨t,D,l,u,A,z,C⟩:=i.out;omega) (by obtain⟨t,D,l,u,A,z,C⟩:=i.out;omega) (by obtain⟨t,D,l,u,A,z,C⟩:=i.out;exact l) (by obtain⟨t,D,l,u,A,z,C⟩:=i.out;omega) (by obtain⟨t,D,l,u,A,z,C⟩:=i.out;omega) h1 h2 h3 bA aR;have aL:=fun(h:(rdP j (x-2^j) R).er=0)=>Un j (x-2^j) R (by omega) h;obtain⟨r,bT⟩:=eX (rdP j (x-2^j) R);rw[←bT]at I1 aL I;have I2:=fun(W:World) (n' m':Nat) (F':Int→Option NodeD) (H':Int→Option (List Nat)) (he:r.er=0) (bA:n'+m'+r.rest.length≤900000000) (h1:g≤W.heap.size) (h2:RS W B r.rest 0) (h3:PcS W ob sb g n' m' F' H')=>IH j rfl (x+2^j) lv ow B ob sb g n' m' r.rest F' H' W bV (by omega) (by omega) (by obtain⟨t,D,l,u,A,z,C⟩:=i.out;omega) (by obtain⟨t,D,l,u,A,z,C⟩:=i.out;omega) (by obtain⟨t,D,l,u,A,z,C⟩:=i.out;exact l) (by obtain⟨t,D,l,u,A,z,C⟩:=i.out;omega) (by obtain⟨t,D,l,u,A,z,C⟩:=i.out;omega) h1 h2 h3 bA fun y hy=>aR y ((aL he).sub.2 y hy);have aS:=fun(h:(rdP j (x+2^j) r.rest).er=0)=>Un j (x+2^j) r.rest (by omega) h;obtain⟨P,bP⟩:=eX (rdP j (x+2^j) r.rest);rw[←bP]at I2 aS I;have B1:r.er=0→(∀p∈r.op,p.1<(x:Int))∧(∀p∈r.sh,p.1<(x:Int))∧r.op.length+r.sh.length+r.rest.length≤R.length:=fun h=>by
     have o:=aL h;exact⟨fun p hp=>by have:=(o.opIn p hp).2;omega,fun p hp=>by have:=(o.shIn p hp).2;omega,o.len⟩
    have B2:P.er=0→(∀p∈P.op,(x:Int)<p.1)∧(∀p∈P.sh,(x:Int)<p.1):=fun h=>by
     have o:=aS h;exact⟨fun p hp=>by have:=(o.opIn p hp).1;omega,fun p hp=>by have:=(o.shIn p hp).1;omega⟩
    obtain⟨xl,aB⟩:=eX (x-2^j);obtain⟨xr,b7⟩:=eX (x+2^j);rw[←aB]at I1 aM;rw[←b7]at I2 aJ;have dK:=Hd I1;have cX:=Hd I2;have bX:=Hd aM;have bJ:=Hd aJ;have b6:=Hd B1;have cL:=Hd B2;obtain⟨⟨G,Y,aE⟩,-⟩:=id S4.out;have aK:=P4.out.cell 2;simp only[cC,cD,cE]at aK;have a0:=Hd Y;have aQ:=Hd aE;clear hk2 Z Y aE I1 I2 aM aJ B1 B2 aL aS bT bP aB b7 kl kr bS bV kx hX cN aC dH c6 b2 c1 aR;go_wp2_with (first
     |(refine Au rfl 52 (.tmp 9) rfl q rfl 52 #[.int .u8 kd,x0,x1,x2,.int .u8 sr,x3,x4,u0,u1,u2] (0,0) _ Q4.out Tryz.underlying52 rfl (by kernel_rfl) ?_)
     |(refine Fa rfl (.tmp 57) (.tmp 58) (.tmp 59) rfl Tryz.underlying98 rfl a0.out rfl bQ.out (by obtain⟨t,D,l,u,A,z,C⟩:=i.out;unfold maxLen;omega) _ rfl ?_))
    intro w5 aA O;have S5:=Hd (S4.out.putN aQ.out aA O (bZ.out.mono (by obtain⟨t,D,l,u,A,z,C⟩:=i.out;omega)) (by obtain⟨t,D,l,u,A,z,C⟩:=i.out;omega) (by obtain⟨t,D,l,u,A,z,C⟩:=i.out;exact l));have R5:=Hd (R4.out.only O (by obtain⟨t,D,l,u,A,z,C⟩:=i.out;omega) (by obtain⟨t,D,l,u,A,z,C⟩:=i.out;have:=aZ.out;omega));have a8:=Hd (aF.out.trans (On3.of O (.inr (.inl rfl))));have bF:=Hd (P4.out.only O (by obtain⟨t,D,l,u,A,z,C⟩:=i.out;omega));have bU:=Hd (bO aZ.out O.size);have b1:=Hd fun(W:World) (hw:Below w5.heap.size w5 W)=>dK.out W (n+1) m (Lo F [((x:Int),d)]) H (by have:=aW.out.1;have:=aO.out;omega) (by obtain⟨t,D,l,u,A,z,C⟩:=i.out;have:=bU.out;have:=hw.size;omega) (R5.out.below hw) (S5.out.below hw);clear aA O y0 aK;go_wp2_with fail;refine Bl [eF (.agg #[.int .i64 lv,.int .i64 ow,.map (some ob),.map (some sb)]),eF (.pointer (some ⟨B,0,none⟩)),eF (.int .i64 (x:Nat)),eF (.int .i64 (xl:Nat)),fun v w'=>v=.int .u8 (r.er:Nat)∧(r.er=0→RS w' B r.rest 0∧PcS w' ob sb g (n+1+r.op.length) (m+r.sh.length) (Lo (Lo F [((x:Int),d)]) r.op) (Oq (H) r.sh)),eF (.int .u8 (r.er:Nat))]
     (cK 6 true) (fun x=>On3 B ob sb w5 x) (fun x y=>On3 B ob sb x y) (some 4) (by kernel_rfl) ?_ ⟨rfl,rfl,rfl,lR,fun _ _ _ _ _=>rfl⟩ (fun x y _ h=>On3.below h) (fun x y hx hs=>hx.trans hs) (by kernel_rfl) (by kernel_rfl) ?_ ?_
    ·exact kE (kE (kE (kE (Cv (fun v x y h _ E=>⟨h.1,fun e=>⟨(h.2 e).1.below E,(h.2 e).2.below E⟩⟩) (Ah (fun _ _ _ h _ _=>h) Ae)))))
    ·refine gO ?_ (gP ?_ rfl (gP ?_ rfl (gO ?_ (gOw (by kernel_rfl) ?_ (gP ?_ rfl .nil)))));all_goals
      intro a wx Q a9 ho hf;have Q:On3 B ob sb w5 wx:=Q;refine⟨rfl,?_⟩;intro K U;try have bB:a.tmps[3]?.getD undef=.pointer (some ⟨p,0,none⟩):=ho 3 (by kernel_rfl)
      try have c0:a.tmps[1]?.getD undef=.pointer (some ⟨B,0,none⟩):=ho 1 (by kernel_rfl)
      try have dI:a.tmps[2]?.getD undef=.int .i64 (x:Nat):=ho 2 (by kernel_rfl)
      try have cS:=eqn hf.1
      try have cM:=eqn hf.2.1
      try have cY:=eqn hf.2.2.1
      try(refine Hd ?_;go_simp;exact U _ rfl)
     ·have aT:=bF.out.on3 Q (by obtain⟨t,D,l,u,A,z,C⟩:=i.out;omega) (by obtain⟨t,D,l,u,A,z,C⟩:=i.out;omega) (by obtain⟨t,D,l,u,A,z,C⟩:=i.out;omega);exact wp_load_row 101 (.tmp 3) rfl _ (evs bB) _ _ (0,0) _ aT Tryz.underlying101 rfl (by kernel_rfl) (U _ _ rfl (Af rfl bR))
     ·go_simp;refine(bX.out wx).mono ?_;rintro e w7 ⟨rfl,rfl⟩;exact U _ _ rfl (Af rfl bR)
     ·go_simp;refine(b1.out wx a9).mono ?_;rintro e w7 ⟨rfl,h2,h3⟩;exact U _ _ ⟨rfl,h3⟩ (Ca rfl h2)
     ·refine Hd ?_;have c2:a.tmps[67]?.getD undef=.int .u8 (r.er:Nat):=hf.1.1;go_simp;exact U _ rfl
    ·rintro f w6 E N;have E:On3 B ob sb w5 w6:=E;have J:r.er=0→RS w6 B r.rest 0∧PcS w6 ob sb g (n+1+r.op.length) (m+r.sh.length) (Lo (Lo F [((x:Int),d)]) r.op) (Oq (H) r.sh):=N.2.2.2.2.1.2;have Sr:f 11=.int .u8 (r.er:Nat):=N.2.2.2.2.2.1;clear N;simp only[Aj,Aq,Dr,cZ,dA,dB,dC,Nat.reduceBEq,Nat.reduceAdd,dD,dE,cond_true,cond_false];rw[Sr];clear Sr;have bG:=Hd (a8.out.trans E);have cW:=Hd (bF.out.on3 E (by obtain⟨t,D,l,u,A,z,C⟩:=i.out;omega) (by obtain⟨t,D,l,u,A,z,C⟩:=i.out;omega) (by obtain⟨t,D,l,u,A,z,C⟩:=i.out;omega));have c7:=Hd (bO bU.out E.size);have bH:=Hd J;clear E J
     by_cases hl0:r.er=0
     ·have cO:((r.er:Int) !=0)=false:=(by rw[bne_eq_false_iff_eq];omega);have HL0:=Hd hl0;have bK:=Hd fun(W:World) (hw:Below w6.heap.size w6 W)=>cX.out W (n+1+r.op.length) (m+r.sh.length) (Lo (Lo F [((x:Int),d)]) r.op) (Oq H r.sh) hl0 (by have:=aW.out.1;have:=aO.out;have:=(b6.out hl0).2.2;omega) (by obtain⟨t,D,l,u,A,z,C⟩:=i.out;have:=c7.out;have:=hw.size;omega) ((bH.out hl0).1.below hw) ((bH.out hl0).2.below hw);clear hl0;go_wp2_with fail;refine Bl [eF (.agg #[.int .i64 lv,.int .i64 ow,.map (some ob),.map (some sb)]),eF (.pointer (some ⟨B,0,none⟩)),eF (.int .i64 (x:Nat)),eF (.int .i64 (xr:Nat)),fun v w'=>v=.int .u8 (P.er:Nat)∧(P.er=0→RS w' B P.rest 0∧PcS w' ob sb g (n+1+r.op.length+P.op.length) (m+r.sh.length+P.sh.length) (Lo (Lo (Lo F [((x:Int),d)]) r.op) P.op) (Oq (Oq H r.sh) P.sh)),eF (.int .u8 (P.er:Nat))]
       (cK 6 true) (fun x=>On3 B ob sb w6 x) (fun x y=>On3 B ob sb x y) (some 4) (by kernel_rfl) ?_ ⟨rfl,rfl,rfl,lR,fun _ _ _ _ _=>rfl⟩ (fun x y _ h=>On3.below h) (fun x y hx hs=>hx.trans hs) (by kernel_rfl) (by kernel_rfl) ?_ ?_
      ·exact kE (kE (kE (kE (Cv (fun v x y h _ E=>⟨h.1,fun e=>⟨(h.2 e).1.below E,(h.2 e).2.below E⟩⟩) (Ah (fun _ _ _ h _ _=>h) Ae)))))
      ·refine gO ?_ (gP ?_ rfl (gP ?_ rfl (gO ?_ (gOw (by kernel_rfl) ?_ (gP ?_ rfl .nil)))));all_goals
        intro a wx Q a9 ho hf;have Q:On3 B ob sb w6 wx:=Q;refine⟨rfl,?_⟩;intro K U;try have bB:a.tmps[3]?.getD undef=.pointer (some ⟨p,0,none⟩):=ho 3 (by kernel_rfl)
        try have c0:a.tmps[1]?.getD undef=.pointer (some ⟨B,0,none⟩):=ho 1 (by kernel_rfl)
        try have dI:a.tmps[2]?.getD undef=.int .i64 (x:Nat):=ho 2 (by kernel_rfl)
        try have cS:=eqn hf.1
        try have cM:=eqn hf.2.1
        try have cY:=eqn hf.2.2.1
        try(refine Hd ?_;go_simp;exact U _ rfl)
       ·have aT:=cW.out.on3 Q (by obtain⟨t,D,l,u,A,z,C⟩:=i.out;omega) (by obtain⟨t,D,l,u,A,z,C⟩:=i.out;omega) (by obtain⟨t,D,l,u,A,z,C⟩:=i.out;omega);exact wp_load_row 101 (.tmp 3) rfl _ (evs bB) _ _ (0,0) _ aT Tryz.underlying101 rfl (by kernel_rfl) (U _ _ rfl (Af rfl bR))
       ·go_simp;refine(bJ.out wx).mono ?_;rintro e w7 ⟨rfl,rfl⟩;exact U _ _ rfl (Af rfl bR)
       ·go_simp;refine(bK.out wx a9).mono ?_;rintro e w7 ⟨rfl,h2,h3⟩;exact U _ _ ⟨rfl,h3⟩ (Ca rfl h2)
       ·refine Hd ?_;have c2:a.tmps[75]?.getD undef=.int .u8 (P.er:Nat):=hf.1.1;go_simp;exact U _ rfl
      ·rintro f w7 E N;have E:On3 B ob sb w6 w7:=E;have J:P.er=0→RS w7 B P.rest 0∧PcS w7 ob sb g (n+1+r.op.length+P.op.length) (m+r.sh.length+P.sh.length) (Lo (Lo (Lo F [((x:Int),d)]) r.op) P.op) (Oq (Oq H r.sh) P.sh):=N.2.2.2.2.1.2;have Sr:f 6=.int .u8 (P.er:Nat):=N.2.2.2.2.2.1;clear N;simp only[Aj,Aq,Dr,cZ,dA,dB,dC,Nat.reduceBEq,Nat.reduceAdd,dD,dE,cond_true,cond_false];rw[Sr];clear Sr;have b5:=Hd (bG.out.trans E);have bE:=Hd J;clear E J;go_wp2_with fail;go_ret;rw[I.out];unfold Um;rw[if_neg (by have:=HL0.out;omega)]
       by_cases hr0:P.er=0
       ·obtain⟨l1,l2,l3⟩:=b6.out HL0.out;obtain⟨r1,r2⟩:=cL.out hr0;obtain⟨p1,p2⟩:=bE.out hr0;rw[if_neg (by omega)];refine⟨by rw[hr0];rfl,b5.out,fun _=>⟨p1,?_⟩⟩;have e1:=Ziu F (d:=d) l1 r1;have e2:=Ziv H l2 r2;rw[e1,e2]at p2;exact p2.le (by simp only[aI,cB];omega) (by simp only[aI];omega)
       ·rw[if_pos hr0];exact⟨rfl,b5.out,fun h=>absurd h hr0⟩
     ·have cO:((r.er:Int) !=0)=true:=(by rw[bne_iff_ne];omega);have HL0:=Hd hl0;clear hl0;go_wp2_with fail;go_ret;rw[I.out];unfold Um;rw[if_pos HL0.out];exact⟨rfl,bG.out,fun h=>absurd h HL0.out⟩
 ·have cT:((te:Int) !=0)=true:=(by rw[bne_iff_ne];omega);obtain⟨K,U⟩:=Zfr k x (1::M);have I:=Hd (show rdP k x (1::M)=Sf te from by rw[aU.out K U,if_pos h1]);have X:=Hd h1;clear h1 U;go_wp2_with fail;go_ret;rw[I.out];exact⟨rfl,aF.out,fun h=>absurd h X.out⟩
theorem Zix:∀k,k≤16→Ziw k:=by
 have step:∀k,k≤16→(∀j,k=j+1→Ziw j)→Ziw k:=by
  intro k hk v x lv ow B ob sb g n m L F H w y h2 f h3 p q s r t i b c a;rcases Zbz L with⟨z,M,d,l,u⟩|⟨M,rfl,l⟩|⟨M,rfl,l⟩
  ·obtain⟨K,o⟩:=Zfr k x L;rw[o,u];exact Zfs k x lv ow B ob sb g n m z L M F H w i a d l
  ·obtain⟨K,o⟩:=Zfr k x (0::M);rw[o];exact Zft k x lv ow B ob sb g n m M F H w (by have:=fK k;omega) h3 p q s r t i b (by simp only[cB]at c;omega) a
  ·exact Zfu k x hk v lv ow B ob sb g n m M F H w y h2 f h3 p q s r t i b c a
 intro k
 induction k with
 |zero=>intro h;exact step 0 h fun j e=>by cases e
 |succ k ih=>intro h;exact step (k+1) h fun j e=>by cases e;exact ih (by omega)
def Iv (L:List Nat)(s:Int)(P:Nat→Bool):Nat×Nat×List Nat×Nat:=
 if(Fe L 0 s).2.2≠0 then(0,(Fe L 0 s).2.2,(Fe L 0 s).2)else if P (Ds (Fe L 0 s).1)=true then(Ds (Fe L 0 s).1,0,(Fe L 0 s).2)else(0,3,(Fe L 0 s).2)
def Zfv (B:Nat)(w:World)(r:Nat×Nat×List Nat×Nat)(e:Ending)(w':World):Prop:=
 e=.returned (.tuple #[.int .i64 (r.1:Nat),.int .u8 (r.2.1:Nat)])∧RS w' B r.2.2.1 r.2.2.2∧Only B w w'
theorem Zfw {L:List Nat} {er:Nat} {n:Int}(h:(Cm L er n).2.2≠0):(Cm L er n).1=[]:=by
 unfold Cm at h⊢
 by_cases h1:er≠0
 ·rw[if_pos h1]
 ·rw[if_neg h1]at h⊢
  by_cases h2:n<0
  ·rw[if_pos h2]
  ·rw[if_neg h2]at h⊢
   by_cases h3:(L.length:Int)<n
   ·rw[if_pos h3]
   ·rw[if_neg h3]at h;exact absurd rfl h
theorem Zfx {L:List Nat} {s:Int}(c:∀n∈L,n<256)(g:s=1∨s=4):Ds (Fe L 0 s).1<4294967296:=by
 have p:=Fh L 0 s
 by_cases h:(Fe L 0 s).2.2=0
 ·have:=Zp (L:=L) (er:=0) (n:=if Zf8 s=true then s else-1) h;have a:Zf8 s=true:=by rcases g with rfl|rfl<;>decide
  rw[if_pos a]at this;have e:Fe L 0 s=Cm L 0 s:=(by rw[Fe,if_pos a]);rw[e,this.2.2.2];have f:(L.take s.toNat).length≤4:=(by rw[List.length_take];omega);have b:=Mt _ _ rfl fun n d=>c n (List.mem_of_mem_take (i:=s.toNat) d);have h2:256^(L.take s.toNat).length≤256^4:=Nat.pow_le_pow_right (by omega) f;exact dX b (bO h2 (by decide))
 ·have:(Fe L 0 s).1=[]:=Zfw h;rw[this];decide
theorem Qc (g:Nat) (c:Value) (I:∀args w,(callFunc g args).run Tryz.prog w=.ok (.enter g args) w) (B:Nat) (L:List Nat) (s:Int) (P:Nat→Bool) (w:World) (h:RS w B L 0) (C:s=1∨s=4) (u:∀n∈L,n<256)
  (A:∀(n:Nat) (W:World),n<4294967296→Only B w W→Calls Tryz.prog g #[.int .i64 (n:Nat),c] W fun e D=>e=.returned (.bool (P n))∧D=W):
  Calls Tryz.prog 118 #[.pointer (some ⟨B,0,none⟩),.int .i64 s,.func (.func g) #[] #[c]] w (Zfv B w (Iv L s P)):=by
 have z:=Hd (Ni B L 0 s w h u);have r:=Zfx u C;have y:=Hd fun(L:List Nat) (er:Nat) W=>Hb B L er W;unfold Iv;obtain⟨m,k⟩:=eX (Ds (Fe L 0 s).1);obtain⟨M,t⟩:=eX ((Fe L 0 s).2.1);obtain⟨er,b⟩:=eX ((Fe L 0 s).2.2);have x:Hid (Calls Tryz.prog 154 #[.pointer (some ⟨B,0,none⟩),.int .i64 s] w fun e w'=>e=.returned (.int .u64 (m:Nat))∧RS w' B M er∧Only B w w'):=Hd (by rw[k,t,b];exact z.out);have e2:(Fe L 0 s).2=(M,er):=(by rw[t,b]);rw[←k]at r;rw[←b,←k,e2];have d:=Hd fun(W:World) (F:Only B w W)=>A m W r F;have E:IntKind.i64.wrap (m:Int)=(m:Int):=IntWalk.i64_in _ ⟨by omega,by omega⟩;obtain⟨R,v⟩:=eX ((if er≠0 then(0,er,M,er)else if P m=true then(m,0,M,er)else(0,3,M,er):Nat×Nat×List Nat×Nat));rw[←v];have j:=Hd v;obtain⟨G,f⟩:=eX (P m);rw[←f]at d j;clear z h C u r A k t b e2 v f;go_enter Tryz.func118,Tryz.ntmps118;go_wp2_with fail;refine x.out.mono ?_;rintro e H ⟨rfl,i,a⟩;have l:=Hd i;have o:=Hd a;clear i a;go_wp2_with fail;refine(y.out _ _ _ l.out).mono ?_;rintro e w' ⟨rfl,rfl⟩
 by_cases h1:er=0
 ·have q:((er:Int) !=0)=false:=(by rw[bne_eq_false_iff_eq];omega);have p:=Hd h1;clear h1;go_wp2_with fail;refine(d.out _ o.out).mono ?_;rintro e w' ⟨rfl,rfl⟩;cases G with
  |true=>
   go_wp2_with fail;go_ret2;rw[j.out,if_neg (by have:=p.out;omega),if_pos trivial];exact⟨rfl,l.out,o.out⟩
  |false=>
   go_wp2_with fail;go_ret2;rw[j.out,if_neg (by have:=p.out;omega),if_neg (by simp)];exact⟨rfl,l.out,o.out⟩
 ·have q:((er:Int) !=0)=true:=(by rw[bne_iff_ne];omega);have p:=Hd h1;clear h1;go_wp2_with fail;go_ret2;rw[j.out,if_pos p.out];exact⟨rfl,l.out,o.out⟩
theorem Zfy (g:Nat) (H:∀args w,(callFunc g args).run Tryz.prog w=.ok (.enter g args) w) (B:Nat) (L:List Nat) (s:Int) (P:Nat→Bool) (w:World) (h:RS w B L 0) (A:s=1∨s=4) (t:∀n∈L,n<256)
  (z:∀(n:Nat) (W:World),n<4294967296→Only B w W→Calls Tryz.prog g #[.int .i64 (n:Nat)] W fun e C=>e=.returned (.bool (P n))∧C=W):
  Calls Tryz.prog 118 #[.pointer (some ⟨B,0,none⟩),.int .i64 s,.func (.func g) #[] #[]] w (Zfv B w (Iv L s P)):=by
 have y:=Hd (Ni B L 0 s w h t);have q:=Zfx t A;have x:=Hd fun(L:List Nat) (er:Nat) W=>Hb B L er W;unfold Iv;obtain⟨m,j⟩:=eX (Ds (Fe L 0 s).1);obtain⟨M,r⟩:=eX ((Fe L 0 s).2.1);obtain⟨er,b⟩:=eX ((Fe L 0 s).2.2);have v:Hid (Calls Tryz.prog 154 #[.pointer (some ⟨B,0,none⟩),.int .i64 s] w fun e w'=>e=.returned (.int .u64 (m:Nat))∧RS w' B M er∧Only B w w'):=Hd (by rw[j,r,b];exact y.out);have e2:(Fe L 0 s).2=(M,er):=(by rw[r,b]);rw[←j]at q;rw[←b,←j,e2];have c:=Hd fun(W:World) (E:Only B w W)=>z m W q E;have D:IntKind.i64.wrap (m:Int)=(m:Int):=IntWalk.i64_in _ ⟨by omega,by omega⟩;obtain⟨R,u⟩:=eX ((if er≠0 then(0,er,M,er)else if P m=true then(m,0,M,er)else(0,3,M,er):Nat×Nat×List Nat×Nat));rw[←u];have i:=Hd u;obtain⟨F,d⟩:=eX (P m);rw[←d]at c i;clear y h A t q z j r b e2 u d;go_enter Tryz.func118,Tryz.ntmps118;go_wp2_with fail;refine v.out.mono ?_;rintro e G ⟨rfl,f,a⟩;have k:=Hd f;have l:=Hd a;clear f a;go_wp2_with fail;refine(x.out _ _ _ k.out).mono ?_;rintro e w' ⟨rfl,rfl⟩
 by_cases h1:er=0
 ·have p:((er:Int) !=0)=false:=(by rw[bne_eq_false_iff_eq];omega);have o:=Hd h1;clear h1;go_wp2_with fail;refine(c.out _ l.out).mono ?_;rintro e w' ⟨rfl,rfl⟩;cases F with
  |true=>
   go_wp2_with fail;go_ret2;rw[i.out,if_neg (by have:=o.out;omega),if_pos trivial];exact⟨rfl,k.out,l.out⟩
  |false=>
   go_wp2_with fail;go_ret2;rw[i.out,if_neg (by have:=o.out;omega),if_neg (by simp)];exact⟨rfl,k.out,l.out⟩
 ·have p:((er:Int) !=0)=true:=(by rw[bne_iff_ne];omega);have o:=Hd h1;clear h1;go_wp2_with fail;go_ret2;rw[i.out,if_pos o.out];exact⟨rfl,k.out,l.out⟩
def Zml (only:Bool)(n i:Nat)(L:List Nat):Nat×SparseD:=
 if(rdP (aZ n) (n-1) L).er≠0 then((rdP (aZ n) (n-1) L).er,Ja)else
 if Zgl (rdP (aZ n) (n-1) L).rest 0≠0 then(Zgl (rdP (aZ n) (n-1) L).rest 0,Ja)else
 if Ar ⟨n,i,(rdP (aZ n) (n-1) L).op,(rdP (aZ n) (n-1) L).sh⟩ only=true then(0,⟨n,i,(rdP (aZ n) (n-1) L).op,(rdP (aZ n) (n-1) L).sh⟩)else(3,Ja)
def Zmm (only:Bool)(n:Nat)(L:List Nat):Nat×SparseD:=
 if(Iv L 4 fun i=>decide (i<n)).2.1≠0 then((Iv L 4 fun i=>decide (i<n)).2.1,Ja)else
 Zml only n (Iv L 4 fun i=>decide (i<n)).1 (Iv L 4 fun i=>decide (i<n)).2.2.1
def Zmn (only:Bool)(L:List Nat):Nat×SparseD:=
 if(Iv L 4 fits).2.1≠0 then((Iv L 4 fits).2.1,Ja)else
 Zmm only (Iv L 4 fits).1 (Iv L 4 fits).2.2.1
def ofT (only:Bool)(mk:Nat)(b:List Nat):Nat×SparseD:=
 if 1048576<b.length then(6,Ja)else
 if(Iv b 1 fun n=>n==mk).2.1≠0 then((Iv b 1 fun n=>n==mk).2.1,Ja)else
 Zmn only (Iv b 1 fun n=>n==mk).2.2.1
def Ziy (r:Nat×SparseD)(w:World)(e:Ending)(w':World):Prop:=Below w.heap.size w w'∧
 if r.1=0 then∃ob sb gg,e=.returned (.tuple #[.agg #[.int .i64 r.2.leaves,.int .i64 r.2.own,.map (some ob),.map (some sb)],.int .u8 0])∧w.heap.size≤ob∧w.heap.size≤sb∧ob≠sb∧ob<gg∧sb<gg∧PcS w' ob sb gg r.2.op.length r.2.sh.length (Ai r.2.op) (Ax r.2.sh)
 else e=.returned (.tuple #[.agg #[.int .i64 0,.int .i64 0,.map none,.map none],.int .u8 (r.1:Nat)])
theorem PcS.pieceN {w:World} {ob sb g n m:Nat} {F:Int→Option NodeD} {H:Int→Option (List Nat)}(h:PcS w ob sb g n m F H):PieceN w ob n F:=by
 obtain⟨⟨G,h1,h2⟩,-⟩:=h;refine⟨G,h1,fun x=> ?_⟩;have:=h2 x;revert this;cases F x with
 |none=>exact fun h=>h
 |some d=>rintro⟨c,h3,h4⟩;exact⟨c,h3,h4.c⟩
theorem PcS.pieceH {w:World} {ob sb g n m:Nat} {F:Int→Option NodeD} {H:Int→Option (List Nat)}(h:PcS w ob sb g n m F H):PieceH w sb m H:=by
 obtain⟨-,G,h1,h2⟩:=h;refine⟨G,h1,fun x=> ?_⟩;have:=h2 x;revert this;cases H x with
 |none=>exact fun h=>h
 |some d=>rintro⟨c,h3,h4⟩;exact⟨c,h3,h4.rd⟩
theorem Zfz (n g mk:Nat)(w:World)(d:w.cell? ⟨g,0,none⟩=some (.int .i64 (mk:Nat))):
  Calls Tryz.prog 119 #[.int .i64 (n:Nat),.pointer (some ⟨g,0,none⟩)] w fun e w'=>e=.returned (.bool (n==mk))∧w'=w:=by
 obtain⟨b,c⟩:=eX ((n==mk));have a:((n:Int)==(mk:Int))=b:=(by rw[c,fX,beq_iff_eq,beq_iff_eq];omega);rw[←c];clear c;go_enter Tryz.func119,Tryz.ntmps119;go_wp2_with fail;go_ret;exact⟨by first|rfl|(rw[a]),rfl⟩
theorem Zf0 (n g lv:Nat)(w:World)(f:w.cell? ⟨g,0,none⟩=some (.int .i64 (lv:Nat))):
  Calls Tryz.prog 120 #[.int .i64 (n:Nat),.pointer (some ⟨g,0,none⟩)] w fun e w'=>e=.returned (.bool (decide (n<lv)))∧w'=w:=by
 obtain⟨b,a⟩:=eX (decide (n<lv));have d:decide (n<lv)=b:=a.symm;have c:decide ((n:Int)<(lv:Int))=b:=(by rw[a,fX,decide_eq_true_iff,decide_eq_true_iff];omega);rw[←a];clear a;go_enter Tryz.func120,Tryz.ntmps120;go_wp2_with fail;go_ret;exact⟨by first|rfl|(rw[d])|(rw[c]),rfl⟩
end Go.Proofs.YtfofaiommeckbaaGreat
namespace Go.Proofs.YtfofaiommeckbaaGreat
open Go.RowKit WalkM WireM
theorem Ziz (L:List Nat)(P:Nat→Bool):Iv L 1 P=match L with|[]=>(0,4,[],4)|b::M=>if P b=true then(b,0,M,0)else(0,3,M,0):=by
 unfold Iv;rw[Fz];cases L with
 |nil=>rfl
 |cons b M=>simp only[Zeu];rfl
theorem Ut (L:List Nat)(P:Nat→Bool):Iv L 4 P=if L.length<4 then(0,4,L,4)else if P (Ji L)=true then(Ji L,0,L.drop 4,0)else(0,3,L.drop 4,0):=by
 unfold Iv;have e:Fe L 0 4=if L.length<4 then([],L,4)else(L.take 4,L.drop 4,0):=by
  unfold Fe Cm;have a:Zf8 4=true:=(by decide);rw[if_pos a,if_neg (by decide),if_neg (by decide)]
  by_cases h:L.length<4
  ·rw[if_pos h,if_pos (by omega)]
  ·rw[if_neg h,if_neg (by omega)];rfl
 rw[e]
 by_cases h:L.length<4
 ·rw[if_pos h,if_pos h];rfl
 ·rw[if_neg h,if_neg h];rfl
theorem Xg (only:Bool)(mk:Nat)(b:List Nat):ofT only mk b=ofS only mk b:=by
 unfold ofT ofS
 by_cases h:1048576<b.length
 ·rw[if_pos h,if_pos h]
 ·rw[if_neg h,if_neg h,Ziz];cases b with
  |nil=>rfl
  |cons c L=>
   simp only[beq_iff_eq]
   by_cases hc:c=mk
   ·rw[if_pos hc];simp only[ne_eq,not_true_eq_false,if_false,hc];unfold Zmn;rw[Ut]
    by_cases h4:L.length<4
    ·simp only[if_pos h4];rfl
    ·simp only[if_neg h4]
     by_cases hf:fits (Ji L)=true
     ·have a:¬fits (Ji L)=false:=(by rw[hf];decide);simp only[if_pos hf,if_neg a];unfold Zmm;rw[Ut,List.length_drop]
      by_cases h8:L.length<8
      ·simp only[if_pos h8,if_pos (show L.length-4<4 by omega)];rfl
      ·simp only[if_neg h8,if_neg (show¬L.length-4<4 by omega),List.drop_drop]
       by_cases hi:Ji (L.drop 4)<Ji L
       ·simp only[if_pos (show decide (Ji (L.drop 4)<Ji L)=true by simpa using hi),if_neg (show¬Ji L≤Ji (L.drop 4) by omega)];unfold Zml Zgl;simp only[ne_eq,not_true_eq_false,if_false]
        by_cases he:(rdP (aZ (Ji L)) (Ji L-1) (L.drop 8)).er=0
        ·simp only[he,not_true_eq_false,if_false]
         by_cases hr:(rdP (aZ (Ji L)) (Ji L-1) (L.drop 8)).rest=[]
         ·simp only[hr,not_true_eq_false,if_false,if_true]
         ·simp only[hr,not_false_eq_true,if_false,if_true];rfl
        ·simp only[he,not_false_eq_true,if_true]
       ·simp only[if_neg (show¬decide (Ji (L.drop 4)<Ji L)=true by simpa using hi),if_pos (show Ji L≤Ji (L.drop 4) by omega)];rfl
     ·have a:fits (Ji L)=false:=(by simpa using hf);simp only[if_neg hf,if_pos a];rfl
   ·rw[if_neg hc];simp only[ne_eq,hc,not_false_eq_true,if_true];rfl
section
theorem Oa {s:SparseD} {only:Bool}(h:Ar s only=true):∃d i:Nat,d≤16∧s.leaves=((2^d:Nat):Int)∧s.own=(i:Int)∧i<2^d∧Ck s=true∧
  Bt (fun n:Nat=>Ai s.op n) i only d (2^d-1) 0 []=(s.op.map (·.1),s.sh.map (·.1),true)∧(∀p∈s.sh,p.2.length=32)∧((Ai s.op (2*i:Nat)).getD An).kind=1:=by
 have h2:=Nt s only;rw[h,cL]at h2;obtain⟨k,h3⟩:=h2;unfold Cn at h3;simp only[cL]at h3;obtain⟨⟨⟨⟨⟨m,g⟩,hk⟩,-⟩,-⟩,⟨j,b⟩,c⟩:=h3;have g:=of_decide_eq_true g;have hk:=of_decide_eq_true hk;have b:=of_decide_eq_true b;have c:=of_decide_eq_true c;obtain⟨d,l,e⟩:=(fits_iff _).1 m;have a:s.leaves=((2^d:Nat):Int):=(by omega);unfold Ar at h;simp only[cL]at h;refine⟨d,s.own.toNat,l,a,by omega,by omega,k,?_,fun p f=>of_decide_eq_true (List.all_eq_true.1 h.1.2 p f),?_⟩
 ·rw[a,Int.toNat_natCast,Nat.log2_two_pow]at j b c;exact Prod.ext b (Prod.ext c j)
 ·have e2:((2*s.own.toNat:Nat):Int)=2*s.own:=(by omega);rw[e2];exact hk
section
variable {F:Int→Option NodeD} {H:Int→Option (List Nat)} {i:Nat} {only:Bool}
def Zk9 (F:Int→Option NodeD)(O:List Int):List (Int×NodeD):=O.map fun y=>(y,(F y).getD An)
def Zla (H:Int→Option (List Nat))(S:List Int):List (Int×List Nat):=S.map fun y=>(y,(H y).getD [])
end
theorem Zi0 {l:List (Int×NodeD)}(h:(l.map (·.1)).Pairwise (· < ·)):Zk9 (Ai l) (l.map (·.1))=l:=by
 unfold Zk9;rw[iM]
 conv=>rhs;rw[←iN l]
 refine iG fun p hp=> ?_;show(p.1,(Ai l p.1).getD An)=p;rw[Gu h hp];rfl
theorem Zi1 {l:List (Int×List Nat)}(h:(l.map (·.1)).Pairwise (· < ·)):Zla (Ax l) (l.map (·.1))=l:=by
 unfold Zla;rw[iM]
 conv=>rhs;rw[←iN l]
 refine iG fun p hp=> ?_;show(p.1,(Ax l p.1).getD [])=p;rw[Gv h hp];rfl
end
end Go.Proofs.YtfofaiommeckbaaGreat
