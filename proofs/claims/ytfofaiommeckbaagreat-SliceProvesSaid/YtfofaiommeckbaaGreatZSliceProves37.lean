import Derived.Test.YtfofaiommeckbaaGreatZSliceProves33
import Derived.Test.YtfofaiommeckbaaGreatZSliceProves27
import Derived.Maps.RangeWalk
open Go.Value renaming slice → q9, pointer → rB
open Option renaming none → rF
open Go.Proofs.Tryz
open List renaming getElem?_toArray → bZ, getElem?_cons_zero → cA, getElem?_cons_succ → cB, length_cons → bY, any_eq_false → gS, map_cons → gV, mem_cons → aE, length_map → gE, getElem_map → gW, replicate → cI, filterMap_cons → cX, filterMap_nil → cY, contains_cons → cZ, contains_nil → dA, getElem_mem → aJ, getElem_of_mem → dK, mem_map_of_mem → gX, length_nil → bT, length_append → aG, append_assoc → bW
open Nat renaming le_succ → gG, log2 → aX, two_pow_pos → fB, le_of_lt → dW, log2_two_pow → gY, le_trans → bM, lt_of_lt_of_le → dS, le_of_eq → gZ
open Bool renaming and_eq_true → cJ, not_eq_true' → cL, or_false → dB, or_true → dC, true_and → dI
open Int renaming toNat_natCast → dG, tmod_eq_emod_of_nonneg → fD, tmod → fC
set_option linter.unusedVariables false
set_option maxRecDepth 100000
set_option maxHeartbeats 40000000
namespace Go.Proofs.YtfofaiommeckbaaGreat
open Go.RowKit WalkM WireM
def Zb5:Array Value:=#[.int .u8 0,q9 rF 0 0,q9 rF 0 0,q9 rF 0 0,.int .u8 0,q9 rF 0 0,q9 rF 0 0,q9 rF 0 0,q9 rF 0 0,q9 rF 0 0]
def Zni (v:Value):Array Value:=match v with
 | .agg c=>c
 |_=>Zb5
def Fv (G:Int→Option Value)(x:Int):Array Value:=Zni ((G x).getD (.agg Zb5))
theorem NodesG.some {w:World} {G:Int→Option Value} {F:Int→Option NodeD}(h:NodesG w G F) {x:Int} {d:NodeD}(hF:F x=some d):G x=some (.agg (Fv G x))∧NodeC w d (Fv G x):=by
 have:=h x;rw[hF]at this;obtain⟨c,hc,hn⟩:=this;have e:Fv G x=c:=(by rw[Fv,hc];rfl);rw[e];exact⟨hc,hn⟩
theorem NodesG.none {w:World} {G:Int→Option Value} {F:Int→Option NodeD}(h:NodesG w G F) {x:Int}(hF:F x=none):G x=none∧Fv G x=Zb5:=by
 have:=h x;rw[hF]at this;have hg:G x=Option.none:=this;exact⟨hg,by rw[Fv,hg];rfl⟩
theorem NodesG.val {w:World} {G:Int→Option Value} {F:Int→Option NodeD}(h:NodesG w G F)(x:Int):(G x).getD (.agg Zb5)=.agg (Fv G x)∧(G x).isSome=(F x).isSome:=by
 cases hF:F x with
 |none=>obtain⟨h1,h2⟩:=h.none hF;rw[h1,h2];exact⟨rfl,rfl⟩
 |some d=>obtain⟨h1,-⟩:=h.some hF;rw[h1];exact⟨rfl,rfl⟩
theorem NodesG.ten {w:World} {G:Int→Option Value} {F:Int→Option NodeD}(h:NodesG w G F)(x:Int):∃c0 c1 c2 c3 c4 c5 c6 c7 c8 c9,Fv G x=#[c0,c1,c2,c3,c4,c5,c6,c7,c8,c9]:=by
 cases hF:F x with
 |none=>rw[(h.none hF).2];exact⟨_,_,_,_,_,_,_,_,_,_,rfl⟩
 |some d=>exact(h.some hF).2.ten
theorem NodesG.one {w:World} {G:Int→Option Value} {F:Int→Option NodeD}(h:NodesG w G F)(x:Int):(Fv G x).toList.all (·.oneCell')=true:=by
 cases hF:F x with
 |none=>rw[(h.none hF).2];rfl
 |some d=>exact(h.some hF).2.oneL
theorem Hb (w:World):(zeroValue 52).run prog w=.ok (.agg Zb5) w:=zeroValue52 w
theorem Zlp (h ob n:Nat)(l o s:Value)(G:Int→Option Value)(F:Int→Option NodeD)(x:Int)(w0 w:World)(H:Blk w h 101 #[l,o,.map (some ob),s])(J:MapF w ob n G)(k:NodesG w0 G F)(hx:inI x):
  Calls prog 181 #[.int .i64 x,rB (some ⟨h,0,rF⟩)] w fun e w'=>e=.returned (.tuple #[.agg (Fv G x),.bool (F x).isSome])∧Below w.heap.size w w':=by
 obtain⟨E,K⟩:=k.val x;have d:=Hd (k.one x);obtain⟨u,c1,c2,c3,c4,c5,y,m,C,q,L⟩:=k.ten x;rw[L]at E d⊢;rw[←K];have j:=fun(W:World) (O:Below w.heap.size w W)=>MapF.run_getOk (T:=98) (J.below O lR) underlying98 (Hb W) hx;rw[E]at j;obtain⟨Q,i⟩:=eX ((G x).isSome);rw[←i]at j⊢;have I:=H.cell 2;simp only[bZ,cA,cB]at I;have t:=H.lt;have r:=Hd j;have B:=r.out _ ((Below.refl w.heap.size w).alloc lR (.cells #[.int .u8 0,q9 rF 0 0,q9 rF 0 0,q9 rF 0 0,.int .u8 0,q9 rF 0 0,q9 rF 0 0,q9 rF 0 0,q9 rF 0 0,q9 rF 0 0] 52));have D:=Hd (show Blk (w.alloc (.cells #[.int .u8 0,q9 rF 0 0,q9 rF 0 0,q9 rF 0 0,.int .u8 0,q9 rF 0 0,q9 rF 0 0,q9 rF 0 0,q9 rF 0 0,q9 rF 0 0] 52)) w.heap.size 52 #[.int .u8 0,q9 rF 0 0,q9 rF 0 0,q9 rF 0 0,.int .u8 0,q9 rF 0 0,q9 rF 0 0,q9 rF 0 0,q9 rF 0 0,q9 rF 0 0]from Blk.new _ _ _);have g:=Hd ((Below.refl w.heap.size w).alloc lR (.cells #[.int .u8 0,q9 rF 0 0,q9 rF 0 0,q9 rF 0 0,.int .u8 0,q9 rF 0 0,q9 rF 0 0,q9 rF 0 0,q9 rF 0 0,q9 rF 0 0] 52));clear j J k H E K L i hx;go_enter func181,ntmps181;go_wp2_with (refine Aa rfl 52 (.tmp 5) (.tmp 12) rfl (w.heap.size+1) #[u,c1,c2,c3,c4,c5,y,m,C,q] rfl rfl 52 #[.int .u8 0,q9 rF 0 0,q9 rF 0 0,q9 rF 0 0,.int .u8 0,q9 rF 0 0,q9 rF 0 0,q9 rF 0 0,q9 rF 0 0,q9 rF 0 0] (by have h1:=Blk.new (w.alloc (.cells #[.int .u8 0,q9 rF 0 0,q9 rF 0 0,q9 rF 0 0,.int .u8 0,q9 rF 0 0,q9 rF 0 0,q9 rF 0 0,q9 rF 0 0,q9 rF 0 0] 52)) 52 #[.int .u8 0,q9 rF 0 0,q9 rF 0 0,q9 rF 0 0,.int .u8 0,q9 rF 0 0,q9 rF 0 0,q9 rF 0 0,q9 rF 0 0,q9 rF 0 0];simpa using h1) (by kernel_rfl) rfl d.out ?_);rintro S a f c b;have z:=Hd ((g.out.alloc g.out.size (.cells #[.int .u8 0,q9 rF 0 0,q9 rF 0 0,q9 rF 0 0,.int .u8 0,q9 rF 0 0,q9 rF 0 0,q9 rF 0 0,q9 rF 0 0,q9 rF 0 0] 52)).trans (f w.heap.size (gG _)));have A:=Hd (show Blk S w.heap.size 52 #[.int .u8 0,q9 rF 0 0,q9 rF 0 0,q9 rF 0 0,.int .u8 0,q9 rF 0 0,q9 rF 0 0,q9 rF 0 0,q9 rF 0 0,q9 rF 0 0]from(c w.heap.size (by omega)).trans (D.out.alloc _));have N:=a.cell 0;have P:=a.cell 1;have M:=a.cell 2;have V:=a.cell 3;have k4:=a.cell 4;have Z:=a.cell 5;have X:=a.cell 6;have R:=a.cell 7;have Y:=a.cell 8;have U:=a.cell 9;simp only[bZ,cA,cB]at N P M V k4 Z X R Y U;clear a f c b B I t;go_wp2_with (refine Aa rfl 52 (.tmp 3) (.tmp 14) rfl w.heap.size #[u,c1,c2,c3,c4,c5,y,m,C,q] rfl rfl 52 #[.int .u8 0,q9 rF 0 0,q9 rF 0 0,q9 rF 0 0,.int .u8 0,q9 rF 0 0,q9 rF 0 0,q9 rF 0 0,q9 rF 0 0,q9 rF 0 0] A.out (by kernel_rfl) rfl d.out ?_);rintro w4 a f c b;have HK:=Hd a;have p:=Hd (z.out.trans (f w.heap.size lR));clear a f c b;go_wp2_with fail;exact bodyPost_ret (v:=.tuple #[.agg #[u,c1,c2,c3,c4,c5,y,m,C,q],.bool Q]) (Ad results181 _ _ w.heap.size _ _ _ rfl HK.out underlying52 rfl (by kernel_rfl)) rfl ⟨rfl,p.out⟩
open Go.Maps
section
def Ch (lv ow:Int)(F:Int→Option NodeD)(H:Int→Option (List Nat))(KF KH:List Int)(only:Bool):Bool:=
 fits lv.toNat&&decide (0≤ow∧ow<lv)&&decide (((F (2*ow)).getD Aq).kind=1)&&(KF.all fun x=>Cc x ((F x).getD Aq))&&(KH.all fun x=>decide (((H x).getD []).length=32))&&
  ((By (fun n:Nat=>F n) ow.toNat only (aX lv.toNat) (2^aX lv.toNat-1) 0 []).2.2&&decide ((By (fun n:Nat=>F n) ow.toNat only (aX lv.toNat) (2^aX lv.toNat-1) 0 []).1=KF)&&decide ((By (fun n:Nat=>F n) ow.toNat only (aX lv.toNat) (2^aX lv.toNat-1) 0 []).2.1=KH))
section
variable {lv ow:Int} {F:Int→Option NodeD} {H:Int→Option (List Nat)} {KF KH:List Int} {only:Bool}
theorem Zfi (h:fits lv.toNat=false):Ch lv ow F H KF KH only=false:=by rw[Ch,h];rfl
theorem Zkg (h:¬(0≤ow∧ow<lv)):Ch lv ow F H KF KH only=false:=by rw[Ch,decide_eq_false h];simp
theorem Zlq (h:((F (2*ow)).getD Aq).kind≠1):Ch lv ow F H KF KH only=false:=by rw[Ch,decide_eq_false h];simp
theorem Zfj {x:Int} {d:NodeD}(hk:∀x,x∈KF↔(F x).isSome=true)(hF:F x=some d)(h:Cc x d=false):Ch lv ow F H KF KH only=false:=by
 have:(KF.all fun x=>Cc x ((F x).getD Aq))=false:=List.all_eq_false.2 ⟨x,(hk x).2 (by rw[hF];rfl),by rw[hF];simpa using h⟩;rw[Ch,this];simp
theorem Zmy {x:Int} {L:List Nat}(hk:∀x,x∈KH↔(H x).isSome=true)(hF:H x=some L)(h:L.length≠32):Ch lv ow F H KF KH only=false:=by
 have:(KH.all fun x=>decide (((H x).getD []).length=32))=false:=List.all_eq_false.2 ⟨x,(hk x).2 (by rw[hF];rfl),by rw[hF];simpa using h⟩;rw[Ch,this];simp
theorem Zlr (h1:fits lv.toNat=true)(h2:0≤ow∧ow<lv)(h3:((F (2*ow)).getD Aq).kind=1)(hk:∀x,x∈KF↔(F x).isSome=true)(c:∀x d,F x=some d→Cc x d=true)(a:∀x,x∈KH↔(H x).isSome=true)(b:∀x L,H x=some L→L.length=32):
  Ch lv ow F H KF KH only=((By (fun n:Nat=>F n) ow.toNat only (aX lv.toNat) (2^aX lv.toNat-1) 0 []).2.2&&decide ((By (fun n:Nat=>F n) ow.toNat only (aX lv.toNat) (2^aX lv.toNat-1) 0 []).1=KF)&&decide ((By (fun n:Nat=>F n) ow.toNat only (aX lv.toNat) (2^aX lv.toNat-1) 0 []).2.1=KH)):=by
 have e:(KF.all fun x=>Cc x ((F x).getD Aq))=true:=List.all_eq_true.2 fun x hx=>by
  have:=(hk x).1 hx;cases hF:F x with
  |none=>rw[hF]at this;cases this
  |some d=>exact c x d hF
 have f:(KH.all fun x=>decide (((H x).getD []).length=32))=true:=List.all_eq_true.2 fun x hx=>by
  have:=(a x).1 hx;cases hF:H x with
  |none=>rw[hF]at this;cases this
  |some d=>exact decide_eq_true (b x d hF)
 rw[Ch,h1,decide_eq_true h2,decide_eq_true h3,e,f];simp
end
theorem Vp {w w':World} {P:Program} {k:TypeId} {b r n B:Nat} {D:DataW Value} {left:Lit→Bool} {d:Nat}(h:w.ranges P k rdV b r n D left d)(g:Below B w w')(h1:b<B)(h2:r<B):w'.ranges P k rdV b r n D left d:=by
 obtain⟨j,c,a,e,l,f,F,m,i,o,rest⟩:=h;exact⟨j,c,a,e,l,(g.block b h1).trans f,F,m,i,(g.block r h2).trans o,rest⟩
theorem Vq {D:DataW Value} {G:Int→Option Value}(h2:∀x,has D (.int .i64 x)=(G x).isSome)(h3:∀x v z,G x=some v→D.atKey (.int .i64 x) z=.held v) {x:Int} {c:Value}(a:∀zd,D.atKey (.int .i64 x) zd=.held c):G x=some c:=by
 cases hG:G x with
 |none=>
  have b:has D (.int .i64 x)=false:=(by rw[h2,hG];rfl);have:=a .nil;rw[atKey_of_not_has b]at this;cases this
 |some u=>
  have:=(h3 x u .nil hG).symm.trans (a .nil);cases this;rfl
theorem Zfk {key:Value} {kl:Lit}(h:keyOf prog 3 key=some kl):∃x:Int,key=.int .i64 x:=by
 obtain⟨x,e,_⟩:=Maps.keyOf_int_inv underlying3 h;exact⟨x,e⟩
theorem Zfl {x:Int} {kl:Lit}(h:keyOf prog 3 (.int .i64 x)=some kl):kl=.int .i64 x:=by
 obtain⟨x',e,e2,_⟩:=Maps.keyOf_int_inv underlying3 h;cases e;exact e2
theorem Zkh {left:Lit→Bool} {x y:Int}(h:(left (.int .i64 y)&& !(Lit.int .i64 y).sameKey (.int .i64 x))=false):left (.int .i64 y)=false∨y=x:=by
 rw[Bool.and_eq_false_iff]at h;rcases h with h|h
 ·exact .inl h
 ·right
  have h2:(Lit.int .i64 y).sameKey (.int .i64 x)=true:=(by simpa using h);have:=(WideAt.sameKey_iff (Uw x)).1 h2;cases this;rfl
theorem Zb6 (x0 x1 x2 x3 x4 x5 x6 x7 x8 x9:Value)(w:World):(Instr.field 52 (.agg #[x0,x1,x2,x3,x4,x5,x6,x7,x8,x9]) 0).run prog w=.ok x0 w:=by kernel_rfl
theorem Zaf:∀(L:List Int) (a M:Int),L.Pairwise (· < ·)→(∀y∈L,a≤y∧y<M)→L.length≤(M-a).toNat:=by
 intro L
 induction L with
 |nil=>intro a M _ _;simp
 |cons x L ih=>
  intro a M b d;rw[List.pairwise_cons]at b;have h1:=d x (by simp);have:=ih (x+1) M b.2 fun y c=>⟨by have:=b.1 y c;omega,(d y (by simp[c])).2⟩;rw[bY];omega
theorem In {x:Int} {d:NodeD}(h:Cc x d=true):At d=true:=by unfold Cc at h;rw[cJ]at h;exact h.1
theorem Qv {x:Int} {d:NodeD}(h:Cc x d=true):∀u∈d.par.late,Bx (2*u) x=true:=by
 unfold Cc at h;rw[cJ,cJ,cL,gS]at h;intro u hu;have:=h.2.2 u hu;simpa using this
def Zki (F:Int→Option NodeD):Prop:=∀x d,F x=some d→inI x∧NodeOk d∧Cd d=true
theorem Ma {w w':World} {P:Program} {k:TypeId} {b n B:Nat} {D:DataW Value}(h:w.ownsMap P k rdV b n D)(hb:Below B w w')(hB:b<B):w'.ownsMap P k rdV b n D:=by
 obtain⟨es,clock,h0,h1⟩:=h;exact⟨es,clock,(hb.block b hB).trans h0,h1⟩
theorem Zi5 {w:World} {G:Int→Option Value} {F:Int→Option NodeD}(h:NodesG w G F) {x:Int} {v:Value}(a:G x=some v):∃d c,F x=some d∧v=.agg c∧NodeC w d c:=by
 have:=h x;cases hF:F x with
 |none=>rw[hF]at this;have h2:G x=none:=this;rw[h2]at a;cases a
 |some d=>rw[hF]at this;obtain⟨c,b,e⟩:=this;rw[a]at b;cases b;exact⟨d,c,rfl,rfl,e⟩
theorem Zls {w:World} {G:Int→Option Value} {H:Int→Option (List Nat)}(h:RunsH w G H) {x:Int} {v:Value}(a:G x=some v):∃L,H x=some L∧Rd w v (bvs L):=by
 have:=h x;cases hF:H x with
 |none=>rw[hF]at this;have h2:G x=none:=this;rw[h2]at a;cases a
 |some d=>rw[hF]at this;obtain⟨c,b,e⟩:=this;rw[a]at b;cases b;exact⟨d,rfl,e⟩
theorem Qw (lv ow:Int) (ob sb nb mb:Nat) (F:Int→Option NodeD) (H:Int→Option (List Nat)) (KF KH:List Int) (only:Bool) (w:World) (hN:Vk w ob nb F) (hH:Vl w sb mb H) (eC:nb≤1000000) (eM:mb≤1000000) (f:Zki F)
  (cS:KF.Pairwise (· < ·)) (X:∀x,x∈KF↔(F x).isSome=true) (d7:KH.Pairwise (· < ·)) (S:∀x,x∈KH↔(H x).isSome=true) (dF:KF.length≤1000000) (d5:KH.length≤1000000) (P:inI lv) (how:inI ow):
  Calls prog 123 #[.agg #[.int .i64 lv,.int .i64 ow,.map (some ob),.map (some sb)],.bool only] w fun e w'=>e=.returned (.bool (Ch lv ow F H KF KH only))∧Below w.heap.size w w':=by
 obtain⟨G,⟨D,bT,a3,bX⟩,hG⟩:=hN;obtain⟨G',⟨D',b4,bB,b9⟩,aE⟩:=hH;have hG:NodesG w G F:=hG;have aE:RunsH w G' H:=aE;have fD:=bT.lt;have e5:=b4.lt;have bJ:=Hd fun(W:World) (h:W.ownsMap prog 3 rdV ob nb D)=>(show MapF W ob nb G from⟨D,h,a3,bX⟩);have cG:=Hd fun(W:World) (h:W.ownsMap prog 3 rdV sb mb D')=>(show MapF W sb mb G' from⟨D',h,bB,b9⟩);have dR:=Hd fun(x:Int) (c:Value) (t:∀zd,D.atKey (.int .i64 x) zd=.held c)=>Zi5 hG (Vq a3 bX t);have bV:=Hd fun(x:Int) (c:Value) (t:∀zd,D'.atKey (.int .i64 x) zd=.held c)=>Zls aE (Vq bB b9 t);have N:∀x d,F x=some d→has D (.int .i64 x)=true:=fun x d f=>by
  rw[a3,(hG.some f).1];rfl
 have bI:∀x L,H x=some L→has D' (.int .i64 x)=true:=fun x L f=>by
  have:=aE x;rw[f]at this;obtain⟨v,hv,_⟩:=this;rw[bB,hv];rfl
 have eH:=Hd N;have cU:=Hd bI;have dZ:=Hd (Zfi (lv:=lv) (ow:=ow) (F:=F) (H:=H) (KF:=KF) (KH:=KH) (only:=only));have cK:=Hd (Zkg (lv:=lv) (ow:=ow) (F:=F) (H:=H) (KF:=KF) (KH:=KH) (only:=only));have a1:=Hd (Zlq (lv:=lv) (ow:=ow) (F:=F) (H:=H) (KF:=KF) (KH:=KH) (only:=only));have dN:=Hd fun x d=>Zfj (lv:=lv) (ow:=ow) (F:=F) (H:=H) (KF:=KF) (KH:=KH) (only:=only) (x:=x) (d:=d) X;have d8:=Hd fun x d=>Zmy (lv:=lv) (ow:=ow) (F:=F) (H:=H) (KF:=KF) (KH:=KH) (only:=only) (x:=x) (L:=d) S;have a9:=Hd fun h1 h2 h3 h4=>Zlr (lv:=lv) (ow:=ow) (F:=F) (H:=H) (KF:=KF) (KH:=KH) (only:=only) h1 h2 h3 X h4 S;have cC:=Hd f;have a2:=Hd hG;have d0:Df G KF:=⟨cS,fun x=>by rw[X,(hG.val x).2]⟩;have dU:Df G' KH:=⟨d7,fun x=>by
  rw[S];have:=aE x;cases f:H x with
  |none=>rw[f]at this;have h2:G' x=none:=this;rw[h2];exact Iff.rfl
  |some d=>rw[f]at this;obtain⟨c,hc,hn⟩:=this;rw[hc];exact Iff.rfl⟩
 have cT:=Hd d0;have d6:=Hd dU;have eR:=Hd dF;have eD:=Hd d5;obtain⟨OD,a8⟩:=eX ((F (2*ow)).getD Aq);have eG:(G (2*ow)).getD (.agg Zb5)=.agg (Fv G (2*ow))∧NodeC w OD (Fv G (2*ow)):=by
  refine⟨(hG.val _).1,?_⟩;rw[a8];cases f:F (2*ow)with
  |none=>rw[(hG.none f).2];exact Kn w
  |some d=>exact(hG.some f).2
 have aI:OD.kind<256:=by
  rw[a8];cases hF2:F (2*ow)with
  |none=>decide
  |some d=>exact(f _ _ hF2).2.1.kind
 rw[←a8]at a1 a9;obtain⟨e7,bM⟩:=eX (Ch lv ow F H KF KH only);rw[←bM]at dZ cK a1 dN d8 a9⊢;obtain⟨A,bD⟩:=eG;obtain⟨x1,x2,x3,x4,x5,x6,x7,x8,b3,e3,dB,-⟩:=bD.frame;obtain⟨kd,dS⟩:=eX OD.kind;obtain⟨l8,dY⟩:=eX OD.par.late.length;rw[dB]at A;rw[←dS]at aI a1 a9 A;rw[←dY]at A;obtain⟨w1,O⟩:=eX (w.alloc (.cells #[.int .i64 lv,.int .i64 ow,.map (some ob),.map (some sb)] 101));have aL:=Hd O;have cV:Below w.heap.size w w1:=(by rw[O];exact(Below.refl w.heap.size w).alloc lR (.cells #[.int .i64 lv,.int .i64 ow,.map (some ob),.map (some sb)] 101));have J:=Hd cV;have u:=Hd (show w1.heap.size=w.heap.size+1 by rw[O];simp);have K:=Hd (show w1.ownsMap prog 3 rdV ob nb D by rw[O];exact bT.alloc _);have Q:=Hd (show w1.ownsMap prog 3 rdV sb mb D' by rw[O];exact b4.alloc _);have aB:=Hd (show Blk w1 w.heap.size 101 #[.int .i64 lv,.int .i64 ow,.map (some ob),.map (some sb)] by rw[O];exact Blk.new w 101 #[.int .i64 lv,.int .i64 ow,.map (some ob),.map (some sb)]);have c0:=aB.out.cell 0;have c1:=aB.out.cell 1;have c2:=aB.out.cell 2;simp only[bZ,cA,cB]at c0 c1 c2;unfold inI at P how;have fA:=Hd P;have e6:=Hd how;have cE:=fun(hi:inI (2*ow))=>MapF.run_get (T:=98) (bJ.out _ K.out) underlying98 (Hb _) hi;rw[A]at cE;have dJ:=Hd cE;have aF:=Hd (Kg lv w1 (by omega) (by omega));obtain⟨ft,cL⟩:=eX (fits lv.toNat);rw[←cL]at aF;have Y:=Hd cL;clear bM bT a3 bX hG b4 bB b9 aE N bI f cS X d7 S dF d5 P how a8 A bD dB dS dY cE cL d0 dU cV O;cases ft with
 |false=>
  have HE:=Hd (dZ.out Y.out.symm);go_enter func123,ntmps123;go_wp2_with fail;rw[←aL.out];refine aF.out.mono ?_;rintro e w2 ⟨rfl,rfl⟩;go_wp2_with fail;go_ret;exact⟨Et HE.out,J.out⟩
 |true=>
  by_cases ho1:0≤ow
  ·have cR:decide (ow<0)=false:=decide_eq_false (by omega)
   by_cases ho2:ow<lv
   ·have dT:decide (ow≥lv)=false:=decide_eq_false (by omega);have bA:=Hd (show 0≤ow∧ow<lv from⟨ho1,ho2⟩);have e1:lv≤65536:=by
     obtain⟨d,hd,e⟩:=(fits_iff _).1 Y.out.symm;have:2^d≤2^16:=Nat.pow_le_pow_right (by omega) hd;have fE:(2:Nat)^16=65536:=rfl;omega
    have cQ:=Hd (show inI (2*ow) by unfold inI;omega);have RG:=dJ.out cQ.out;have FK:=Zb6 (.int .u8 (kd:Nat)) x1 x2 x3 x4 x5 x6 x7 x8 (q9 b3 l8 e3)
    by_cases hk1:kd=1
    ·have c7:((kd:Int) !=1)=false:=(by simp;omega);have eS:=Hd hk1;clear hk1;go_enter func123,ntmps123;go_wp2_with fail;rw[←aL.out];refine aF.out.mono ?_;rintro e w2 ⟨rfl,rfl⟩;go_wp2_with (first
      |(at_range;refine wpList_range_own _ rfl _ 98 rfl 3 52 Zj7 underlying98 rdV ob nb D rfl K.out ?_;intro w0 g aY N)
      |go_in)
     try go_frame
     have e9:=Hd N;obtain⟨r,hr⟩:=eX w1.heap.size;rw[←hr]at g⊢;have HR:=Hd hr;have cN:=Hd g;have eF:=Hd (show Below r w1 w0 from by rw[hr];exact(Below.refl _ w1).grown aY lR (by intro k e;cases e));clear g aY N hr c0 c1 c2 RG FK
     go_loopw [5] (fun _ wr=>∃(left:Lit→Bool) (aW:Nat),wr.ranges prog 3 rdV ob r nb D left aW∧(∀x d,F x=some d→left (.int .i64 x)=false→Cc x d=true)∧Below r w1 wr) (fun _ wr=>wr.rangeLeft ob r)
     case atStart=>exact⟨_,_,cN.out,(fun x d f hl=>by rw[eH.out x d f]at hl;cases hl),eF.out⟩
     case round=>
      obtain⟨left,aW,aO,aH,hb⟩:=hrel;have dD:=Hd aH;have HB:=Hd hb;have aA:=Hd aO;clear aH hb aO;go_wp2_with (first
       |(at_next;refine wpList_next_ranges _ rfl _ rfl 3 Zj7 rdV (Value.int .i64) (fun v:Value=>v) (fun eQ kl h=>Zfk h) (fun v y h=>⟨v,rfl⟩) ob r nb D left aW rfl aA.out ?_ ?_)
       |go_in)
      ·intro bU aT;have bG:=Hd (show∀x d,F x=some d→Cc x d=true from fun x d f=>dD.out x d f (aT _));clear bU aT;have dI:=Hd (aB.out.below HB.out (by rw[HR.out];exact aB.out.lt));have c3:=dI.out.cell 3;simp only[bZ,cA,cB]at c3;have b8:=Hd (Ma Q.out HB.out (by have:=HR.out;have:=u.out;omega));obtain⟨wo,rfl⟩:∃wo:World,wo=wr:=⟨_,rfl⟩;go_wp2_with (first
        |(at_range;refine wpList_range_own _ rfl _ 99 rfl 3 28 Zj7 underlying99 rdV sb mb D' rfl b8.out ?_;intro w0 g aY N)
        |go_in)
       try go_frame
       obtain⟨r2,a0⟩:=eX wo.heap.size;rw[←a0]at g⊢;have c4:=Hd a0;have d2:=Hd g;have eU:=Hd (show Below r2 wo w0 from by rw[a0];exact(Below.refl _ wo).grown aY lR (by intro k e;cases e));clear g aY N a0 c3
       go_loopw [8] (fun _ wr=>∃(left:Lit→Bool) (aW:Nat),wr.ranges prog 3 rdV sb r2 mb D' left aW∧(∀x L,H x=some L→left (.int .i64 x)=false→L.length=32)∧Below r2 wo wr) (fun _ wr=>wr.rangeLeft sb r2)
       case atStart=>exact⟨_,_,d2.out,(fun x d f hl=>by rw[cU.out x d f]at hl;cases hl),eU.out⟩
       case round=>
        obtain⟨aN,dM,aO,aH,hb⟩:=hrel;have bH:=Hd aH;have d3:=Hd hb;have aG:=Hd aO;clear aH hb aO;go_wp2_with (first
         |(at_next;refine wpList_next_ranges _ rfl _ rfl 3 Zj7 rdV (Value.int .i64) (fun v:Value=>v) (fun eQ kl h=>Zfk h) (fun v y h=>⟨v,rfl⟩) sb r2 mb D' aN dM rfl aG.out ?_ ?_)
         |go_in)
        ·intro bU aT;have bR:=Hd (show∀x L,H x=some L→L.length=32 from fun x d f=>bH.out x d f (aT _));clear bU aT;obtain⟨d,hd,P⟩:∃d,d≤16∧lv=((2^d:Nat):Int):=by
          obtain⟨d,hd,e⟩:=(fits_iff _).1 Y.out.symm;exact⟨d,hd,by have:=bA.out;omega⟩
         obtain⟨i,rfl⟩:∃i:Nat,ow=(i:Int):=⟨ow.toNat,by have:=bA.out.1;omega⟩;have eT:i≤65536:=(by have:=bA.out.2;omega);obtain⟨hM,e2⟩:=Dp hd;have hp:=fB d;have dA:w.heap.size<r:=(by have:=HR.out;have:=u.out;omega);have eN:r≤r2:=(by have:=aA.out.lt;have:=c4.out;omega);have z:Below r w1 wr:=HB.out.trans (d3.out.mono eN);have bY:=Hd (J.out.trans (z.mono (dW dA)));have o:=Hd (aB.out.below z dA);have cO:=Hd (bJ.out _ (Ma K.out z (by omega)));have dO:=Hd (cG.out _ (Ma Q.out z (by omega)));have AN:AtN wr (fun n:Nat=>F n) (fun n:Nat=>Fv G n):=⟨fun x=>a2.out.ten x,fun x d f=>((a2.out.some f).2).below bY.out lR,fun x=>a2.out.one x,fun x d f=>(cC.out _ _ f).2.1.kind,fun x d f=>⟨Hn (Eh (In (bG.out _ _ f))),by have:=of_decide_eq_true (cC.out _ _ f).2.2;omega⟩⟩;have dV:∀x,x<2*2^d-1→AtC 181 w.heap.size wr wr.heap.size (fun n:Nat=>F n) (fun n:Nat=>Fv G n) x:=fun x hx W hW=>Zlp w.heap.size ob nb _ _ _ G F (x:Int) w W (o.out.below hW o.out.lt) (cO.out.below hW lR) a2.out (by unfold inI;omega);have a5:=Ut 181 w.heap.size (fun _ _=>rfl) (fun n:Nat=>F n) (fun n:Nat=>Fv G n) wr AN d i only eT hd dV;have aK:=a9.out Y.out.symm bA.out eS.out bG.out bR.out;rw[←P]at a5;rw[P]at aK;simp only[dG,gY]at aK;have SP:=Cs (F:=fun n:Nat=>F n) (i:=i) (only:=only) d (2^d-1) 0 [] (Ca d) (by omega);obtain⟨V,hV⟩:=eX (By (fun n:Nat=>F n) i only d (2^d-1) 0 []);rw[←hV]at a5 aK SP;have dH:V.1.length≤1000000:=by
          have:=Zaf V.1 0 131071 SP.opr fun y I=>(by obtain⟨m,e,h⟩:=SP.op y I;unfold inR at h;omega);omega
         have cP:V.2.1.length≤1000000:=by
          have:=Zaf V.2.1 0 131071 SP.shr fun y I=>(by obtain⟨m,e,h⟩:=SP.sh y I;unfold inR at h;omega);omega
         have c9:=Hd a5;have l:=Hd aK;have eI:=Hd dH;have eW:=Hd cP;have c0:=o.out.cell 0;have c1:=o.out.cell 1;simp only[bZ,cA,cB]at c0 c1;clear P hM e2 hp z AN dV a5 aK SP hV dH cP hd;go_wp2_with fail;refine c9.out.mono ?_;rintro e w6 ⟨vo,vs,rfl,bQ,b5,aX⟩;have eB:=Hd bQ.rd;have eP:=Hd b5.rd;have aJ:=Hd (bY.out.trans (aX.mono bY.out.size));have eJ:=Hd (cO.out.below aX lR);have cW:=Hd (dO.out.below aX lR);have aM:=Hd (o.out.below aX o.out.lt);have dE:=Hd aM.out.lt;have k2:=aM.out.cell 2;simp only[bZ,cA,cB]at k2;obtain⟨p1,p2,p3,rfl⟩:=Dg bQ;obtain⟨q1,q2,q3,rfl⟩:=Dg b5;obtain⟨ok,aI⟩:=eX V.2.2;rw[←aI];rw[←aI]at l;clear bQ b5 aX c0 c1 aI;cases ok with
         |false=>
          go_wp2_with fail;go_ret;exact⟨Et (by rw[l.out];rfl),aJ.out⟩
         |true=>
          have HK:=Hd (Ux (some ob) w6);have eK:=Hd (On ob nb w6.heap.size G KF (w6.alloc (.cells #[.map (some ob)] 98)) (eJ.out.alloc _) cT.out eC (by rw[(Blk.new w6 _ _).cell];rfl) (by simp));have d4:=Hd ((Below.refl w6.heap.size w6).alloc lR (.cells #[.map (some ob)] 98));go_wp2_with fail;refine HK.out.mono ?_;rintro e w7 ⟨rfl,rfl⟩;go_wp2_with fail;refine eK.out.mono ?_;rintro e w8 ⟨v8,rfl,cD,B⟩;have j:=Hd (d4.out.trans (B.mono d4.out.size));have eZ:=Hd cD.rd;have c6:=Hd (eB.out.below j.out lR);have aQ:=Hd (Zm _ _ V.1 KF w8 c6.out eZ.out eI.out eR.out);obtain⟨t1,t2,t3,rfl⟩:=Dg cD;obtain⟨b1,bS⟩:=eX (decide (V.1=KF));rw[←bS]at aQ;rw[←bS]at l;clear cD B bS;cases b1 with
          |false=>
           go_wp2_with fail;refine aQ.out.mono ?_;rintro e w9 ⟨rfl,n9,rfl⟩;go_wp2_with fail;go_ret;exact⟨Et (by rw[l.out];rfl),Ab (aJ.out.trans (j.out.mono aJ.out.size)) _⟩
          |true=>
           have bE:=Hd (fun n9=>(aM.out.below j.out dE.out).drewN n9);have bF:=Hd (fun n9=>(eP.out.below j.out lR).drewN n9);have eA:=Hd (fun n9=>(cW.out.below j.out lR).drewN n9);go_wp2_with fail;refine aQ.out.mono ?_;rintro e w9 ⟨rfl,n9,rfl⟩;have k3:=(bE.out n9).cell 3;simp only[bZ,cA,cB]at k3;have cI:=Hd (show Below w6.heap.size w6 (w8.drewN n9)from Ab j.out _);have bC:=Hd (bF.out n9);have dP:=Hd (eA.out n9);obtain⟨w9,dQ⟩:=eX (w8.drewN n9);rw[←dQ]at cI bC dP k3⊢;clear dQ bE bF eA;have eO:=Hd (Uy (some sb) w9);have c8:=Hd (Oo sb mb w9.heap.size G' KH (w9.alloc (.cells #[.map (some sb)] 99)) (dP.out.alloc _) d6.out eM (by rw[(Blk.new w9 _ _).cell];rfl) (by simp));have cZ:=Hd ((Below.refl w9.heap.size w9).alloc lR (.cells #[.map (some sb)] 99));go_wp2_with fail;refine eO.out.mono ?_;rintro e e8 ⟨rfl,rfl⟩;go_wp2_with fail;refine c8.out.mono ?_;rintro e eV ⟨e4,rfl,aS,bK⟩;have bO:=Hd (cZ.out.trans (bK.mono cZ.out.size));have bN:=Hd (Zm _ _ V.2.1 KH eV (bC.out.below bO.out lR) aS.rd eW.out eD.out);have eL:=Hd (aJ.out.trans ((cI.out.trans (bO.out.mono cI.out.size)).mono aJ.out.size));obtain⟨s1,s2,s3,rfl⟩:=Dg aS;obtain⟨b2,b7⟩:=eX (decide (V.2.1=KH));rw[←b7]at bN;rw[←b7]at l;clear aS bK b7;go_wp2_with fail;refine bN.out.mono ?_;rintro e fF ⟨rfl,fC,rfl⟩;go_wp2_with fail;go_ret;exact⟨Et (by rw[l.out];rfl),Ab eL.out _⟩
        ·intro x c kl y1 y2 w5 aV C bW hv t E aU aP a7 cF;obtain rfl:=Zfl C;have I:y1=.held c:=(by unfold rdV at hv;cases hv;rfl);subst I;obtain⟨L,cH,c5⟩:=bV.out x c t;obtain⟨ua,uc,rfl⟩:∃a k,c=.slice a L.length k:=(by obtain⟨a,k,e,_⟩:=c5;exact⟨a,k,by rw[e,bvs_len]⟩);have aR:=Hd (d3.out.trans ((Below.refl r2 _).grown aP (by have:=aG.out.lt;omega) (by intro k e;cases e;exact lR)));have U:=Hd E;have bP:=Hd aU;have s:=Hd (fun(aD:L.length=32)=>(show∀y M,H y=some M→(aN (.int .i64 y)&& !(Lit.int .i64 y).sameKey (.int .i64 x))=false→M.length=32 from fun y M I hl=>by
          rcases Zkh hl with h|h
          ·exact bH.out y M I h
          ·rw[h,cH]at I;cases I;exact aD))
         have Z:=Hd (d8.out x L cH);obtain⟨ul,dL⟩:=eX L.length;rw[←dL]at s Z cF⊢;clear dL C bW hv t E aU aP a7 cH c5
         by_cases aD:ul=32
         ·have dX:((ul:Int) !=32)=false:=(by simp;omega);have b6:=Hd (s.out aD);clear aD;go_wp2_with fail
          go_roundw
          case rel=>exact⟨_,aV,U.out,b6.out,aR.out⟩
          case measure=>rw[U.out.left_eq,aG.out.left_eq];exact bP.out
         ·have dX:((ul:Int) !=32)=true:=(by simp;omega);have HE:=Hd (Z.out aD);have e0:=Hd (J.out.trans ((HB.out.trans (aR.out.mono (show r≤r2 by have:=aA.out.lt;have:=c4.out;omega))).mono (show w.heap.size≤r by have:=HR.out;have:=u.out;omega)));clear aD;go_wp2_with fail;go_ret;exact⟨Et HE.out,e0.out⟩
      ·intro x c kl y1 y2 w5 aV C bW hv t E aU aP a7 cF;obtain rfl:=Zfl C;have I:y1=.held c:=(by unfold rdV at hv;cases hv;rfl);subst I;obtain⟨d,cc,a4,rfl,a6⟩:=dR.out x c t;have cX:=Hd a6.oneL;obtain⟨eY,dK,d9⟩:=cC.out x d a4;have aR:=Hd (HB.out.trans ((Below.refl r _).grown aP (by have:=aA.out.lt;omega) (by intro k e;cases e;exact lR)));have U:=Hd E;have bP:=Hd aU;have aZ:=Hd fun(W:World) (hw:Below w.heap.size w W)=>Xq x d cc W (a6.below hw lR) dK d9 eY;have s:=Hd (fun(hp:Cc x d=true)=>(show∀y e,F y=some e→(left (.int .i64 y)&& !(Lit.int .i64 y).sameKey (.int .i64 x))=false→Cc y e=true from fun y e I hl=>by
        rcases Zkh hl with h|h
        ·exact dD.out y e I h
        ·rw[h]at I⊢;rw[a4]at I;cases I;exact hp))
       have Z:=Hd (fun hp=>dN.out x d a4 hp);obtain⟨z0,z1,z2,z3,z4,z5,z6,z7,z8,z9,rfl⟩:=a6.ten;obtain⟨pd,b0⟩:=eX (Cc x d);rw[←b0]at aZ;have dC:=Hd b0;have p:=Hd (J.out.trans (aR.out.mono (show w.heap.size≤r by have:=HR.out;have:=u.out;omega)));have cM:=Hd (show r<w5.heap.size from by rw[a7];exact aA.out.lt);obtain⟨q,hq⟩:=eX w5.heap.size;have HQ:=Hd hq;have eE:=Hd (show Blk (w5.alloc (.cells #[.int .u8 0,q9 rF 0 0,q9 rF 0 0,q9 rF 0 0,.int .u8 0,q9 rF 0 0,q9 rF 0 0,q9 rF 0 0,q9 rF 0 0,q9 rF 0 0] 52)) q 52 #[.int .u8 0,q9 rF 0 0,q9 rF 0 0,q9 rF 0 0,.int .u8 0,q9 rF 0 0,q9 rF 0 0,q9 rF 0 0,q9 rF 0 0,q9 rF 0 0] by rw[hq];exact Blk.new _ _ _);clear C bW hv t E aU aP a7 a4 a6 b0 hq d9 dK;go_wp2_with (refine Aa rfl 52 (.tmp 6) (.tmp 45) rfl w5.heap.size #[z0,z1,z2,z3,z4,z5,z6,z7,z8,z9] rfl rfl 52 #[.int .u8 0,q9 rF 0 0,q9 rF 0 0,q9 rF 0 0,.int .u8 0,q9 rF 0 0,q9 rF 0 0,q9 rF 0 0,q9 rF 0 0,q9 rF 0 0] (HQ.out▸eE.out) (by kernel_rfl) rfl cX.out ?_);rintro w7 b cY d1 cJ;rw[←HQ.out]at b⊢;have aC:=Hd (((Below.refl w5.heap.size w5).alloc lR (.cells #[.int .u8 0,q9 rF 0 0,q9 rF 0 0,q9 rF 0 0,.int .u8 0,q9 rF 0 0,q9 rF 0 0,q9 rF 0 0,q9 rF 0 0,q9 rF 0 0] 52)).trans (cY w5.heap.size lR));have k0:=b.cell 0;have k1:=b.cell 1;have k2:=b.cell 2;have k3:=b.cell 3;have k4:=b.cell 4;have k5:=b.cell 5;have k6:=b.cell 6;have k7:=b.cell 7;have k8:=b.cell 8;have k9:=b.cell 9;simp only[bZ,cA,cB]at k0 k1 k2 k3 k4 k5 k6 k7 k8 k9;clear b cY d1 cJ cF;cases pd with
       |true=>
        have b6:=Hd (s.out dC.out.symm);go_wp2_with fail;refine(aZ.out _ (p.out.trans (aC.out.mono p.out.size))).mono ?_;rintro e w8 ⟨rfl,B⟩;have R:=Hd (aC.out.trans (B.mono aC.out.size));clear B k0 k1 k2 k3 k4 k5 k6 k7 k8 k9;have bL:=Hd (Vp U.out R.out (by have:=cM.out;have:=HR.out;have:=u.out;omega) cM.out);have j:=Hd (aR.out.trans (R.out.mono (dW cM.out)));go_wp2_with fail
        go_roundw
        case rel=>exact⟨_,aV,bL.out,b6.out,j.out⟩
        case measure=>rw[bL.out.left_eq,aA.out.left_eq];exact bP.out
       |false=>
        have HE:=Hd (Z.out dC.out.symm);go_wp2_with fail;refine(aZ.out _ (p.out.trans (aC.out.mono p.out.size))).mono ?_;rintro e w8 ⟨rfl,B⟩;have R:=Hd (aC.out.trans (B.mono aC.out.size));have j:=Hd (p.out.trans (R.out.mono p.out.size));clear B k0 k1 k2 k3 k4 k5 k6 k7 k8 k9;go_wp2_with fail;go_ret;exact⟨Et HE.out,j.out⟩
    ·have c7:((kd:Int) !=1)=true:=(by simp;omega);have HE:=Hd (a1.out hk1);clear hk1;go_enter func123,ntmps123;go_wp2_with fail;rw[←aL.out];refine aF.out.mono ?_;rintro e w2 ⟨rfl,rfl⟩;go_wp2_with fail;go_ret;exact⟨Et HE.out,J.out⟩
   ·have dT:decide (ow≥lv)=true:=decide_eq_true (by omega);have HE:=Hd (cK.out fun h=>ho2 h.2);clear ho1 ho2;go_enter func123,ntmps123;go_wp2_with fail;rw[←aL.out];refine aF.out.mono ?_;rintro e w2 ⟨rfl,rfl⟩;go_wp2_with fail;go_ret;exact⟨Et HE.out,J.out⟩
  ·have cR:decide (ow<0)=true:=decide_eq_true (by omega);have HE:=Hd (cK.out fun h=>ho1 h.1);clear ho1;go_enter func123,ntmps123;go_wp2_with fail;rw[←aL.out];refine aF.out.mono ?_;rintro e w2 ⟨rfl,rfl⟩;go_wp2_with fail;go_ret;exact⟨Et HE.out,J.out⟩
end
def okS (s:SparseD):Bool:=Ct s&&Ch s.leaves s.own (Ag s.op) (Ax s.sh) (s.op.map (·.1)) (s.sh.map (·.1)) false
def Zag (s:SparseD)(w:World)(e:Ending)(w':World):Prop:=Below w.heap.size w w'∧
 if Ct s=true then∃ob sb,e=.returned (.tuple #[.agg #[.int .i64 s.leaves,.int .i64 s.own,.map (some ob),.map (some sb)],.bool (okS s)])∧w.heap.size≤ob∧w.heap.size≤sb∧ob≠sb∧∃G G',MapF w' ob s.op.length G∧NodesG w G (Ag s.op)∧MapF w' sb s.sh.length G'∧RunsH w G' (Ax s.sh)
 else e=.returned (.tuple #[.agg #[.int .i64 0,.int .i64 0,.map none,.map none],.bool (okS s)])
theorem Nm {l:List (Int×NodeD)} {x:Int}:x∈l.map (·.1)↔(Ag l x).isSome=true:=by
 induction l with
 |nil=>simp[Ag]
 |cons p l ih=>
  rw[gV,aE,Ag]
  by_cases e:p.1=x
  ·rw[if_pos e];simp[e]
  ·rw[if_neg e,←ih];constructor
   ·rintro(h|h)
    ·exact absurd h.symm e
    ·exact h
   ·exact .inr
theorem Jg {l:List (Int×List Nat)} {x:Int}:x∈l.map (·.1)↔(Ax l x).isSome=true:=by
 induction l with
 |nil=>simp[Ax]
 |cons p l ih=>
  rw[gV,aE,Ax]
  by_cases e:p.1=x
  ·rw[if_pos e];simp[e]
  ·rw[if_neg e,←ih];constructor
   ·rintro(h|h)
    ·exact absurd h.symm e
    ·exact h
   ·exact .inr
theorem Lb {α:Type} {l:List α} {f: α→Int} {g:Nat→Int}(hg:∀i (hi:i<l.length),g i=f l[i])(h:Hx g l.length=true):(l.map f).Pairwise (· < ·):=by
 have hr:=Sw (Lz h);rw[List.pairwise_iff_getElem];intro i j hi hj hij;simp only[gE]at hi hj;rw[gW,gW,←hg i hi,←hg j hj];exact(hr j hj).2 i hij
theorem Ml {s:SparseD}(hok:SparseOk s)(hs:Dh s=true):Zki (Ag s.op):=by
 intro x d hd;have hm:=Br hd;have:=hok.op _ hm;unfold Dh at hs;simp only[cJ,List.all_eq_true]at hs;exact⟨this.1,this.2,hs.1.2 _ hm⟩
theorem Qx {s:SparseD}(hs:Dh s=true):s.op.length≤5000∧s.sh.length≤5000:=by
 unfold Dh at hs;simp only[cJ,decide_eq_true_eq]at hs;exact⟨hs.1.1.1,hs.1.1.2⟩
theorem MapF.only {w w':World} {b n g:Nat} {F:Int→Option Value}(h:MapF w b n F)(ho:OnlyG g w w')(hne:b≠g):MapF w' b n F:=by
 have hlt:=h.lt;obtain⟨D,⟨es,clock,h0,h1⟩,h2⟩:=h;exact⟨D,⟨es,clock,(ho.2.2 b hlt hne).trans h0,h1⟩,h2⟩
theorem Xs (v:Value)(s:SparseD)(w:World)(h:SparseR w v s)(u:SparseOk s)(B:Dh s=true):
  Calls prog 88 #[v] w (Zag s w):=by
 obtain⟨a2,aW⟩:=Qx B;have aR:=Hd fun(W:World) (hw:Below w.heap.size w W)=>Xp v s w W h hw u (by omega) (by omega);have S:=Hd fun(ob sb:Nat) (W:World) (hb:Ct s=true) (h1:Vk W ob s.op.length (Ag s.op)) (h2:Vl W sb s.sh.length (Ax s.sh))=>
  Qw s.leaves s.own ob sb s.op.length s.sh.length (Ag s.op) (Ax s.sh) (s.op.map (·.1)) (s.sh.map (·.1)) false W h1 h2 (by omega) (by omega) (Ml u B) (by
   unfold Ct at hb;rw[cJ]at hb;exact Lb (g:=spK s.op) (fun i hi=>by unfold spK;rw[Mi hi]) hb.1) (fun x=>Nm) (by
   unfold Ct at hb;rw[cJ]at hb;exact Lb (g:=stK s.sh) (fun i hi=>by unfold stK;rw[Mj hi]) hb.2) (fun x=>Jg) (by simp;omega) (by simp;omega) u.leaves u.own
 obtain⟨o,g,rfl,-,-⟩:=h;obtain⟨PB,aA⟩:=eX (Ct s);obtain⟨RB,L⟩:=eX (Ch s.leaves s.own (Ag s.op) (Ax s.sh) (s.op.map (·.1)) (s.sh.map (·.1)) false);have r:=Hd aA;have a4:=Hd L;have aH:=Hd (show okS s=(PB&&RB) by rw[aA,L];rfl);have P:Hid (∀(W:World),Below w.heap.size w W→Calls prog 148 #[.agg #[.int .i64 s.leaves,.int .i64 s.own,o,g]] W (Ky s w W)):=aR;obtain⟨lv,N⟩:=eX s.leaves;obtain⟨ow,how⟩:=eX s.own;have aQ:=Hd N;have aS:=Hd how;rw[←N,←how]at P⊢;rw[←L,←N,←how]at S;clear aR aA L N how u B a2 aW;obtain⟨h,hh⟩:=eX w.heap.size;have HH:=Hd hh;obtain⟨w2,A⟩:=eX ((w.alloc (.cells #[.int .i64 lv,.int .i64 ow,o,g] 25)).alloc (.cells #[.int .i64 0,.int .i64 0,.map none,.map none] 101));have aZ:=Hd A;have T:=Hd (show Below w.heap.size w w2 by rw[A];exact(bR.alloc lR _).alloc (by simp) _);have R:=Hd (show Blk w2 (h+1) 101 #[.int .i64 0,.int .i64 0,.map none,.map none] by
  rw[A,hh];have h1:=Blk.new (w.alloc (.cells #[.int .i64 lv,.int .i64 ow,o,g] 25)) 101 #[.int .i64 0,.int .i64 0,.map none,.map none];simpa using h1)
 have Q:=Hd (show w2.heap.size=h+2 by rw[A,hh];simp);clear A;go_enter func88,ntmps88;go_wp2_with fail;rw[←aZ.out,←hh];refine(P.out w2 T.out).mono ?_;rintro e D ⟨I,t⟩;have J:=Hd (T.out.trans (I.mono T.out.size));have a5:=Hd I;have d:=Hd (R.out.below I R.out.lt);rw[←r.out,←aQ.out,←aS.out]at t;clear hh I;cases PB with
 |false=>
  rw[if_neg (by simp)]at t;obtain rfl:=t;obtain⟨q,V⟩:=eX D.heap.size;have c:=Hd (show Blk (D.alloc (.cells #[.int .i64 0,.int .i64 0,.map none,.map none] 101)) q 101 #[.int .i64 0,.int .i64 0,.map none,.map none] by rw[V];exact Blk.new _ _ _);have l:=Hd ((Below.refl D.heap.size D).alloc lR (.cells #[.int .i64 0,.int .i64 0,.map none,.map none] 101));have Z:=Hd V;go_wp2_with fail;rw[←Z.out];generalize hwr:D.alloc (.cells #[.int .i64 0,.int .i64 0,.map none,.map none] 101)=wr at c l⊢;have n:=Hd (d.out.below l.out d.out.lt);have p:=Hd (J.out.trans (l.out.mono J.out.size));have z:h+1<wr.heap.size:=n.out.lt;have aY:q≠h+1:=(by have:=d.out.lt;omega);have O:=Hd c.out;clear hwr V c;refine Bt [eF (.agg #[.int .i64 0,.int .i64 0,.map none,.map none]),eF (.bool false),eF (.bool false),eF undef,eF undef,eF (.bool false),fun v w'=>Blk w' (h+1) 101 #[.int .i64 0,.int .i64 0,.map none,.map none],eF (.bool false)]
   (cI 8 true) (fun X=>OnlyG (h+1) wr X) (fun X Y=>OnlyG (h+1) X Y) (some 6) (by kernel_rfl) ?_ ((OnlyG.of_below bR (dW z)).drewN 1) (fun X Y hx h=>OnlyG.of_below h (bM (dW z) hx.2.1)) (fun X Y hx B=>hx.trans B) (by kernel_rfl) (by kernel_rfl) ?_ ?_
  ·exact kE (kE (kE (kE (kE (kE (Cl (fun v x y k hi B=>k.below B k.lt) (kE Ah)))))))
  ·refine gOw (by kernel_rfl) ?_ (gP ?_ rfl (gP ?_ rfl (fO rfl rfl rfl rfl rfl rfl (fun _ _ E=>E.1) rfl (fO rfl rfl rfl rfl rfl rfl (fun _ _ E=>E.2.1) rfl (gP ?_ rfl (gOw (by kernel_rfl) ?_ (gP ?_ rfl .nil)))))));all_goals
    intro a wx m F U E;have m:OnlyG (h+1) wr wx:=m;refine⟨rfl,?_⟩;intro K M;try have aC:a.tmps[2]?.getD undef=rB (some ⟨h+1,0,rF⟩):=U 2 (by kernel_rfl)
    try have H:a.tmps[4]?.getD undef=rB (some ⟨q,0,rF⟩):=U 4 (by kernel_rfl)
    try have a0:a.tmps[5]?.getD undef=.bool false:=U 5 (by kernel_rfl)
    try have aB:=eqn E.1
    try have C:=n.out.below F n.out.lt
    try(refine Hd ?_;go_simp;exact M _ rfl)
   ·exact wp_load_row 101 (.tmp 4) rfl _ (evs H) _ _ (0,0) _ (O.out.only2 m (by omega)) underlying101 rfl (by kernel_rfl) (M _ _ rfl (Af rfl bR))
   ·refine wp_store_row 101 (.tmp 2) (.tmp 11) rfl (h+1) #[.int .i64 0,.int .i64 0,.map none,.map none] (evs aC) (evs aB) _ _ C (by kernel_rfl) rfl (by rw[←Array.all_toList];rfl) ?_;exact M undef _ (setRow_heap wx (h+1) _ _ _ _ C) (Bv rfl (OnlyG.setRow (h+1) _))
  ·rintro f w9 j b;have j:OnlyG (h+1) wr w9:=j;have S3:f 3=.bool false:=b.2.2.2.2.2.2.2.1;have S2:Blk w9 (h+1) 101 #[.int .i64 0,.int .i64 0,.map none,.map none]:=b.2.2.2.2.2.2.1;clear b;simp only[Am,Az,Ex,cX,cY,cZ,dA,Nat.reduceBEq,Nat.reduceAdd,dB,dC,cond_true,cond_false];rw[S3];clear S3;go_wp2_with fail;refine bodyPost_ret (v:=.tuple #[.agg #[.int .i64 0,.int .i64 0,.map none,.map none],.bool false]) (Ad results88 _ _ (h+1) _ _ _ rfl S2 underlying101 rfl (by kernel_rfl)) rfl ?_;refine⟨p.out.trans (j.1.mono (by rw[HH.out];exact gG _)),?_⟩;rw[←r.out,if_neg (by simp),aH.out];rfl
 |true=>
  rw[if_pos rfl]at t;obtain⟨ob,sb,rfl,aP,aK,aJ,G,G',aG,aI,aF,aN⟩:=t;have aU:=Hd aG;have a1:=Hd aF;have aM:=Hd aI;have aT:=Hd aN;have aV:=Hd aJ;have aO:=Hd (show h+2≤ob by rw[←Q.out];exact aP);have aE:=Hd (show h+2≤sb by rw[←Q.out];exact aK);clear aG aF aI aN aP aK aJ;obtain⟨q,V⟩:=eX D.heap.size;have c:=Hd (show Blk (D.alloc (.cells #[.int .i64 lv,.int .i64 ow,.map (some ob),.map (some sb)] 101)) q 101 #[.int .i64 lv,.int .i64 ow,.map (some ob),.map (some sb)] by rw[V];exact Blk.new _ _ _);have l:=Hd ((Below.refl D.heap.size D).alloc lR (.cells #[.int .i64 lv,.int .i64 ow,.map (some ob),.map (some sb)] 101));have Z:=Hd V;go_wp2_with fail;rw[←Z.out];generalize hwr:D.alloc (.cells #[.int .i64 lv,.int .i64 ow,.map (some ob),.map (some sb)] 101)=wr at c l⊢;have n:=Hd (d.out.below l.out d.out.lt);have p:=Hd (J.out.trans (l.out.mono J.out.size));have z:h+1<wr.heap.size:=n.out.lt;have aY:q≠h+1:=(by have:=d.out.lt;omega);have O:=Hd c.out;have aL:=Hd (aU.out.below l.out lR);have aD:=Hd (a1.out.below l.out lR);have aX:=Hd fun(W:World) (hw:Below wr.heap.size wr W)=>S.out ob sb W r.out.symm ⟨G,aL.out.below hw lR,aM.out.below (p.out.trans (hw.mono p.out.size)) lR⟩ ⟨G',aD.out.below hw lR,aT.out.below (p.out.trans (hw.mono p.out.size)) lR⟩;clear hwr V c;refine Bt [eF (.agg #[.int .i64 lv,.int .i64 ow,.map (some ob),.map (some sb)]),eF (.bool true),eF (.bool true),eF (.agg #[.int .i64 lv,.int .i64 ow,.map (some ob),.map (some sb)]),eF (.bool RB),eF (.bool RB),fun v w'=>Blk w' (h+1) 101 #[.int .i64 lv,.int .i64 ow,.map (some ob),.map (some sb)],eF (.bool RB)]
   (cI 8 true) (fun X=>OnlyG (h+1) wr X) (fun X Y=>OnlyG (h+1) X Y) (some 6) (by kernel_rfl) ?_ ((OnlyG.of_below bR (dW z)).drewN 1) (fun X Y hx h=>OnlyG.of_below h (bM (dW z) hx.2.1)) (fun X Y hx B=>hx.trans B) (by kernel_rfl) (by kernel_rfl) ?_ ?_
  ·exact kE (kE (kE (kE (kE (kE (Cl (fun v x y k hi B=>k.below B k.lt) (kE Ah)))))))
  ·refine gOw (by kernel_rfl) ?_ (gP ?_ rfl (gP ?_ rfl (gO ?_ (gOw (by kernel_rfl) ?_ (gP ?_ rfl (gOw (by kernel_rfl) ?_ (gP ?_ rfl .nil)))))));all_goals
    intro a wx m F U E;have m:OnlyG (h+1) wr wx:=m;refine⟨by first|rfl|exact Ba rfl rfl rfl E.1|exact Ba rfl rfl rfl E.2.1,?_⟩;intro K M;try have aC:a.tmps[2]?.getD undef=rB (some ⟨h+1,0,rF⟩):=U 2 (by kernel_rfl)
    try have H:a.tmps[4]?.getD undef=rB (some ⟨q,0,rF⟩):=U 4 (by kernel_rfl)
    try have a0:a.tmps[5]?.getD undef=.bool true:=U 5 (by kernel_rfl)
    try have aB:=eqn E.1
    try have a6:=eqn E.2.1
    try have C:=n.out.below F n.out.lt
    try(refine Hd ?_;go_simp;exact M _ rfl)
   ·exact wp_load_row 101 (.tmp 4) rfl _ (evs H) _ _ (0,0) _ (O.out.only2 m (by omega)) underlying101 rfl (by kernel_rfl) (M _ _ rfl (Af rfl bR))
   ·exact wp_load_row 101 (.tmp 4) rfl _ (evs H) _ _ (0,0) _ (O.out.only2 m (by omega)) underlying101 rfl (by kernel_rfl) (M _ _ rfl (Af rfl bR))
   ·go_simp;refine(aX.out wx F).mono ?_;rintro e w2 ⟨rfl,a3⟩;exact M _ _ rfl (Af rfl a3)
   ·refine wp_store_row 101 (.tmp 2) (.tmp 11) rfl (h+1) #[.int .i64 lv,.int .i64 ow,.map (some ob),.map (some sb)] (evs aC) (evs aB) _ _ C (by kernel_rfl) rfl (by rw[←Array.all_toList];rfl) ?_;exact M undef _ (setRow_heap wx (h+1) _ _ _ _ C) (Bv rfl (OnlyG.setRow (h+1) _))
  ·rintro f w9 j b;have j:OnlyG (h+1) wr w9:=j;have S3:f 3=.bool RB:=b.2.2.2.2.2.2.2.1;have S2:Blk w9 (h+1) 101 #[.int .i64 lv,.int .i64 ow,.map (some ob),.map (some sb)]:=b.2.2.2.2.2.2.1;clear b;simp only[Am,Az,Ex,cX,cY,cZ,dA,Nat.reduceBEq,Nat.reduceAdd,dB,dC,cond_true,cond_false];rw[S3];clear S3;go_wp2_with fail;refine bodyPost_ret (v:=.tuple #[.agg #[.int .i64 lv,.int .i64 ow,.map (some ob),.map (some sb)],.bool RB]) (Ad results88 _ _ (h+1) _ _ _ rfl S2 underlying101 rfl (by kernel_rfl)) rfl ?_;refine⟨p.out.trans (j.1.mono (by rw[HH.out];exact gG _)),?_⟩;rw[←r.out,if_pos rfl,aH.out,←aQ.out,←aS.out];exact⟨ob,sb,rfl,by rw[←HH.out];have:=aO.out;omega,by rw[←HH.out];have:=aE.out;omega,aV.out,G,G',aL.out.only j (by have:=aO.out;omega),aM.out,aD.out.only j (by have:=aE.out;omega),aT.out⟩
theorem Jh {l:List Int} {f:Nat→Int}(b:∀i (a:i<l.length),f i=l[i])(h:l.Pairwise (· < ·))(h0:∀x∈l,0≤x):Hx f l.length=true:=by
 refine Ly fun i a=> ?_;unfold Gj;rw[b i a]
 by_cases e:i=0
 ·rw[if_pos e];have:=h0 l[i] (aJ a);omega
 ·rw[if_neg e,b (i-1) (by omega)];exact List.pairwise_iff_getElem.1 h (i-1) i (by omega) a (by omega)
theorem Lc {l:List (Int×NodeD)}(h:(l.map (·.1)).Pairwise (· < ·)) {p:Int×NodeD}(d:p∈l):Ag l p.1=some p.2:=by
 obtain⟨i,a,rfl⟩:=dK d;have c:=Mi a;rw[←c];refine Sn a (fun j b e=> ?_) rfl;have:=List.pairwise_iff_getElem.1 h j i (by simp;omega) (by simpa using a) b;rw[gW,gW,←Mi (by omega),←Mi a]at this;omega
theorem Ji {l:List (Int×List Nat)}(h:(l.map (·.1)).Pairwise (· < ·)) {p:Int×List Nat}(d:p∈l):Ax l p.1=some p.2:=by
 obtain⟨i,a,rfl⟩:=dK d;have c:=Mj a;rw[←c];refine Sx a (fun j b e=> ?_) rfl;have:=List.pairwise_iff_getElem.1 h j i (by simp;omega) (by simpa using a) b;rw[gW,gW,←Mj (by omega),←Mj a]at this;omega
theorem Vr {x:Int}(h0:0≤x)(h:x%2=0):Ziy x=2:=by rw[Ziy,fD h0,if_neg (by omega)]
theorem Zah {x:Int}(h0:0≤x)(h:x%2=1):Ziy x=1:=by rw[Ziy,fD h0,if_pos h]
theorem Qy {n:Int} {p:Int×NodeD}(h:0≤p.1∧p.1≤2*n-2):Qr n p=true↔Cc p.1 p.2=true:=by
 constructor
 ·intro f;obtain⟨-,h2,h3,g,c⟩:=Ox f;unfold Cc;rw[h2,dI,cJ,cL,gS];refine⟨?_,fun u j=>by rw[c u j];simp⟩;rw[decide_eq_true_iff];rcases Int.emod_two_eq p.1 with e|e
  ·rw[Vr h.1 e];exact fun hk=>h3 ⟨e,hk⟩
  ·rw[Zah h.1 e];exact fun hk=>g ⟨e,hk⟩
 ·intro a;have c:=Qv a;have h2:=In a;unfold Cc at a;rw[h2,dI,cJ,decide_eq_true_iff]at a;refine Zix h h2 (fun b=>a.1 ?_) (fun b=>a.1 ?_) fun i d=>c _ ?_
  ·rw[Vr h.1 b.1];exact b.2
  ·rw[Zah h.1 b.1];exact b.2
  ·rw[List.getD_eq_getElem?_getD,List.getElem?_eq_getElem d];exact aJ d
theorem Zai {d:NodeD}(h:At d=true) {u:Int}(hu:u∈d.par.late):∃m:Nat,u=(m:Int)∧m<65536:=by
 have:=Hn (Eh h) u hu;exact⟨u.toNat,by omega,by omega⟩
theorem Ld (s:SparseD)(only:Bool):(Ct s&&Ch s.leaves s.own (Ag s.op) (Ax s.sh) (s.op.map (·.1)) (s.sh.map (·.1)) only)=Ay s only:=by
 rw[Bool.eq_iff_iff];cases hft:fits s.leaves.toNat with
 |false=>rw[Zfi hft,Vi hft];simp
 |true=>
  by_cases ho:0≤s.own∧s.own<s.leaves
  ·obtain⟨d,t,H⟩:∃d,d≤16∧s.leaves=((2^d:Nat):Int):=by
    obtain⟨d,t,e⟩:=(fits_iff _).1 hft;exact⟨d,t,by omega⟩
   obtain⟨i,k⟩:∃i:Nat,s.own=(i:Int):=⟨s.own.toNat,by omega⟩;obtain⟨W,e2⟩:=Dp t;have X:=fB d;have y:2*i+1<2^(d+1):=(by omega);have o:=Cs (F:=fun n:Nat=>Ag s.op n) (i:=i) (only:=only) d (2^d-1) 0 [] (Ca d) (by omega);have q:=fun(r:Cw fun n:Nat=>Ag s.op n)=>(show(By (fun n:Nat=>Ag s.op n) i only d (2^d-1) 0 []).2.2=Cg (Ag s.op) d i only d∧_ from⟨Zu (FI:=Ag s.op) t (fun _=>rfl) r y,Vf (FI:=Ag s.op) (only:=only) t (fun _=>rfl) r y⟩);rw[Ay,Ch,hft,decide_eq_true ho,H,k,dG,dG,gY];simp only[dI,cJ,Zt,Ze6,k];generalize By (fun n:Nat=>Ag s.op n) i only d (2^d-1) 0 []=V at o q⊢;constructor
   ·rintro⟨Q,⟨⟨hk,I⟩,S⟩,⟨g,b⟩,c⟩;have b:=of_decide_eq_true b;have c:=of_decide_eq_true c;have A:(s.op.map (·.1)).Pairwise (· < ·):=(by rw[←b];exact o.opr);have B:(s.sh.map (·.1)).Pairwise (· < ·):=(by rw[←c];exact o.shr);have M:∀p∈s.op,0≤p.1∧p.1≤2*((2^d:Nat):Int)-2:=fun p a=>by
     have v:p.1∈V.1:=(by rw[b];exact gX a);obtain⟨m,e,h⟩:=o.op _ v;unfold inR at h;omega
    have j:∀p∈s.op,Cc p.1 p.2=true:=fun p a=>by
     have:=List.all_eq_true.1 I p.1 (gX a)
     rwa [Lc A a]at this
    have r:Cw fun n:Nat=>Ag s.op n:=fun x D C u z=>by
     have a:=Br C;have h1:=j _ a;obtain⟨m,e,v⟩:=Zai (In h1) z;exact⟨m,e,v,by have:=Qv h1 u z;rwa [e]at this⟩
    obtain⟨G,E⟩:=q r;obtain⟨K,J⟩:=E g;refine⟨⟨?_,?_⟩,⟨⟨hk,by rw[←G];exact g⟩,?_⟩,?_⟩
    ·exact List.all_eq_true.2 fun p a=>(Qy (M p a)).2 (j p a)
    ·refine List.all_eq_true.2 fun p a=> ?_;have:=List.all_eq_true.1 S p.1 (gX a)
     rwa [Ji B a]at this
    ·exact decide_eq_true (b.symm.trans K.symm)
    ·exact decide_eq_true (c.symm.trans J.symm)
   ·rintro⟨⟨w,L⟩,⟨⟨hk,g⟩,b⟩,c⟩;have b:=of_decide_eq_true b;have c:=of_decide_eq_true c;have r:Cw fun n:Nat=>Ag s.op n:=fun x D C u z=>by
     have a:=Br C;obtain⟨-,h2,-,-,T⟩:=Ox (List.all_eq_true.1 w _ a);obtain⟨m,e,v⟩:=Zai h2 z;exact⟨m,e,v,by have:=T u z;rwa [e]at this⟩
    obtain⟨G,E⟩:=q r;rw[←G]at g;obtain⟨K,J⟩:=E g;rw[K]at b;rw[J]at c;have A:(s.op.map (·.1)).Pairwise (· < ·):=(by rw[b];exact o.opr);have B:(s.sh.map (·.1)).Pairwise (· < ·):=(by rw[c];exact o.shr);have U:∀x∈s.op.map (·.1),0≤x:=fun x hx=>(by rw[b]at hx;obtain⟨m,e,h⟩:=o.op _ hx;omega);have g2:∀x∈s.sh.map (·.1),0≤x:=fun x hx=>(by rw[c]at hx;obtain⟨m,e,h⟩:=o.sh _ hx;omega);have R:Ct s=true:=by
     have P:=Jh (l:=s.op.map (·.1)) (f:=spK s.op) (fun i k=>by simp only[gE]at k;rw[gW,spK,Mi k]) A U;have N:=Jh (l:=s.sh.map (·.1)) (f:=stK s.sh) (fun i k=>by simp only[gE]at k;rw[gW,stK,Mj k]) B g2;rw[gE]at P N;rw[Ct,P,N];rfl
    refine⟨R,⟨⟨hk,?_⟩,?_⟩,⟨g,by rw[decide_eq_true_iff,b]⟩,by rw[decide_eq_true_iff,c]⟩
    ·refine List.all_eq_true.2 fun x hx=> ?_;obtain⟨p,a,rfl⟩:=List.mem_map.1 hx;rw[Lc A a];have O:=List.all_eq_true.1 w _ a;exact(Qy (Ox O).1).1 O
    ·refine List.all_eq_true.2 fun x hx=> ?_;obtain⟨p,a,rfl⟩:=List.mem_map.1 hx;rw[Ji B a];exact List.all_eq_true.1 L _ a
  ·rw[Zkg ho,Xn ho];simp
theorem Zmz (s:SparseD):okS s=Ay s false:=Ld s false
end Go.Proofs.YtfofaiommeckbaaGreat
namespace Go.Proofs.YtfofaiommeckbaaGreat
open Go.RowKit WalkM WireM
theorem Xt {w:World} {B:Nat} {e:TypeId} {v:Value} {xs:List Value}(h:Own w B e v xs) {g:Nat}(hg:w.heap.size≤g):v.ownBlock≠some g:=fun he=>absurd (Own.blockLt h he).1 (by omega)
theorem Blk.rdV {w:World} {g:Nat} {t:TypeId} {cs:List Value}(h:Blk w g t cs.toArray)(hl:cs.length≤maxLen):Rd w (q9 (some ⟨g,0,rF⟩) cs.length cs.length) cs:=
 ⟨_,_,rfl,lR,hl,.inr ⟨g,0,rfl,fun j u hu=>by rw[h.cell,Nat.zero_add];simpa using hu⟩⟩
theorem StepO.trans {V:Value} {B:Nat} {a b c:World}(h:StepO V B a b)(k:StepO V B b c):StepO V B a c:=
 ⟨h.1.trans k.1,fun i hi hne=>(k.2 i (dS hi h.1.size) hne).trans (h.2 i hi hne)⟩
theorem StepO.keep {V:Value} {B g:Nat} {a b:World} {t:TypeId} {cs:Array Value}(h:StepO V B a b)(k:Blk a g t cs)(hne:V.ownBlock≠some g):Blk b g t cs:=(h.2 g k.lt hne).trans k
theorem StepO.drew (V:Value)(B:Nat)(w:World):StepO V B w w.drew:=⟨⟨rfl,rfl,rfl,lR,fun _ _=>rfl⟩,fun _ _ _=>rfl⟩
theorem Zaj {w:World} {G:Int→Option Value} {H:Int→Option (List Nat)}(h:RunsH w G H)(x:Nat):Rd w ((G (x:Int)).getD (q9 rF 0 0)) (bvs (Ev H x)):=by
 have:=h (x:Int);unfold Ev;cases e:H (x:Int)with
 |none=>rw[e]at this;have this:G (x:Int)=none:=this;rw[this];exact(Own.nil w 0 5).rd
 |some L=>rw[e]at this;obtain⟨v,h1,h2⟩:=this;rw[h1];exact h2
def Znj (F:Int→Option NodeD)(H:Int→Option (List Nat))(k:Nat):Prop:=
 ∀(x:Nat) (lv ow:Int) (ob sb nb mb:Nat) (G G':Int→Option Value) (w0:World) (B:Nat) (v:Value) (xs:List Nat) (w:World),IsLev x k→x+2^k≤131071→MapF w0 ob nb G→NodesG w0 G F→MapF w0 sb mb G'→RunsH w0 G' H→w0.heap.size≤B→Below B w0 w→B≤w.heap.size→
  Own w B 5 v (bvs xs)→xs.length+12002*2^k≤1000000000→
  Calls prog 135 #[.agg #[.int .i64 lv,.int .i64 ow,.map (some ob),.map (some sb)],v,.int .i64 (x:Nat)] w fun e w'=>∃v',e=.returned v'∧Grow w v B w' v' (bvs (xs++putS F H k x))
theorem Zak (F:Int→Option NodeD)(H:Int→Option (List Nat))(hP:PieceOk F H)(k:Nat)(IH:∀j,k=j+1→Znj F H j):Znj F H k:=by
 intro x lv ow ob sb nb mb G G' w0 B v xs w hl hx hm J aC aZ b5 hB a5 aO aQ;obtain⟨hv,S⟩:=J.val (x:Int);have aB:=J.one (x:Int);have I:=fun d (h:F (x:Int)=some d)=>(J.some h).2;obtain⟨c0,c1,c2,c3,c4,c5,c6,c7,c8,c9,hc⟩:=J.ten (x:Int);rw[hc]at hv aB I;have cO:=fB k;have cG:=hm.lt;have cT:=aC.lt;have aT:inI (x:Int):=(by unfold inI;omega);have RG:=fun(W:World) (hw:Below B w0 W)=>MapF.run_getOk (T:=98) (hm.belowB hw (by omega)) underlying98 (Hb W) aT;rw[hv,S]at RG;have a0:=fun(W:World) (hw:Below B w0 W)=>MapF.run_get (T:=99) (aC.belowB hw (by omega)) underlying99 (zeroValue28 W) aT;have RU:=Zaj aZ x;obtain⟨u0,b3⟩:=eX ((G' (x:Int)).getD (q9 rF 0 0));rw[←b3]at a0 RU;have a3:=Ha hP x;have PN:=fun(h:F (x:Int)=none)=>Fu (H:=H) (k:=k) h;obtain⟨L,hL⟩:=eX (Ev H x);rw[←hL]at RU a3 PN;obtain⟨p,hp⟩:=eX w.heap.size;have HP:=Hd hp;have HB:=Hd hB;have A:=Hd a5;have aK:=Hd aO;have aJ:=Hd b5;have bU:=Hd aB;have bQ:=Hd a0;have cJ:=Hd RU;have dG:=Hd a3;have cP:=Hd PN;have t:=Hd aQ;have cE:=Hd I;have b7:=RG _ ((hB.trans ((Below.refl w.heap.size w).alloc lR (.cells #[.int .i64 lv,.int .i64 ow,.map (some ob),.map (some sb)] 101)|>.mono a5)));have aV:=Hd (show Blk (w.alloc (.cells #[.int .i64 lv,.int .i64 ow,.map (some ob),.map (some sb)] 101)) w.heap.size 101 #[.int .i64 lv,.int .i64 ow,.map (some ob),.map (some sb)]from Blk.new _ _ _);have a7:=Hd ((Below.refl w.heap.size w).alloc lR (.cells #[.int .i64 lv,.int .i64 ow,.map (some ob),.map (some sb)] 101));have p2:=(aV.out).cell 2;simp only[bZ,cA,cB]at p2;obtain⟨is,a2⟩:=eX ((F (x:Int)).isSome);rw[←a2]at b7;have bG:=Hd a2;have HX:=Hd hx;have a4:=Hd hl;have HM:=Hd hm;have HG:=Hd J;have bP:=Hd aC;have b4:=Hd aZ;clear RG a0 RU hm J aC aZ hv S hc a2 hp hB a5 aO b5 aB a3 PN hL aQ I b3 aT hx hl cG cT cO;go_enter func135,ntmps135;go_wp2_with (refine Aa rfl 52 (.tmp 7) (.tmp 16) rfl (w.heap.size+1) #[c0,c1,c2,c3,c4,c5,c6,c7,c8,c9] rfl rfl 52 #[.int .u8 0,q9 rF 0 0,q9 rF 0 0,q9 rF 0 0,.int .u8 0,q9 rF 0 0,q9 rF 0 0,q9 rF 0 0,q9 rF 0 0,q9 rF 0 0] (by have h1:=Blk.new (w.alloc (.cells #[.int .i64 lv,.int .i64 ow,.map (some ob),.map (some sb)] 101)) 52 #[.int .u8 0,q9 rF 0 0,q9 rF 0 0,q9 rF 0 0,.int .u8 0,q9 rF 0 0,q9 rF 0 0,q9 rF 0 0,q9 rF 0 0,q9 rF 0 0];simpa using h1) (by kernel_rfl) rfl bU.out ?_);rintro D n bV aP aW;have aI:=Hd ((a7.out.alloc a7.out.size (.cells #[.int .u8 0,q9 rF 0 0,q9 rF 0 0,q9 rF 0 0,.int .u8 0,q9 rF 0 0,q9 rF 0 0,q9 rF 0 0,q9 rF 0 0,q9 rF 0 0] 52)).trans (bV w.heap.size (gG _)));have aM:=Hd (show Blk D w.heap.size 101 #[.int .i64 lv,.int .i64 ow,.map (some ob),.map (some sb)]from(aP w.heap.size (by omega)).trans (aV.out.alloc _));rw[←HP.out]at aM n⊢;have m:=Hd n;have dK:=Hd (show p+1<D.heap.size from n.lt);have a9:=Hd (show w.heap.size=p from HP.out.symm);have V:=Hd ((Grow.start aK.out A.out).next aI.out A.out);have aE:=Hd (HB.out.trans (aI.out.mono A.out));have i:=Hd (bM A.out aI.out.size);clear n bV aP aW b7 p2 a7 aV;cases is with
 |false=>
  have hF:F (x:Int)=none:=by have:=bG.out;cases e:F (x:Int)with
   |none=>rfl
   |some d=>rw[e]at this;cases this
  have HQ:=Hd (cP.out hF);clear hF;go_wp2_with fail;refine Hm [eF v,fun u w'=>∃g,u=q9 (some ⟨g,0,rF⟩) 1 1∧D.heap.size≤g∧Blk w' g 5 #[.int .u8 0],fun u w'=>Grow D v B w' u (bvs xs++[.int .u8 0]),eF (rB (some ⟨p,3,rF⟩)),eF (.map (some sb)),eF (.int .i64 (x:Nat)),eF u0,fun u w'=>Grow D v B w' u (bvs xs++[.int .u8 0]++bvs L),fun u w'=>Grow D v B w' u (bvs xs++[.int .u8 0]++bvs L)]
   (fun X=>StepO v B D X) (fun X Y=>StepO v B X Y) (some 2) 7 (by kernel_rfl) (by kernel_rfl) (by kernel_rfl) (by kernel_rfl)
   (kE (Cm (fun u x y h hi S=>let⟨g,e,J,hb⟩:=h;⟨g,e,J,(S.2 g hb.lt (Xt V.out.own J)).trans hb⟩) (Cl (fun u x y h hi S=>h.next S i.out) (kE (kE (kE (kE (Ai (fun _ _ _ _ _ _=>trivial) (Ai (fun _ _ _ _ _ _=>trivial) Ah)))))))))
   (fun u x y h hb=>h.next hb i.out) (fun u x y h hb=>h.next hb i.out) (StepO.drew v B D) (fun X Y hx h=>StepO.of h (bM i.out hx.1.size)) (fun X Y hx S=>hx.trans S) ?_ ?_
  ·refine gP9 rfl ?_ rfl (gO9 rfl ?_ (gO9 rfl ?_ (gP9 rfl ?_ rfl (gP9 rfl ?_ rfl (gP9 rfl ?_ rfl (gO9 rfl ?_ (gO9 rfl ?_ (gT9 rfl ?_ .nil))))))))
   rotate_right
   ·intro a r N M;refine⟨rfl,?_⟩;intro K z;have O:Grow D v B r (a.tmps[27]?.getD undef) (bvs xs++[.int .u8 0]++bvs L):=M.1;obtain⟨v1,b⟩:=eX (a.tmps[27]?.getD undef);rw[←b]at O;have e1:=b.symm;clear b;go_simp;exact z _ _ O bR
   all_goals
    intro a r c l N M;have c:StepO v B D r:=c;refine⟨rfl,?_⟩;intro K z;try have cH:a.tmps[1]?.getD undef=v:=N 1 (by kernel_rfl)
    try have dF:a.tmps[2]?.getD undef=.int .i64 (x:Nat):=N 2 (by kernel_rfl)
    try have aR:a.tmps[3]?.getD undef=rB (some ⟨p,0,rF⟩):=N 3 (by kernel_rfl)
    try have bS:=eqn M.1
    try have b0:=eqn M.2.1
    try(have cV:=(StepO.keep c aM.out (Xt aK.out (gZ a9.out))).cell 3;simp only[bZ,cA,cB]at cV)
    try(refine Hd ?_;go_simp;exact z _ rfl)
   ·go_simp;exact z _ _ ⟨_,rfl,c.1.size,Blk.new _ _ _⟩ (fun _=>Af rfl (bR.alloc lR _))
   ·have l:Below D.heap.size D r:=l (by kernel_rfl);obtain⟨ga,b,dL,n⟩:∃g,a.tmps[21]?.getD undef=q9 (some ⟨g,0,rF⟩) 1 1∧D.heap.size≤g∧Blk r g 5 #[.int .u8 0]:=M.2.1;have o1:=Blk.rdV (cs:=[.int .u8 0]) n (by unfold maxLen;simp);refine Sj (.tmp 20) (.tmp 21) 28 rfl B 5 _ 1 Bz v (bvs xs) (evs bS) (V.out.own.below l lR) _ [.int .u8 0] (evs b) o1 (by simp[Value.oneCell']) (by have:=t.out;have:=fB k;simp only[bvs_len,bY,bT];omega) (bM i.out l.size) ?_;intro v' w4 h1 h2 h3 Q;exact z _ _ (((Grow.start V.out.own i.out).next l i.out).trans (Grow.app h1 h2 h3 Q)) (fun _=>Bv rfl (Grow.app h1 h2 h3 Q).step)
   ·have dH:=bQ.out r (aE.out.trans c.1);go_simp;exact z _ _ rfl (fun _=>Af rfl bR)
   ·have O:Grow D v B r (a.tmps[22]?.getD undef) (bvs xs++[.int .u8 0]):=M.1;obtain⟨v1,b⟩:=eX (a.tmps[22]?.getD undef);rw[←b]at O;have e1:=b.symm;clear b;refine Sj (.tmp 22) (.tmp 26) 28 rfl B 5 _ 1 Bz v1 _ (evs e1) O.own u0 (bvs L) (evs b0) (cJ.out.below (aE.out.trans c.1) aJ.out) (Bu _) (by have:=t.out;have:=dG.out;have:=fB k;simp only[aG,bvs_len,bY,bT];omega) (bM i.out c.1.size) ?_;intro v' w4 h1 h2 h3 Q;exact z _ _ (O.trans (Grow.app h1 h2 h3 Q)) (fun h=>absurd rfl h)
  ·rintro f w9 s;have S6:Grow D v B w9 (f 6) (bvs xs++[.int .u8 0]++bvs L):=s.2.2.2.2.2.2.2.2.1;clear s;simp only[Am,Az,Ex,cX,cY,cZ,dA,Nat.reduceBEq,Nat.reduceAdd,dB,dC,cond_true,cond_false];obtain⟨u,hu⟩:=eX (f 6);rw[←hu]at S6⊢;have cK:=Hd S6;clear S6 hu;go_wp2_with fail;go_ret;refine⟨_,rfl,?_⟩;have:=V.out.trans cK.out;rw[HQ.out];simpa [bvs]using this
 |true=>
  obtain⟨d,hF⟩:∃d,F (x:Int)=some d:=Option.isSome_iff_exists.1 bG.out.symm;have bO:=cE.out d hF;obtain⟨bH,a8,hr⟩:=hP.ok _ _ hF;have aF:=Ll d _ D (bO.below aE.out aJ.out) bH a8;unfold Ey at aF;rw[if_pos hr,if_pos hr]at aF;have cF:=Hd aF;have bC:=Hd (Da a8);have HF:=Hd hF;have k0:=m.out.cell 0;have k1:=m.out.cell 1;have k2:=m.out.cell 2;have k3:=m.out.cell 3;have k4:=m.out.cell 4;have k5:=m.out.cell 5;have k6:=m.out.cell 6;have k7:=m.out.cell 7;have k8:=m.out.cell 8;have k9:=m.out.cell 9;simp only[bZ,cA,cB]at k0 k1 k2 k3 k4 k5 k6 k7 k8 k9;have b6:=Hd (Xt aK.out (gZ a9.out));clear hF bO bH a8 hr aF;go_wp2_with fail;refine cF.out.mono ?_;rintro e w4 ⟨Z,v9,rfl,aA⟩;have bL:=Hd (V.out.next Z A.out);have bD:=Hd (aM.out.below Z aM.out.lt);have cR:=Hd aA;have dI:=Hd (aE.out.trans (Z.mono i.out));have b9:=Hd (bM i.out Z.size);have cW:=Hd (show p<w4.heap.size from bD.out.lt);clear Z aA k0 k1 k2 k3 k4 k5 k6 k7 k8 k9;go_wp2_with (at_builtin;refine Ck rfl (.tmp 33) (.tmp 34) 28 rfl B 5 _ 1 Bz _ _ rfl (bL.out.own.alloc _) _ (.int .u8 1) rfl ?c1 rfl ?c2 ?c3 ?_);case c1=>exact Ar rfl
  case c2=>have:=t.out;simp only[bvs_len];omega
  case c3=>have:=b9.out;simp;omega
  rintro v5 w5 h1 h2 h3 Q;have C:=Grow.app h1 h2 h3 Q;have aS:=Hd ((bL.out.next (bR.alloc lR _) A.out).trans C);have bA:=Hd (StepO.keep C.step (bD.out.alloc _) b6.out);have cQ:=Hd (StepO.own C.step (cR.out.alloc _) fun g J=>dS (Own.blockLt aK.out J).1 (by have:=aI.out.size;omega));have bB:=Hd (show v5.ownBlock≠some p by
   rcases Q with e|⟨g,e,J⟩
   ·rw[e];exact b6.out
   ·rw[e];intro e2;cases e2;have:=cW.out;simp at J;omega)
  clear h1 h2 h3 Q C;go_wp2_with (at_builtin;refine Ou rfl (.tmp 35) (.tmp 36) 28 rfl B 5 _ 1 Bz _ _ rfl aS.out.own _ _ rfl cQ.out.rd (Bu _) ?c4 ?c5 ?_);case c4=>have:=t.out;have:=bC.out;simp only[aG,bvs_len,bY,bT];omega
  case c5=>have:=aS.out.size;have:=A.out;omega
  rintro o E h1 h2 h3 Q;have C:=Grow.app h1 h2 h3 Q;obtain⟨R,aN⟩:=eX (xs++(1::Bm d));have P:=Hd (show Grow w v B E o (bvs R) by rw[aN];simpa [bvs]using aS.out.trans C);have cI:=Hd (show R.length≤xs.length+6001 by rw[aN];have:=bC.out;simp only[aG,bY];omega);have b1:=Hd (StepO.keep C.step bA.out bB.out);have bE:=Hd (show o.ownBlock≠some p by
   rcases Q with e|⟨g,e,J⟩
   ·rw[e];exact bB.out
   ·rw[e];intro e2;cases e2;have:=bA.out.lt;omega)
  have bI:=Hd aN;have q:=Hd (show B≤E.heap.size from bM A.out P.out.size);have bK:=Hd (HB.out.trans P.out.step.1);clear h1 h2 h3 Q C aN;cases k with
  |zero=>
   have a1:x%2=0:=Gf a4.out;have bN:fC (x:Int) 2=0:=(by rw[fD (by omega)];omega);have aU:(x:Int)%2=0:=(by omega);clear a1;go_wp2_with fail;go_ret;refine⟨_,rfl,?_⟩;rw[Il HF.out,←bI.out];exact P.out
  |succ j=>
   have b8:x%2=1:=Fb a4.out;have bN:fC (x:Int) 2=1:=(by rw[fD (by omega)];omega);have aU:(x:Int)%2=1:=(by omega);have cM:=fB j;have cC:2^(j+1)=2*2^j:=(by rw[Nat.pow_succ];omega);have U:x≤131070:=(by have:=HX.out;omega);obtain⟨kl,kr,bJ,b2,kx⟩:=kids_lev U a4.out;have aH:=fun(W:World)=>Ia (x:Int) W;have aD:=fun(W:World)=>Gm (x:Int) W;rw[kl]at aH;rw[kr]at aD;have PS:=Im (H:=H) (k:=j) HF.out;have PL:=La hP j (x-2^j);have hX:=HX.out;have bF:=t.out;have cN:=cI.out;have I1:=fun(W:World) (h:StepO o B E W) (N:Own W B 5 o (bvs R))=>IH j rfl (x-2^j) lv ow ob sb nb mb G G' w0 B o R W bJ (by omega) HM.out HG.out bP.out b4.out aJ.out (bK.out.trans h.1) (bM q.out h.1.size) N (by omega);have I2:=fun(u:Value) (W:World) (h:StepO o B E W) (N:Own W B 5 u (bvs (R++putS F H j (x-2^j))))=>IH j rfl (x+2^j) lv ow ob sb nb mb G G' w0 B u (R++putS F H j (x-2^j)) W b2 (by omega) HM.out HG.out bP.out b4.out aJ.out (bK.out.trans h.1) (bM q.out h.1.size) N (by rw[aG];omega);obtain⟨L1,aX⟩:=eX (putS F H j (x-2^j));obtain⟨L2,aY⟩:=eX (putS F H j (x+2^j));rw[←aX]at I1 PS;rw[←aY]at PS;simp only[←aX,←aY]at I2;obtain⟨xl,bX⟩:=eX (x-2^j);obtain⟨xr,a6⟩:=eX (x+2^j);rw[←bX]at I1 aH;simp only[←a6]at I2;rw[←a6]at aD;have cS:=Hd I1;have dE:=Hd I2;have cD:=Hd aH;have cU:=Hd aD;have dD:=Hd PS;clear I1 I2 aH aD PS PL kl kr bJ b2 kx aX aY bX a6 hX bF cN U b8 cC cM;go_wp2_with fail;refine Hm [eF (.agg #[.int .i64 lv,.int .i64 ow,.map (some ob),.map (some sb)]),eF (.agg #[.int .i64 lv,.int .i64 ow,.map (some ob),.map (some sb)]),eF o,eF (.int .i64 (x:Nat)),eF (.int .i64 (xl:Nat)),fun u w'=>Grow E o B w' u (bvs (R++L1)),eF (.int .i64 (x:Nat)),eF (.int .i64 (xr:Nat)),fun u w'=>Grow E o B w' u (bvs (R++L1++L2)),fun u w'=>Grow E o B w' u (bvs (R++L1++L2))]
    (fun X=>StepO o B E X) (fun X Y=>StepO o B X Y) (some 5) 8 (by kernel_rfl) (by kernel_rfl) (by kernel_rfl) (by kernel_rfl)
    (kE (kE (kE (kE (kE (Cl (fun u x y h hi S=>h.next S q.out) (kE (kE (Ai (fun _ _ _ _ _ _=>trivial) (Ai (fun _ _ _ _ _ _=>trivial) Ah))))))))))
    (fun u x y h hb=>h.next hb q.out) (fun u x y h hb=>h.next hb q.out) (StepO.drew o B E) (fun X Y hx h=>StepO.of h (bM q.out hx.1.size)) (fun X Y hx S=>hx.trans S) ?_ ?_
   ·refine gO9 rfl ?_ (gO9 rfl ?_ (gP9 rfl ?_ rfl (gP9 rfl ?_ rfl (gO9 rfl ?_ (gO9 rfl ?_ (gP9 rfl ?_ rfl (gO9 rfl ?_ (gO9 rfl ?_ (gT9 rfl ?_ .nil)))))))))
    rotate_right
    ·intro a r N M;refine⟨rfl,?_⟩;intro K z;have O:Grow E o B r (a.tmps[49]?.getD undef) (bvs (R++L1++L2)):=M.1;obtain⟨v1,b⟩:=eX (a.tmps[49]?.getD undef);rw[←b]at O;have e1:=b.symm;clear b;go_simp;exact z _ _ O bR
    all_goals
     intro a r c l N M;have c:StepO o B E r:=c;refine⟨rfl,?_⟩;intro K z;try have cH:a.tmps[1]?.getD undef=o:=N 1 (by kernel_rfl)
     try have dF:a.tmps[2]?.getD undef=.int .i64 (x:Nat):=N 2 (by kernel_rfl)
     try have aR:a.tmps[3]?.getD undef=rB (some ⟨p,0,rF⟩):=N 3 (by kernel_rfl)
     try have bS:=eqn M.1
     try have b0:=eqn M.2.1
     try have dJ:=eqn M.2.2.1
     try(refine Hd ?_;go_simp;exact z _ rfl)
    ·exact wp_load_row 101 (.tmp 3) rfl _ (evs aR) _ _ (0,0) _ (StepO.keep c b1.out bE.out) underlying101 rfl (by kernel_rfl) (z _ _ rfl (fun _=>Af rfl bR))
    ·exact wp_load_row 101 (.tmp 3) rfl _ (evs aR) _ _ (0,0) _ (StepO.keep c b1.out bE.out) underlying101 rfl (by kernel_rfl) (z _ _ rfl (fun _=>Af rfl bR))
    ·go_simp;refine(cD.out r).mono ?_;rintro e w2 ⟨rfl,rfl⟩;exact z _ _ rfl (fun _=>Af rfl bR)
    ·have l:Below E.heap.size E r:=l (by kernel_rfl);go_simp;refine(cS.out r c (P.out.own.below l lR)).mono ?_;rintro e w2 ⟨u,rfl,aL⟩;exact z _ _ (((Grow.start P.out.own q.out).next l q.out).trans aL) (fun _=>Bv rfl aL.step)
    ·go_simp;refine(cU.out r).mono ?_;rintro e w2 ⟨rfl,rfl⟩;exact z _ _ rfl (fun _=>Af rfl bR)
    ·have O:Grow E o B r (a.tmps[46]?.getD undef) (bvs (R++L1)):=M.2.1;obtain⟨v1,b⟩:=eX (a.tmps[46]?.getD undef);rw[←b]at O;have e1:=b.symm;clear b;go_simp;refine(dE.out v1 r c O.own).mono ?_;rintro e w2 ⟨u,rfl,aL⟩;exact z _ _ (O.trans aL) (fun h=>absurd rfl h)
   ·rintro f w9 s;have S1:Grow E o B w9 (f 1) (bvs (R++L1++L2)):=s.2.2.2.2.2.2.2.2.2.1;clear s;simp only[Am,Az,Ex,cX,cY,cZ,dA,Nat.reduceBEq,Nat.reduceAdd,dB,dC,cond_true,cond_false];obtain⟨u,hu⟩:=eX (f 1);rw[←hu]at S1⊢;have cL:=Hd S1;clear S1 hu;go_wp2_with fail;go_ret;refine⟨_,rfl,?_⟩;rw[dD.out,←bW,←bI.out,←bW];exact P.out.trans cL.out
theorem Zlt (F:Int→Option NodeD)(H:Int→Option (List Nat))(hP:PieceOk F H):∀k,Znj F H k:=by
 intro k
 induction k with
 |zero=>exact Zak F H hP 0 fun j h=>by cases h
 |succ k ih=>exact Zak F H hP (k+1) fun j h=>by cases h;exact ih
end Go.Proofs.YtfofaiommeckbaaGreat
