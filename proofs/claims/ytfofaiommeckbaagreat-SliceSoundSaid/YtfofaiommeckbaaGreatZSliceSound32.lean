/- Walks: the closure of (piece).right. -/
import Derived.Test.YtfofaiommeckbaaGreatZSliceSoundB
import Derived.Test.YtfofaiommeckbaaGreatZSliceSound30
import Derived.Test.YtfofaiommeckbaaGreatZSliceSound31
import Derived.Maps.RangeWalk
open List renaming getElem?_toArray → cC, getElem?_cons_zero → cD, getElem?_cons_succ → cE, length_cons → cB, any_eq_false → gF, length_nil → bW, length_append → aI, filterMap_cons → cZ, filterMap_nil → dA, contains_cons → dB, contains_nil → dC, append_assoc → cA, map_cons → gG, mem_cons → aG, length_map → gH, getElem_map → gI, replicate → cK, getElem_mem → aL, getElem_of_mem → dM, mem_map_of_mem → gJ
open Nat renaming le_succ → fZ, log2 → aZ, two_pow_pos → fK, le_of_lt → eA, log2_two_pow → gK, lt_of_lt_of_le → dX, le_trans → bO, le_of_eq → gL
open Bool renaming and_eq_true → cL, not_eq_true' → cN, or_false → dD, or_true → dE, true_and → dK
open Int renaming toNat_natCast → dI, tmod → dN, tmod_eq_emod_of_nonneg → dO
set_option linter.unusedVariables false
set_option maxRecDepth 100000
set_option maxHeartbeats 40000000
namespace Go.Proofs.YtfofaiommeckbaaGreat
open Go.RowKit WalkM WireM
def Zbh:Array Value:=#[.int .u8 0,.slice none 0 0,.slice none 0 0,.slice none 0 0,.int .u8 0,.slice none 0 0,.slice none 0 0,.slice none 0 0,.slice none 0 0,.slice none 0 0]
def Zm0 (v:Value):Array Value:=match v with
 | .agg c=>c
 |_=>Zbh
def Fn (G:Int→Option Value)(x:Int):Array Value:=Zm0 ((G x).getD (.agg Zbh))
theorem NodesG.some {w:World} {G:Int→Option Value} {F:Int→Option NodeD}(h:NodesG w G F) {x:Int} {d:NodeD}(hF:F x=some d):G x=some (.agg (Fn G x))∧NodeC w d (Fn G x):=by
 have:=h x;rw[hF]at this;obtain⟨c,hc,hn⟩:=this;have e:Fn G x=c:=(by rw[Fn,hc];rfl);rw[e];exact⟨hc,hn⟩
theorem NodesG.none {w:World} {G:Int→Option Value} {F:Int→Option NodeD}(h:NodesG w G F) {x:Int}(hF:F x=none):G x=none∧Fn G x=Zbh:=by
 have:=h x;rw[hF]at this;have hg:G x=Option.none:=this;exact⟨hg,by rw[Fn,hg];rfl⟩
theorem NodesG.val {w:World} {G:Int→Option Value} {F:Int→Option NodeD}(h:NodesG w G F)(x:Int):(G x).getD (.agg Zbh)=.agg (Fn G x)∧(G x).isSome=(F x).isSome:=by
 cases hF:F x with
 |none=>obtain⟨h1,h2⟩:=h.none hF;rw[h1,h2];exact⟨rfl,rfl⟩
 |some d=>obtain⟨h1,-⟩:=h.some hF;rw[h1];exact⟨rfl,rfl⟩
theorem NodesG.ten {w:World} {G:Int→Option Value} {F:Int→Option NodeD}(h:NodesG w G F)(x:Int):∃c0 c1 c2 c3 c4 c5 c6 c7 c8 c9,Fn G x=#[c0,c1,c2,c3,c4,c5,c6,c7,c8,c9]:=by
 cases hF:F x with
 |none=>rw[(h.none hF).2];exact⟨_,_,_,_,_,_,_,_,_,_,rfl⟩
 |some d=>exact(h.some hF).2.ten
theorem NodesG.one {w:World} {G:Int→Option Value} {F:Int→Option NodeD}(h:NodesG w G F)(x:Int):(Fn G x).toList.all (·.oneCell')=true:=by
 cases hF:F x with
 |none=>rw[(h.none hF).2];rfl
 |some d=>exact(h.some hF).2.oneL
theorem Ia (w:World):(zeroValue 52).run Tryz.prog w=.ok (.agg Zbh) w:=Tryz.zeroValue52 w
theorem Zkq (h ob n:Nat)(l o s:Value)(G:Int→Option Value)(F:Int→Option NodeD)(x:Int)(w0 w:World)(y:Blk w h 101 #[l,o,.map (some ob),s])(I:MapF w ob n G)(k:NodesG w0 G F)(hx:inI x):
  Calls Tryz.prog 181 #[.int .i64 x,.pointer (some ⟨h,0,none⟩)] w fun e w'=>e=.returned (.tuple #[.agg (Fn G x),.bool (F x).isSome])∧Below w.heap.size w w':=by
 obtain⟨u,L⟩:=k.val x;have f:=Hd (k.one x);obtain⟨A,c1,c2,c3,c4,c5,C,m,r,q,K⟩:=k.ten x;rw[K]at u f⊢;rw[←L];have j:=fun(W:World) (R:Below w.heap.size w W)=>MapF.run_getOk (T:=98) (I.below R lR) Tryz.underlying98 (Ia W) hx;rw[u]at j;obtain⟨O,g⟩:=eX ((G x).isSome);rw[←g]at j⊢;have J:=y.cell 2;simp only[cC,cD,cE]at J;have H:=y.lt;have t:=Hd j;have B:=t.out _ ((Below.refl w.heap.size w).alloc lR (.cells #[.int .u8 0,.slice none 0 0,.slice none 0 0,.slice none 0 0,.int .u8 0,.slice none 0 0,.slice none 0 0,.slice none 0 0,.slice none 0 0,.slice none 0 0] 52));have E:=Hd (show Blk (w.alloc (.cells #[.int .u8 0,.slice none 0 0,.slice none 0 0,.slice none 0 0,.int .u8 0,.slice none 0 0,.slice none 0 0,.slice none 0 0,.slice none 0 0,.slice none 0 0] 52)) w.heap.size 52 #[.int .u8 0,.slice none 0 0,.slice none 0 0,.slice none 0 0,.int .u8 0,.slice none 0 0,.slice none 0 0,.slice none 0 0,.slice none 0 0,.slice none 0 0]from Blk.new _ _ _);have i:=Hd ((Below.refl w.heap.size w).alloc lR (.cells #[.int .u8 0,.slice none 0 0,.slice none 0 0,.slice none 0 0,.int .u8 0,.slice none 0 0,.slice none 0 0,.slice none 0 0,.slice none 0 0,.slice none 0 0] 52));clear j I k y u L K g hx;go_enter Tryz.func181,Tryz.ntmps181;go_wp2_with (refine Aa rfl 52 (.tmp 5) (.tmp 12) rfl (w.heap.size+1) #[A,c1,c2,c3,c4,c5,C,m,r,q] rfl rfl 52 #[.int .u8 0,.slice none 0 0,.slice none 0 0,.slice none 0 0,.int .u8 0,.slice none 0 0,.slice none 0 0,.slice none 0 0,.slice none 0 0,.slice none 0 0] (by have Z:=Blk.new (w.alloc (.cells #[.int .u8 0,.slice none 0 0,.slice none 0 0,.slice none 0 0,.int .u8 0,.slice none 0 0,.slice none 0 0,.slice none 0 0,.slice none 0 0,.slice none 0 0] 52)) 52 #[.int .u8 0,.slice none 0 0,.slice none 0 0,.slice none 0 0,.int .u8 0,.slice none 0 0,.slice none 0 0,.slice none 0 0,.slice none 0 0,.slice none 0 0];simpa using Z) (by kernel_rfl) rfl f.out ?_);rintro X a d c b;have D:=Hd ((i.out.alloc i.out.size (.cells #[.int .u8 0,.slice none 0 0,.slice none 0 0,.slice none 0 0,.int .u8 0,.slice none 0 0,.slice none 0 0,.slice none 0 0,.slice none 0 0,.slice none 0 0] 52)).trans (d w.heap.size (fZ _)));have z:=Hd (show Blk X w.heap.size 52 #[.int .u8 0,.slice none 0 0,.slice none 0 0,.slice none 0 0,.int .u8 0,.slice none 0 0,.slice none 0 0,.slice none 0 0,.slice none 0 0,.slice none 0 0]from(c w.heap.size (by omega)).trans (E.out.alloc _));have Y:=a.cell 0;have Q:=a.cell 1;have V:=a.cell 2;have U:=a.cell 3;have N:=a.cell 4;have P:=a.cell 5;have k6:=a.cell 6;have S:=a.cell 7;have M:=a.cell 8;have k9:=a.cell 9;simp only[cC,cD,cE]at Y Q V U N P k6 S M k9;clear a d c b B J H;go_wp2_with (refine Aa rfl 52 (.tmp 3) (.tmp 14) rfl w.heap.size #[A,c1,c2,c3,c4,c5,C,m,r,q] rfl rfl 52 #[.int .u8 0,.slice none 0 0,.slice none 0 0,.slice none 0 0,.int .u8 0,.slice none 0 0,.slice none 0 0,.slice none 0 0,.slice none 0 0,.slice none 0 0] z.out (by kernel_rfl) rfl f.out ?_);rintro w4 a d c b;have HK:=Hd a;have p:=Hd (D.out.trans (d w.heap.size lR));clear a d c b;go_wp2_with fail;exact bodyPost_ret (v:=.tuple #[.agg #[A,c1,c2,c3,c4,c5,C,m,r,q],.bool O]) (Ad Tryz.results181 _ _ w.heap.size _ _ _ rfl HK.out Tryz.underlying52 rfl (by kernel_rfl)) rfl ⟨rfl,p.out⟩
open Go.Maps
section
def Cn (lv ow:Int)(F:Int→Option NodeD)(H:Int→Option (List Nat))(KF KH:List Int)(only:Bool):Bool:=
 fits lv.toNat&&decide (0≤ow∧ow<lv)&&decide (((F (2*ow)).getD An).kind=1)&&(KF.all fun x=>Ci x ((F x).getD An))&&(KH.all fun x=>decide (((H x).getD []).length=32))&&
  ((Bt (fun n:Nat=>F n) ow.toNat only (aZ lv.toNat) (2^aZ lv.toNat-1) 0 []).2.2&&decide ((Bt (fun n:Nat=>F n) ow.toNat only (aZ lv.toNat) (2^aZ lv.toNat-1) 0 []).1=KF)&&decide ((Bt (fun n:Nat=>F n) ow.toNat only (aZ lv.toNat) (2^aZ lv.toNat-1) 0 []).2.1=KH))
section
variable {lv ow:Int} {F:Int→Option NodeD} {H:Int→Option (List Nat)} {KF KH:List Int} {only:Bool}
theorem Zed (h:fits lv.toNat=false):Cn lv ow F H KF KH only=false:=by rw[Cn,h];rfl
theorem Zjm (h:¬(0≤ow∧ow<lv)):Cn lv ow F H KF KH only=false:=by rw[Cn,decide_eq_false h];simp
theorem Zkr (h:((F (2*ow)).getD An).kind≠1):Cn lv ow F H KF KH only=false:=by rw[Cn,decide_eq_false h];simp
theorem Zee {x:Int} {d:NodeD}(hk:∀x,x∈KF↔(F x).isSome=true)(hF:F x=some d)(h:Ci x d=false):Cn lv ow F H KF KH only=false:=by
 have:(KF.all fun x=>Ci x ((F x).getD An))=false:=List.all_eq_false.2 ⟨x,(hk x).2 (by rw[hF];rfl),by rw[hF];simpa using h⟩;rw[Cn,this];simp
theorem Zl0 {x:Int} {L:List Nat}(hk:∀x,x∈KH↔(H x).isSome=true)(hF:H x=some L)(h:L.length≠32):Cn lv ow F H KF KH only=false:=by
 have:(KH.all fun x=>decide (((H x).getD []).length=32))=false:=List.all_eq_false.2 ⟨x,(hk x).2 (by rw[hF];rfl),by rw[hF];simpa using h⟩;rw[Cn,this];simp
theorem Zks (c:fits lv.toNat=true)(h2:0≤ow∧ow<lv)(h3:((F (2*ow)).getD An).kind=1)(hk:∀x,x∈KF↔(F x).isSome=true)(f:∀x d,F x=some d→Ci x d=true)(a:∀x,x∈KH↔(H x).isSome=true)(b:∀x L,H x=some L→L.length=32):
  Cn lv ow F H KF KH only=((Bt (fun n:Nat=>F n) ow.toNat only (aZ lv.toNat) (2^aZ lv.toNat-1) 0 []).2.2&&decide ((Bt (fun n:Nat=>F n) ow.toNat only (aZ lv.toNat) (2^aZ lv.toNat-1) 0 []).1=KF)&&decide ((Bt (fun n:Nat=>F n) ow.toNat only (aZ lv.toNat) (2^aZ lv.toNat-1) 0 []).2.1=KH)):=by
 have e:(KF.all fun x=>Ci x ((F x).getD An))=true:=List.all_eq_true.2 fun x hx=>by
  have:=(hk x).1 hx;cases hF:F x with
  |none=>rw[hF]at this;cases this
  |some d=>exact f x d hF
 have g:(KH.all fun x=>decide (((H x).getD []).length=32))=true:=List.all_eq_true.2 fun x hx=>by
  have:=(a x).1 hx;cases hF:H x with
  |none=>rw[hF]at this;cases this
  |some d=>exact decide_eq_true (b x d hF)
 rw[Cn,c,decide_eq_true h2,decide_eq_true h3,e,g];simp
end
theorem Uh {w w':World} {P:Program} {k:TypeId} {b r n B:Nat} {D:DataW Value} {left:Lit→Bool} {d:Nat}(h:w.ranges P k rdV b r n D left d)(g:Below B w w')(o:b<B)(h2:r<B):w'.ranges P k rdV b r n D left d:=by
 obtain⟨l,c,a,e,p,f,F,m,j,i,rest⟩:=h;exact⟨l,c,a,e,p,(g.block b o).trans f,F,m,j,(g.block r h2).trans i,rest⟩
theorem Ui {D:DataW Value} {G:Int→Option Value}(h2:∀x,has D (.int .i64 x)=(G x).isSome)(h3:∀x v z,G x=some v→D.atKey (.int .i64 x) z=.held v) {x:Int} {c:Value}(a:∀zd,D.atKey (.int .i64 x) zd=.held c):G x=some c:=by
 cases hG:G x with
 |none=>
  have b:has D (.int .i64 x)=false:=(by rw[h2,hG];rfl);have:=a .nil;rw[atKey_of_not_has b]at this;cases this
 |some u=>
  have:=(h3 x u .nil hG).symm.trans (a .nil);cases this;rfl
theorem Zef {key:Value} {kl:Lit}(h:keyOf Tryz.prog 3 key=some kl):∃x:Int,key=.int .i64 x:=by
 obtain⟨x,e,_⟩:=Maps.keyOf_int_inv Tryz.underlying3 h;exact⟨x,e⟩
theorem Zeg {x:Int} {kl:Lit}(h:keyOf Tryz.prog 3 (.int .i64 x)=some kl):kl=.int .i64 x:=by
 obtain⟨x',e,e2,_⟩:=Maps.keyOf_int_inv Tryz.underlying3 h;cases e;exact e2
theorem Zjn {left:Lit→Bool} {x y:Int}(h:(left (.int .i64 y)&& !(Lit.int .i64 y).sameKey (.int .i64 x))=false):left (.int .i64 y)=false∨y=x:=by
 rw[Bool.and_eq_false_iff]at h;rcases h with h|h
 ·exact .inl h
 ·right
  have h2:(Lit.int .i64 y).sameKey (.int .i64 x)=true:=(by simpa using h);have:=(WideAt.sameKey_iff (Th x)).1 h2;cases this;rfl
theorem Zbi (x0 x1 x2 x3 x4 x5 x6 x7 x8 x9:Value)(w:World):(Instr.field 52 (.agg #[x0,x1,x2,x3,x4,x5,x6,x7,x8,x9]) 0).run Tryz.prog w=.ok x0 w:=by kernel_rfl
theorem Ze:∀(L:List Int) (a M:Int),L.Pairwise (· < ·)→(∀y∈L,a≤y∧y<M)→L.length≤(M-a).toNat:=by
 intro L
 induction L with
 |nil=>intro a M _ _;simp
 |cons x L ih=>
  intro a M b d;rw[List.pairwise_cons]at b;have e:=d x (by simp);have:=ih (x+1) M b.2 fun y c=>⟨by have:=b.1 y c;omega,(d y (by simp[c])).2⟩;rw[cB];omega
theorem Ib {x:Int} {d:NodeD}(h:Ci x d=true):Ao d=true:=by unfold Ci at h;rw[cL]at h;exact h.1
theorem Pu {x:Int} {d:NodeD}(h:Ci x d=true):∀u∈d.par.late,Cc (2*u) x=true:=by
 unfold Ci at h;rw[cL,cL,cN,gF]at h;intro u hu;have:=h.2.2 u hu;simpa using this
def Zjo (F:Int→Option NodeD):Prop:=∀x d,F x=some d→inI x∧NodeOk d∧Bm d=true
theorem La {w w':World} {P:Program} {k:TypeId} {b n B:Nat} {D:DataW Value}(h:w.ownsMap P k rdV b n D)(hb:Below B w w')(hB:b<B):w'.ownsMap P k rdV b n D:=by
 obtain⟨es,clock,h0,h1⟩:=h;exact⟨es,clock,(hb.block b hB).trans h0,h1⟩
theorem Zh6 {w:World} {G:Int→Option Value} {F:Int→Option NodeD}(h:NodesG w G F) {x:Int} {v:Value}(a:G x=some v):∃d c,F x=some d∧v=.agg c∧NodeC w d c:=by
 have:=h x;cases hF:F x with
 |none=>rw[hF]at this;have h2:G x=none:=this;rw[h2]at a;cases a
 |some d=>rw[hF]at this;obtain⟨c,b,e⟩:=this;rw[a]at b;cases b;exact⟨d,c,rfl,rfl,e⟩
theorem Zkt {w:World} {G:Int→Option Value} {H:Int→Option (List Nat)}(h:RunsH w G H) {x:Int} {v:Value}(a:G x=some v):∃L,H x=some L∧Rd w v (bvs L):=by
 have:=h x;cases hF:H x with
 |none=>rw[hF]at this;have h2:G x=none:=this;rw[h2]at a;cases a
 |some d=>rw[hF]at this;obtain⟨c,b,e⟩:=this;rw[a]at b;cases b;exact⟨d,rfl,e⟩
theorem Pv (lv ow:Int) (ob sb nb mb:Nat) (F:Int→Option NodeD) (H:Int→Option (List Nat)) (KF KH:List Int) (only:Bool) (w:World) (hN:PieceN w ob nb F) (hH:PieceH w sb mb H) (eJ:nb≤1000000) (eZ:mb≤1000000) (f:Zjo F)
  (cO:KF.Pairwise (· < ·)) (Q:∀x,x∈KF↔(F x).isSome=true) (c8:KH.Pairwise (· < ·)) (Y:∀x,x∈KH↔(H x).isSome=true) (dY:KF.length≤1000000) (dA:KH.length≤1000000) (K:inI lv) (how:inI ow):
  Calls Tryz.prog 123 #[.agg #[.int .i64 lv,.int .i64 ow,.map (some ob),.map (some sb)],.bool only] w fun e w'=>e=.returned (.bool (Cn lv ow F H KF KH only))∧Below w.heap.size w w':=by
 obtain⟨G,⟨D,bP,a0,bY⟩,hG⟩:=hN;obtain⟨G',⟨D',bW,bB,cG⟩,aB⟩:=hH;have hG:NodesG w G F:=hG;have aB:RunsH w G' H:=aB;have fD:=bP.lt;have fB:=bW.lt;have bL:=Hd fun(W:World) (h:W.ownsMap Tryz.prog 3 rdV ob nb D)=>(show MapF W ob nb G from⟨D,h,a0,bY⟩);have bV:=Hd fun(W:World) (h:W.ownsMap Tryz.prog 3 rdV sb mb D')=>(show MapF W sb mb G' from⟨D',h,bB,cG⟩);have cT:=Hd fun(x:Int) (c:Value) (t:∀zd,D.atKey (.int .i64 x) zd=.held c)=>Zh6 hG (Ui a0 bY t);have bX:=Hd fun(x:Int) (c:Value) (t:∀zd,D'.atKey (.int .i64 x) zd=.held c)=>Zkt aB (Ui bB cG t);have P:∀x d,F x=some d→has D (.int .i64 x)=true:=fun x d f=>by
  rw[a0,(hG.some f).1];rfl
 have bE:∀x L,H x=some L→has D' (.int .i64 x)=true:=fun x L f=>by
  have:=aB x;rw[f]at this;obtain⟨v,hv,_⟩:=this;rw[bB,hv];rfl
 have eW:=Hd P;have d2:=Hd bE;have dJ:=Hd (Zed (lv:=lv) (ow:=ow) (F:=F) (H:=H) (KF:=KF) (KH:=KH) (only:=only));have cL:=Hd (Zjm (lv:=lv) (ow:=ow) (F:=F) (H:=H) (KF:=KF) (KH:=KH) (only:=only));have a1:=Hd (Zkr (lv:=lv) (ow:=ow) (F:=F) (H:=H) (KF:=KF) (KH:=KH) (only:=only));have c6:=Hd fun x d=>Zee (lv:=lv) (ow:=ow) (F:=F) (H:=H) (KF:=KF) (KH:=KH) (only:=only) (x:=x) (d:=d) Q;have cQ:=Hd fun x d=>Zl0 (lv:=lv) (ow:=ow) (F:=F) (H:=H) (KF:=KF) (KH:=KH) (only:=only) (x:=x) (L:=d) Y;have a5:=Hd fun h1 h2 h3 h4=>Zks (lv:=lv) (ow:=ow) (F:=F) (H:=H) (KF:=KF) (KH:=KH) (only:=only) h1 h2 h3 Q h4 Y;have cJ:=Hd f;have a7:=Hd hG;have dD:Dl G KF:=⟨cO,fun x=>by rw[Q,(hG.val x).2]⟩;have dS:Dl G' KH:=⟨c8,fun x=>by
  rw[Y];have:=aB x;cases f:H x with
  |none=>rw[f]at this;have h2:G' x=none:=this;rw[h2];exact Iff.rfl
  |some d=>rw[f]at this;obtain⟨c,hc,hn⟩:=this;rw[hc];exact Iff.rfl⟩
 have cY:=Hd dD;have d6:=Hd dS;have eH:=Hd dY;have eU:=Hd dA;obtain⟨OD,bA⟩:=eX ((F (2*ow)).getD An);have eC:(G (2*ow)).getD (.agg Zbh)=.agg (Fn G (2*ow))∧NodeC w OD (Fn G (2*ow)):=by
  refine⟨(hG.val _).1,?_⟩;rw[bA];cases f:F (2*ow)with
  |none=>rw[(hG.none f).2];exact Jq w
  |some d=>exact(hG.some f).2
 have aT:OD.kind<256:=by
  rw[bA];cases hF2:F (2*ow)with
  |none=>decide
  |some d=>exact(f _ _ hF2).2.1.kind
 rw[←bA]at a1 a5;obtain⟨fC,bG⟩:=eX (Cn lv ow F H KF KH only);rw[←bG]at dJ cL a1 c6 cQ a5⊢;obtain⟨B,bH⟩:=eC;obtain⟨x1,x2,x3,x4,x5,x6,x7,x8,b3,e3,d9,-⟩:=bH.frame;obtain⟨kd,dH⟩:=eX OD.kind;obtain⟨l8,d7⟩:=eX OD.par.late.length;rw[d9]at B;rw[←dH]at aT a1 a5 B;rw[←d7]at B;obtain⟨w1,J⟩:=eX (w.alloc (.cells #[.int .i64 lv,.int .i64 ow,.map (some ob),.map (some sb)] 101));have aN:=Hd J;have d4:Below w.heap.size w w1:=(by rw[J];exact(Below.refl w.heap.size w).alloc lR (.cells #[.int .i64 lv,.int .i64 ow,.map (some ob),.map (some sb)] 101));have O:=Hd d4;have C:=Hd (show w1.heap.size=w.heap.size+1 by rw[J];simp);have N:=Hd (show w1.ownsMap Tryz.prog 3 rdV ob nb D by rw[J];exact bP.alloc _);have R:=Hd (show w1.ownsMap Tryz.prog 3 rdV sb mb D' by rw[J];exact bW.alloc _);have aD:=Hd (show Blk w1 w.heap.size 101 #[.int .i64 lv,.int .i64 ow,.map (some ob),.map (some sb)] by rw[J];exact Blk.new w 101 #[.int .i64 lv,.int .i64 ow,.map (some ob),.map (some sb)]);have c0:=aD.out.cell 0;have c1:=aD.out.cell 1;have c2:=aD.out.cell 2;simp only[cC,cD,cE]at c0 c1 c2;unfold inI at K how;have e9:=Hd K;have e8:=Hd how;have b0:=fun(hi:inI (2*ow))=>MapF.run_get (T:=98) (bL.out _ N.out) Tryz.underlying98 (Ia _) hi;rw[B]at b0;have dO:=Hd b0;have aE:=Hd (Jl lv w1 (by omega) (by omega));obtain⟨ft,cM⟩:=eX (fits lv.toNat);rw[←cM]at aE;have Z:=Hd cM;clear bG bP a0 bY hG bW bB cG aB P bE f cO Q c8 Y dY dA K how bA B bH d9 dH d7 b0 cM dD dS d4 J;cases ft with
 |false=>
  have HE:=Hd (dJ.out Z.out.symm);go_enter Tryz.func123,Tryz.ntmps123;go_wp2_with fail;rw[←aN.out];refine aE.out.mono ?_;rintro e w2 ⟨rfl,rfl⟩;go_wp2_with fail;go_ret;exact⟨Dh HE.out,O.out⟩
 |true=>
  by_cases ho1:0≤ow
  ·have cX:decide (ow<0)=false:=decide_eq_false (by omega)
   by_cases ho2:ow<lv
   ·have dP:decide (ow≥lv)=false:=decide_eq_false (by omega);have a4:=Hd (show 0≤ow∧ow<lv from⟨ho1,ho2⟩);have e1:lv≤65536:=by
     obtain⟨d,hd,e⟩:=(fits_iff _).1 Z.out.symm;have:2^d≤2^16:=Nat.pow_le_pow_right (by omega) hd;have e5:(2:Nat)^16=65536:=rfl;omega
    have dQ:=Hd (show inI (2*ow) by unfold inI;omega);have RG:=dO.out dQ.out;have FK:=Zbi (.int .u8 (kd:Nat)) x1 x2 x3 x4 x5 x6 x7 x8 (.slice b3 l8 e3)
    by_cases hk1:kd=1
    ·have dU:((kd:Int) !=1)=false:=(by simp;omega);have eN:=Hd hk1;clear hk1;go_enter Tryz.func123,Tryz.ntmps123;go_wp2_with fail;rw[←aN.out];refine aE.out.mono ?_;rintro e w2 ⟨rfl,rfl⟩;go_wp2_with (first
      |(at_range;refine wpList_range_own _ rfl _ 98 rfl 3 52 Zji Tryz.underlying98 rdV ob nb D rfl N.out ?_;intro w0 g aS P)
      |go_in)
     try go_frame
     have e7:=Hd P;obtain⟨r,hr⟩:=eX w1.heap.size;rw[←hr]at g⊢;have HR:=Hd hr;have cZ:=Hd g;have eK:=Hd (show Below r w1 w0 from by rw[hr];exact(Below.refl _ w1).grown aS lR (by intro k e;cases e));clear g aS P hr c0 c1 c2 RG FK
     go_loopw [5] (fun _ wr=>∃(left:Lit→Bool) (aI:Nat),wr.ranges Tryz.prog 3 rdV ob r nb D left aI∧(∀x d,F x=some d→left (.int .i64 x)=false→Ci x d=true)∧Below r w1 wr) (fun _ wr=>wr.rangeLeft ob r)
     case atStart=>exact⟨_,_,cZ.out,(fun x d f hl=>by rw[eW.out x d f]at hl;cases hl),eK.out⟩
     case round=>
      obtain⟨left,aI,aG,aK,hb⟩:=hrel;have dX:=Hd aK;have HB:=Hd hb;have aF:=Hd aG;clear aK hb aG;go_wp2_with (first
       |(at_next;refine wpList_next_ranges _ rfl _ rfl 3 Zji rdV (Value.int .i64) (fun v:Value=>v) (fun eY kl h=>Zef h) (fun v y h=>⟨v,rfl⟩) ob r nb D left aI rfl aF.out ?_ ?_)
       |go_in)
      ·intro b5 aQ;have bC:=Hd (show∀x d,F x=some d→Ci x d=true from fun x d f=>dX.out x d f (aQ _));clear b5 aQ;have dC:=Hd (aD.out.below HB.out (by rw[HR.out];exact aD.out.lt));have c3:=dC.out.cell 3;simp only[cC,cD,cE]at c3;have b7:=Hd (La R.out HB.out (by have:=HR.out;have:=C.out;omega));obtain⟨wo,rfl⟩:∃wo:World,wo=wr:=⟨_,rfl⟩;go_wp2_with (first
        |(at_range;refine wpList_range_own _ rfl _ 99 rfl 3 28 Zji Tryz.underlying99 rdV sb mb D' rfl b7.out ?_;intro w0 g aS P)
        |go_in)
       try go_frame
       obtain⟨r2,a6⟩:=eX wo.heap.size;rw[←a6]at g⊢;have dM:=Hd a6;have c9:=Hd g;have eR:=Hd (show Below r2 wo w0 from by rw[a6];exact(Below.refl _ wo).grown aS lR (by intro k e;cases e));clear g aS P a6 c3
       go_loopw [8] (fun _ wr=>∃(left:Lit→Bool) (aI:Nat),wr.ranges Tryz.prog 3 rdV sb r2 mb D' left aI∧(∀x L,H x=some L→left (.int .i64 x)=false→L.length=32)∧Below r2 wo wr) (fun _ wr=>wr.rangeLeft sb r2)
       case atStart=>exact⟨_,_,c9.out,(fun x d f hl=>by rw[d2.out x d f]at hl;cases hl),eR.out⟩
       case round=>
        obtain⟨aY,cN,aG,aK,hb⟩:=hrel;have bO:=Hd aK;have dL:=Hd hb;have aR:=Hd aG;clear aK hb aG;go_wp2_with (first
         |(at_next;refine wpList_next_ranges _ rfl _ rfl 3 Zji rdV (Value.int .i64) (fun v:Value=>v) (fun eY kl h=>Zef h) (fun v y h=>⟨v,rfl⟩) sb r2 mb D' aY cN rfl aR.out ?_ ?_)
         |go_in)
        ·intro b5 aQ;have bR:=Hd (show∀x L,H x=some L→L.length=32 from fun x d f=>bO.out x d f (aQ _));clear b5 aQ;obtain⟨d,hd,K⟩:∃d,d≤16∧lv=((2^d:Nat):Int):=by
          obtain⟨d,hd,e⟩:=(fits_iff _).1 Z.out.symm;exact⟨d,hd,by have:=a4.out;omega⟩
         obtain⟨i,rfl⟩:∃i:Nat,ow=(i:Int):=⟨ow.toNat,by have:=a4.out.1;omega⟩;have eD:i≤65536:=(by have:=a4.out.2;omega);obtain⟨hM,e2⟩:=Hk hd;have hp:=fK d;have dV:w.heap.size<r:=(by have:=HR.out;have:=C.out;omega);have eS:r≤r2:=(by have:=aF.out.lt;have:=dM.out;omega);have E:Below r w1 wr:=HB.out.trans (dL.out.mono eS);have cK:=Hd (O.out.trans (E.mono (eA dV)));have l:=Hd (aD.out.below E dV);have cV:=Hd (bL.out _ (La N.out E (by omega)));have dT:=Hd (bV.out _ (La R.out E (by omega)));have AN:AtN wr (fun n:Nat=>F n) (fun n:Nat=>Fn G n):=⟨fun x=>a7.out.ten x,fun x d f=>((a7.out.some f).2).below cK.out lR,fun x=>a7.out.one x,fun x d f=>(cJ.out _ _ f).2.1.kind,fun x d f=>⟨Gc (Db (Ib (bC.out _ _ f))),by have:=of_decide_eq_true (cJ.out _ _ f).2.2;omega⟩⟩;have d3:∀x,x<2*2^d-1→AtC 181 w.heap.size wr wr.heap.size (fun n:Nat=>F n) (fun n:Nat=>Fn G n) x:=fun x hx W hW=>Zkq w.heap.size ob nb _ _ _ G F (x:Int) w W (l.out.below hW l.out.lt) (cV.out.below hW lR) a7.out (by unfold inI;omega);have a8:=Ug 181 w.heap.size (fun _ _=>rfl) (fun n:Nat=>F n) (fun n:Nat=>Fn G n) wr AN d i only eD hd d3;have aU:=a5.out Z.out.symm a4.out eN.out bC.out bR.out;rw[←K]at a8;rw[K]at aU;simp only[dI,gK]at aU;have SP:=Ch (F:=fun n:Nat=>F n) (i:=i) (only:=only) d (2^d-1) 0 [] (Cp d) (by omega);obtain⟨V,hV⟩:=eX (Bt (fun n:Nat=>F n) i only d (2^d-1) 0 []);rw[←hV]at a8 aU SP;have cP:V.1.length≤1000000:=by
          have:=Ze V.1 0 131071 SP.opr fun y I=>(by obtain⟨m,e,h⟩:=SP.op y I;unfold inR at h;omega);omega
         have dK:V.2.1.length≤1000000:=by
          have:=Ze V.2.1 0 131071 SP.shr fun y I=>(by obtain⟨m,e,h⟩:=SP.sh y I;unfold inR at h;omega);omega
         have dN:=Hd a8;have p:=Hd aU;have e0:=Hd cP;have eQ:=Hd dK;have c0:=l.out.cell 0;have c1:=l.out.cell 1;simp only[cC,cD,cE]at c0 c1;clear K hM e2 hp E AN d3 a8 aU SP hV cP dK hd;go_wp2_with fail;refine dN.out.mono ?_;rintro e w6 ⟨vo,vs,rfl,bU,b8,aJ⟩;have eT:=Hd bU.rd;have eL:=Hd b8.rd;have aL:=Hd (cK.out.trans (aJ.mono cK.out.size));have eV:=Hd (cV.out.below aJ lR);have dW:=Hd (dT.out.below aJ lR);have aX:=Hd (l.out.below aJ l.out.lt);have d8:=Hd aX.out.lt;have k2:=aX.out.cell 2;simp only[cC,cD,cE]at k2;obtain⟨p1,p2,p3,rfl⟩:=Ey bU;obtain⟨q1,q2,q3,rfl⟩:=Ey b8;obtain⟨ok,aT⟩:=eX V.2.2;rw[←aT];rw[←aT]at p;clear bU b8 aJ c0 c1 aT;cases ok with
         |false=>
          go_wp2_with fail;go_ret;exact⟨Dh (by rw[p.out];rfl),aL.out⟩
         |true=>
          have HK:=Hd (Ti (some ob) w6);have eM:=Hd (Nc ob nb w6.heap.size G KF (w6.alloc (.cells #[.map (some ob)] 98)) (eV.out.alloc _) cY.out eJ (by rw[(Blk.new w6 _ _).cell];rfl) (by simp));have d5:=Hd ((Below.refl w6.heap.size w6).alloc lR (.cells #[.map (some ob)] 98));go_wp2_with fail;refine HK.out.mono ?_;rintro e w7 ⟨rfl,rfl⟩;go_wp2_with fail;refine eM.out.mono ?_;rintro e w8 ⟨v8,rfl,b9,A⟩;have j:=Hd (d5.out.trans (A.mono d5.out.size));have eG:=Hd b9.rd;have cU:=Hd (eT.out.below j.out lR);have aH:=Hd (Yj _ _ V.1 KF w8 cU.out eG.out e0.out eH.out);obtain⟨t1,t2,t3,rfl⟩:=Ey b9;obtain⟨b1,cB⟩:=eX (decide (V.1=KF));rw[←cB]at aH;rw[←cB]at p;clear b9 A cB;cases b1 with
          |false=>
           go_wp2_with fail;refine aH.out.mono ?_;rintro e w9 ⟨rfl,n9,rfl⟩;go_wp2_with fail;go_ret;exact⟨Dh (by rw[p.out];rfl),Ab (aL.out.trans (j.out.mono aL.out.size)) _⟩
          |true=>
           have bI:=Hd (fun n9=>(aX.out.below j.out d8.out).drewN n9);have bJ:=Hd (fun n9=>(eL.out.below j.out lR).drewN n9);have c7:=Hd (fun n9=>(dW.out.below j.out lR).drewN n9);go_wp2_with fail;refine aH.out.mono ?_;rintro e w9 ⟨rfl,n9,rfl⟩;have k3:=(bI.out n9).cell 3;simp only[cC,cD,cE]at k3;have bQ:=Hd (show Below w6.heap.size w6 (w8.drewN n9)from Ab j.out _);have bK:=Hd (bJ.out n9);have dG:=Hd (c7.out n9);obtain⟨w9,c4⟩:=eX (w8.drewN n9);rw[←c4]at bQ bK dG k3⊢;clear c4 bI bJ c7;have eE:=Hd (Tj (some sb) w9);have dE:=Hd (Nd sb mb w9.heap.size G' KH (w9.alloc (.cells #[.map (some sb)] 99)) (dG.out.alloc _) d6.out eZ (by rw[(Blk.new w9 _ _).cell];rfl) (by simp));have c5:=Hd ((Below.refl w9.heap.size w9).alloc lR (.cells #[.map (some sb)] 99));go_wp2_with fail;refine eE.out.mono ?_;rintro e fA ⟨rfl,rfl⟩;go_wp2_with fail;refine dE.out.mono ?_;rintro e eF ⟨e6,rfl,aO,bM⟩;have bN:=Hd (c5.out.trans (bM.mono c5.out.size));have bD:=Hd (Yj _ _ V.2.1 KH eF (bK.out.below bN.out lR) aO.rd eQ.out eU.out);have eI:=Hd (aL.out.trans ((bQ.out.trans (bN.out.mono bQ.out.size)).mono aL.out.size));obtain⟨s1,s2,s3,rfl⟩:=Ey aO;obtain⟨b2,b6⟩:=eX (decide (V.2.1=KH));rw[←b6]at bD;rw[←b6]at p;clear aO bM b6;go_wp2_with fail;refine bD.out.mono ?_;rintro e e4 ⟨rfl,fE,rfl⟩;go_wp2_with fail;go_ret;exact⟨Dh (by rw[p.out];rfl),Ab eI.out _⟩
        ·intro x c kl y1 y2 w5 aM u cA hv t z aV aP a2 bS;obtain rfl:=Zeg u;have I:y1=.held c:=(by unfold rdV at hv;cases hv;rfl);subst I;obtain⟨L,b4,dB⟩:=bX.out x c t;obtain⟨ua,uc,rfl⟩:∃a k,c=.slice a L.length k:=(by obtain⟨a,k,e,_⟩:=dB;exact⟨a,k,by rw[e,bvs_len]⟩);have aZ:=Hd (dL.out.trans ((Below.refl r2 _).grown aP (by have:=aR.out.lt;omega) (by intro k e;cases e;exact lR)));have U:=Hd z;have cI:=Hd aV;have s:=Hd (fun(aC:L.length=32)=>(show∀y M,H y=some M→(aY (.int .i64 y)&& !(Lit.int .i64 y).sameKey (.int .i64 x))=false→M.length=32 from fun y M I hl=>by
          rcases Zjn hl with h|h
          ·exact bO.out y M I h
          ·rw[h,b4]at I;cases I;exact aC))
         have X:=Hd (cQ.out x L b4);obtain⟨ul,d0⟩:=eX L.length;rw[←d0]at s X bS⊢;clear d0 u cA hv t z aV aP a2 b4 dB
         by_cases aC:ul=32
         ·have d1:((ul:Int) !=32)=false:=(by simp;omega);have bT:=Hd (s.out aC);clear aC;go_wp2_with fail
          go_roundw
          case rel=>exact⟨_,aM,U.out,bT.out,aZ.out⟩
          case measure=>rw[U.out.left_eq,aR.out.left_eq];exact cI.out
         ·have d1:((ul:Int) !=32)=true:=(by simp;omega);have HE:=Hd (X.out aC);have eO:=Hd (O.out.trans ((HB.out.trans (aZ.out.mono (show r≤r2 by have:=aF.out.lt;have:=dM.out;omega))).mono (show w.heap.size≤r by have:=HR.out;have:=C.out;omega)));clear aC;go_wp2_with fail;go_ret;exact⟨Dh HE.out,eO.out⟩
      ·intro x c kl y1 y2 w5 aM u cA hv t z aV aP a2 bS;obtain rfl:=Zeg u;have I:y1=.held c:=(by unfold rdV at hv;cases hv;rfl);subst I;obtain⟨d,cc,a9,rfl,a3⟩:=cT.out x c t;have cS:=Hd a3.oneL;obtain⟨eP,dF,dR⟩:=cJ.out x d a9;have aZ:=Hd (HB.out.trans ((Below.refl r _).grown aP (by have:=aF.out.lt;omega) (by intro k e;cases e;exact lR)));have U:=Hd z;have cI:=Hd aV;have aW:=Hd fun(W:World) (hw:Below w.heap.size w W)=>Wo x d cc W (a3.below hw lR) dF dR eP;have s:=Hd (fun(hp:Ci x d=true)=>(show∀y e,F y=some e→(left (.int .i64 y)&& !(Lit.int .i64 y).sameKey (.int .i64 x))=false→Ci y e=true from fun y e I hl=>by
        rcases Zjn hl with h|h
        ·exact dX.out y e I h
        ·rw[h]at I⊢;rw[a9]at I;cases I;exact hp))
       have X:=Hd (fun hp=>c6.out x d a9 hp);obtain⟨z0,z1,z2,z3,z4,z5,z6,z7,z8,z9,rfl⟩:=a3.ten;obtain⟨pd,cF⟩:=eX (Ci x d);rw[←cF]at aW;have cR:=Hd cF;have o:=Hd (O.out.trans (aZ.out.mono (show w.heap.size≤r by have:=HR.out;have:=C.out;omega)));have cH:=Hd (show r<w5.heap.size from by rw[a2];exact aF.out.lt);obtain⟨q,hq⟩:=eX w5.heap.size;have HQ:=Hd hq;have eB:=Hd (show Blk (w5.alloc (.cells #[.int .u8 0,.slice none 0 0,.slice none 0 0,.slice none 0 0,.int .u8 0,.slice none 0 0,.slice none 0 0,.slice none 0 0,.slice none 0 0,.slice none 0 0] 52)) q 52 #[.int .u8 0,.slice none 0 0,.slice none 0 0,.slice none 0 0,.int .u8 0,.slice none 0 0,.slice none 0 0,.slice none 0 0,.slice none 0 0,.slice none 0 0] by rw[hq];exact Blk.new _ _ _);clear u cA hv t z aV aP a2 a9 a3 cF hq dR dF;go_wp2_with (refine Aa rfl 52 (.tmp 6) (.tmp 45) rfl w5.heap.size #[z0,z1,z2,z3,z4,z5,z6,z7,z8,z9] rfl rfl 52 #[.int .u8 0,.slice none 0 0,.slice none 0 0,.slice none 0 0,.int .u8 0,.slice none 0 0,.slice none 0 0,.slice none 0 0,.slice none 0 0,.slice none 0 0] (HQ.out▸eB.out) (by kernel_rfl) rfl cS.out ?_);rintro w7 b dZ cW bZ;rw[←HQ.out]at b⊢;have aA:=Hd (((Below.refl w5.heap.size w5).alloc lR (.cells #[.int .u8 0,.slice none 0 0,.slice none 0 0,.slice none 0 0,.int .u8 0,.slice none 0 0,.slice none 0 0,.slice none 0 0,.slice none 0 0,.slice none 0 0] 52)).trans (dZ w5.heap.size lR));have k0:=b.cell 0;have k1:=b.cell 1;have k2:=b.cell 2;have k3:=b.cell 3;have k4:=b.cell 4;have k5:=b.cell 5;have k6:=b.cell 6;have k7:=b.cell 7;have k8:=b.cell 8;have k9:=b.cell 9;simp only[cC,cD,cE]at k0 k1 k2 k3 k4 k5 k6 k7 k8 k9;clear b dZ cW bZ bS;cases pd with
       |true=>
        have bT:=Hd (s.out cR.out.symm);go_wp2_with fail;refine(aW.out _ (o.out.trans (aA.out.mono o.out.size))).mono ?_;rintro e w8 ⟨rfl,A⟩;have S:=Hd (aA.out.trans (A.mono aA.out.size));clear A k0 k1 k2 k3 k4 k5 k6 k7 k8 k9;have bF:=Hd (Uh U.out S.out (by have:=cH.out;have:=HR.out;have:=C.out;omega) cH.out);have j:=Hd (aZ.out.trans (S.out.mono (eA cH.out)));go_wp2_with fail
        go_roundw
        case rel=>exact⟨_,aM,bF.out,bT.out,j.out⟩
        case measure=>rw[bF.out.left_eq,aF.out.left_eq];exact cI.out
       |false=>
        have HE:=Hd (X.out cR.out.symm);go_wp2_with fail;refine(aW.out _ (o.out.trans (aA.out.mono o.out.size))).mono ?_;rintro e w8 ⟨rfl,A⟩;have S:=Hd (aA.out.trans (A.mono aA.out.size));have j:=Hd (o.out.trans (S.out.mono o.out.size));clear A k0 k1 k2 k3 k4 k5 k6 k7 k8 k9;go_wp2_with fail;go_ret;exact⟨Dh HE.out,j.out⟩
    ·have dU:((kd:Int) !=1)=true:=(by simp;omega);have HE:=Hd (a1.out hk1);clear hk1;go_enter Tryz.func123,Tryz.ntmps123;go_wp2_with fail;rw[←aN.out];refine aE.out.mono ?_;rintro e w2 ⟨rfl,rfl⟩;go_wp2_with fail;go_ret;exact⟨Dh HE.out,O.out⟩
   ·have dP:decide (ow≥lv)=true:=decide_eq_true (by omega);have HE:=Hd (cL.out fun h=>ho2 h.2);clear ho1 ho2;go_enter Tryz.func123,Tryz.ntmps123;go_wp2_with fail;rw[←aN.out];refine aE.out.mono ?_;rintro e w2 ⟨rfl,rfl⟩;go_wp2_with fail;go_ret;exact⟨Dh HE.out,O.out⟩
  ·have cX:decide (ow<0)=true:=decide_eq_true (by omega);have HE:=Hd (cL.out fun h=>ho1 h.1);clear ho1;go_enter Tryz.func123,Tryz.ntmps123;go_wp2_with fail;rw[←aN.out];refine aE.out.mono ?_;rintro e w2 ⟨rfl,rfl⟩;go_wp2_with fail;go_ret;exact⟨Dh HE.out,O.out⟩
end
end Go.Proofs.YtfofaiommeckbaaGreat
namespace Go.Proofs.YtfofaiommeckbaaGreat
open Go.RowKit WalkM WireM
theorem Wp {w:World} {B:Nat} {e:TypeId} {v:Value} {xs:List Value}(h:Own w B e v xs) {g:Nat}(hg:w.heap.size≤g):v.ownBlock≠some g:=fun he=>absurd (Own.blockLt h he).1 (by omega)
theorem Blk.rdV {w:World} {g:Nat} {t:TypeId} {cs:List Value}(h:Blk w g t cs.toArray)(hl:cs.length≤maxLen):Rd w (.slice (some ⟨g,0,none⟩) cs.length cs.length) cs:=
 ⟨_,_,rfl,lR,hl,.inr ⟨g,0,rfl,fun j u hu=>by rw[h.cell,Nat.zero_add];simpa using hu⟩⟩
theorem StepO.trans {V:Value} {B:Nat} {a b c:World}(h:StepO V B a b)(k:StepO V B b c):StepO V B a c:=
 ⟨h.1.trans k.1,fun i hi hne=>(k.2 i (dX hi h.1.size) hne).trans (h.2 i hi hne)⟩
theorem StepO.keep {V:Value} {B g:Nat} {a b:World} {t:TypeId} {cs:Array Value}(h:StepO V B a b)(k:Blk a g t cs)(hne:V.ownBlock≠some g):Blk b g t cs:=(h.2 g k.lt hne).trans k
theorem StepO.drew (V:Value)(B:Nat)(w:World):StepO V B w w.drew:=⟨⟨rfl,rfl,rfl,lR,fun _ _=>rfl⟩,fun _ _ _=>rfl⟩
theorem Zf {w:World} {G:Int→Option Value} {H:Int→Option (List Nat)}(h:RunsH w G H)(x:Nat):Rd w ((G (x:Int)).getD (.slice none 0 0)) (bvs (Gf H x)):=by
 have:=h (x:Int);unfold Gf;cases e:H (x:Int)with
 |none=>rw[e]at this;have this:G (x:Int)=none:=this;rw[this];exact(Own.nil w 0 5).rd
 |some L=>rw[e]at this;obtain⟨v,a,h2⟩:=this;rw[a];exact h2
def Zm1 (F:Int→Option NodeD)(H:Int→Option (List Nat))(k:Nat):Prop:=
 ∀(x:Nat) (lv ow:Int) (ob sb nb mb:Nat) (G G':Int→Option Value) (w0:World) (B:Nat) (v:Value) (xs:List Nat) (w:World),IsLev x k→x+2^k≤131071→MapF w0 ob nb G→NodesG w0 G F→MapF w0 sb mb G'→RunsH w0 G' H→w0.heap.size≤B→Below B w0 w→B≤w.heap.size→
  Own w B 5 v (bvs xs)→xs.length+12002*2^k≤1000000000→
  Calls Tryz.prog 135 #[.agg #[.int .i64 lv,.int .i64 ow,.map (some ob),.map (some sb)],v,.int .i64 (x:Nat)] w fun e w'=>∃v',e=.returned v'∧Grow w v B w' v' (bvs (xs++putS F H k x))
theorem Zg (F:Int→Option NodeD)(H:Int→Option (List Nat))(hP:PieceOk F H)(k:Nat)(IH:∀j,k=j+1→Zm1 F H j):Zm1 F H k:=by
 intro x lv ow ob sb nb mb G G' w0 B v xs w hl hx hm J aJ a5 b2 hB aW aQ aP;obtain⟨hv,U⟩:=J.val (x:Int);have V:=J.one (x:Int);have E:=fun d (h:F (x:Int)=some d)=>(J.some h).2;obtain⟨c0,c1,c2,c3,c4,c5,c6,c7,c8,c9,hc⟩:=J.ten (x:Int);rw[hc]at hv V E;have cP:=fK k;have b9:=hm.lt;have cJ:=aJ.lt;have aU:inI (x:Int):=(by unfold inI;omega);have RG:=fun(W:World) (hw:Below B w0 W)=>MapF.run_getOk (T:=98) (hm.belowB hw (by omega)) Tryz.underlying98 (Ia W) aU;rw[hv,U]at RG;have aT:=fun(W:World) (hw:Below B w0 W)=>MapF.run_get (T:=99) (aJ.belowB hw (by omega)) Tryz.underlying99 (Tryz.zeroValue28 W) aU;have RU:=Zf a5 x;obtain⟨u0,b0⟩:=eX ((G' (x:Int)).getD (.slice none 0 0));rw[←b0]at aT RU;have a0:=Hz hP x;have PN:=fun(h:F (x:Int)=none)=>Ki (H:=H) (k:=k) h;obtain⟨L,hL⟩:=eX (Gf H x);rw[←hL]at RU a0 PN;obtain⟨p,hp⟩:=eX w.heap.size;have HP:=Hd hp;have HB:=Hd hB;have r:=Hd aW;have aG:=Hd aQ;have aD:=Hd b2;have bJ:=Hd V;have bM:=Hd aT;have cI:=Hd RU;have cO:=Hd a0;have dF:=Hd PN;have s:=Hd aP;have cT:=Hd E;have bU:=RG _ ((hB.trans ((Below.refl w.heap.size w).alloc lR (.cells #[.int .i64 lv,.int .i64 ow,.map (some ob),.map (some sb)] 101)|>.mono aW)));have a8:=Hd (show Blk (w.alloc (.cells #[.int .i64 lv,.int .i64 ow,.map (some ob),.map (some sb)] 101)) w.heap.size 101 #[.int .i64 lv,.int .i64 ow,.map (some ob),.map (some sb)]from Blk.new _ _ _);have a3:=Hd ((Below.refl w.heap.size w).alloc lR (.cells #[.int .i64 lv,.int .i64 ow,.map (some ob),.map (some sb)] 101));have p2:=(a8.out).cell 2;simp only[cC,cD,cE]at p2;obtain⟨is,aZ⟩:=eX ((F (x:Int)).isSome);rw[←aZ]at bU;have bX:=Hd aZ;have HX:=Hd hx;have aY:=Hd hl;have HM:=Hd hm;have HG:=Hd J;have bK:=Hd aJ;have bA:=Hd a5;clear RG aT RU hm J aJ a5 hv U hc aZ hp hB aW aQ b2 V a0 PN hL aP E b0 aU hx hl b9 cJ cP;go_enter Tryz.func135,Tryz.ntmps135;go_wp2_with (refine Aa rfl 52 (.tmp 7) (.tmp 16) rfl (w.heap.size+1) #[c0,c1,c2,c3,c4,c5,c6,c7,c8,c9] rfl rfl 52 #[.int .u8 0,.slice none 0 0,.slice none 0 0,.slice none 0 0,.int .u8 0,.slice none 0 0,.slice none 0 0,.slice none 0 0,.slice none 0 0,.slice none 0 0] (by have Q:=Blk.new (w.alloc (.cells #[.int .i64 lv,.int .i64 ow,.map (some ob),.map (some sb)] 101)) 52 #[.int .u8 0,.slice none 0 0,.slice none 0 0,.slice none 0 0,.int .u8 0,.slice none 0 0,.slice none 0 0,.slice none 0 0,.slice none 0 0,.slice none 0 0];simpa using Q) (by kernel_rfl) rfl bJ.out ?_);rintro D n b4 aR aS;have aN:=Hd ((a3.out.alloc a3.out.size (.cells #[.int .u8 0,.slice none 0 0,.slice none 0 0,.slice none 0 0,.int .u8 0,.slice none 0 0,.slice none 0 0,.slice none 0 0,.slice none 0 0,.slice none 0 0] 52)).trans (b4 w.heap.size (fZ _)));have aM:=Hd (show Blk D w.heap.size 101 #[.int .i64 lv,.int .i64 ow,.map (some ob),.map (some sb)]from(aR w.heap.size (by omega)).trans (a8.out.alloc _));rw[←HP.out]at aM n⊢;have i:=Hd n;have dM:=Hd (show p+1<D.heap.size from n.lt);have bB:=Hd (show w.heap.size=p from HP.out.symm);have aC:=Hd ((Grow.start aG.out r.out).next aN.out r.out);have aE:=Hd (HB.out.trans (aN.out.mono r.out));have m:=Hd (bO r.out aN.out.size);clear n b4 aR aS bU p2 a3 a8;cases is with
 |false=>
  have hF:F (x:Int)=none:=by have:=bX.out;cases e:F (x:Int)with
   |none=>rfl
   |some d=>rw[e]at this;cases this
  have HQ:=Hd (dF.out hF);clear hF;go_wp2_with fail;refine Hf [eF v,fun u w'=>∃g,u=.slice (some ⟨g,0,none⟩) 1 1∧D.heap.size≤g∧Blk w' g 5 #[.int .u8 0],fun u w'=>Grow D v B w' u (bvs xs++[.int .u8 0]),eF (.pointer (some ⟨p,3,none⟩)),eF (.map (some sb)),eF (.int .i64 (x:Nat)),eF u0,fun u w'=>Grow D v B w' u (bvs xs++[.int .u8 0]++bvs L),fun u w'=>Grow D v B w' u (bvs xs++[.int .u8 0]++bvs L)]
   (fun X=>StepO v B D X) (fun X Y=>StepO v B X Y) (some 2) 7 (by kernel_rfl) (by kernel_rfl) (by kernel_rfl) (by kernel_rfl)
   (kE (Da (fun u x y h hi U=>let⟨g,e,J,hb⟩:=h;⟨g,e,J,(U.2 g hb.lt (Wp aC.out.own J)).trans hb⟩) (Cv (fun u x y h hi U=>h.next U m.out) (kE (kE (kE (kE (Ah (fun _ _ _ _ _ _=>trivial) (Ah (fun _ _ _ _ _ _=>trivial) Ae)))))))))
   (fun u x y h hb=>h.next hb m.out) (fun u x y h hb=>h.next hb m.out) (StepO.drew v B D) (fun X Y hx h=>StepO.of h (bO m.out hx.1.size)) (fun X Y hx U=>hx.trans U) ?_ ?_
  ·refine gP9 rfl ?_ rfl (gO9 rfl ?_ (gO9 rfl ?_ (gP9 rfl ?_ rfl (gP9 rfl ?_ rfl (gP9 rfl ?_ rfl (gO9 rfl ?_ (gO9 rfl ?_ (gT9 rfl ?_ .nil))))))))
   rotate_right
   ·intro a t N P;refine⟨rfl,?_⟩;intro K C;have M:Grow D v B t (a.tmps[27]?.getD undef) (bvs xs++[.int .u8 0]++bvs L):=P.1;obtain⟨v1,b⟩:=eX (a.tmps[27]?.getD undef);rw[←b]at M;have e1:=b.symm;clear b;go_simp;exact C _ _ M bR
   all_goals
    intro a t c l N P;have c:StepO v B D t:=c;refine⟨rfl,?_⟩;intro K C;try have cL:a.tmps[1]?.getD undef=v:=N 1 (by kernel_rfl)
    try have cX:a.tmps[2]?.getD undef=.int .i64 (x:Nat):=N 2 (by kernel_rfl)
    try have a2:a.tmps[3]?.getD undef=.pointer (some ⟨p,0,none⟩):=N 3 (by kernel_rfl)
    try have bN:=eqn P.1
    try have bF:=eqn P.2.1
    try(have cG:=(StepO.keep c aM.out (Wp aG.out (gL bB.out))).cell 3;simp only[cC,cD,cE]at cG)
    try(refine Hd ?_;go_simp;exact C _ rfl)
   ·go_simp;exact C _ _ ⟨_,rfl,c.1.size,Blk.new _ _ _⟩ (fun _=>Af rfl (bR.alloc lR _))
   ·have l:Below D.heap.size D t:=l (by kernel_rfl);obtain⟨ga,b,dK,n⟩:∃g,a.tmps[21]?.getD undef=.slice (some ⟨g,0,none⟩) 1 1∧D.heap.size≤g∧Blk t g 5 #[.int .u8 0]:=P.2.1;have o1:=Blk.rdV (cs:=[.int .u8 0]) n (by unfold maxLen;simp);refine Rk (.tmp 20) (.tmp 21) 28 rfl B 5 _ 1 Bu v (bvs xs) (evs bN) (aC.out.own.below l lR) _ [.int .u8 0] (evs b) o1 (by simp[Value.oneCell']) (by have:=s.out;have:=fK k;simp only[bvs_len,cB,bW];omega) (bO m.out l.size) ?_;intro v' w4 Q h2 h3 S;exact C _ _ (((Grow.start aC.out.own m.out).next l m.out).trans (Grow.app Q h2 h3 S)) (fun _=>Ca rfl (Grow.app Q h2 h3 S).step)
   ·have dL:=bM.out t (aE.out.trans c.1);go_simp;exact C _ _ rfl (fun _=>Af rfl bR)
   ·have M:Grow D v B t (a.tmps[22]?.getD undef) (bvs xs++[.int .u8 0]):=P.1;obtain⟨v1,b⟩:=eX (a.tmps[22]?.getD undef);rw[←b]at M;have e1:=b.symm;clear b;refine Rk (.tmp 22) (.tmp 26) 28 rfl B 5 _ 1 Bu v1 _ (evs e1) M.own u0 (bvs L) (evs bF) (cI.out.below (aE.out.trans c.1) aD.out) (Bp _) (by have:=s.out;have:=cO.out;have:=fK k;simp only[aI,bvs_len,cB,bW];omega) (bO m.out c.1.size) ?_;intro v' w4 Q h2 h3 S;exact C _ _ (M.trans (Grow.app Q h2 h3 S)) (fun h=>absurd rfl h)
  ·rintro f w9 z;have S6:Grow D v B w9 (f 6) (bvs xs++[.int .u8 0]++bvs L):=z.2.2.2.2.2.2.2.2.1;clear z;simp only[Aj,Aq,Dr,cZ,dA,dB,dC,Nat.reduceBEq,Nat.reduceAdd,dD,dE,cond_true,cond_false];obtain⟨u,hu⟩:=eX (f 6);rw[←hu]at S6⊢;have cN:=Hd S6;clear S6 hu;go_wp2_with fail;go_ret;refine⟨_,rfl,?_⟩;have:=aC.out.trans cN.out;rw[HQ.out];simpa [bvs]using this
 |true=>
  obtain⟨d,hF⟩:∃d,F (x:Int)=some d:=Option.isSome_iff_exists.1 bX.out.symm;have bD:=cT.out d hF;obtain⟨bY,aV,hr⟩:=hP.ok _ _ hF;have aH:=Kp d _ D (bD.below aE.out aD.out) bY aV;unfold Eu at aH;rw[if_pos hr,if_pos hr]at aH;have cW:=Hd aH;have bV:=Hd (Cx aV);have HF:=Hd hF;have k0:=i.out.cell 0;have k1:=i.out.cell 1;have k2:=i.out.cell 2;have k3:=i.out.cell 3;have k4:=i.out.cell 4;have k5:=i.out.cell 5;have k6:=i.out.cell 6;have k7:=i.out.cell 7;have k8:=i.out.cell 8;have k9:=i.out.cell 9;simp only[cC,cD,cE]at k0 k1 k2 k3 k4 k5 k6 k7 k8 k9;have bG:=Hd (Wp aG.out (gL bB.out));clear hF bD bY aV hr aH;go_wp2_with fail;refine cW.out.mono ?_;rintro e w4 ⟨Z,v9,rfl,aA⟩;have bS:=Hd (aC.out.next Z r.out);have bH:=Hd (aM.out.below Z aM.out.lt);have cR:=Hd aA;have dI:=Hd (aE.out.trans (Z.mono m.out));have b7:=Hd (bO m.out Z.size);have cM:=Hd (show p<w4.heap.size from bH.out.lt);clear Z aA k0 k1 k2 k3 k4 k5 k6 k7 k8 k9;go_wp2_with (at_builtin;refine Do rfl (.tmp 33) (.tmp 34) 28 rfl B 5 _ 1 Bu _ _ rfl (bS.out.own.alloc _) _ (.int .u8 1) rfl ?c1 rfl ?c2 ?c3 ?_);case c1=>exact Bz rfl
  case c2=>have:=s.out;simp only[bvs_len];omega
  case c3=>have:=b7.out;simp;omega
  rintro v5 w5 Q h2 h3 S;have q:=Grow.app Q h2 h3 S;have a6:=Hd ((bS.out.next (bR.alloc lR _) r.out).trans q);have bZ:=Hd (StepO.keep q.step (bH.out.alloc _) bG.out);have b8:=Hd (StepO.own q.step (cR.out.alloc _) fun g J=>dX (Own.blockLt aG.out J).1 (by have:=aN.out.size;omega));have b6:=Hd (show v5.ownBlock≠some p by
   rcases S with e|⟨g,e,J⟩
   ·rw[e];exact bG.out
   ·rw[e];intro e2;cases e2;have:=cM.out;simp at J;omega)
  clear Q h2 h3 S q;go_wp2_with (at_builtin;refine Wk rfl (.tmp 35) (.tmp 36) 28 rfl B 5 _ 1 Bu _ _ rfl a6.out.own _ _ rfl b8.out.rd (Bp _) ?c4 ?c5 ?_);case c4=>have:=s.out;have:=bV.out;simp only[aI,bvs_len,cB,bW];omega
  case c5=>have:=a6.out.size;have:=r.out;omega
  rintro o I Q h2 h3 S;have q:=Grow.app Q h2 h3 S;obtain⟨R,aK⟩:=eX (xs++(1::Bc d));have O:=Hd (show Grow w v B I o (bvs R) by rw[aK];simpa [bvs]using a6.out.trans q);have cY:=Hd (show R.length≤xs.length+6001 by rw[aK];have:=bV.out;simp only[aI,cB];omega);have b5:=Hd (StepO.keep q.step bZ.out b6.out);have b3:=Hd (show o.ownBlock≠some p by
   rcases S with e|⟨g,e,J⟩
   ·rw[e];exact b6.out
   ·rw[e];intro e2;cases e2;have:=bZ.out.lt;omega)
  have bC:=Hd aK;have A:=Hd (show B≤I.heap.size from bO r.out O.out.size);have bL:=Hd (HB.out.trans O.out.step.1);clear Q h2 h3 S q aK;cases k with
  |zero=>
   have a7:x%2=0:=Dv aY.out;have bI:dN (x:Int) 2=0:=(by rw[dO (by omega)];omega);have aX:(x:Int)%2=0:=(by omega);clear a7;go_wp2_with fail;go_ret;refine⟨_,rfl,?_⟩;rw[Nq HF.out,←bC.out];exact O.out
  |succ j=>
   have bE:x%2=1:=Fv aY.out;have bI:dN (x:Int) 2=1:=(by rw[dO (by omega)];omega);have aX:(x:Int)%2=1:=(by omega);have cQ:=fK j;have cV:2^(j+1)=2*2^j:=(by rw[Nat.pow_succ];omega);have aB:x≤131070:=(by have:=HX.out;omega);obtain⟨kl,kr,bP,bT,kx⟩:=kids_lev aB aY.out;have aL:=fun(W:World)=>Hs (x:Int) W;have aF:=fun(W:World)=>Gh (x:Int) W;rw[kl]at aL;rw[kr]at aF;have PS:=Nr (H:=H) (k:=j) HF.out;have PL:=Zh5 hP j (x-2^j);have hX:=HX.out;have b1:=s.out;have cU:=cY.out;have I1:=fun(W:World) (h:StepO o B I W) (N:Own W B 5 o (bvs R))=>IH j rfl (x-2^j) lv ow ob sb nb mb G G' w0 B o R W bP (by omega) HM.out HG.out bK.out bA.out aD.out (bL.out.trans h.1) (bO A.out h.1.size) N (by omega);have I2:=fun(u:Value) (W:World) (h:StepO o B I W) (N:Own W B 5 u (bvs (R++putS F H j (x-2^j))))=>IH j rfl (x+2^j) lv ow ob sb nb mb G G' w0 B u (R++putS F H j (x-2^j)) W bT (by omega) HM.out HG.out bK.out bA.out aD.out (bL.out.trans h.1) (bO A.out h.1.size) N (by rw[aI];omega);obtain⟨L1,a1⟩:=eX (putS F H j (x-2^j));obtain⟨L2,a9⟩:=eX (putS F H j (x+2^j));rw[←a1]at I1 PS;rw[←a9]at PS;simp only[←a1,←a9]at I2;obtain⟨xl,bQ⟩:=eX (x-2^j);obtain⟨xr,a4⟩:=eX (x+2^j);rw[←bQ]at I1 aL;simp only[←a4]at I2;rw[←a4]at aF;have dH:=Hd I1;have cK:=Hd I2;have cS:=Hd aL;have cH:=Hd aF;have dG:=Hd PS;clear I1 I2 aL aF PS PL kl kr bP bT kx a1 a9 bQ a4 hX b1 cU aB bE cV cQ;go_wp2_with fail;refine Hf [eF (.agg #[.int .i64 lv,.int .i64 ow,.map (some ob),.map (some sb)]),eF (.agg #[.int .i64 lv,.int .i64 ow,.map (some ob),.map (some sb)]),eF o,eF (.int .i64 (x:Nat)),eF (.int .i64 (xl:Nat)),fun u w'=>Grow I o B w' u (bvs (R++L1)),eF (.int .i64 (x:Nat)),eF (.int .i64 (xr:Nat)),fun u w'=>Grow I o B w' u (bvs (R++L1++L2)),fun u w'=>Grow I o B w' u (bvs (R++L1++L2))]
    (fun X=>StepO o B I X) (fun X Y=>StepO o B X Y) (some 5) 8 (by kernel_rfl) (by kernel_rfl) (by kernel_rfl) (by kernel_rfl)
    (kE (kE (kE (kE (kE (Cv (fun u x y h hi U=>h.next U A.out) (kE (kE (Ah (fun _ _ _ _ _ _=>trivial) (Ah (fun _ _ _ _ _ _=>trivial) Ae))))))))))
    (fun u x y h hb=>h.next hb A.out) (fun u x y h hb=>h.next hb A.out) (StepO.drew o B I) (fun X Y hx h=>StepO.of h (bO A.out hx.1.size)) (fun X Y hx U=>hx.trans U) ?_ ?_
   ·refine gO9 rfl ?_ (gO9 rfl ?_ (gP9 rfl ?_ rfl (gP9 rfl ?_ rfl (gO9 rfl ?_ (gO9 rfl ?_ (gP9 rfl ?_ rfl (gO9 rfl ?_ (gO9 rfl ?_ (gT9 rfl ?_ .nil)))))))))
    rotate_right
    ·intro a t N P;refine⟨rfl,?_⟩;intro K C;have M:Grow I o B t (a.tmps[49]?.getD undef) (bvs (R++L1++L2)):=P.1;obtain⟨v1,b⟩:=eX (a.tmps[49]?.getD undef);rw[←b]at M;have e1:=b.symm;clear b;go_simp;exact C _ _ M bR
    all_goals
     intro a t c l N P;have c:StepO o B I t:=c;refine⟨rfl,?_⟩;intro K C;try have cL:a.tmps[1]?.getD undef=o:=N 1 (by kernel_rfl)
     try have cX:a.tmps[2]?.getD undef=.int .i64 (x:Nat):=N 2 (by kernel_rfl)
     try have a2:a.tmps[3]?.getD undef=.pointer (some ⟨p,0,none⟩):=N 3 (by kernel_rfl)
     try have bN:=eqn P.1
     try have bF:=eqn P.2.1
     try have dJ:=eqn P.2.2.1
     try(refine Hd ?_;go_simp;exact C _ rfl)
    ·exact wp_load_row 101 (.tmp 3) rfl _ (evs a2) _ _ (0,0) _ (StepO.keep c b5.out b3.out) Tryz.underlying101 rfl (by kernel_rfl) (C _ _ rfl (fun _=>Af rfl bR))
    ·exact wp_load_row 101 (.tmp 3) rfl _ (evs a2) _ _ (0,0) _ (StepO.keep c b5.out b3.out) Tryz.underlying101 rfl (by kernel_rfl) (C _ _ rfl (fun _=>Af rfl bR))
    ·go_simp;refine(cS.out t).mono ?_;rintro e w2 ⟨rfl,rfl⟩;exact C _ _ rfl (fun _=>Af rfl bR)
    ·have l:Below I.heap.size I t:=l (by kernel_rfl);go_simp;refine(dH.out t c (O.out.own.below l lR)).mono ?_;rintro e w2 ⟨u,rfl,aO⟩;exact C _ _ (((Grow.start O.out.own A.out).next l A.out).trans aO) (fun _=>Ca rfl aO.step)
    ·go_simp;refine(cH.out t).mono ?_;rintro e w2 ⟨rfl,rfl⟩;exact C _ _ rfl (fun _=>Af rfl bR)
    ·have M:Grow I o B t (a.tmps[46]?.getD undef) (bvs (R++L1)):=P.2.1;obtain⟨v1,b⟩:=eX (a.tmps[46]?.getD undef);rw[←b]at M;have e1:=b.symm;clear b;go_simp;refine(cK.out v1 t c M.own).mono ?_;rintro e w2 ⟨u,rfl,aO⟩;exact C _ _ (M.trans aO) (fun h=>absurd rfl h)
   ·rintro f w9 z;have S1:Grow I o B w9 (f 1) (bvs (R++L1++L2)):=z.2.2.2.2.2.2.2.2.2.1;clear z;simp only[Aj,Aq,Dr,cZ,dA,dB,dC,Nat.reduceBEq,Nat.reduceAdd,dD,dE,cond_true,cond_false];obtain⟨u,hu⟩:=eX (f 1);rw[←hu]at S1⊢;have cF:=Hd S1;clear S1 hu;go_wp2_with fail;go_ret;refine⟨_,rfl,?_⟩;rw[dG.out,←cA,←bC.out,←cA];exact O.out.trans cF.out
theorem Zku (F:Int→Option NodeD)(H:Int→Option (List Nat))(hP:PieceOk F H):∀k,Zm1 F H k:=by
 intro k
 induction k with
 |zero=>exact Zg F H hP 0 fun j h=>by cases h
 |succ k ih=>exact Zg F H hP (k+1) fun j h=>by cases h;exact ih
open Go.Maps
def okS (s:SparseD):Bool:=Ck s&&Cn s.leaves s.own (Ai s.op) (Ax s.sh) (s.op.map (·.1)) (s.sh.map (·.1)) false
def Rv (s:SparseD)(w:World)(e:Ending)(w':World):Prop:=Below w.heap.size w w'∧
 if Ck s=true then∃ob sb,e=.returned (.tuple #[.agg #[.int .i64 s.leaves,.int .i64 s.own,.map (some ob),.map (some sb)],.bool (okS s)])∧w.heap.size≤ob∧w.heap.size≤sb∧ob≠sb∧∃G G',MapF w' ob s.op.length G∧NodesG w G (Ai s.op)∧MapF w' sb s.sh.length G'∧RunsH w G' (Ax s.sh)
 else e=.returned (.tuple #[.agg #[.int .i64 0,.int .i64 0,.map none,.map none],.bool (okS s)])
theorem Hm {l:List (Int×NodeD)} {x:Int}:x∈l.map (·.1)↔(Ai l x).isSome=true:=by
 induction l with
 |nil=>simp[Ai]
 |cons p l ih=>
  rw[gG,aG,Ai]
  by_cases e:p.1=x
  ·rw[if_pos e];simp[e]
  ·rw[if_neg e,←ih];constructor
   ·rintro(h|h)
    ·exact absurd h.symm e
    ·exact h
   ·exact .inr
theorem Ip {l:List (Int×List Nat)} {x:Int}:x∈l.map (·.1)↔(Ax l x).isSome=true:=by
 induction l with
 |nil=>simp[Ax]
 |cons p l ih=>
  rw[gG,aG,Ax]
  by_cases e:p.1=x
  ·rw[if_pos e];simp[e]
  ·rw[if_neg e,←ih];constructor
   ·rintro(h|h)
    ·exact absurd h.symm e
    ·exact h
   ·exact .inr
theorem Kj {α:Type} {l:List α} {f: α→Int} {g:Nat→Int}(hg:∀i (hi:i<l.length),g i=f l[i])(h:Hn g l.length=true):(l.map f).Pairwise (· < ·):=by
 have hr:=Rs (Kz h);rw[List.pairwise_iff_getElem];intro i j hi hj hij;simp only[gH]at hi hj;rw[gI,gI,←hg i hi,←hg j hj];exact(hr j hj).2 i hij
theorem Lj {s:SparseD}(hok:SparseOk s)(hs:Ec s=true):Zjo (Ai s.op):=by
 intro x d hd;have hm:=Dw hd;have:=hok.op _ hm;unfold Ec at hs;simp only[cL,List.all_eq_true]at hs;exact⟨this.1,this.2,hs.1.2 _ hm⟩
theorem Gt {s:SparseD}(hs:Ec s=true):s.op.length≤5000∧s.sh.length≤5000:=by
 unfold Ec at hs;simp only[cL,decide_eq_true_eq]at hs;exact⟨hs.1.1.1,hs.1.1.2⟩
theorem MapF.only {w w':World} {b n g:Nat} {F:Int→Option Value}(h:MapF w b n F)(ho:OnlyG g w w')(hne:b≠g):MapF w' b n F:=by
 have hlt:=h.lt;obtain⟨D,⟨es,clock,h0,h1⟩,h2⟩:=h;exact⟨D,⟨es,clock,(ho.2.2 b hlt hne).trans h0,h1⟩,h2⟩
theorem Ns (v:Value)(s:SparseD)(w:World)(h:SparseR w v s)(A:SparseOk s)(B:Ec s=true):
  Calls Tryz.prog 88 #[v] w (Rv s w):=by
 obtain⟨aT,a2⟩:=Gt B;have aD:=Hd fun(W:World) (hw:Below w.heap.size w W)=>Wn v s w W h hw A (by omega) (by omega);have P:=Hd fun(ob sb:Nat) (W:World) (hb:Ck s=true) (h1:PieceN W ob s.op.length (Ai s.op)) (h2:PieceH W sb s.sh.length (Ax s.sh))=>
  Pv s.leaves s.own ob sb s.op.length s.sh.length (Ai s.op) (Ax s.sh) (s.op.map (·.1)) (s.sh.map (·.1)) false W h1 h2 (by omega) (by omega) (Lj A B) (by
   unfold Ck at hb;rw[cL]at hb;exact Kj (g:=spK s.op) (fun i hi=>by unfold spK;rw[Lh hi]) hb.1) (fun x=>Hm) (by
   unfold Ck at hb;rw[cL]at hb;exact Kj (g:=stK s.sh) (fun i hi=>by unfold stK;rw[Nh hi]) hb.2) (fun x=>Ip) (by simp;omega) (by simp;omega) A.leaves A.own
 obtain⟨o,g,rfl,-,-⟩:=h;obtain⟨PB,aA⟩:=eX (Ck s);obtain⟨RB,M⟩:=eX (Cn s.leaves s.own (Ai s.op) (Ax s.sh) (s.op.map (·.1)) (s.sh.map (·.1)) false);have r:=Hd aA;have a3:=Hd M;have aQ:=Hd (show okS s=(PB&&RB) by rw[aA,M];rfl);have R:Hid (∀(W:World),Below w.heap.size w W→Calls Tryz.prog 148 #[.agg #[.int .i64 s.leaves,.int .i64 s.own,o,g]] W (Kg s w W)):=aD;obtain⟨lv,H⟩:=eX s.leaves;obtain⟨ow,how⟩:=eX s.own;have aK:=Hd H;have aH:=Hd how;rw[←H,←how]at R⊢;rw[←M,←H,←how]at P;clear aD aA M H how A B aT a2;obtain⟨h,hh⟩:=eX w.heap.size;have HH:=Hd hh;obtain⟨w2,C⟩:=eX ((w.alloc (.cells #[.int .i64 lv,.int .i64 ow,o,g] 25)).alloc (.cells #[.int .i64 0,.int .i64 0,.map none,.map none] 101));have aZ:=Hd C;have U:=Hd (show Below w.heap.size w w2 by rw[C];exact(bR.alloc lR _).alloc (by simp) _);have Q:=Hd (show Blk w2 (h+1) 101 #[.int .i64 0,.int .i64 0,.map none,.map none] by
  rw[C,hh];have h1:=Blk.new (w.alloc (.cells #[.int .i64 lv,.int .i64 ow,o,g] 25)) 101 #[.int .i64 0,.int .i64 0,.map none,.map none];simpa using h1)
 have S:=Hd (show w2.heap.size=h+2 by rw[C,hh];simp);clear C;go_enter Tryz.func88,Tryz.ntmps88;go_wp2_with fail;rw[←aZ.out,←hh];refine(R.out w2 U.out).mono ?_;rintro e E ⟨I,z⟩;have O:=Hd (U.out.trans (I.mono U.out.size));have a4:=Hd I;have d:=Hd (Q.out.below I Q.out.lt);rw[←r.out,←aK.out,←aH.out]at z;clear hh I;cases PB with
 |false=>
  rw[if_neg (by simp)]at z;obtain rfl:=z;obtain⟨q,V⟩:=eX E.heap.size;have b:=Hd (show Blk (E.alloc (.cells #[.int .i64 0,.int .i64 0,.map none,.map none] 101)) q 101 #[.int .i64 0,.int .i64 0,.map none,.map none] by rw[V];exact Blk.new _ _ _);have l:=Hd ((Below.refl E.heap.size E).alloc lR (.cells #[.int .i64 0,.int .i64 0,.map none,.map none] 101));have T:=Hd V;go_wp2_with fail;rw[←T.out];generalize hwr:E.alloc (.cells #[.int .i64 0,.int .i64 0,.map none,.map none] 101)=wr at b l⊢;have n:=Hd (d.out.below l.out d.out.lt);have p:=Hd (O.out.trans (l.out.mono O.out.size));have u:h+1<wr.heap.size:=n.out.lt;have a1:q≠h+1:=(by have:=d.out.lt;omega);have F:=Hd b.out;clear hwr V b;refine Bl [eF (.agg #[.int .i64 0,.int .i64 0,.map none,.map none]),eF (.bool false),eF (.bool false),eF undef,eF undef,eF (.bool false),fun v w'=>Blk w' (h+1) 101 #[.int .i64 0,.int .i64 0,.map none,.map none],eF (.bool false)]
   (cK 8 true) (fun X=>OnlyG (h+1) wr X) (fun X Y=>OnlyG (h+1) X Y) (some 6) (by kernel_rfl) ?_ ((OnlyG.of_below bR (eA u)).drewN 1) (fun X Y hx h=>OnlyG.of_below h (bO (eA u) hx.2.1)) (fun X Y hx B=>hx.trans B) (by kernel_rfl) (by kernel_rfl) ?_ ?_
  ·exact kE (kE (kE (kE (kE (kE (Cv (fun v x y k hi B=>k.below B k.lt) (kE Ae)))))))
  ·refine gOw (by kernel_rfl) ?_ (gP ?_ rfl (gP ?_ rfl (fO rfl rfl rfl rfl rfl rfl (fun _ _ D=>D.1) rfl (fO rfl rfl rfl rfl rfl rfl (fun _ _ D=>D.2.1) rfl (gP ?_ rfl (gOw (by kernel_rfl) ?_ (gP ?_ rfl .nil)))))));all_goals
    intro a wx m J ho D;have m:OnlyG (h+1) wr wx:=m;refine⟨rfl,?_⟩;intro K N;try have aB:a.tmps[2]?.getD undef=.pointer (some ⟨h+1,0,none⟩):=ho 2 (by kernel_rfl)
    try have L:a.tmps[4]?.getD undef=.pointer (some ⟨q,0,none⟩):=ho 4 (by kernel_rfl)
    try have aY:a.tmps[5]?.getD undef=.bool false:=ho 5 (by kernel_rfl)
    try have Z:=eqn D.1
    try have t:=n.out.below J n.out.lt
    try(refine Hd ?_;go_simp;exact N _ rfl)
   ·exact wp_load_row 101 (.tmp 4) rfl _ (evs L) _ _ (0,0) _ (F.out.only2 m (by omega)) Tryz.underlying101 rfl (by kernel_rfl) (N _ _ rfl (Af rfl bR))
   ·refine wp_store_row 101 (.tmp 2) (.tmp 11) rfl (h+1) #[.int .i64 0,.int .i64 0,.map none,.map none] (evs aB) (evs Z) _ _ t (by kernel_rfl) rfl (by rw[←Array.all_toList];rfl) ?_;exact N undef _ (setRow_heap wx (h+1) _ _ _ _ t) (Ca rfl (OnlyG.setRow (h+1) _))
  ·rintro f w9 j c;have j:OnlyG (h+1) wr w9:=j;have S3:f 3=.bool false:=c.2.2.2.2.2.2.2.1;have S2:Blk w9 (h+1) 101 #[.int .i64 0,.int .i64 0,.map none,.map none]:=c.2.2.2.2.2.2.1;clear c;simp only[Aj,Aq,Dr,cZ,dA,dB,dC,Nat.reduceBEq,Nat.reduceAdd,dD,dE,cond_true,cond_false];rw[S3];clear S3;go_wp2_with fail;refine bodyPost_ret (v:=.tuple #[.agg #[.int .i64 0,.int .i64 0,.map none,.map none],.bool false]) (Ad Tryz.results88 _ _ (h+1) _ _ _ rfl S2 Tryz.underlying101 rfl (by kernel_rfl)) rfl ?_;refine⟨p.out.trans (j.1.mono (by rw[HH.out];exact fZ _)),?_⟩;rw[←r.out,if_neg (by simp),aQ.out];rfl
 |true=>
  rw[if_pos rfl]at z;obtain⟨ob,sb,rfl,aF,aP,aG,G,G',aS,aM,aJ,aR⟩:=z;have aX:=Hd aS;have aU:=Hd aJ;have aL:=Hd aM;have aC:=Hd aR;have aW:=Hd aG;have aO:=Hd (show h+2≤ob by rw[←S.out];exact aF);have aI:=Hd (show h+2≤sb by rw[←S.out];exact aP);clear aS aJ aM aR aF aP aG;obtain⟨q,V⟩:=eX E.heap.size;have b:=Hd (show Blk (E.alloc (.cells #[.int .i64 lv,.int .i64 ow,.map (some ob),.map (some sb)] 101)) q 101 #[.int .i64 lv,.int .i64 ow,.map (some ob),.map (some sb)] by rw[V];exact Blk.new _ _ _);have l:=Hd ((Below.refl E.heap.size E).alloc lR (.cells #[.int .i64 lv,.int .i64 ow,.map (some ob),.map (some sb)] 101));have T:=Hd V;go_wp2_with fail;rw[←T.out];generalize hwr:E.alloc (.cells #[.int .i64 lv,.int .i64 ow,.map (some ob),.map (some sb)] 101)=wr at b l⊢;have n:=Hd (d.out.below l.out d.out.lt);have p:=Hd (O.out.trans (l.out.mono O.out.size));have u:h+1<wr.heap.size:=n.out.lt;have a1:q≠h+1:=(by have:=d.out.lt;omega);have F:=Hd b.out;have aN:=Hd (aX.out.below l.out lR);have aE:=Hd (aU.out.below l.out lR);have a0:=Hd fun(W:World) (hw:Below wr.heap.size wr W)=>P.out ob sb W r.out.symm ⟨G,aN.out.below hw lR,aL.out.below (p.out.trans (hw.mono p.out.size)) lR⟩ ⟨G',aE.out.below hw lR,aC.out.below (p.out.trans (hw.mono p.out.size)) lR⟩;clear hwr V b;refine Bl [eF (.agg #[.int .i64 lv,.int .i64 ow,.map (some ob),.map (some sb)]),eF (.bool true),eF (.bool true),eF (.agg #[.int .i64 lv,.int .i64 ow,.map (some ob),.map (some sb)]),eF (.bool RB),eF (.bool RB),fun v w'=>Blk w' (h+1) 101 #[.int .i64 lv,.int .i64 ow,.map (some ob),.map (some sb)],eF (.bool RB)]
   (cK 8 true) (fun X=>OnlyG (h+1) wr X) (fun X Y=>OnlyG (h+1) X Y) (some 6) (by kernel_rfl) ?_ ((OnlyG.of_below bR (eA u)).drewN 1) (fun X Y hx h=>OnlyG.of_below h (bO (eA u) hx.2.1)) (fun X Y hx B=>hx.trans B) (by kernel_rfl) (by kernel_rfl) ?_ ?_
  ·exact kE (kE (kE (kE (kE (kE (Cv (fun v x y k hi B=>k.below B k.lt) (kE Ae)))))))
  ·refine gOw (by kernel_rfl) ?_ (gP ?_ rfl (gP ?_ rfl (gO ?_ (gOw (by kernel_rfl) ?_ (gP ?_ rfl (gOw (by kernel_rfl) ?_ (gP ?_ rfl .nil)))))));all_goals
    intro a wx m J ho D;have m:OnlyG (h+1) wr wx:=m;refine⟨by first|rfl|exact Ag rfl rfl rfl D.1|exact Ag rfl rfl rfl D.2.1,?_⟩;intro K N;try have aB:a.tmps[2]?.getD undef=.pointer (some ⟨h+1,0,none⟩):=ho 2 (by kernel_rfl)
    try have L:a.tmps[4]?.getD undef=.pointer (some ⟨q,0,none⟩):=ho 4 (by kernel_rfl)
    try have aY:a.tmps[5]?.getD undef=.bool true:=ho 5 (by kernel_rfl)
    try have Z:=eqn D.1
    try have a5:=eqn D.2.1
    try have t:=n.out.below J n.out.lt
    try(refine Hd ?_;go_simp;exact N _ rfl)
   ·exact wp_load_row 101 (.tmp 4) rfl _ (evs L) _ _ (0,0) _ (F.out.only2 m (by omega)) Tryz.underlying101 rfl (by kernel_rfl) (N _ _ rfl (Af rfl bR))
   ·exact wp_load_row 101 (.tmp 4) rfl _ (evs L) _ _ (0,0) _ (F.out.only2 m (by omega)) Tryz.underlying101 rfl (by kernel_rfl) (N _ _ rfl (Af rfl bR))
   ·go_simp;refine(a0.out wx J).mono ?_;rintro e w2 ⟨rfl,aV⟩;exact N _ _ rfl (Af rfl aV)
   ·refine wp_store_row 101 (.tmp 2) (.tmp 11) rfl (h+1) #[.int .i64 lv,.int .i64 ow,.map (some ob),.map (some sb)] (evs aB) (evs Z) _ _ t (by kernel_rfl) rfl (by rw[←Array.all_toList];rfl) ?_;exact N undef _ (setRow_heap wx (h+1) _ _ _ _ t) (Ca rfl (OnlyG.setRow (h+1) _))
  ·rintro f w9 j c;have j:OnlyG (h+1) wr w9:=j;have S3:f 3=.bool RB:=c.2.2.2.2.2.2.2.1;have S2:Blk w9 (h+1) 101 #[.int .i64 lv,.int .i64 ow,.map (some ob),.map (some sb)]:=c.2.2.2.2.2.2.1;clear c;simp only[Aj,Aq,Dr,cZ,dA,dB,dC,Nat.reduceBEq,Nat.reduceAdd,dD,dE,cond_true,cond_false];rw[S3];clear S3;go_wp2_with fail;refine bodyPost_ret (v:=.tuple #[.agg #[.int .i64 lv,.int .i64 ow,.map (some ob),.map (some sb)],.bool RB]) (Ad Tryz.results88 _ _ (h+1) _ _ _ rfl S2 Tryz.underlying101 rfl (by kernel_rfl)) rfl ?_;refine⟨p.out.trans (j.1.mono (by rw[HH.out];exact fZ _)),?_⟩;rw[←r.out,if_pos rfl,aQ.out,←aK.out,←aH.out];exact⟨ob,sb,rfl,by rw[←HH.out];have:=aO.out;omega,by rw[←HH.out];have:=aI.out;omega,aW.out,G,G',aN.out.only j (by have:=aO.out;omega),aL.out,aE.out.only j (by have:=aI.out;omega),aC.out⟩
theorem Mg {l:List Int} {f:Nat→Int}(b:∀i (a:i<l.length),f i=l[i])(h:l.Pairwise (· < ·))(c:∀x∈l,0≤x):Hn f l.length=true:=by
 refine Ky fun i a=> ?_;unfold Ge;rw[b i a]
 by_cases e:i=0
 ·rw[if_pos e];have:=c l[i] (aL a);omega
 ·rw[if_neg e,b (i-1) (by omega)];exact List.pairwise_iff_getElem.1 h (i-1) i (by omega) a (by omega)
theorem Gu {l:List (Int×NodeD)}(h:(l.map (·.1)).Pairwise (· < ·)) {p:Int×NodeD}(c:p∈l):Ai l p.1=some p.2:=by
 obtain⟨i,a,rfl⟩:=dM c;have d:=Lh a;rw[←d];refine Qz a (fun j b e=> ?_) rfl;have:=List.pairwise_iff_getElem.1 h j i (by simp;omega) (by simpa using a) b;rw[gI,gI,←Lh (by omega),←Lh a]at this;omega
theorem Gv {l:List (Int×List Nat)}(h:(l.map (·.1)).Pairwise (· < ·)) {p:Int×List Nat}(c:p∈l):Ax l p.1=some p.2:=by
 obtain⟨i,a,rfl⟩:=dM c;have d:=Nh a;rw[←d];refine Rt a (fun j b e=> ?_) rfl;have:=List.pairwise_iff_getElem.1 h j i (by simp;omega) (by simpa using a) b;rw[gI,gI,←Nh (by omega),←Nh a]at this;omega
theorem Uj {x:Int}(h0:0≤x)(h:x%2=0):Zjl x=2:=by rw[Zjl,dO h0,if_neg (by omega)]
theorem Zh {x:Int}(h0:0≤x)(h:x%2=1):Zjl x=1:=by rw[Zjl,dO h0,if_pos h]
theorem Pw {n:Int} {p:Int×NodeD}(h:0≤p.1∧p.1≤2*n-2):Pr n p=true↔Ci p.1 p.2=true:=by
 constructor
 ·intro g;obtain⟨-,h2,h3,d,b⟩:=Nm g;unfold Ci;rw[h2,dK,cL,cN,gF];refine⟨?_,fun u f=>by rw[b u f];simp⟩;rw[decide_eq_true_iff];rcases Int.emod_two_eq p.1 with e|e
  ·rw[Uj h.1 e];exact fun hk=>h3 ⟨e,hk⟩
  ·rw[Zh h.1 e];exact fun hk=>d ⟨e,hk⟩
 ·intro a;have b:=Pu a;have h2:=Ib a;unfold Ci at a;rw[h2,dK,cL,decide_eq_true_iff]at a;refine Zh0 h h2 (fun hh=>a.1 ?_) (fun hh=>a.1 ?_) fun i c=>b _ ?_
  ·rw[Uj h.1 hh.1];exact hh.2
  ·rw[Zh h.1 hh.1];exact hh.2
  ·rw[List.getD_eq_getElem?_getD,List.getElem?_eq_getElem c];exact aL c
theorem Zi {d:NodeD}(h:Ao d=true) {u:Int}(hu:u∈d.par.late):∃m:Nat,u=(m:Int)∧m<65536:=by
 have:=Gc (Db h) u hu;exact⟨u.toNat,by omega,by omega⟩
theorem Nt (s:SparseD)(only:Bool):(Ck s&&Cn s.leaves s.own (Ai s.op) (Ax s.sh) (s.op.map (·.1)) (s.sh.map (·.1)) only)=Ar s only:=by
 rw[Bool.eq_iff_iff];cases hft:fits s.leaves.toNat with
 |false=>rw[Zed hft,Ub hft];simp
 |true=>
  by_cases ho:0≤s.own∧s.own<s.leaves
  ·obtain⟨d,z,H⟩:∃d,d≤16∧s.leaves=((2^d:Nat):Int):=by
    obtain⟨d,z,e⟩:=(fits_iff _).1 hft;exact⟨d,z,by omega⟩
   obtain⟨i,o⟩:∃i:Nat,s.own=(i:Int):=⟨s.own.toNat,by omega⟩;obtain⟨W,e2⟩:=Hk z;have X:=fK d;have t:2*i+1<2^(d+1):=(by omega);have k:=Ch (F:=fun n:Nat=>Ai s.op n) (i:=i) (only:=only) d (2^d-1) 0 [] (Cp d) (by omega);have q:=fun(r:Cu fun n:Nat=>Ai s.op n)=>(show(Bt (fun n:Nat=>Ai s.op n) i only d (2^d-1) 0 []).2.2=Kx (Ai s.op) d i only d∧_ from⟨Zb (FI:=Ai s.op) z (fun _=>rfl) r t,Ua (FI:=Ai s.op) (only:=only) z (fun _=>rfl) r t⟩);rw[Ar,Cn,hft,decide_eq_true ho,H,o,dI,dI,gK];simp only[dK,cL,Za,Zea,o];generalize Bt (fun n:Nat=>Ai s.op n) i only d (2^d-1) 0 []=V at k q⊢;constructor
   ·rintro⟨R,⟨⟨hk,M⟩,hh⟩,⟨g,b⟩,c⟩;have b:=of_decide_eq_true b;have c:=of_decide_eq_true c;have B:(s.op.map (·.1)).Pairwise (· < ·):=(by rw[←b];exact k.opr);have A:(s.sh.map (·.1)).Pairwise (· < ·):=(by rw[←c];exact k.shr);have L:∀p∈s.op,0≤p.1∧p.1≤2*((2^d:Nat):Int)-2:=fun p a=>by
     have v:p.1∈V.1:=(by rw[b];exact gJ a);obtain⟨m,e,h⟩:=k.op _ v;unfold inR at h;omega
    have j:∀p∈s.op,Ci p.1 p.2=true:=fun p a=>by
     have:=List.all_eq_true.1 M p.1 (gJ a)
     rwa [Gu B a]at this
    have r:Cu fun n:Nat=>Ai s.op n:=fun x D I u y=>by
     have a:=Dw I;have P:=j _ a;obtain⟨m,e,v⟩:=Zi (Ib P) y;exact⟨m,e,v,by have:=Pu P u y;rwa [e]at this⟩
    obtain⟨E,J⟩:=q r;obtain⟨G,C⟩:=J g;refine⟨⟨?_,?_⟩,⟨⟨hk,by rw[←E];exact g⟩,?_⟩,?_⟩
    ·exact List.all_eq_true.2 fun p a=>(Pw (L p a)).2 (j p a)
    ·refine List.all_eq_true.2 fun p a=> ?_;have:=List.all_eq_true.1 hh p.1 (gJ a)
     rwa [Gv A a]at this
    ·exact decide_eq_true (b.symm.trans G.symm)
    ·exact decide_eq_true (c.symm.trans C.symm)
   ·rintro⟨⟨w,K⟩,⟨⟨hk,g⟩,b⟩,c⟩;have b:=of_decide_eq_true b;have c:=of_decide_eq_true c;have r:Cu fun n:Nat=>Ai s.op n:=fun x D I u y=>by
     have a:=Dw I;obtain⟨-,h2,-,-,T⟩:=Nm (List.all_eq_true.1 w _ a);obtain⟨m,e,v⟩:=Zi h2 y;exact⟨m,e,v,by have:=T u y;rwa [e]at this⟩
    obtain⟨E,J⟩:=q r;rw[←E]at g;obtain⟨G,C⟩:=J g;rw[G]at b;rw[C]at c;have B:(s.op.map (·.1)).Pairwise (· < ·):=(by rw[b];exact k.opr);have A:(s.sh.map (·.1)).Pairwise (· < ·):=(by rw[c];exact k.shr);have S:∀x∈s.op.map (·.1),0≤x:=fun x hx=>(by rw[b]at hx;obtain⟨m,e,h⟩:=k.op _ hx;omega);have g2:∀x∈s.sh.map (·.1),0≤x:=fun x hx=>(by rw[c]at hx;obtain⟨m,e,h⟩:=k.sh _ hx;omega);have U:Ck s=true:=by
     have N:=Mg (l:=s.op.map (·.1)) (f:=spK s.op) (fun i o=>by simp only[gH]at o;rw[gI,spK,Lh o]) B S;have Q:=Mg (l:=s.sh.map (·.1)) (f:=stK s.sh) (fun i o=>by simp only[gH]at o;rw[gI,stK,Nh o]) A g2;rw[gH]at N Q;rw[Ck,N,Q];rfl
    refine⟨U,⟨⟨hk,?_⟩,?_⟩,⟨g,by rw[decide_eq_true_iff,b]⟩,by rw[decide_eq_true_iff,c]⟩
    ·refine List.all_eq_true.2 fun x hx=> ?_;obtain⟨p,a,rfl⟩:=List.mem_map.1 hx;rw[Gu B a];have O:=List.all_eq_true.1 w _ a;exact(Pw (Nm O).1).1 O
    ·refine List.all_eq_true.2 fun x hx=> ?_;obtain⟨p,a,rfl⟩:=List.mem_map.1 hx;rw[Gv A a];exact List.all_eq_true.1 K _ a
  ·rw[Zjm ho,Wl ho];simp
theorem Zjp (s:SparseD):okS s=Ar s false:=Nt s false
end Go.Proofs.YtfofaiommeckbaaGreat
