import Derived.Test.YtfofaiommeckbaaGreatZCk16
import Derived.Test.YtfofaiommeckbaaGreatZCk11
import Derived.Maps.RangeWalk
open Go.Obj renaming cells -> rJ
open Go.Ending renaming returned -> rK
open Go.Value renaming slice -> rC, pointer -> rE
open Option renaming none -> rI
open Go.Proofs.Tryz
open List renaming getElem?_toArray -> cR, getElem?_cons_zero -> cS, getElem?_cons_succ -> aP, any_eq_false -> gM, map_cons -> cZ, mem_cons -> aZ, length_map -> gH, getElem_map -> gN, replicate -> eK, filterMap_cons -> dG, filterMap_nil -> dH, contains_cons -> dJ, contains_nil -> dK, getElem_mem -> bC, getElem_of_mem -> dW, mem_map_of_mem -> gR
open Nat renaming le_succ -> gI, log2 -> bP, two_pow_pos -> fD, le_of_lt -> eW, log2_two_pow -> gS, le_trans -> eT
open Bool renaming and_eq_true -> aT, not_eq_true' -> aV, or_false -> dM, or_true -> dO, true_and -> dL
open Int renaming toNat_natCast -> cV, tmod_eq_emod_of_nonneg -> eD
set_option linter.unusedVariables false
set_option maxRecDepth 100000
set_option maxHeartbeats 40000000
namespace Go.Proofs.YtfofaiommeckbaaGreat
open Go.RowKit WalkM WireM
def Zbl:Array Value:=#[.int .u8 0,rC rI 0 0,rC rI 0 0,rC rI 0 0,.int .u8 0,rC rI 0 0,rC rI 0 0,rC rI 0 0,rC rI 0 0,rC rI 0 0]
def Zm8 (v:Value):Array Value:=match v with
 | .agg c=>c
 |_=>Zbl
def Fa (G:Int->Option Value)(x:Int):Array Value:=Zm8 ((G x).getD (.agg Zbl))
theorem NodesG.some {w:World} {G:Int->Option Value} {F:Int->Option NodeD}(h:NodesG w G F) {x:Int} {d:NodeD}(hF:F x=some d):G x=some (.agg (Fa G x))/\NodeC w d (Fa G x):=by
 have:=h x;rw[hF]at this;obtain⟨c,hc,hn⟩:=this;have e:Fa G x=c:=(by rw[Fa,hc];rfl);rw[e];exact⟨hc,hn⟩
theorem NodesG.none {w:World} {G:Int->Option Value} {F:Int->Option NodeD}(h:NodesG w G F) {x:Int}(hF:F x=none):G x=none/\Fa G x=Zbl:=by
 have:=h x;rw[hF]at this;have hg:G x=Option.none:=this;exact⟨hg,by rw[Fa,hg];rfl⟩
theorem NodesG.val {w:World} {G:Int->Option Value} {F:Int->Option NodeD}(h:NodesG w G F)(x:Int):(G x).getD (.agg Zbl)=.agg (Fa G x)/\(G x).isSome=(F x).isSome:=by
 cases hF:F x with
 |none=>obtain⟨h1,h2⟩:=h.none hF;rw[h1,h2];exact⟨rfl,rfl⟩
 |some d=>obtain⟨h1,-⟩:=h.some hF;rw[h1];exact⟨rfl,rfl⟩
theorem NodesG.ten {w:World} {G:Int->Option Value} {F:Int->Option NodeD}(h:NodesG w G F)(x:Int):∃c0 c1 c2 c3 c4 c5 c6 c7 c8 c9,Fa G x=#[c0,c1,c2,c3,c4,c5,c6,c7,c8,c9]:=by
 cases hF:F x with
 |none=>rw[(h.none hF).2];exact⟨_,_,_,_,_,_,_,_,_,_,rfl⟩
 |some d=>exact(h.some hF).2.ten
theorem NodesG.one {w:World} {G:Int->Option Value} {F:Int->Option NodeD}(h:NodesG w G F)(x:Int):(Fa G x).toList.all (·.oneCell')=true:=by
 cases hF:F x with
 |none=>rw[(h.none hF).2];rfl
 |some d=>exact(h.some hF).2.oneL
theorem Kq (w:World):(zeroValue 52).run prog w=.ok (.agg Zbl) w:=zeroValue52 w
theorem Zk1 (h ob n:Nat)(l o s:Value)(G:Int->Option Value)(F:Int->Option NodeD)(x:Int)(w0 w:World)(D:Blk w h 101 #[l,o,.map (some ob),s])(J:MapF w ob n G)(k:NodesG w0 G F)(hx:inI x):
  Calls prog 181 #[.int .i64 x,rE (some ⟨h,0,rI⟩)] w fun e w'=>e=rK (.tuple #[.agg (Fa G x),.bool (F x).isSome])/\Below w.heap.size w w':=by
 obtain⟨H,K⟩:=k.val x;have d:=Hd (k.one x);obtain⟨y,c1,c2,c3,c4,c5,z,A,B,C,I⟩:=k.ten x;rw[I]at H d|-;rw[<-K];have j:=fun(W:World) (N:Below w.heap.size w W)=>MapF.run_getOk (T:=98) (J.below N lR) underlying98 (Kq W) hx;rw[H]at j;obtain⟨O,i⟩:=eX ((G x).isSome);rw[<-i]at j|-;have L:=D.cell 2;simp only[cR,cS,aP]at L;have E:=D.lt;have t:=Hd j;have u:=t.out _ ((Below.refl w.heap.size w).alloc lR (rJ #[.int .u8 0,rC rI 0 0,rC rI 0 0,rC rI 0 0,.int .u8 0,rC rI 0 0,rC rI 0 0,rC rI 0 0,rC rI 0 0,rC rI 0 0] 52));have q:=Hd (show Blk (w.alloc (rJ #[.int .u8 0,rC rI 0 0,rC rI 0 0,rC rI 0 0,.int .u8 0,rC rI 0 0,rC rI 0 0,rC rI 0 0,rC rI 0 0,rC rI 0 0] 52)) w.heap.size 52 #[.int .u8 0,rC rI 0 0,rC rI 0 0,rC rI 0 0,.int .u8 0,rC rI 0 0,rC rI 0 0,rC rI 0 0,rC rI 0 0,rC rI 0 0]from Blk.new _ _ _);have g:=Hd ((Below.refl w.heap.size w).alloc lR (rJ #[.int .u8 0,rC rI 0 0,rC rI 0 0,rC rI 0 0,.int .u8 0,rC rI 0 0,rC rI 0 0,rC rI 0 0,rC rI 0 0,rC rI 0 0] 52));clear j J k D H K I i hx;go_in;go_wp2_with (refine Aa rfl 52 (.tmp 5) (.tmp 12) rfl (w.heap.size+1) #[y,c1,c2,c3,c4,c5,z,A,B,C] rfl rfl 52 #[.int .u8 0,rC rI 0 0,rC rI 0 0,rC rI 0 0,.int .u8 0,rC rI 0 0,rC rI 0 0,rC rI 0 0,rC rI 0 0,rC rI 0 0] (by have h1:=Blk.new (w.alloc (rJ #[.int .u8 0,rC rI 0 0,rC rI 0 0,rC rI 0 0,.int .u8 0,rC rI 0 0,rC rI 0 0,rC rI 0 0,rC rI 0 0,rC rI 0 0] 52)) 52 #[.int .u8 0,rC rI 0 0,rC rI 0 0,rC rI 0 0,.int .u8 0,rC rI 0 0,rC rI 0 0,rC rI 0 0,rC rI 0 0,rC rI 0 0];simpa using h1) (by kernel_rfl) rfl d.out ?_);rintro w3 a f c b;have m:=Hd ((g.out.alloc g.out.size (rJ #[.int .u8 0,rC rI 0 0,rC rI 0 0,rC rI 0 0,.int .u8 0,rC rI 0 0,rC rI 0 0,rC rI 0 0,rC rI 0 0,rC rI 0 0] 52)).trans (f w.heap.size (gI _)));have r:=Hd (show Blk w3 w.heap.size 52 #[.int .u8 0,rC rI 0 0,rC rI 0 0,rC rI 0 0,.int .u8 0,rC rI 0 0,rC rI 0 0,rC rI 0 0,rC rI 0 0,rC rI 0 0]from(c w.heap.size (by omega)).trans (q.out.alloc _));have P:=a.cell 0;have Q:=a.cell 1;have R:=a.cell 2;have S:=a.cell 3;have U:=a.cell 4;have V:=a.cell 5;have X:=a.cell 6;have Y:=a.cell 7;have Z:=a.cell 8;have k9:=a.cell 9;simp only[cR,cS,aP]at P Q R S U V X Y Z k9;clear a f c b u L E;go_wp2_with (refine Aa rfl 52 (.tmp 3) (.tmp 14) rfl w.heap.size #[y,c1,c2,c3,c4,c5,z,A,B,C] rfl rfl 52 #[.int .u8 0,rC rI 0 0,rC rI 0 0,rC rI 0 0,.int .u8 0,rC rI 0 0,rC rI 0 0,rC rI 0 0,rC rI 0 0,rC rI 0 0] r.out (by kernel_rfl) rfl d.out ?_);rintro w4 a f c b;have M:=Hd a;have p:=Hd (m.out.trans (f w.heap.size lR));clear a f c b;go_wp2_with fail;exact bodyPost_ret (v:=.tuple #[.agg #[y,c1,c2,c3,c4,c5,z,A,B,C],.bool O]) (Ac results181 _ _ w.heap.size _ _ _ rfl M.out underlying52 rfl (by kernel_rfl)) rfl ⟨rfl,p.out⟩
open Go.Maps
section
def Co (lv ow:Int)(F:Int->Option NodeD)(H:Int->Option (List Nat))(KF KH:List Int)(only:Bool):Bool:=
 fits lv.toNat&&decide (0<=ow/\ow<lv)&&decide (((F (2*ow)).getD Am).kind=1)&&(KF.all fun x=>Ce x ((F x).getD Am))&&(KH.all fun x=>decide (((H x).getD []).length=32))&&
  ((Cv (fun n:Nat=>F n) ow.toNat only (bP lv.toNat) (2^bP lv.toNat-1) 0 []).2.2&&decide ((Cv (fun n:Nat=>F n) ow.toNat only (bP lv.toNat) (2^bP lv.toNat-1) 0 []).1=KF)&&decide ((Cv (fun n:Nat=>F n) ow.toNat only (bP lv.toNat) (2^bP lv.toNat-1) 0 []).2.1=KH))
section
variable {lv ow:Int} {F:Int->Option NodeD} {H:Int->Option (List Nat)} {KF KH:List Int} {only:Bool}
theorem Zee (h:fits lv.toNat=false):Co lv ow F H KF KH only=false:=by rw[Co,h];rfl
theorem Zjt (h:¬(0<=ow/\ow<lv)):Co lv ow F H KF KH only=false:=by rw[Co,dF h];simp
theorem Zk2 (h:((F (2*ow)).getD Am).kind≠1):Co lv ow F H KF KH only=false:=by rw[Co,dF h];simp
theorem Zef {x:Int} {d:NodeD}(hk:∀x,x∈KF↔(F x).isSome=true)(hF:F x=some d)(h:Ce x d=false):Co lv ow F H KF KH only=false:=by
 have:(KF.all fun x=>Ce x ((F x).getD Am))=false:=List.all_eq_false.2 ⟨x,(hk x).2 (by rw[hF];rfl),by rw[hF];simpa using h⟩;rw[Co,this];simp
theorem Zl7 {x:Int} {L:List Nat}(hk:∀x,x∈KH↔(H x).isSome=true)(hF:H x=some L)(h:L.length≠32):Co lv ow F H KF KH only=false:=by
 have:(KH.all fun x=>decide (((H x).getD []).length=32))=false:=List.all_eq_false.2 ⟨x,(hk x).2 (by rw[hF];rfl),by rw[hF];simpa using h⟩;rw[Co,this];simp
theorem Zk3 (h1:fits lv.toNat=true)(h2:0<=ow/\ow<lv)(h3:((F (2*ow)).getD Am).kind=1)(hk:∀x,x∈KF↔(F x).isSome=true)(e:∀x d,F x=some d->Ce x d=true)(a:∀x,x∈KH↔(H x).isSome=true)(f:∀x L,H x=some L->L.length=32):
  Co lv ow F H KF KH only=((Cv (fun n:Nat=>F n) ow.toNat only (bP lv.toNat) (2^bP lv.toNat-1) 0 []).2.2&&decide ((Cv (fun n:Nat=>F n) ow.toNat only (bP lv.toNat) (2^bP lv.toNat-1) 0 []).1=KF)&&decide ((Cv (fun n:Nat=>F n) ow.toNat only (bP lv.toNat) (2^bP lv.toNat-1) 0 []).2.1=KH)):=by
 have b:(KF.all fun x=>Ce x ((F x).getD Am))=true:=List.all_eq_true.2 fun x hx=>by
  have:=(hk x).1 hx;cases hF:F x with
  |none=>rw[hF]at this;cases this
  |some d=>exact e x d hF
 have c:(KH.all fun x=>decide (((H x).getD []).length=32))=true:=List.all_eq_true.2 fun x hx=>by
  have:=(a x).1 hx;cases hF:H x with
  |none=>rw[hF]at this;cases this
  |some d=>exact dT (f x d hF)
 rw[Co,h1,dT h2,dT h3,b,c];simp
end
theorem Vb {w w':World} {P:Program} {k:TypeId} {b r n B:Nat} {D:DataW Value} {left:Lit->Bool} {d:Nat}(h:w.ranges P k rdV b r n D left d)(g:Below B w w')(h1:b<B)(h2:r<B):w'.ranges P k rdV b r n D left d:=by
 obtain⟨j,a,c,e,i,f,F,o,l,m,rest⟩:=h;exact⟨j,a,c,e,i,(g.block b h1).trans f,F,o,l,(g.block r h2).trans m,rest⟩
theorem Vc {D:DataW Value} {G:Int->Option Value}(h2:∀x,has D (.int .i64 x)=(G x).isSome)(h3:∀x v z,G x=some v->D.atKey (.int .i64 x) z=.held v) {x:Int} {c:Value}(a:∀zd,D.atKey (.int .i64 x) zd=.held c):G x=some c:=by
 cases hG:G x with
 |none=>
  have b:has D (.int .i64 x)=false:=(by rw[h2,hG];rfl);have:=a .nil;rw[atKey_of_not_has b]at this;cases this
 |some u=>
  have:=(h3 x u .nil hG).symm.trans (a .nil);cases this;rfl
theorem Zeg {key:Value} {kl:Lit}(h:keyOf prog 3 key=some kl):∃x:Int,key=.int .i64 x:=by
 obtain⟨x,e,_⟩:=Maps.keyOf_int_inv underlying3 h;exact⟨x,e⟩
theorem Zeh {x:Int} {kl:Lit}(h:keyOf prog 3 (.int .i64 x)=some kl):kl=.int .i64 x:=by
 obtain⟨x',e,e2,_⟩:=Maps.keyOf_int_inv underlying3 h;cases e;exact e2
theorem Zju {left:Lit->Bool} {x y:Int}(h:(left (.int .i64 y)&& !(Lit.int .i64 y).sameKey (.int .i64 x))=false):left (.int .i64 y)=false\/y=x:=by
 rw[Bool.and_eq_false_iff]at h;rcases h with h|h
 ·exact .inl h
 ·right
  have h2:(Lit.int .i64 y).sameKey (.int .i64 x)=true:=(by simpa using h);have:=(WideAt.sameKey_iff (Ug x)).1 h2;cases this;rfl
theorem Zbm (x0 x1 x2 x3 x4 x5 x6 x7 x8 x9:Value)(w:World):(Instr.field 52 (.agg #[x0,x1,x2,x3,x4,x5,x6,x7,x8,x9]) 0).run prog w=.ok x0 w:=by kernel_rfl
theorem Zj:∀(L:List Int) (a M:Int),L.Pairwise (· < ·)->(∀y∈L,a<=y/\y<M)->L.length<=(M-a).toNat:=by
 intro L
 induction L with
 |nil=>intro a M _ _;simp
 |cons x L ih=>
  intro a M b c;rw[List.pairwise_cons]at b;have h1:=c x (by simp);have:=ih (x+1) M b.2 fun y d=>⟨by have:=b.1 y d;omega,(c y (by simp[d])).2⟩;rw[List.length_cons];omega
theorem Hu {x:Int} {d:NodeD}(h:Ce x d=true):At d=true:=by unfold Ce at h;rw[aT]at h;exact h.1
theorem Qm {x:Int} {d:NodeD}(h:Ce x d=true):∀u∈d.par.late,Bv (2*u) x=true:=by
 unfold Ce at h;rw[aT,aT,aV,gM]at h;intro u hu;have:=h.2.2 u hu;simpa using this
def Zjv (F:Int->Option NodeD):Prop:=∀x d,F x=some d->inI x/\NodeOk d/\Cj d=true
theorem Lq {w w':World} {P:Program} {k:TypeId} {b n B:Nat} {D:DataW Value}(h:w.ownsMap P k rdV b n D)(hb:Below B w w')(hB:b<B):w'.ownsMap P k rdV b n D:=by
 obtain⟨es,clock,h0,h1⟩:=h;exact⟨es,clock,(hb.block b hB).trans h0,h1⟩
theorem Zh6 {w:World} {G:Int->Option Value} {F:Int->Option NodeD}(h:NodesG w G F) {x:Int} {v:Value}(a:G x=some v):∃d c,F x=some d/\v=.agg c/\NodeC w d c:=by
 have:=h x;cases hF:F x with
 |none=>rw[hF]at this;have h2:G x=none:=this;rw[h2]at a;cases a
 |some d=>rw[hF]at this;obtain⟨c,b,e⟩:=this;rw[a]at b;cases b;exact⟨d,c,rfl,rfl,e⟩
theorem Zk4 {w:World} {G:Int->Option Value} {H:Int->Option (List Nat)}(h:RunsH w G H) {x:Int} {v:Value}(a:G x=some v):∃L,H x=some L/\Rd w v (bvs L):=by
 have:=h x;cases hF:H x with
 |none=>rw[hF]at this;have h2:G x=none:=this;rw[h2]at a;cases a
 |some d=>rw[hF]at this;obtain⟨c,b,e⟩:=this;rw[a]at b;cases b;exact⟨d,rfl,e⟩
theorem Qn (lv ow:Int) (ob sb nb mb:Nat) (F:Int->Option NodeD) (H:Int->Option (List Nat)) (KF KH:List Int) (only:Bool) (w:World) (hN:PieceN w ob nb F) (hH:PieceH w sb mb H) (eV:nb<=1000000) (eU:mb<=1000000) (f:Zjv F)
  (dY:KF.Pairwise (· < ·)) (Y:∀x,x∈KF↔(F x).isSome=true) (dZ:KH.Pairwise (· < ·)) (Z:∀x,x∈KH↔(H x).isSome=true) (dU:KF.length<=1000000) (dV:KH.length<=1000000) (N:inI lv) (how:inI ow):
  Calls prog 123 #[.agg #[.int .i64 lv,.int .i64 ow,.map (some ob),.map (some sb)],.bool only] w fun e w'=>e=rK (.bool (Co lv ow F H KF KH only))/\Below w.heap.size w w':=by
 obtain⟨G,⟨D,b5,a6,b6⟩,hG⟩:=hN;obtain⟨G',⟨D',b7,a7,b8⟩,aF⟩:=hH;have hG:NodesG w G F:=hG;have aF:RunsH w G' H:=aF;have fB:=b5.lt;have fC:=b7.lt;have bH:=Hd fun(W:World) (h:W.ownsMap prog 3 rdV ob nb D)=>(show MapF W ob nb G from⟨D,h,a6,b6⟩);have bV:=Hd fun(W:World) (h:W.ownsMap prog 3 rdV sb mb D')=>(show MapF W sb mb G' from⟨D',h,a7,b8⟩);have cQ:=Hd fun(x:Int) (c:Value) (t:∀zd,D.atKey (.int .i64 x) zd=.held c)=>Zh6 hG (Vc a6 b6 t);have bS:=Hd fun(x:Int) (c:Value) (t:∀zd,D'.atKey (.int .i64 x) zd=.held c)=>Zk4 aF (Vc a7 b8 t);have O:∀x d,F x=some d->has D (.int .i64 x)=true:=fun x d f=>by
  rw[a6,(hG.some f).1];rfl
 have bP:∀x L,H x=some L->has D' (.int .i64 x)=true:=fun x L f=>by
  have:=aF x;rw[f]at this;obtain⟨v,hv,_⟩:=this;rw[a7,hv];rfl
 have eO:=Hd O;have dI:=Hd bP;have dB:=Hd (Zee (lv:=lv) (ow:=ow) (F:=F) (H:=H) (KF:=KF) (KH:=KH) (only:=only));have bX:=Hd (Zjt (lv:=lv) (ow:=ow) (F:=F) (H:=H) (KF:=KF) (KH:=KH) (only:=only));have a3:=Hd (Zk2 (lv:=lv) (ow:=ow) (F:=F) (H:=H) (KF:=KF) (KH:=KH) (only:=only));have dH:=Hd fun x d=>Zef (lv:=lv) (ow:=ow) (F:=F) (H:=H) (KF:=KF) (KH:=KH) (only:=only) (x:=x) (d:=d) Y;have dG:=Hd fun x d=>Zl7 (lv:=lv) (ow:=ow) (F:=F) (H:=H) (KF:=KF) (KH:=KH) (only:=only) (x:=x) (L:=d) Z;have a4:=Hd fun h1 h2 h3 h4=>Zk3 (lv:=lv) (ow:=ow) (F:=F) (H:=H) (KF:=KF) (KH:=KH) (only:=only) h1 h2 h3 Y h4 Z;have bT:=Hd f;have a1:=Hd hG;have dM:Dg G KF:=⟨dY,fun x=>by rw[Y,(hG.val x).2]⟩;have dN:Dg G' KH:=⟨dZ,fun x=>by
  rw[Z];have:=aF x;cases f:H x with
  |none=>rw[f]at this;have h2:G' x=none:=this;rw[h2];exact Iff.rfl
  |some d=>rw[f]at this;obtain⟨c,hc,hn⟩:=this;rw[hc];exact Iff.rfl⟩
 have cU:=Hd dM;have cW:=Hd dN;have eG:=Hd dU;have eH:=Hd dV;obtain⟨OD,a9⟩:=eX ((F (2*ow)).getD Am);have eY:(G (2*ow)).getD (.agg Zbl)=.agg (Fa G (2*ow))/\NodeC w OD (Fa G (2*ow)):=by
  refine⟨(hG.val _).1,?_⟩;rw[a9];cases f:F (2*ow)with
  |none=>rw[(hG.none f).2];exact Mw w
  |some d=>exact(hG.some f).2
 have aW:OD.kind<256:=by
  rw[a9];cases hF2:F (2*ow)with
  |none=>decide
  |some d=>exact(f _ _ hF2).2.1.kind
 rw[<-a9]at a3 a4;obtain⟨e9,bM⟩:=eX (Co lv ow F H KF KH only);rw[<-bM]at dB bX a3 dH dG a4|-;obtain⟨C,bO⟩:=eY;obtain⟨x1,x2,x3,x4,x5,x6,x7,x8,b3,e3,dS,-⟩:=bO.frame;obtain⟨kd,dX⟩:=eX OD.kind;obtain⟨l8,d2⟩:=eX OD.par.late.length;rw[dS]at C;rw[<-dX]at aW a3 a4 C;rw[<-d2]at C;obtain⟨w1,P⟩:=eX (w.alloc (rJ #[.int .i64 lv,.int .i64 ow,.map (some ob),.map (some sb)] 101));have aM:=Hd P;have dP:Below w.heap.size w w1:=(by rw[P];exact(Below.refl w.heap.size w).alloc lR (rJ #[.int .i64 lv,.int .i64 ow,.map (some ob),.map (some sb)] 101));have K:=Hd dP;have u:=Hd (show w1.heap.size=w.heap.size+1 by rw[P];simp);have J:=Hd (show w1.ownsMap prog 3 rdV ob nb D by rw[P];exact b5.alloc _);have U:=Hd (show w1.ownsMap prog 3 rdV sb mb D' by rw[P];exact b7.alloc _);have aB:=Hd (show Blk w1 w.heap.size 101 #[.int .i64 lv,.int .i64 ow,.map (some ob),.map (some sb)] by rw[P];exact Blk.new w 101 #[.int .i64 lv,.int .i64 ow,.map (some ob),.map (some sb)]);have c0:=aB.out.cell 0;have c1:=aB.out.cell 1;have c2:=aB.out.cell 2;simp only[cR,cS,aP]at c0 c1 c2;unfold inI at N how;have e6:=Hd N;have e7:=Hd how;have b4:=fun(hi:inI (2*ow))=>MapF.run_get (T:=98) (bH.out _ J.out) underlying98 (Kq _) hi;rw[C]at b4;have dE:=Hd b4;have aC:=Hd (Jw lv w1 (by omega) (by omega));obtain⟨ft,cE⟩:=eX (fits lv.toNat);rw[<-cE]at aC;have S:=Hd cE;clear bM b5 a6 b6 hG b7 a7 b8 aF O bP f dY Y dZ Z dU dV N how a9 C bO dS dX d2 b4 cE dM dN dP P;cases ft with
 |false=>
  have HE:=Hd (dB.out S.out.symm);go_in;go_wp2_with fail;rw[<-aM.out];refine aC.out.mono ?_;rintro e w2 ⟨rfl,rfl⟩;go_wp2_with fail;go_ret;exact⟨Do HE.out,K.out⟩
 |true=>
  by_cases ho1:0<=ow
  ·have d4:decide (ow<0)=false:=dF (by omega)
   by_cases ho2:ow<lv
   ·have d5:decide (ow>=lv)=false:=dF (by omega);have a2:=Hd (show 0<=ow/\ow<lv from⟨ho1,ho2⟩);have e5:lv<=65536:=by
     obtain⟨d,hd,e⟩:=(fits_iff _).1 S.out.symm;have:2^d<=2^16:=Nat.pow_le_pow_right (by omega) hd;have fA:(2:Nat)^16=65536:=rfl;omega
    have cT:=Hd (show inI (2*ow) by unfold inI;omega);have RG:=dE.out cT.out;have FK:=Zbm (.int .u8 (kd:Nat)) x1 x2 x3 x4 x5 x6 x7 x8 (rC b3 l8 e3)
    by_cases hk1:kd=1
    ·have dW:((kd:Int) !=1)=false:=(by simp;omega);have eI:=Hd hk1;clear hk1;go_in;go_wp2_with fail;rw[<-aM.out];refine aC.out.mono ?_;rintro e w2 ⟨rfl,rfl⟩;go_wp2_with (first
      |(at_range;refine wpList_range_own _ rfl _ 98 rfl 3 52 Zjj underlying98 rdV ob nb D rfl J.out ?_;intro w0 g aS O)
      |go_in)
     try go_frame
     have e8:=Hd O;obtain⟨r,hr⟩:=eX w1.heap.size;rw[<-hr]at g|-;have HR:=Hd hr;have dC:=Hd g;have eC:=Hd (show Below r w1 w0 from by rw[hr];exact(Below.refl _ w1).grown aS lR (by intro k e;cases e));clear g aS O hr c0 c1 c2 RG FK
     go_loopw [5] (fun _ wr=>∃(left:Lit->Bool) (aO:Nat),wr.ranges prog 3 rdV ob r nb D left aO/\(∀x d,F x=some d->left (.int .i64 x)=false->Ce x d=true)/\Below r w1 wr) (fun _ wr=>wr.rangeLeft ob r)
     case atStart=>exact⟨_,_,dC.out,(fun x d f hl=>by rw[eO.out x d f]at hl;cases hl),eC.out⟩
     case round=>
      obtain⟨left,aO,aY,aX,hb⟩:=hrel;have c9:=Hd aX;have HB:=Hd hb;have aD:=Hd aY;clear aX hb aY;go_wp2_with (first
       |(at_next;refine wpList_next_ranges _ rfl _ rfl 3 Zjj rdV (Value.int .i64) (fun v:Value=>v) (fun e1 kl h=>Zeg h) (fun v y h=>⟨v,rfl⟩) ob r nb D left aO rfl aD.out ?_ ?_)
       |go_in)
      ·intro cC aU;have bD:=Hd (show∀x d,F x=some d->Ce x d=true from fun x d f=>c9.out x d f (aU _));clear cC aU;have cP:=Hd (aB.out.below HB.out (by rw[HR.out];exact aB.out.lt));have c3:=cP.out.cell 3;simp only[cR,cS,aP]at c3;have bW:=Hd (Lq U.out HB.out (by have:=HR.out;have:=u.out;omega));obtain⟨wo,rfl⟩:∃wo:World,wo=wr:=⟨_,rfl⟩;go_wp2_with (first
        |(at_range;refine wpList_range_own _ rfl _ 99 rfl 3 28 Zjj underlying99 rdV sb mb D' rfl bW.out ?_;intro w0 g aS O)
        |go_in)
       try go_frame
       obtain⟨r2,bB⟩:=eX wo.heap.size;rw[<-bB]at g|-;have dA:=Hd bB;have dD:=Hd g;have eD:=Hd (show Below r2 wo w0 from by rw[bB];exact(Below.refl _ wo).grown aS lR (by intro k e;cases e));clear g aS O bB c3
       go_loopw [8] (fun _ wr=>∃(left:Lit->Bool) (aO:Nat),wr.ranges prog 3 rdV sb r2 mb D' left aO/\(∀x L,H x=some L->left (.int .i64 x)=false->L.length=32)/\Below r2 wo wr) (fun _ wr=>wr.rangeLeft sb r2)
       case atStart=>exact⟨_,_,dD.out,(fun x d f hl=>by rw[dI.out x d f]at hl;cases hl),eD.out⟩
       case round=>
        obtain⟨a0,dO,aY,aX,hb⟩:=hrel;have bI:=Hd aX;have cO:=Hd hb;have aK:=Hd aY;clear aX hb aY;go_wp2_with (first
         |(at_next;refine wpList_next_ranges _ rfl _ rfl 3 Zjj rdV (Value.int .i64) (fun v:Value=>v) (fun e1 kl h=>Zeg h) (fun v y h=>⟨v,rfl⟩) sb r2 mb D' a0 dO rfl aK.out ?_ ?_)
         |go_in)
        ·intro cC aU;have bQ:=Hd (show∀x L,H x=some L->L.length=32 from fun x d f=>bI.out x d f (aU _));clear cC aU;obtain⟨d,hd,N⟩:∃d,d<=16/\lv=((2^d:Nat):Int):=by
          obtain⟨d,hd,e⟩:=(fits_iff _).1 S.out.symm;exact⟨d,hd,by have:=a2.out;omega⟩
         obtain⟨i,rfl⟩:∃i:Nat,ow=(i:Int):=⟨ow.toNat,by have:=a2.out.1;omega⟩;have eT:i<=65536:=(by have:=a2.out.2;omega);obtain⟨hM,e2⟩:=Dh hd;have hp:=fD d;have d8:w.heap.size<r:=(by have:=HR.out;have:=u.out;omega);have eZ:r<=r2:=(by have:=aD.out.lt;have:=dA.out;omega);have z:Below r w1 wr:=HB.out.trans (cO.out.mono eZ);have b0:=Hd (K.out.trans (z.mono (eW d8)));have o:=Hd (aB.out.below z d8);have cZ:=Hd (bH.out _ (Lq J.out z (by omega)));have c4:=Hd (bV.out _ (Lq U.out z (by omega)));have AN:AtN wr (fun n:Nat=>F n) (fun n:Nat=>Fa G n):=⟨fun x=>a1.out.ten x,fun x d f=>((a1.out.some f).2).below b0.out lR,fun x=>a1.out.one x,fun x d f=>(bT.out _ _ f).2.1.kind,fun x d f=>⟨Fo (Cy (Hu (bD.out _ _ f))),by have:=oD (bT.out _ _ f).2.2;omega⟩⟩;have cN:∀x,x<2*2^d-1->AtC 181 w.heap.size wr wr.heap.size (fun n:Nat=>F n) (fun n:Nat=>Fa G n) x:=fun x hx W hW=>Zk1 w.heap.size ob nb _ _ _ G F (x:Int) w W (o.out.below hW o.out.lt) (cZ.out.below hW lR) a1.out (by unfold inI;omega);have a5:=Tz 181 w.heap.size (fun _ _=>rfl) (fun n:Nat=>F n) (fun n:Nat=>Fa G n) wr AN d i only eT hd cN;have aN:=a4.out S.out.symm a2.out eI.out bD.out bQ.out;rw[<-N]at a5;rw[N]at aN;simp only[cV,gS]at aN;have SP:=Ee (F:=fun n:Nat=>F n) (i:=i) (only:=only) d (2^d-1) 0 [] (Hq d) (by omega);obtain⟨V,hV⟩:=eX (Cv (fun n:Nat=>F n) i only d (2^d-1) 0 []);rw[<-hV]at a5 aN SP;have d0:V.1.length<=1000000:=by
          have:=Zj V.1 0 131071 SP.opr fun y I=>(by obtain⟨m,e,h⟩:=SP.op y I;unfold inR at h;omega);omega
         have d1:V.2.1.length<=1000000:=by
          have:=Zj V.2.1 0 131071 SP.shr fun y I=>(by obtain⟨m,e,h⟩:=SP.sh y I;unfold inR at h;omega);omega
         have c7:=Hd a5;have p:=Hd aN;have eK:=Hd d0;have eL:=Hd d1;have c0:=o.out.cell 0;have c1:=o.out.cell 1;simp only[cR,cS,aP]at c0 c1;clear N hM e2 hp z AN cN a5 aN SP hV d0 d1 hd;go_wp2_with fail;refine c7.out.mono ?_;rintro e w6 ⟨vo,vs,rfl,cJ,cK,aR⟩;have eR:=Hd cJ.rd;have eS:=Hd cK.rd;have aL:=Hd (b0.out.trans (aR.mono b0.out.size));have eM:=Hd (cZ.out.below aR lR);have cX:=Hd (c4.out.below aR lR);have aH:=Hd (o.out.below aR o.out.lt);have dL:=Hd aH.out.lt;have k2:=aH.out.cell 2;simp only[cR,cS,aP]at k2;obtain⟨p1,p2,p3,rfl⟩:=Cx cJ;obtain⟨q1,q2,q3,rfl⟩:=Cx cK;obtain⟨ok,aW⟩:=eX V.2.2;rw[<-aW];rw[<-aW]at p;clear cJ cK aR c0 c1 aW;cases ok with
         |false=>
          go_wp2_with fail;go_ret;exact⟨Do (by rw[p.out];rfl),aL.out⟩
         |true=>
          have HK:=Hd (Uh (some ob) w6);have eP:=Hd (Of ob nb w6.heap.size G KF (w6.alloc (rJ #[.map (some ob)] 98)) (eM.out.alloc _) cU.out eV (by rw[(Blk.new w6 _ _).cell];rfl) (by simp));have cL:=Hd ((Below.refl w6.heap.size w6).alloc lR (rJ #[.map (some ob)] 98));go_wp2_with fail;refine HK.out.mono ?_;rintro e w7 ⟨rfl,rfl⟩;go_wp2_with fail;refine eP.out.mono ?_;rintro e w8 ⟨v8,rfl,cI,A⟩;have j:=Hd (cL.out.trans (A.mono cL.out.size));have eQ:=Hd cI.rd;have dK:=Hd (eR.out.below j.out lR);have aI:=Hd (Ys _ _ V.1 KF w8 dK.out eQ.out eK.out eG.out);obtain⟨t1,t2,t3,rfl⟩:=Cx cI;obtain⟨b1,cA⟩:=eX (decide (V.1=KF));rw[<-cA]at aI;rw[<-cA]at p;clear cI A cA;cases b1 with
          |false=>
           go_wp2_with fail;refine aI.out.mono ?_;rintro e w9 ⟨rfl,n9,rfl⟩;go_wp2_with fail;go_ret;exact⟨Do (by rw[p.out];rfl),Ab (aL.out.trans (j.out.mono aL.out.size)) _⟩
          |true=>
           have bF:=Hd (fun n9=>(aH.out.below j.out dL.out).drewN n9);have bK:=Hd (fun n9=>(eS.out.below j.out lR).drewN n9);have cY:=Hd (fun n9=>(cX.out.below j.out lR).drewN n9);go_wp2_with fail;refine aI.out.mono ?_;rintro e w9 ⟨rfl,n9,rfl⟩;have k3:=(bF.out n9).cell 3;simp only[cR,cS,aP]at k3;have bR:=Hd (show Below w6.heap.size w6 (w8.drewN n9)from Ab j.out _);have bL:=Hd (bK.out n9);have c5:=Hd (cY.out n9);obtain⟨w9,eB⟩:=eX (w8.drewN n9);rw[<-eB]at bR bL c5 k3|-;clear eB bF bK cY;have eJ:=Hd (Ui (some sb) w9);have dJ:=Hd (Og sb mb w9.heap.size G' KH (w9.alloc (rJ #[.map (some sb)] 99)) (c5.out.alloc _) cW.out eU (by rw[(Blk.new w9 _ _).cell];rfl) (by simp));have cM:=Hd ((Below.refl w9.heap.size w9).alloc lR (rJ #[.map (some sb)] 99));go_wp2_with fail;refine eJ.out.mono ?_;rintro e fG ⟨rfl,rfl⟩;go_wp2_with fail;refine dJ.out.mono ?_;rintro e e4 ⟨fF,rfl,aZ,bN⟩;have bE:=Hd (cM.out.trans (bN.mono cM.out.size));have bG:=Hd (Ys _ _ V.2.1 KH e4 (bL.out.below bE.out lR) aZ.rd eL.out eH.out);have eE:=Hd (aL.out.trans ((bR.out.trans (bE.out.mono bR.out.size)).mono aL.out.size));obtain⟨s1,s2,s3,rfl⟩:=Cx aZ;obtain⟨b2,cB⟩:=eX (decide (V.2.1=KH));rw[<-cB]at bG;rw[<-cB]at p;clear aZ bN cB;go_wp2_with fail;refine bG.out.mono ?_;rintro e fH ⟨rfl,fE,rfl⟩;go_wp2_with fail;go_ret;exact⟨Do (by rw[p.out];rfl),Ab eE.out _⟩
        ·intro x c kl y1 y2 w5 aQ B cF hv t E aV aT bC cD;obtain rfl:=Zeh B;have I:y1=.held c:=(by unfold rdV at hv;cases hv;rfl);subst I;obtain⟨L,b9,d7⟩:=bS.out x c t;obtain⟨ua,uc,rfl⟩:∃a k,c=.slice a L.length k:=(by obtain⟨a,k,e,_⟩:=d7;exact⟨a,k,by rw[e,bvs_len]⟩);have aG:=Hd (cO.out.trans ((Below.refl r2 _).grown aT (by have:=aK.out.lt;omega) (by intro k e;cases e;exact lR)));have X:=Hd E;have bU:=Hd aV;have s:=Hd (fun(aE:L.length=32)=>(show∀y M,H y=some M->(a0 (.int .i64 y)&& !(Lit.int .i64 y).sameKey (.int .i64 x))=false->M.length=32 from fun y M I hl=>by
          rcases Zju hl with h|h
          ·exact bI.out y M I h
          ·rw[h,b9]at I;cases I;exact aE))
         have R:=Hd (dG.out x L b9);obtain⟨ul,eA⟩:=eX L.length;rw[<-eA]at s R cD|-;clear eA B cF hv t E aV aT bC b9 d7
         by_cases aE:ul=32
         ·have dQ:((ul:Int) !=32)=false:=(by simp;omega);have bZ:=Hd (s.out aE);clear aE;go_wp2_with fail
          go_roundw
          case rel=>exact⟨_,aQ,X.out,bZ.out,aG.out⟩
          case measure=>rw[X.out.left_eq,aK.out.left_eq];exact bU.out
         ·have dQ:((ul:Int) !=32)=true:=(by simp;omega);have HE:=Hd (R.out aE);have eF:=Hd (K.out.trans ((HB.out.trans (aG.out.mono (show r<=r2 by have:=aD.out.lt;have:=dA.out;omega))).mono (show w.heap.size<=r by have:=HR.out;have:=u.out;omega)));clear aE;go_wp2_with fail;go_ret;exact⟨Do HE.out,eF.out⟩
      ·intro x c kl y1 y2 w5 aQ B cF hv t E aV aT bC cD;obtain rfl:=Zeh B;have I:y1=.held c:=(by unfold rdV at hv;cases hv;rfl);subst I;obtain⟨d,cc,a8,rfl,bA⟩:=cQ.out x c t;have c6:=Hd bA.oneL;obtain⟨e0,d3,d9⟩:=bT.out x d a8;have aG:=Hd (HB.out.trans ((Below.refl r _).grown aT (by have:=aD.out.lt;omega) (by intro k e;cases e;exact lR)));have X:=Hd E;have bU:=Hd aV;have aJ:=Hd fun(W:World) (hw:Below w.heap.size w W)=>Wy x d cc W (bA.below hw lR) d3 d9 e0;have s:=Hd (fun(hp:Ce x d=true)=>(show∀y e,F y=some e->(left (.int .i64 y)&& !(Lit.int .i64 y).sameKey (.int .i64 x))=false->Ce y e=true from fun y e I hl=>by
        rcases Zju hl with h|h
        ·exact c9.out y e I h
        ·rw[h]at I|-;rw[a8]at I;cases I;exact hp))
       have R:=Hd (fun hp=>dH.out x d a8 hp);obtain⟨z0,z1,z2,z3,z4,z5,z6,z7,z8,z9,rfl⟩:=bA.ten;obtain⟨pd,cG⟩:=eX (Ce x d);rw[<-cG]at aJ;have c8:=Hd cG;have l:=Hd (K.out.trans (aG.out.mono (show w.heap.size<=r by have:=HR.out;have:=u.out;omega)));have bY:=Hd (show r<w5.heap.size from by rw[bC];exact aD.out.lt);obtain⟨q,hq⟩:=eX w5.heap.size;have HQ:=Hd hq;have eN:=Hd (show Blk (w5.alloc (rJ #[.int .u8 0,rC rI 0 0,rC rI 0 0,rC rI 0 0,.int .u8 0,rC rI 0 0,rC rI 0 0,rC rI 0 0,rC rI 0 0,rC rI 0 0] 52)) q 52 #[.int .u8 0,rC rI 0 0,rC rI 0 0,rC rI 0 0,.int .u8 0,rC rI 0 0,rC rI 0 0,rC rI 0 0,rC rI 0 0,rC rI 0 0] by rw[hq];exact Blk.new _ _ _);clear B cF hv t E aV aT bC a8 bA cG hq d9 d3;go_wp2_with (refine Aa rfl 52 (.tmp 6) (.tmp 45) rfl w5.heap.size #[z0,z1,z2,z3,z4,z5,z6,z7,z8,z9] rfl rfl 52 #[.int .u8 0,rC rI 0 0,rC rI 0 0,rC rI 0 0,.int .u8 0,rC rI 0 0,rC rI 0 0,rC rI 0 0,rC rI 0 0,rC rI 0 0] (HQ.out▸eN.out) (by kernel_rfl) rfl c6.out ?_);rintro w7 b dR d6 cH;rw[<-HQ.out]at b|-;have aA:=Hd (((Below.refl w5.heap.size w5).alloc lR (rJ #[.int .u8 0,rC rI 0 0,rC rI 0 0,rC rI 0 0,.int .u8 0,rC rI 0 0,rC rI 0 0,rC rI 0 0,rC rI 0 0,rC rI 0 0] 52)).trans (dR w5.heap.size lR));have k0:=b.cell 0;have k1:=b.cell 1;have k2:=b.cell 2;have k3:=b.cell 3;have k4:=b.cell 4;have k5:=b.cell 5;have k6:=b.cell 6;have k7:=b.cell 7;have k8:=b.cell 8;have k9:=b.cell 9;simp only[cR,cS,aP]at k0 k1 k2 k3 k4 k5 k6 k7 k8 k9;clear b dR d6 cH cD;cases pd with
       |true=>
        have bZ:=Hd (s.out c8.out.symm);go_wp2_with fail;refine(aJ.out _ (l.out.trans (aA.out.mono l.out.size))).mono ?_;rintro e w8 ⟨rfl,A⟩;have Q:=Hd (aA.out.trans (A.mono aA.out.size));clear A k0 k1 k2 k3 k4 k5 k6 k7 k8 k9;have bJ:=Hd (Vb X.out Q.out (by have:=bY.out;have:=HR.out;have:=u.out;omega) bY.out);have j:=Hd (aG.out.trans (Q.out.mono (eW bY.out)));go_wp2_with fail
        go_roundw
        case rel=>exact⟨_,aQ,bJ.out,bZ.out,j.out⟩
        case measure=>rw[bJ.out.left_eq,aD.out.left_eq];exact bU.out
       |false=>
        have HE:=Hd (R.out c8.out.symm);go_wp2_with fail;refine(aJ.out _ (l.out.trans (aA.out.mono l.out.size))).mono ?_;rintro e w8 ⟨rfl,A⟩;have Q:=Hd (aA.out.trans (A.mono aA.out.size));have j:=Hd (l.out.trans (Q.out.mono l.out.size));clear A k0 k1 k2 k3 k4 k5 k6 k7 k8 k9;go_wp2_with fail;go_ret;exact⟨Do HE.out,j.out⟩
    ·have dW:((kd:Int) !=1)=true:=(by simp;omega);have HE:=Hd (a3.out hk1);clear hk1;go_in;go_wp2_with fail;rw[<-aM.out];refine aC.out.mono ?_;rintro e w2 ⟨rfl,rfl⟩;go_wp2_with fail;go_ret;exact⟨Do HE.out,K.out⟩
   ·have d5:decide (ow>=lv)=true:=dT (by omega);have HE:=Hd (bX.out fun h=>ho2 h.2);clear ho1 ho2;go_in;go_wp2_with fail;rw[<-aM.out];refine aC.out.mono ?_;rintro e w2 ⟨rfl,rfl⟩;go_wp2_with fail;go_ret;exact⟨Do HE.out,K.out⟩
  ·have d4:decide (ow<0)=true:=dT (by omega);have HE:=Hd (bX.out fun h=>ho1 h.1);clear ho1;go_in;go_wp2_with fail;rw[<-aM.out];refine aC.out.mono ?_;rintro e w2 ⟨rfl,rfl⟩;go_wp2_with fail;go_ret;exact⟨Do HE.out,K.out⟩
end
def okS (s:SparseD):Bool:=Cu s&&Co s.leaves s.own (Ah s.op) (Ba s.sh) (s.op.map (·.1)) (s.sh.map (·.1)) false
def Zk (s:SparseD)(w:World)(e:Ending)(w':World):Prop:=Below w.heap.size w w'/\
 if Cu s=true then∃ob sb,e=rK (.tuple #[.agg #[.int .i64 s.leaves,.int .i64 s.own,.map (some ob),.map (some sb)],.bool (okS s)])/\w.heap.size<=ob/\w.heap.size<=sb/\ob≠sb/\∃G G',MapF w' ob s.op.length G/\NodesG w G (Ah s.op)/\MapF w' sb s.sh.length G'/\RunsH w G' (Ba s.sh)
 else e=rK (.tuple #[.agg #[.int .i64 0,.int .i64 0,.map none,.map none],.bool (okS s)])
theorem Nc {l:List (Int×NodeD)} {x:Int}:x∈l.map (·.1)↔(Ah l x).isSome=true:=by
 induction l with
 |nil=>simp[Ah]
 |cons p l ih=>
  rw[cZ,aZ,Ah]
  by_cases e:p.1=x
  ·rw[iP e];simp[e]
  ·rw[iN e,<-ih];constructor
   ·rintro(h|h)
    ·exact absurd h.symm e
    ·exact h
   ·exact .inr
theorem Iq {l:List (Int×List Nat)} {x:Int}:x∈l.map (·.1)↔(Ba l x).isSome=true:=by
 induction l with
 |nil=>simp[Ba]
 |cons p l ih=>
  rw[cZ,aZ,Ba]
  by_cases e:p.1=x
  ·rw[iP e];simp[e]
  ·rw[iN e,<-ih];constructor
   ·rintro(h|h)
    ·exact absurd h.symm e
    ·exact h
   ·exact .inr
theorem Kr {α:Type} {l:List α} {f: α->Int} {g:Nat->Int}(hg:∀i (hi:i<l.length),g i=f l[i])(h:Hb g l.length=true):(l.map f).Pairwise (· < ·):=by
 have hr:=Sj (Lp h);rw[List.pairwise_iff_getElem];intro i j hi hj hij;simp only[gH]at hi hj;rw[gN,gN,<-hg i hi,<-hg j hj];exact(hr j hj).2 i hij
theorem Mb {s:SparseD}(hok:SparseOk s)(hs:Ds s=true):Zjv (Ah s.op):=by
 intro x d hd;have hm:=Cd hd;have:=hok.op _ hm;unfold Ds at hs;simp only[aT,List.all_eq_true]at hs;exact⟨this.1,this.2,hs.1.2 _ hm⟩
theorem Gd {s:SparseD}(hs:Ds s=true):s.op.length<=5000/\s.sh.length<=5000:=by
 unfold Ds at hs;simp only[aT,decide_eq_true_eq]at hs;exact⟨hs.1.1.1,hs.1.1.2⟩
theorem MapF.only {w w':World} {b n g:Nat} {F:Int->Option Value}(h:MapF w b n F)(ho:OnlyG g w w')(hne:b≠g):MapF w' b n F:=by
 have hlt:=h.lt;obtain⟨D,⟨es,clock,h0,h1⟩,h2⟩:=h;exact⟨D,⟨es,clock,(ho.2.2 b hlt hne).trans h0,h1⟩,h2⟩
theorem Wz (v:Value)(s:SparseD)(w:World)(h:SparseR w v s)(z:SparseOk s)(B:Ds s=true):
  Calls prog 88 #[v] w (Zk s w):=by
 obtain⟨a0,a1⟩:=Gd B;have aK:=Hd fun(W:World) (hw:Below w.heap.size w W)=>Wx v s w W h hw z (by omega) (by omega);have Q:=Hd fun(ob sb:Nat) (W:World) (hb:Cu s=true) (h1:PieceN W ob s.op.length (Ah s.op)) (h2:PieceH W sb s.sh.length (Ba s.sh))=>
  Qn s.leaves s.own ob sb s.op.length s.sh.length (Ah s.op) (Ba s.sh) (s.op.map (·.1)) (s.sh.map (·.1)) false W h1 h2 (by omega) (by omega) (Mb z B) (by
   unfold Cu at hb;rw[aT]at hb;exact Kr (g:=spK s.op) (fun i hi=>by unfold spK;rw[Jc hi]) hb.1) (fun x=>Nc) (by
   unfold Cu at hb;rw[aT]at hb;exact Kr (g:=stK s.sh) (fun i hi=>by unfold stK;rw[Ko hi]) hb.2) (fun x=>Iq) (by simp;omega) (by simp;omega) z.leaves z.own
 obtain⟨o,g,rfl,-,-⟩:=h;obtain⟨PB,aA⟩:=eX (Cu s);obtain⟨RB,L⟩:=eX (Co s.leaves s.own (Ah s.op) (Ba s.sh) (s.op.map (·.1)) (s.sh.map (·.1)) false);have r:=Hd aA;have a4:=Hd L;have aI:=Hd (show okS s=(PB&&RB) by rw[aA,L];rfl);have P:Hid (∀(W:World),Below w.heap.size w W->Calls prog 148 #[.agg #[.int .i64 s.leaves,.int .i64 s.own,o,g]] W (Kp s w W)):=aK;obtain⟨lv,O⟩:=eX s.leaves;obtain⟨ow,how⟩:=eX s.own;have aD:=Hd O;have aJ:=Hd how;rw[<-O,<-how]at P|-;rw[<-L,<-O,<-how]at Q;clear aK aA L O how z B a0 a1;obtain⟨h,hh⟩:=eX w.heap.size;have HH:=Hd hh;obtain⟨w2,C⟩:=eX ((w.alloc (rJ #[.int .i64 lv,.int .i64 ow,o,g] 25)).alloc (rJ #[.int .i64 0,.int .i64 0,.map none,.map none] 101));have aX:=Hd C;have U:=Hd (show Below w.heap.size w w2 by rw[C];exact(bR.alloc lR _).alloc (by simp) _);have R:=Hd (show Blk w2 (h+1) 101 #[.int .i64 0,.int .i64 0,.map none,.map none] by
  rw[C,hh];have h1:=Blk.new (w.alloc (rJ #[.int .i64 lv,.int .i64 ow,o,g] 25)) 101 #[.int .i64 0,.int .i64 0,.map none,.map none];simpa using h1)
 have S:=Hd (show w2.heap.size=h+2 by rw[C,hh];simp);clear C;go_in;go_wp2_with fail;rw[<-aX.out,<-hh];refine(P.out w2 U.out).mono ?_;rintro e E ⟨M,A⟩;have F:=Hd (U.out.trans (M.mono U.out.size));have a3:=Hd M;have d:=Hd (R.out.below M R.out.lt);rw[<-r.out,<-aD.out,<-aJ.out]at A;clear hh M;cases PB with
 |false=>
  rw[iN (by simp)]at A;obtain rfl:=A;obtain⟨q,hq⟩:=eX E.heap.size;have b:=Hd (show Blk (E.alloc (rJ #[.int .i64 0,.int .i64 0,.map none,.map none] 101)) q 101 #[.int .i64 0,.int .i64 0,.map none,.map none] by rw[hq];exact Blk.new _ _ _);have j:=Hd ((Below.refl E.heap.size E).alloc lR (rJ #[.int .i64 0,.int .i64 0,.map none,.map none] 101));have V:=Hd hq;go_wp2_with fail;rw[<-V.out];generalize hwr:E.alloc (rJ #[.int .i64 0,.int .i64 0,.map none,.map none] 101)=wr at b j|-;have p:=Hd (d.out.below j.out d.out.lt);have n:=Hd (F.out.trans (j.out.mono F.out.size));have u:h+1<wr.heap.size:=p.out.lt;have a2:q≠h+1:=(by have:=d.out.lt;omega);have H:=Hd b.out;clear hwr hq b;refine Bd [eF (.agg #[.int .i64 0,.int .i64 0,.map none,.map none]),eF (.bool false),eF (.bool false),eF undef,eF undef,eF (.bool false),fun v w'=>Blk w' (h+1) 101 #[.int .i64 0,.int .i64 0,.map none,.map none],eF (.bool false)]
   (eK 8 true) (fun X=>OnlyG (h+1) wr X) (fun X Y=>OnlyG (h+1) X Y) (some 6) (by kernel_rfl) ?_ ((OnlyG.of_below bR (eW u)).drewN 1) (fun X Y hx h=>OnlyG.of_below h (eT (eW u) hx.2.1)) (fun X Y hx B=>hx.trans B) (by kernel_rfl) (by kernel_rfl) ?_ ?_
  ·exact kE (kE (kE (kE (kE (kE (Cp (fun v x y k hi B=>k.below B k.lt) (kE Ag)))))))
  ·refine gOw (by kernel_rfl) ?_ (gP ?_ rfl (gP ?_ rfl (fO rfl rfl rfl rfl rfl rfl (fun _ _ D=>D.1) rfl (fO rfl rfl rfl rfl rfl rfl (fun _ _ D=>D.2.1) rfl (gP ?_ rfl (gOw (by kernel_rfl) ?_ (gP ?_ rfl .nil)))))));all_goals
    intro a wx m N ho D;have m:OnlyG (h+1) wr wx:=m;refine⟨rfl,?_⟩;intro K J;try have Z:a.tmps[2]?.getD undef=rE (some ⟨h+1,0,rI⟩):=ho 2 (by kernel_rfl)
    try have I:a.tmps[4]?.getD undef=rE (some ⟨q,0,rI⟩):=ho 4 (by kernel_rfl)
    try have aY:a.tmps[5]?.getD undef=.bool false:=ho 5 (by kernel_rfl)
    try have T:=eqn D.1
    try have t:=p.out.below N p.out.lt
    try(refine Hd ?_;go_simp;exact J _ rfl)
   ·exact wp_load_row 101 (.tmp 4) rfl _ (evs I) _ _ (0,0) _ (H.out.only2 m (by omega)) underlying101 rfl (by kernel_rfl) (J _ _ rfl (Ai rfl bR))
   ·refine wp_store_row 101 (.tmp 2) (.tmp 11) rfl (h+1) #[.int .i64 0,.int .i64 0,.map none,.map none] (evs Z) (evs T) _ _ t (by kernel_rfl) rfl (by rw[<-Array.all_toList];rfl) ?_;exact J undef _ (setRow_heap wx (h+1) _ _ _ _ t) (Bu rfl (OnlyG.setRow (h+1) _))
  ·rintro f w9 l c;have l:OnlyG (h+1) wr w9:=l;have S3:f 3=.bool false:=c.2.2.2.2.2.2.2.1;have S2:Blk w9 (h+1) 101 #[.int .i64 0,.int .i64 0,.map none,.map none]:=c.2.2.2.2.2.2.1;clear c;simp only[Ao,Av,Ej,dG,dH,dJ,dK,Nat.reduceBEq,Nat.reduceAdd,dM,dO,cond_true,cond_false];rw[S3];clear S3;go_wp2_with fail;refine bodyPost_ret (v:=.tuple #[.agg #[.int .i64 0,.int .i64 0,.map none,.map none],.bool false]) (Ac results88 _ _ (h+1) _ _ _ rfl S2 underlying101 rfl (by kernel_rfl)) rfl ?_;refine⟨n.out.trans (l.1.mono (by rw[HH.out];exact gI _)),?_⟩;rw[<-r.out,iN (by simp),aI.out];rfl
 |true=>
  rw[iP rfl]at A;obtain⟨ob,sb,rfl,aP,aQ,aR,G,G',aN,aL,aO,aM⟩:=A;have aS:=Hd aN;have aU:=Hd aO;have aB:=Hd aL;have aC:=Hd aM;have aV:=Hd aR;have aG:=Hd (show h+2<=ob by rw[<-S.out];exact aP);have aH:=Hd (show h+2<=sb by rw[<-S.out];exact aQ);clear aN aO aL aM aP aQ aR;obtain⟨q,hq⟩:=eX E.heap.size;have b:=Hd (show Blk (E.alloc (rJ #[.int .i64 lv,.int .i64 ow,.map (some ob),.map (some sb)] 101)) q 101 #[.int .i64 lv,.int .i64 ow,.map (some ob),.map (some sb)] by rw[hq];exact Blk.new _ _ _);have j:=Hd ((Below.refl E.heap.size E).alloc lR (rJ #[.int .i64 lv,.int .i64 ow,.map (some ob),.map (some sb)] 101));have V:=Hd hq;go_wp2_with fail;rw[<-V.out];generalize hwr:E.alloc (rJ #[.int .i64 lv,.int .i64 ow,.map (some ob),.map (some sb)] 101)=wr at b j|-;have p:=Hd (d.out.below j.out d.out.lt);have n:=Hd (F.out.trans (j.out.mono F.out.size));have u:h+1<wr.heap.size:=p.out.lt;have a2:q≠h+1:=(by have:=d.out.lt;omega);have H:=Hd b.out;have aE:=Hd (aS.out.below j.out lR);have aF:=Hd (aU.out.below j.out lR);have aW:=Hd fun(W:World) (hw:Below wr.heap.size wr W)=>Q.out ob sb W r.out.symm ⟨G,aE.out.below hw lR,aB.out.below (n.out.trans (hw.mono n.out.size)) lR⟩ ⟨G',aF.out.below hw lR,aC.out.below (n.out.trans (hw.mono n.out.size)) lR⟩;clear hwr hq b;refine Bd [eF (.agg #[.int .i64 lv,.int .i64 ow,.map (some ob),.map (some sb)]),eF (.bool true),eF (.bool true),eF (.agg #[.int .i64 lv,.int .i64 ow,.map (some ob),.map (some sb)]),eF (.bool RB),eF (.bool RB),fun v w'=>Blk w' (h+1) 101 #[.int .i64 lv,.int .i64 ow,.map (some ob),.map (some sb)],eF (.bool RB)]
   (eK 8 true) (fun X=>OnlyG (h+1) wr X) (fun X Y=>OnlyG (h+1) X Y) (some 6) (by kernel_rfl) ?_ ((OnlyG.of_below bR (eW u)).drewN 1) (fun X Y hx h=>OnlyG.of_below h (eT (eW u) hx.2.1)) (fun X Y hx B=>hx.trans B) (by kernel_rfl) (by kernel_rfl) ?_ ?_
  ·exact kE (kE (kE (kE (kE (kE (Cp (fun v x y k hi B=>k.below B k.lt) (kE Ag)))))))
  ·refine gOw (by kernel_rfl) ?_ (gP ?_ rfl (gP ?_ rfl (gO ?_ (gOw (by kernel_rfl) ?_ (gP ?_ rfl (gOw (by kernel_rfl) ?_ (gP ?_ rfl .nil)))))));all_goals
    intro a wx m N ho D;have m:OnlyG (h+1) wr wx:=m;refine⟨by first|rfl|exact Bj rfl rfl rfl D.1|exact Bj rfl rfl rfl D.2.1,?_⟩;intro K J;try have Z:a.tmps[2]?.getD undef=rE (some ⟨h+1,0,rI⟩):=ho 2 (by kernel_rfl)
    try have I:a.tmps[4]?.getD undef=rE (some ⟨q,0,rI⟩):=ho 4 (by kernel_rfl)
    try have aY:a.tmps[5]?.getD undef=.bool true:=ho 5 (by kernel_rfl)
    try have T:=eqn D.1
    try have a5:=eqn D.2.1
    try have t:=p.out.below N p.out.lt
    try(refine Hd ?_;go_simp;exact J _ rfl)
   ·exact wp_load_row 101 (.tmp 4) rfl _ (evs I) _ _ (0,0) _ (H.out.only2 m (by omega)) underlying101 rfl (by kernel_rfl) (J _ _ rfl (Ai rfl bR))
   ·exact wp_load_row 101 (.tmp 4) rfl _ (evs I) _ _ (0,0) _ (H.out.only2 m (by omega)) underlying101 rfl (by kernel_rfl) (J _ _ rfl (Ai rfl bR))
   ·go_simp;refine(aW.out wx N).mono ?_;rintro e w2 ⟨rfl,aZ⟩;exact J _ _ rfl (Ai rfl aZ)
   ·refine wp_store_row 101 (.tmp 2) (.tmp 11) rfl (h+1) #[.int .i64 lv,.int .i64 ow,.map (some ob),.map (some sb)] (evs Z) (evs T) _ _ t (by kernel_rfl) rfl (by rw[<-Array.all_toList];rfl) ?_;exact J undef _ (setRow_heap wx (h+1) _ _ _ _ t) (Bu rfl (OnlyG.setRow (h+1) _))
  ·rintro f w9 l c;have l:OnlyG (h+1) wr w9:=l;have S3:f 3=.bool RB:=c.2.2.2.2.2.2.2.1;have S2:Blk w9 (h+1) 101 #[.int .i64 lv,.int .i64 ow,.map (some ob),.map (some sb)]:=c.2.2.2.2.2.2.1;clear c;simp only[Ao,Av,Ej,dG,dH,dJ,dK,Nat.reduceBEq,Nat.reduceAdd,dM,dO,cond_true,cond_false];rw[S3];clear S3;go_wp2_with fail;refine bodyPost_ret (v:=.tuple #[.agg #[.int .i64 lv,.int .i64 ow,.map (some ob),.map (some sb)],.bool RB]) (Ac results88 _ _ (h+1) _ _ _ rfl S2 underlying101 rfl (by kernel_rfl)) rfl ?_;refine⟨n.out.trans (l.1.mono (by rw[HH.out];exact gI _)),?_⟩;rw[<-r.out,iP rfl,aI.out,<-aD.out,<-aJ.out];exact⟨ob,sb,rfl,by rw[<-HH.out];have:=aG.out;omega,by rw[<-HH.out];have:=aH.out;omega,aV.out,G,G',aE.out.only l (by have:=aG.out;omega),aB.out,aF.out.only l (by have:=aH.out;omega),aC.out⟩
theorem Nd {l:List Int} {f:Nat->Int}(b:∀i (a:i<l.length),f i=l[i])(h:l.Pairwise (· < ·))(h0:∀x∈l,0<=x):Hb f l.length=true:=by
 refine Lo fun i a=> ?_;unfold Fq;rw[b i a]
 by_cases e:i=0
 ·rw[iP e];have:=h0 l[i] (bC a);omega
 ·rw[iN e,b (i-1) (by omega)];exact List.pairwise_iff_getElem.1 h (i-1) i (by omega) a (by omega)
theorem Oq {l:List (Int×NodeD)}(h:(l.map (·.1)).Pairwise (· < ·)) {p:Int×NodeD}(c:p∈l):Ah l p.1=some p.2:=by
 obtain⟨i,a,rfl⟩:=dW c;have d:=Jc a;rw[<-d];refine Sf a (fun j b e=> ?_) rfl;have:=List.pairwise_iff_getElem.1 h j i (by simp;omega) (by simpa using a) b;rw[gN,gN,<-Jc (by omega),<-Jc a]at this;omega
theorem Lr {l:List (Int×List Nat)}(h:(l.map (·.1)).Pairwise (· < ·)) {p:Int×List Nat}(c:p∈l):Ba l p.1=some p.2:=by
 obtain⟨i,a,rfl⟩:=dW c;have d:=Ko a;rw[<-d];refine Sk a (fun j b e=> ?_) rfl;have:=List.pairwise_iff_getElem.1 h j i (by simp;omega) (by simpa using a) b;rw[gN,gN,<-Ko (by omega),<-Ko a]at this;omega
theorem Vd {x:Int}(h0:0<=x)(h:x%2=0):Zjq x=2:=by rw[Zjq,eD h0,iN (by omega)]
theorem Zl {x:Int}(h0:0<=x)(h:x%2=1):Zjq x=1:=by rw[Zjq,eD h0,iP h]
theorem Qo {n:Int} {p:Int×NodeD}(h:0<=p.1/\p.1<=2*n-2):Db n p=true↔Ce p.1 p.2=true:=by
 constructor
 ·intro g;obtain⟨-,h2,h3,f,c⟩:=Oo g;unfold Ce;rw[h2,dL,aT,aV,gM];refine⟨?_,fun u j=>by rw[c u j];simp⟩;rw[dI];rcases Int.emod_two_eq p.1 with e|e
  ·rw[Vd h.1 e];exact fun hk=>h3 ⟨e,hk⟩
  ·rw[Zl h.1 e];exact fun hk=>f ⟨e,hk⟩
 ·intro a;have c:=Qm a;have h2:=Hu a;unfold Ce at a;rw[h2,dL,aT,dI]at a;refine Zf h h2 (fun b=>a.1 ?_) (fun b=>a.1 ?_) fun i d=>c _ ?_
  ·rw[Vd h.1 b.1];exact b.2
  ·rw[Zl h.1 b.1];exact b.2
  ·rw[List.getD_eq_getElem?_getD,List.getElem?_eq_getElem d];exact bC d
theorem Zm {d:NodeD}(h:At d=true) {u:Int}(hu:u∈d.par.late):∃m:Nat,u=(m:Int)/\m<65536:=by
 have:=Fo (Cy h) u hu;exact⟨u.toNat,by omega,by omega⟩
theorem Ve (s:SparseD)(only:Bool):(Cu s&&Co s.leaves s.own (Ah s.op) (Ba s.sh) (s.op.map (·.1)) (s.sh.map (·.1)) only)=Ar s only:=by
 rw[Bool.eq_iff_iff];cases hft:fits s.leaves.toNat with
 |false=>rw[Zee hft,Ma hft];simp
 |true=>
  by_cases ho:0<=s.own/\s.own<s.leaves
  ·obtain⟨d,t,E⟩:∃d,d<=16/\s.leaves=((2^d:Nat):Int):=by
    obtain⟨d,t,e⟩:=(fits_iff _).1 hft;exact⟨d,t,by omega⟩
   obtain⟨i,k⟩:∃i:Nat,s.own=(i:Int):=⟨s.own.toNat,by omega⟩;obtain⟨W,e2⟩:=Dh t;have X:=fD d;have v:2*i+1<2^(d+1):=(by omega);have j:=Ee (F:=fun n:Nat=>Ah s.op n) (i:=i) (only:=only) d (2^d-1) 0 [] (Hq d) (by omega);have q:=fun(r:Cz fun n:Nat=>Ah s.op n)=>(show(Cv (fun n:Nat=>Ah s.op n) i only d (2^d-1) 0 []).2.2=Ca (Ah s.op) d i only d/\_ from⟨Yz (FI:=Ah s.op) t (fun _=>rfl) r v,Zd4 (FI:=Ah s.op) (only:=only) t (fun _=>rfl) r v⟩);rw[Ar,Co,hft,dT ho,E,k,cV,cV,gS];simp only[dL,aT,Oj,Si,k];generalize Cv (fun n:Nat=>Ah s.op n) i only d (2^d-1) 0 []=V at j q|-;constructor
   ·rintro⟨T,⟨⟨hk,G⟩,S⟩,⟨g,b⟩,c⟩;have b:=oD b;have c:=oD c;have A:(s.op.map (·.1)).Pairwise (· < ·):=(by rw[<-b];exact j.opr);have B:(s.sh.map (·.1)).Pairwise (· < ·):=(by rw[<-c];exact j.shr);have M:∀p∈s.op,0<=p.1/\p.1<=2*((2^d:Nat):Int)-2:=fun p a=>by
     have w:p.1∈V.1:=(by rw[b];exact gR a);obtain⟨m,e,h⟩:=j.op _ w;unfold inR at h;omega
    have o:∀p∈s.op,Ce p.1 p.2=true:=fun p a=>by
     have:=List.all_eq_true.1 G p.1 (gR a)
     rwa [Oq A a]at this
    have r:Cz fun n:Nat=>Ah s.op n:=fun x D C u z=>by
     have a:=Cd C;have h1:=o _ a;obtain⟨m,e,w⟩:=Zm (Hu h1) z;exact⟨m,e,w,by have:=Qm h1 u z;rwa [e]at this⟩
    obtain⟨I,J⟩:=q r;obtain⟨K,L⟩:=J g;refine⟨⟨?_,?_⟩,⟨⟨hk,by rw[<-I];exact g⟩,?_⟩,?_⟩
    ·exact List.all_eq_true.2 fun p a=>(Qo (M p a)).2 (o p a)
    ·refine List.all_eq_true.2 fun p a=> ?_;have:=List.all_eq_true.1 S p.1 (gR a)
     rwa [Lr B a]at this
    ·exact dT (b.symm.trans K.symm)
    ·exact dT (c.symm.trans L.symm)
   ·rintro⟨⟨y,H⟩,⟨⟨hk,g⟩,b⟩,c⟩;have b:=oD b;have c:=oD c;have r:Cz fun n:Nat=>Ah s.op n:=fun x D C u z=>by
     have a:=Cd C;obtain⟨-,h2,-,-,R⟩:=Oo (List.all_eq_true.1 y _ a);obtain⟨m,e,w⟩:=Zm h2 z;exact⟨m,e,w,by have:=R u z;rwa [e]at this⟩
    obtain⟨I,J⟩:=q r;rw[<-I]at g;obtain⟨K,L⟩:=J g;rw[K]at b;rw[L]at c;have A:(s.op.map (·.1)).Pairwise (· < ·):=(by rw[b];exact j.opr);have B:(s.sh.map (·.1)).Pairwise (· < ·):=(by rw[c];exact j.shr);have Q:∀x∈s.op.map (·.1),0<=x:=fun x hx=>(by rw[b]at hx;obtain⟨m,e,h⟩:=j.op _ hx;omega);have g2:∀x∈s.sh.map (·.1),0<=x:=fun x hx=>(by rw[c]at hx;obtain⟨m,e,h⟩:=j.sh _ hx;omega);have U:Cu s=true:=by
     have N:=Nd (l:=s.op.map (·.1)) (f:=spK s.op) (fun i k=>by simp only[gH]at k;rw[gN,spK,Jc k]) A Q;have O:=Nd (l:=s.sh.map (·.1)) (f:=stK s.sh) (fun i k=>by simp only[gH]at k;rw[gN,stK,Ko k]) B g2;rw[gH]at N O;rw[Cu,N,O];rfl
    refine⟨U,⟨⟨hk,?_⟩,?_⟩,⟨g,by rw[dI,b]⟩,by rw[dI,c]⟩
    ·refine List.all_eq_true.2 fun x hx=> ?_;obtain⟨p,a,rfl⟩:=List.mem_map.1 hx;rw[Oq A a];have P:=List.all_eq_true.1 y _ a;exact(Qo (Oo P).1).1 P
    ·refine List.all_eq_true.2 fun x hx=> ?_;obtain⟨p,a,rfl⟩:=List.mem_map.1 hx;rw[Lr B a];exact List.all_eq_true.1 H _ a
  ·rw[Zjt ho,On ho];simp
theorem Zl8 (s:SparseD):okS s=Ar s false:=Ve s false
theorem Xa (v:Value)(s:SparseD)(w:World)(h:SparseR w v s)(l:SparseOk s)(t:Ds s=true):
  Calls prog 58 #[v] w fun e w'=>e=rK (.bool (Ar s false))/\Below w.heap.size w w':=by
 have r:=fun(W:World) (x:Below w.heap.size w W)=>Wz v s W (h.below x lR) l t;obtain⟨o,g,rfl,-,-⟩:=h;rw[<-Zl8];obtain⟨u,j⟩:=eX (Cu s);obtain⟨y,d⟩:=eX (okS s);have q:=Hd j;have n:=Hd d;have i:Hid (∀W,Below w.heap.size w W->Calls prog 88 #[.agg #[.int .i64 s.leaves,.int .i64 s.own,o,g]] W (Zk s W)):=r;obtain⟨lv,f⟩:=eX s.leaves;obtain⟨ow,how⟩:=eX s.own;have m:=Hd f;have p:=Hd how;rw[<-f,<-how]at i|-;rw[<-d];have c:=Hd ((Below.refl w.heap.size w).alloc lR (rJ #[.int .i64 lv,.int .i64 ow,o,g] 25));clear r l t j d f how;go_in;go_wp2_with fail;refine(i.out _ c.out).mono ?_;rintro e z ⟨k,a⟩;have b:=Hd (c.out.trans (k.mono c.out.size));rw[<-q.out,<-m.out,<-p.out,<-n.out]at a;clear k;cases u with
 |false=>
  rw[iN (by simp)]at a;obtain rfl:=a;go_wp2_with fail;go_ret;exact⟨rfl,b.out.alloc b.out.size _⟩
 |true=>
  rw[iP rfl]at a;obtain⟨ob,sb,rfl,-⟩:=a;go_wp2_with fail;go_ret;exact⟨rfl,b.out.alloc b.out.size _⟩
end Go.Proofs.YtfofaiommeckbaaGreat
namespace Go.Proofs.YtfofaiommeckbaaGreat
open Go.RowKit WalkM WireM
theorem Blk.rdV {w:World} {g:Nat} {t:TypeId} {cs:List Value}(h:Blk w g t cs.toArray)(hl:cs.length<=maxLen):Rd w (rC (some ⟨g,0,rI⟩) cs.length cs.length) cs:=
 ⟨_,_,rfl,lR,hl,.inr ⟨g,0,rfl,fun j u hu=>by rw[h.cell,Nat.zero_add];simpa using hu⟩⟩
theorem Zh7 {w:World} {G:Int->Option Value} {H:Int->Option (List Nat)}(h:RunsH w G H)(x:Nat):Rd w ((G (x:Int)).getD (rC rI 0 0)) (bvs (Iv H x)):=by
 have:=h (x:Int);unfold Iv;cases e:H (x:Int)with
 |none=>rw[e]at this;have this:G (x:Int)=none:=this;rw[this];exact(Own.nil w 0 5).rd
 |some L=>rw[e]at this;obtain⟨v,h1,h2⟩:=this;rw[h1];exact h2
open Go.Maps
theorem Zei {d:Nat}(hd:d<=16):Nl ((2^d:Nat):Int)=((2^d-1:Nat):Int):=by
 have hf:fits (((2^d:Nat):Int)).toNat=true:=(by rw[cV];exact(fits_iff _).2 ⟨d,hd,rfl⟩);have:=fD d;rw[Nl,iP hf];omega
theorem Jn {s:SparseD} {only:Bool}(h:Ar s only=true)(c:SparseOk s)(l:Ds s=true):
  PieceOk (Ah s.op) (Ba s.sh)/\∃d i:Nat,d<=16/\s.leaves=((2^d:Nat):Int)/\s.own=(i:Int)/\i<2^d/\bP s.leaves.toNat=d/\s.own.toNat=i:=by
 unfold Ar at h;simp only[aT]at h;obtain⟨⟨⟨⟨n,k⟩,g⟩,j⟩,-⟩:=h;have k:=oD k;simp only[Ds,aT]at l;refine⟨⟨fun x d f=> ?_,fun x L f=> ?_⟩,?_⟩
 ·have a:=Cd f;exact⟨(c.op _ a).2,List.all_eq_true.1 l.1.2 _ a,(Oo (List.all_eq_true.1 g _ a)).2.1⟩
 ·have a:=Uw f;exact⟨Nat.le_of_eq (oD (List.all_eq_true.1 j _ a)),(c.sh _ a).2⟩
 ·obtain⟨d,m,e⟩:=(fits_iff _).1 n;have b:s.leaves=((2^d:Nat):Int):=(by omega);exact⟨d,s.own.toNat,m,b,by omega,by omega,by rw[b,cV,gS],rfl⟩
end Go.Proofs.YtfofaiommeckbaaGreat
namespace Go.Proofs.YtfofaiommeckbaaGreat
open Go.RowKit WalkM WireM
