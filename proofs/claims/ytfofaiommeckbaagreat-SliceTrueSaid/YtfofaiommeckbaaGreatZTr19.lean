import Derived.Test.YtfofaiommeckbaaGreatZTr18
import Derived.Test.YtfofaiommeckbaaGreatZTr13
import Derived.Maps.RangeWalk
open Go.Obj renaming cells -> rK
open Go.Ending renaming returned -> rM
open Go.Value renaming slice -> rD, pointer -> rF
open Option renaming none -> rJ
open Go.Proofs.Tryz
open List renaming getElem?_toArray -> bY, getElem?_cons_zero -> bZ, getElem?_cons_succ -> cA, length_cons -> dB, any_eq_false -> gZ, map_cons -> cZ, mem_cons -> aB, length_map -> eE, getElem_map -> hQ, replicate -> cJ, filterMap_cons -> dG, filterMap_nil -> dH, contains_cons -> dJ, contains_nil -> dK, getElem_mem -> aG, getElem_of_mem -> eA, mem_map_of_mem -> iC, length_nil -> bU, length_append -> aD, append_assoc -> cY
open Nat renaming le_succ -> gJ, log2 -> aY, pow_le_pow_right -> aZ, two_pow_pos -> fK, le_of_lt -> fE, log2_two_pow -> iD, le_trans -> eN, lt_of_lt_of_le -> bO, le_of_eq -> iE
open Bool renaming and_eq_true -> cK, not_eq_true' -> cM, or_false -> dO, or_true -> dP, true_and -> dM
open Int renaming toNat_natCast -> cD, tmod_eq_emod_of_nonneg -> eM, tmod -> eL
set_option linter.unusedVariables false
set_option maxRecDepth 100000
set_option maxHeartbeats 40000000
namespace Go.Proofs.YtfofaiommeckbaaGreat
open Go.RowKit WalkM WireM
def Xh:Array Value:=#[.int .u8 0,rD rJ 0 0,rD rJ 0 0,rD rJ 0 0,.int .u8 0,rD rJ 0 0,rD rJ 0 0,rD rJ 0 0,rD rJ 0 0,rD rJ 0 0]
def Znl (v:Value):Array Value:=match v with
 | .agg c=>c
 |_=>Xh
def El (G:Int->Option Value)(x:Int):Array Value:=Znl ((G x).getD (.agg Xh))
theorem NodesG.some {w:World} {G:Int->Option Value} {F:Int->Option NodeD}(h:NodesG w G F) {x:Int} {d:NodeD}(hF:F x=some d):G x=some (.agg (El G x))/\NodeC w d (El G x):=by
 have:=h x;rw[hF]at this;obtain⟨c,hc,hn⟩:=this;have e:El G x=c:=(by rw[El,hc];rfl);rw[e];exact⟨hc,hn⟩
theorem NodesG.none {w:World} {G:Int->Option Value} {F:Int->Option NodeD}(h:NodesG w G F) {x:Int}(hF:F x=none):G x=none/\El G x=Xh:=by
 have:=h x;rw[hF]at this;have hg:G x=Option.none:=this;exact⟨hg,by rw[El,hg];rfl⟩
theorem NodesG.val {w:World} {G:Int->Option Value} {F:Int->Option NodeD}(h:NodesG w G F)(x:Int):(G x).getD (.agg Xh)=.agg (El G x)/\(G x).isSome=(F x).isSome:=by
 cases hF:F x with
 |none=>obtain⟨h1,h2⟩:=h.none hF;rw[h1,h2];exact⟨rfl,rfl⟩
 |some d=>obtain⟨h1,-⟩:=h.some hF;rw[h1];exact⟨rfl,rfl⟩
theorem NodesG.ten {w:World} {G:Int->Option Value} {F:Int->Option NodeD}(h:NodesG w G F)(x:Int):∃c0 c1 c2 c3 c4 c5 c6 c7 c8 c9,El G x=#[c0,c1,c2,c3,c4,c5,c6,c7,c8,c9]:=by
 cases hF:F x with
 |none=>rw[(h.none hF).2];exact⟨_,_,_,_,_,_,_,_,_,_,rfl⟩
 |some d=>exact(h.some hF).2.ten
theorem NodesG.one {w:World} {G:Int->Option Value} {F:Int->Option NodeD}(h:NodesG w G F)(x:Int):(El G x).toList.all (·.oneCell')=true:=by
 cases hF:F x with
 |none=>rw[(h.none hF).2];rfl
 |some d=>exact(h.some hF).2.oneL
theorem Fg (w:World):(zeroValue 52).run prog w=.ok (.agg Xh) w:=zeroValue52 w
theorem Zlm (h ob n:Nat)(l o s:Value)(G:Int->Option Value)(F:Int->Option NodeD)(x:Int)(w0 w:World)(D:Blk w h 101 #[l,o,.map (some ob),s])(J:MapF w ob n G)(k:NodesG w0 G F)(hx:inI x):
  Calls prog 181 #[.int .i64 x,rF (some ⟨h,0,rJ⟩)] w fun e w'=>e=rM (.tuple #[.agg (El G x),.bool (F x).isSome])/\Below w.heap.size w w':=by
 obtain⟨H,K⟩:=k.val x;have d:=Hd (k.one x);obtain⟨y,c1,c2,c3,c4,c5,z,A,B,C,I⟩:=k.ten x;rw[I]at H d|-;rw[<-K];have j:=fun(W:World) (O:Below w.heap.size w W)=>MapF.run_getOk (T:=98) (J.below O lR) underlying98 (Fg W) hx;rw[H]at j;obtain⟨P,i⟩:=eX ((G x).isSome);rw[<-i]at j|-;have L:=D.cell 2;simp only[bY,bZ,cA]at L;have E:=D.lt;have t:=Hd j;have u:=t.out _ ((Below.refl w.heap.size w).alloc lR (rK #[.int .u8 0,rD rJ 0 0,rD rJ 0 0,rD rJ 0 0,.int .u8 0,rD rJ 0 0,rD rJ 0 0,rD rJ 0 0,rD rJ 0 0,rD rJ 0 0] 52));have q:=Hd (show Blk (w.alloc (rK #[.int .u8 0,rD rJ 0 0,rD rJ 0 0,rD rJ 0 0,.int .u8 0,rD rJ 0 0,rD rJ 0 0,rD rJ 0 0,rD rJ 0 0,rD rJ 0 0] 52)) w.heap.size 52 #[.int .u8 0,rD rJ 0 0,rD rJ 0 0,rD rJ 0 0,.int .u8 0,rD rJ 0 0,rD rJ 0 0,rD rJ 0 0,rD rJ 0 0,rD rJ 0 0]from Blk.new _ _ _);have g:=Hd ((Below.refl w.heap.size w).alloc lR (rK #[.int .u8 0,rD rJ 0 0,rD rJ 0 0,rD rJ 0 0,.int .u8 0,rD rJ 0 0,rD rJ 0 0,rD rJ 0 0,rD rJ 0 0,rD rJ 0 0] 52));clear j J k D H K I i hx;go_in;go_wp2_with (refine Aa rfl 52 (.tmp 5) (.tmp 12) rfl (w.heap.size+1) #[y,c1,c2,c3,c4,c5,z,A,B,C] rfl rfl 52 #[.int .u8 0,rD rJ 0 0,rD rJ 0 0,rD rJ 0 0,.int .u8 0,rD rJ 0 0,rD rJ 0 0,rD rJ 0 0,rD rJ 0 0,rD rJ 0 0] (by have N:=Blk.new (w.alloc (rK #[.int .u8 0,rD rJ 0 0,rD rJ 0 0,rD rJ 0 0,.int .u8 0,rD rJ 0 0,rD rJ 0 0,rD rJ 0 0,rD rJ 0 0,rD rJ 0 0] 52)) 52 #[.int .u8 0,rD rJ 0 0,rD rJ 0 0,rD rJ 0 0,.int .u8 0,rD rJ 0 0,rD rJ 0 0,rD rJ 0 0,rD rJ 0 0,rD rJ 0 0];simpa using N) (by kernel_rfl) rfl d.out ?_);rintro w3 a f c b;have m:=Hd ((g.out.alloc g.out.size (rK #[.int .u8 0,rD rJ 0 0,rD rJ 0 0,rD rJ 0 0,.int .u8 0,rD rJ 0 0,rD rJ 0 0,rD rJ 0 0,rD rJ 0 0,rD rJ 0 0] 52)).trans (f w.heap.size (gJ _)));have r:=Hd (show Blk w3 w.heap.size 52 #[.int .u8 0,rD rJ 0 0,rD rJ 0 0,rD rJ 0 0,.int .u8 0,rD rJ 0 0,rD rJ 0 0,rD rJ 0 0,rD rJ 0 0,rD rJ 0 0]from(c w.heap.size (by omega)).trans (q.out.alloc _));have Q:=a.cell 0;have R:=a.cell 1;have S:=a.cell 2;have U:=a.cell 3;have V:=a.cell 4;have X:=a.cell 5;have Y:=a.cell 6;have Z:=a.cell 7;have k8:=a.cell 8;have k9:=a.cell 9;simp only[bY,bZ,cA]at Q R S U V X Y Z k8 k9;clear a f c b u L E;go_wp2_with (refine Aa rfl 52 (.tmp 3) (.tmp 14) rfl w.heap.size #[y,c1,c2,c3,c4,c5,z,A,B,C] rfl rfl 52 #[.int .u8 0,rD rJ 0 0,rD rJ 0 0,rD rJ 0 0,.int .u8 0,rD rJ 0 0,rD rJ 0 0,rD rJ 0 0,rD rJ 0 0,rD rJ 0 0] r.out (by kernel_rfl) rfl d.out ?_);rintro w4 a f c b;have M:=Hd a;have p:=Hd (m.out.trans (f w.heap.size lR));clear a f c b;go_wp2_with fail;exact bodyPost_ret (v:=.tuple #[.agg #[y,c1,c2,c3,c4,c5,z,A,B,C],.bool P]) (Ad results181 _ _ w.heap.size _ _ _ rfl M.out underlying52 rfl (by kernel_rfl)) rfl ⟨rfl,p.out⟩
open Go.Maps
section
def Ce (lv ow:Int)(F:Int->Option NodeD)(H:Int->Option (List Nat))(KF KH:List Int)(only:Bool):Bool:=
 fits lv.toNat&&decide (0<=ow/\ow<lv)&&decide (((F (2*ow)).getD Ap).kind=1)&&(KF.all fun x=>Bz x ((F x).getD Ap))&&(KH.all fun x=>decide (((H x).getD []).length=32))&&
  ((Bf (fun n:Nat=>F n) ow.toNat only (aY lv.toNat) (2^aY lv.toNat-1) 0 []).2.2&&decide ((Bf (fun n:Nat=>F n) ow.toNat only (aY lv.toNat) (2^aY lv.toNat-1) 0 []).1=KF)&&decide ((Bf (fun n:Nat=>F n) ow.toNat only (aY lv.toNat) (2^aY lv.toNat-1) 0 []).2.1=KH))
section
variable {lv ow:Int} {F:Int->Option NodeD} {H:Int->Option (List Nat)} {KF KH:List Int} {only:Bool}
theorem Zfb (h:fits lv.toNat=false):Ce lv ow F H KF KH only=false:=by rw[Ce,h];rfl
theorem Zkh (h:¬(0<=ow/\ow<lv)):Ce lv ow F H KF KH only=false:=by rw[Ce,dF h];simp
theorem Zln (h:((F (2*ow)).getD Ap).kind≠1):Ce lv ow F H KF KH only=false:=by rw[Ce,dF h];simp
theorem Zfc {x:Int} {d:NodeD}(hk:∀x,x∈KF↔(F x).isSome=true)(hF:F x=some d)(h:Bz x d=false):Ce lv ow F H KF KH only=false:=by
 have:(KF.all fun x=>Bz x ((F x).getD Ap))=false:=List.all_eq_false.2 ⟨x,(hk x).2 (by rw[hF];rfl),by rw[hF];simpa using h⟩;rw[Ce,this];simp
theorem Zmy {x:Int} {L:List Nat}(hk:∀x,x∈KH↔(H x).isSome=true)(hF:H x=some L)(h:L.length≠32):Ce lv ow F H KF KH only=false:=by
 have:(KH.all fun x=>decide (((H x).getD []).length=32))=false:=List.all_eq_false.2 ⟨x,(hk x).2 (by rw[hF];rfl),by rw[hF];simpa using h⟩;rw[Ce,this];simp
theorem Zlo (e:fits lv.toNat=true)(h2:0<=ow/\ow<lv)(h3:((F (2*ow)).getD Ap).kind=1)(hk:∀x,x∈KF↔(F x).isSome=true)(f:∀x d,F x=some d->Bz x d=true)(a:∀x,x∈KH↔(H x).isSome=true)(g:∀x L,H x=some L->L.length=32):
  Ce lv ow F H KF KH only=((Bf (fun n:Nat=>F n) ow.toNat only (aY lv.toNat) (2^aY lv.toNat-1) 0 []).2.2&&decide ((Bf (fun n:Nat=>F n) ow.toNat only (aY lv.toNat) (2^aY lv.toNat-1) 0 []).1=KF)&&decide ((Bf (fun n:Nat=>F n) ow.toNat only (aY lv.toNat) (2^aY lv.toNat-1) 0 []).2.1=KH)):=by
 have b:(KF.all fun x=>Bz x ((F x).getD Ap))=true:=List.all_eq_true.2 fun x hx=>by
  have:=(hk x).1 hx;cases hF:F x with
  |none=>rw[hF]at this;cases this
  |some d=>exact f x d hF
 have c:(KH.all fun x=>decide (((H x).getD []).length=32))=true:=List.all_eq_true.2 fun x hx=>by
  have:=(a x).1 hx;cases hF:H x with
  |none=>rw[hF]at this;cases this
  |some d=>exact dT (g x d hF)
 rw[Ce,e,dT h2,dT h3,b,c];simp
end
theorem Uu {w w':World} {P:Program} {k:TypeId} {b r n B:Nat} {D:DataW Value} {left:Lit->Bool} {d:Nat}(h:w.ranges P k rdV b r n D left d)(g:Below B w w')(l:b<B)(h2:r<B):w'.ranges P k rdV b r n D left d:=by
 obtain⟨j,a,c,e,i,f,F,p,m,o,rest⟩:=h;exact⟨j,a,c,e,i,(g.block b l).trans f,F,p,m,(g.block r h2).trans o,rest⟩
theorem Uv {D:DataW Value} {G:Int->Option Value}(h2:∀x,has D (.int .i64 x)=(G x).isSome)(h3:∀x v z,G x=some v->D.atKey (.int .i64 x) z=.held v) {x:Int} {c:Value}(a:∀zd,D.atKey (.int .i64 x) zd=.held c):G x=some c:=by
 cases hG:G x with
 |none=>
  have b:has D (.int .i64 x)=false:=(by rw[h2,hG];rfl);have:=a .nil;rw[atKey_of_not_has b]at this;cases this
 |some u=>
  have:=(h3 x u .nil hG).symm.trans (a .nil);cases this;rfl
theorem Zfd {key:Value} {kl:Lit}(h:keyOf prog 3 key=some kl):∃x:Int,key=.int .i64 x:=by
 obtain⟨x,e,_⟩:=Maps.keyOf_int_inv underlying3 h;exact⟨x,e⟩
theorem Zfe {x:Int} {kl:Lit}(h:keyOf prog 3 (.int .i64 x)=some kl):kl=.int .i64 x:=by
 obtain⟨x',e,e2,_⟩:=Maps.keyOf_int_inv underlying3 h;cases e;exact e2
theorem Zki {left:Lit->Bool} {x y:Int}(h:(left (.int .i64 y)&& !(Lit.int .i64 y).sameKey (.int .i64 x))=false):left (.int .i64 y)=false\/y=x:=by
 rw[Bool.and_eq_false_iff]at h;rcases h with h|h
 ·exact .inl h
 ·right
  have h2:(Lit.int .i64 y).sameKey (.int .i64 x)=true:=(by simpa using h);have:=(WideAt.sameKey_iff (Ui x)).1 h2;cases this;rfl
theorem Zb5 (x0 x1 x2 x3 x4 x5 x6 x7 x8 x9:Value)(w:World):(Instr.field 52 (.agg #[x0,x1,x2,x3,x4,x5,x6,x7,x8,x9]) 0).run prog w=.ok x0 w:=by kernel_rfl
theorem Zw:∀(L:List Int) (a M:Int),L.Pairwise (· < ·)->(∀y∈L,a<=y/\y<M)->L.length<=(M-a).toNat:=by
 intro L
 induction L with
 |nil=>intro a M _ _;simp
 |cons x L ih=>
  intro a M b c;rw[List.pairwise_cons]at b;have e:=c x (by simp);have:=ih (x+1) M b.2 fun y d=>⟨by have:=b.1 y d;omega,(c y (by simp[d])).2⟩;rw[dB];omega
theorem Hw {x:Int} {d:NodeD}(h:Bz x d=true):Aq d=true:=by unfold Bz at h;rw[cK]at h;exact h.1
theorem Qe {x:Int} {d:NodeD}(h:Bz x d=true):∀u∈d.par.late,Bu (2*u) x=true:=by
 unfold Bz at h;rw[cK,cK,cM,gZ]at h;intro u hu;have:=h.2.2 u hu;simpa using this
def Zkj (F:Int->Option NodeD):Prop:=∀x d,F x=some d->inI x/\NodeOk d/\Cb d=true
theorem Lh {w w':World} {P:Program} {k:TypeId} {b n B:Nat} {D:DataW Value}(h:w.ownsMap P k rdV b n D)(hb:Below B w w')(hB:b<B):w'.ownsMap P k rdV b n D:=by
 obtain⟨es,clock,h0,h1⟩:=h;exact⟨es,clock,(hb.block b hB).trans h0,h1⟩
theorem Zi4 {w:World} {G:Int->Option Value} {F:Int->Option NodeD}(h:NodesG w G F) {x:Int} {v:Value}(a:G x=some v):∃d c,F x=some d/\v=.agg c/\NodeC w d c:=by
 have:=h x;cases hF:F x with
 |none=>rw[hF]at this;have h2:G x=none:=this;rw[h2]at a;cases a
 |some d=>rw[hF]at this;obtain⟨c,b,e⟩:=this;rw[a]at b;cases b;exact⟨d,c,rfl,rfl,e⟩
theorem Zlp {w:World} {G:Int->Option Value} {H:Int->Option (List Nat)}(h:RunsH w G H) {x:Int} {v:Value}(a:G x=some v):∃L,H x=some L/\Rd w v (bvs L):=by
 have:=h x;cases hF:H x with
 |none=>rw[hF]at this;have h2:G x=none:=this;rw[h2]at a;cases a
 |some d=>rw[hF]at this;obtain⟨c,b,e⟩:=this;rw[a]at b;cases b;exact⟨d,rfl,e⟩
theorem Qf (lv ow:Int) (ob sb nb mb:Nat) (F:Int->Option NodeD) (H:Int->Option (List Nat)) (KF KH:List Int) (only:Bool) (w:World) (hN:PieceN w ob nb F) (hH:PieceH w sb mb H) (eW:nb<=1000000) (eV:mb<=1000000) (f:Zkj F)
  (dZ:KF.Pairwise (· < ·)) (Y:∀x,x∈KF↔(F x).isSome=true) (d0:KH.Pairwise (· < ·)) (Z:∀x,x∈KH↔(H x).isSome=true) (dV:KF.length<=1000000) (dW:KH.length<=1000000) (N:inI lv) (how:inI ow):
  Calls prog 123 #[.agg #[.int .i64 lv,.int .i64 ow,.map (some ob),.map (some sb)],.bool only] w fun e w'=>e=rM (.bool (Ce lv ow F H KF KH only))/\Below w.heap.size w w':=by
 obtain⟨G,⟨D,b7,a6,b8⟩,hG⟩:=hN;obtain⟨G',⟨D',b9,a7,cB⟩,aF⟩:=hH;have hG:NodesG w G F:=hG;have aF:RunsH w G' H:=aF;have fB:=b7.lt;have fC:=b9.lt;have bH:=Hd fun(W:World) (h:W.ownsMap prog 3 rdV ob nb D)=>(show MapF W ob nb G from⟨D,h,a6,b8⟩);have bV:=Hd fun(W:World) (h:W.ownsMap prog 3 rdV sb mb D')=>(show MapF W sb mb G' from⟨D',h,a7,cB⟩);have cU:=Hd fun(x:Int) (c:Value) (t:∀zd,D.atKey (.int .i64 x) zd=.held c)=>Zi4 hG (Uv a6 b8 t);have bS:=Hd fun(x:Int) (c:Value) (t:∀zd,D'.atKey (.int .i64 x) zd=.held c)=>Zlp aF (Uv a7 cB t);have O:∀x d,F x=some d->has D (.int .i64 x)=true:=fun x d f=>by
  rw[a6,(hG.some f).1];rfl
 have bP:∀x L,H x=some L->has D' (.int .i64 x)=true:=fun x L f=>by
  have:=aF x;rw[f]at this;obtain⟨v,hv,_⟩:=this;rw[a7,hv];rfl
 have eP:=Hd O;have dJ:=Hd bP;have dC:=Hd (Zfb (lv:=lv) (ow:=ow) (F:=F) (H:=H) (KF:=KF) (KH:=KH) (only:=only));have bX:=Hd (Zkh (lv:=lv) (ow:=ow) (F:=F) (H:=H) (KF:=KF) (KH:=KH) (only:=only));have a3:=Hd (Zln (lv:=lv) (ow:=ow) (F:=F) (H:=H) (KF:=KF) (KH:=KH) (only:=only));have dI:=Hd fun x d=>Zfc (lv:=lv) (ow:=ow) (F:=F) (H:=H) (KF:=KF) (KH:=KH) (only:=only) (x:=x) (d:=d) Y;have dH:=Hd fun x d=>Zmy (lv:=lv) (ow:=ow) (F:=F) (H:=H) (KF:=KF) (KH:=KH) (only:=only) (x:=x) (L:=d) Z;have a4:=Hd fun h1 h2 h3 h4=>Zlo (lv:=lv) (ow:=ow) (F:=F) (H:=H) (KF:=KF) (KH:=KH) (only:=only) h1 h2 h3 Y h4 Z;have bT:=Hd f;have a1:=Hd hG;have dN:Dc G KF:=⟨dZ,fun x=>by rw[Y,(hG.val x).2]⟩;have dO:Dc G' KH:=⟨d0,fun x=>by
  rw[Z];have:=aF x;cases f:H x with
  |none=>rw[f]at this;have h2:G' x=none:=this;rw[h2];exact Iff.rfl
  |some d=>rw[f]at this;obtain⟨c,hc,hn⟩:=this;rw[hc];exact Iff.rfl⟩
 have cW:=Hd dN;have cX:=Hd dO;have eH:=Hd dV;have eI:=Hd dW;obtain⟨OD,a9⟩:=eX ((F (2*ow)).getD Ap);have eY:(G (2*ow)).getD (.agg Xh)=.agg (El G (2*ow))/\NodeC w OD (El G (2*ow)):=by
  refine⟨(hG.val _).1,?_⟩;rw[a9];cases f:F (2*ow)with
  |none=>rw[(hG.none f).2];exact Mm w
  |some d=>exact(hG.some f).2
 have aV:OD.kind<256:=by
  rw[a9];cases hF2:F (2*ow)with
  |none=>decide
  |some d=>exact(f _ _ hF2).2.1.kind
 rw[<-a9]at a3 a4;obtain⟨e9,bM⟩:=eX (Ce lv ow F H KF KH only);rw[<-bM]at dC bX a3 dI dH a4|-;obtain⟨C,bO⟩:=eY;obtain⟨x1,x2,x3,x4,x5,x6,x7,x8,b3,e3,dU,-⟩:=bO.frame;obtain⟨kd,dY⟩:=eX OD.kind;obtain⟨l8,d3⟩:=eX OD.par.late.length;rw[dU]at C;rw[<-dY]at aV a3 a4 C;rw[<-d3]at C;obtain⟨w1,P⟩:=eX (w.alloc (rK #[.int .i64 lv,.int .i64 ow,.map (some ob),.map (some sb)] 101));have aM:=Hd P;have dQ:Below w.heap.size w w1:=(by rw[P];exact(Below.refl w.heap.size w).alloc lR (rK #[.int .i64 lv,.int .i64 ow,.map (some ob),.map (some sb)] 101));have K:=Hd dQ;have u:=Hd (show w1.heap.size=w.heap.size+1 by rw[P];simp);have J:=Hd (show w1.ownsMap prog 3 rdV ob nb D by rw[P];exact b7.alloc _);have U:=Hd (show w1.ownsMap prog 3 rdV sb mb D' by rw[P];exact b9.alloc _);have aB:=Hd (show Blk w1 w.heap.size 101 #[.int .i64 lv,.int .i64 ow,.map (some ob),.map (some sb)] by rw[P];exact Blk.new w 101 #[.int .i64 lv,.int .i64 ow,.map (some ob),.map (some sb)]);have c0:=aB.out.cell 0;have c1:=aB.out.cell 1;have c2:=aB.out.cell 2;simp only[bY,bZ,cA]at c0 c1 c2;unfold inI at N how;have e6:=Hd N;have e7:=Hd how;have b6:=fun(hi:inI (2*ow))=>MapF.run_get (T:=98) (bH.out _ J.out) underlying98 (Fg _) hi;rw[C]at b6;have dG:=Hd b6;have aC:=Hd (Je lv w1 (by omega) (by omega));obtain⟨ft,cI⟩:=eX (fits lv.toNat);rw[<-cI]at aC;have S:=Hd cI;clear bM b7 a6 b8 hG b9 a7 cB aF O bP f dZ Y d0 Z dV dW N how a9 C bO dU dY d3 b6 cI dN dO dQ P;cases ft with
 |false=>
  have HE:=Hd (dC.out S.out.symm);go_in;go_wp2_with fail;rw[<-aM.out];refine aC.out.mono ?_;rintro e w2 ⟨rfl,rfl⟩;go_wp2_with fail;go_ret;exact⟨Eb HE.out,K.out⟩
 |true=>
  by_cases ho1:0<=ow
  ·have d5:decide (ow<0)=false:=dF (by omega)
   by_cases ho2:ow<lv
   ·have d6:decide (ow>=lv)=false:=dF (by omega);have a2:=Hd (show 0<=ow/\ow<lv from⟨ho1,ho2⟩);have e5:lv<=65536:=by
     obtain⟨d,hd,e⟩:=(fits_iff _).1 S.out.symm;have:2^d<=2^16:=aZ (by omega) hd;have fA:(2:Nat)^16=65536:=rfl;omega
    have cV:=Hd (show inI (2*ow) by unfold inI;omega);have RG:=dG.out cV.out;have FK:=Zb5 (.int .u8 (kd:Nat)) x1 x2 x3 x4 x5 x6 x7 x8 (rD b3 l8 e3)
    by_cases hk1:kd=1
    ·have dX:((kd:Int) !=1)=false:=(by simp;omega);have eJ:=Hd hk1;clear hk1;go_in;go_wp2_with fail;rw[<-aM.out];refine aC.out.mono ?_;rintro e w2 ⟨rfl,rfl⟩;go_wp2_with (first
      |(at_range;refine wpList_range_own _ rfl _ 98 rfl 3 52 Zke underlying98 rdV ob nb D rfl J.out ?_;intro w0 g aR O)
      |go_in)
     try go_frame
     have e8:=Hd O;obtain⟨r,hr⟩:=eX w1.heap.size;rw[<-hr]at g|-;have HR:=Hd hr;have dD:=Hd g;have eD:=Hd (show Below r w1 w0 from by rw[hr];exact(Below.refl _ w1).grown aR lR (by intro k e;cases e));clear g aR O hr c0 c1 c2 RG FK
     go_loopw [5] (fun _ wr=>∃(left:Lit->Bool) (aO:Nat),wr.ranges prog 3 rdV ob r nb D left aO/\(∀x d,F x=some d->left (.int .i64 x)=false->Bz x d=true)/\Below r w1 wr) (fun _ wr=>wr.rangeLeft ob r)
     case atStart=>exact⟨_,_,dD.out,(fun x d f hl=>by rw[eP.out x d f]at hl;cases hl),eD.out⟩
     case round=>
      obtain⟨left,aO,aX,aW,hb⟩:=hrel;have dA:=Hd aW;have HB:=Hd hb;have aD:=Hd aX;clear aW hb aX;go_wp2_with (first
       |(at_next;refine wpList_next_ranges _ rfl _ rfl 3 Zke rdV (Value.int .i64) (fun v:Value=>v) (fun e1 kl h=>Zfd h) (fun v y h=>⟨v,rfl⟩) ob r nb D left aO rfl aD.out ?_ ?_)
       |go_in)
      ·intro cG aT;have bD:=Hd (show∀x d,F x=some d->Bz x d=true from fun x d f=>dA.out x d f (aT _));clear cG aT;have cT:=Hd (aB.out.below HB.out (by rw[HR.out];exact aB.out.lt));have c3:=cT.out.cell 3;simp only[bY,bZ,cA]at c3;have bW:=Hd (Lh U.out HB.out (by have:=HR.out;have:=u.out;omega));obtain⟨wo,rfl⟩:∃wo:World,wo=wr:=⟨_,rfl⟩;go_wp2_with (first
        |(at_range;refine wpList_range_own _ rfl _ 99 rfl 3 28 Zke underlying99 rdV sb mb D' rfl bW.out ?_;intro w0 g aR O)
        |go_in)
       try go_frame
       obtain⟨r2,bB⟩:=eX wo.heap.size;rw[<-bB]at g|-;have dB:=Hd bB;have dE:=Hd g;have eE:=Hd (show Below r2 wo w0 from by rw[bB];exact(Below.refl _ wo).grown aR lR (by intro k e;cases e));clear g aR O bB c3
       go_loopw [8] (fun _ wr=>∃(left:Lit->Bool) (aO:Nat),wr.ranges prog 3 rdV sb r2 mb D' left aO/\(∀x L,H x=some L->left (.int .i64 x)=false->L.length=32)/\Below r2 wo wr) (fun _ wr=>wr.rangeLeft sb r2)
       case atStart=>exact⟨_,_,dE.out,(fun x d f hl=>by rw[dJ.out x d f]at hl;cases hl),eE.out⟩
       case round=>
        obtain⟨a0,dP,aX,aW,hb⟩:=hrel;have bI:=Hd aW;have cS:=Hd hb;have aK:=Hd aX;clear aW hb aX;go_wp2_with (first
         |(at_next;refine wpList_next_ranges _ rfl _ rfl 3 Zke rdV (Value.int .i64) (fun v:Value=>v) (fun e1 kl h=>Zfd h) (fun v y h=>⟨v,rfl⟩) sb r2 mb D' a0 dP rfl aK.out ?_ ?_)
         |go_in)
        ·intro cG aT;have bQ:=Hd (show∀x L,H x=some L->L.length=32 from fun x d f=>bI.out x d f (aT _));clear cG aT;obtain⟨d,hd,N⟩:∃d,d<=16/\lv=((2^d:Nat):Int):=by
          obtain⟨d,hd,e⟩:=(fits_iff _).1 S.out.symm;exact⟨d,hd,by have:=a2.out;omega⟩
         obtain⟨i,rfl⟩:∃i:Nat,ow=(i:Int):=⟨ow.toNat,by have:=a2.out.1;omega⟩;have eU:i<=65536:=(by have:=a2.out.2;omega);obtain⟨hM,e2⟩:=Fx hd;have hp:=fK d;have d9:w.heap.size<r:=(by have:=HR.out;have:=u.out;omega);have eZ:r<=r2:=(by have:=aD.out.lt;have:=dB.out;omega);have z:Below r w1 wr:=HB.out.trans (cS.out.mono eZ);have b5:=Hd (K.out.trans (z.mono (fE d9)));have o:=Hd (aB.out.below z d9);have c4:=Hd (bH.out _ (Lh J.out z (by omega)));have c5:=Hd (bV.out _ (Lh U.out z (by omega)));have AN:AtN wr (fun n:Nat=>F n) (fun n:Nat=>El G n):=⟨fun x=>a1.out.ten x,fun x d f=>((a1.out.some f).2).below b5.out lR,fun x=>a1.out.one x,fun x d f=>(bT.out _ _ f).2.1.kind,fun x d f=>⟨Fu (De (Hw (bD.out _ _ f))),by have:=oD (bT.out _ _ f).2.2;omega⟩⟩;have cR:∀x,x<2*2^d-1->AtC 181 w.heap.size wr wr.heap.size (fun n:Nat=>F n) (fun n:Nat=>El G n) x:=fun x hx W hW=>Zlm w.heap.size ob nb _ _ _ G F (x:Int) w W (o.out.below hW o.out.lt) (c4.out.below hW lR) a1.out (by unfold inI;omega);have a5:=Ua 181 w.heap.size (fun _ _=>rfl) (fun n:Nat=>F n) (fun n:Nat=>El G n) wr AN d i only eU hd cR;have aN:=a4.out S.out.symm a2.out eJ.out bD.out bQ.out;rw[<-N]at a5;rw[N]at aN;simp only[cD,iD]at aN;have SP:=Ci (F:=fun n:Nat=>F n) (i:=i) (only:=only) d (2^d-1) 0 [] (Bs d) (by omega);obtain⟨V,hV⟩:=eX (Bf (fun n:Nat=>F n) i only d (2^d-1) 0 []);rw[<-hV]at a5 aN SP;have d1:V.1.length<=1000000:=by
          have:=Zw V.1 0 131071 SP.opr fun y I=>(by obtain⟨m,e,h⟩:=SP.op y I;unfold inR at h;omega);omega
         have d2:V.2.1.length<=1000000:=by
          have:=Zw V.2.1 0 131071 SP.shr fun y I=>(by obtain⟨m,e,h⟩:=SP.sh y I;unfold inR at h;omega);omega
         have c8:=Hd a5;have p:=Hd aN;have eL:=Hd d1;have eM:=Hd d2;have c0:=o.out.cell 0;have c1:=o.out.cell 1;simp only[bY,bZ,cA]at c0 c1;clear N hM e2 hp z AN cR a5 aN SP hV d1 d2 hd;go_wp2_with fail;refine c8.out.mono ?_;rintro e w6 ⟨vo,vs,rfl,cN,cO,aQ⟩;have eS:=Hd cN.rd;have eT:=Hd cO.rd;have aL:=Hd (b5.out.trans (aQ.mono b5.out.size));have eN:=Hd (c4.out.below aQ lR);have cY:=Hd (c5.out.below aQ lR);have aH:=Hd (o.out.below aQ o.out.lt);have dM:=Hd aH.out.lt;have k2:=aH.out.cell 2;simp only[bY,bZ,cA]at k2;obtain⟨p1,p2,p3,rfl⟩:=Dr cN;obtain⟨q1,q2,q3,rfl⟩:=Dr cO;obtain⟨ok,aV⟩:=eX V.2.2;rw[<-aV];rw[<-aV]at p;clear cN cO aQ c0 c1 aV;cases ok with
         |false=>
          go_wp2_with fail;go_ret;exact⟨Eb (by rw[p.out];rfl),aL.out⟩
         |true=>
          have HK:=Hd (Uj (some ob) w6);have eQ:=Hd (Nw ob nb w6.heap.size G KF (w6.alloc (rK #[.map (some ob)] 98)) (eN.out.alloc _) cW.out eW (by rw[(Blk.new w6 _ _).cell];rfl) (by simp));have cP:=Hd ((Below.refl w6.heap.size w6).alloc lR (rK #[.map (some ob)] 98));go_wp2_with fail;refine HK.out.mono ?_;rintro e w7 ⟨rfl,rfl⟩;go_wp2_with fail;refine eQ.out.mono ?_;rintro e w8 ⟨v8,rfl,cM,A⟩;have j:=Hd (cP.out.trans (A.mono cP.out.size));have eR:=Hd cM.rd;have dL:=Hd (eS.out.below j.out lR);have aI:=Hd (Rw _ _ V.1 KF w8 dL.out eR.out eL.out eH.out);obtain⟨t1,t2,t3,rfl⟩:=Dr cM;obtain⟨b1,cE⟩:=eX (decide (V.1=KF));rw[<-cE]at aI;rw[<-cE]at p;clear cM A cE;cases b1 with
          |false=>
           go_wp2_with fail;refine aI.out.mono ?_;rintro e w9 ⟨rfl,n9,rfl⟩;go_wp2_with fail;go_ret;exact⟨Eb (by rw[p.out];rfl),Ab (aL.out.trans (j.out.mono aL.out.size)) _⟩
          |true=>
           have bF:=Hd (fun n9=>(aH.out.below j.out dM.out).drewN n9);have bK:=Hd (fun n9=>(eT.out.below j.out lR).drewN n9);have cZ:=Hd (fun n9=>(cY.out.below j.out lR).drewN n9);go_wp2_with fail;refine aI.out.mono ?_;rintro e w9 ⟨rfl,n9,rfl⟩;have k3:=(bF.out n9).cell 3;simp only[bY,bZ,cA]at k3;have bR:=Hd (show Below w6.heap.size w6 (w8.drewN n9)from Ab j.out _);have bL:=Hd (bK.out n9);have c6:=Hd (cZ.out n9);obtain⟨w9,eC⟩:=eX (w8.drewN n9);rw[<-eC]at bR bL c6 k3|-;clear eC bF bK cZ;have eK:=Hd (Uk (some sb) w9);have dK:=Hd (Nx sb mb w9.heap.size G' KH (w9.alloc (rK #[.map (some sb)] 99)) (c6.out.alloc _) cX.out eV (by rw[(Blk.new w9 _ _).cell];rfl) (by simp));have cQ:=Hd ((Below.refl w9.heap.size w9).alloc lR (rK #[.map (some sb)] 99));go_wp2_with fail;refine eK.out.mono ?_;rintro e fG ⟨rfl,rfl⟩;go_wp2_with fail;refine dK.out.mono ?_;rintro e e4 ⟨fF,rfl,aY,bN⟩;have bE:=Hd (cQ.out.trans (bN.mono cQ.out.size));have bG:=Hd (Rw _ _ V.2.1 KH e4 (bL.out.below bE.out lR) aY.rd eM.out eI.out);have eF:=Hd (aL.out.trans ((bR.out.trans (bE.out.mono bR.out.size)).mono aL.out.size));obtain⟨s1,s2,s3,rfl⟩:=Dr aY;obtain⟨b2,cF⟩:=eX (decide (V.2.1=KH));rw[<-cF]at bG;rw[<-cF]at p;clear aY bN cF;go_wp2_with fail;refine bG.out.mono ?_;rintro e fH ⟨rfl,fD,rfl⟩;go_wp2_with fail;go_ret;exact⟨Eb (by rw[p.out];rfl),Ab eF.out _⟩
        ·intro x c kl y1 y2 w5 aP B cJ hv t E aU aS bC cH;obtain rfl:=Zfe B;have I:y1=.held c:=(by unfold rdV at hv;cases hv;rfl);subst I;obtain⟨L,cC,d8⟩:=bS.out x c t;obtain⟨ua,uc,rfl⟩:∃a k,c=.slice a L.length k:=(by obtain⟨a,k,e,_⟩:=d8;exact⟨a,k,by rw[e,bvs_len]⟩);have aG:=Hd (cS.out.trans ((Below.refl r2 _).grown aS (by have:=aK.out.lt;omega) (by intro k e;cases e;exact lR)));have X:=Hd E;have bU:=Hd aU;have s:=Hd (fun(aE:L.length=32)=>(show∀y M,H y=some M->(a0 (.int .i64 y)&& !(Lit.int .i64 y).sameKey (.int .i64 x))=false->M.length=32 from fun y M I hl=>by
          rcases Zki hl with h|h
          ·exact bI.out y M I h
          ·rw[h,cC]at I;cases I;exact aE))
         have R:=Hd (dH.out x L cC);obtain⟨ul,eB⟩:=eX L.length;rw[<-eB]at s R cH|-;clear eB B cJ hv t E aU aS bC cC d8
         by_cases aE:ul=32
         ·have dR:((ul:Int) !=32)=false:=(by simp;omega);have b4:=Hd (s.out aE);clear aE;go_wp2_with fail
          go_roundw
          case rel=>exact⟨_,aP,X.out,b4.out,aG.out⟩
          case measure=>rw[X.out.left_eq,aK.out.left_eq];exact bU.out
         ·have dR:((ul:Int) !=32)=true:=(by simp;omega);have HE:=Hd (R.out aE);have eG:=Hd (K.out.trans ((HB.out.trans (aG.out.mono (show r<=r2 by have:=aD.out.lt;have:=dB.out;omega))).mono (show w.heap.size<=r by have:=HR.out;have:=u.out;omega)));clear aE;go_wp2_with fail;go_ret;exact⟨Eb HE.out,eG.out⟩
      ·intro x c kl y1 y2 w5 aP B cJ hv t E aU aS bC cH;obtain rfl:=Zfe B;have I:y1=.held c:=(by unfold rdV at hv;cases hv;rfl);subst I;obtain⟨d,cc,a8,rfl,bA⟩:=cU.out x c t;have c7:=Hd bA.oneL;obtain⟨e0,d4,eA⟩:=bT.out x d a8;have aG:=Hd (HB.out.trans ((Below.refl r _).grown aS (by have:=aD.out.lt;omega) (by intro k e;cases e;exact lR)));have X:=Hd E;have bU:=Hd aU;have aJ:=Hd fun(W:World) (hw:Below w.heap.size w W)=>Xg x d cc W (bA.below hw lR) d4 eA e0;have s:=Hd (fun(hp:Bz x d=true)=>(show∀y e,F y=some e->(left (.int .i64 y)&& !(Lit.int .i64 y).sameKey (.int .i64 x))=false->Bz y e=true from fun y e I hl=>by
        rcases Zki hl with h|h
        ·exact dA.out y e I h
        ·rw[h]at I|-;rw[a8]at I;cases I;exact hp))
       have R:=Hd (fun hp=>dI.out x d a8 hp);obtain⟨z0,z1,z2,z3,z4,z5,z6,z7,z8,z9,rfl⟩:=bA.ten;obtain⟨pd,cK⟩:=eX (Bz x d);rw[<-cK]at aJ;have c9:=Hd cK;have l:=Hd (K.out.trans (aG.out.mono (show w.heap.size<=r by have:=HR.out;have:=u.out;omega)));have b0:=Hd (show r<w5.heap.size from by rw[bC];exact aD.out.lt);obtain⟨q,hq⟩:=eX w5.heap.size;have HQ:=Hd hq;have eO:=Hd (show Blk (w5.alloc (rK #[.int .u8 0,rD rJ 0 0,rD rJ 0 0,rD rJ 0 0,.int .u8 0,rD rJ 0 0,rD rJ 0 0,rD rJ 0 0,rD rJ 0 0,rD rJ 0 0] 52)) q 52 #[.int .u8 0,rD rJ 0 0,rD rJ 0 0,rD rJ 0 0,.int .u8 0,rD rJ 0 0,rD rJ 0 0,rD rJ 0 0,rD rJ 0 0,rD rJ 0 0] by rw[hq];exact Blk.new _ _ _);clear B cJ hv t E aU aS bC a8 bA cK hq eA d4;go_wp2_with (refine Aa rfl 52 (.tmp 6) (.tmp 45) rfl w5.heap.size #[z0,z1,z2,z3,z4,z5,z6,z7,z8,z9] rfl rfl 52 #[.int .u8 0,rD rJ 0 0,rD rJ 0 0,rD rJ 0 0,.int .u8 0,rD rJ 0 0,rD rJ 0 0,rD rJ 0 0,rD rJ 0 0,rD rJ 0 0] (HQ.out▸eO.out) (by kernel_rfl) rfl c7.out ?_);rintro w7 b dS d7 cL;rw[<-HQ.out]at b|-;have aA:=Hd (((Below.refl w5.heap.size w5).alloc lR (rK #[.int .u8 0,rD rJ 0 0,rD rJ 0 0,rD rJ 0 0,.int .u8 0,rD rJ 0 0,rD rJ 0 0,rD rJ 0 0,rD rJ 0 0,rD rJ 0 0] 52)).trans (dS w5.heap.size lR));have k0:=b.cell 0;have k1:=b.cell 1;have k2:=b.cell 2;have k3:=b.cell 3;have k4:=b.cell 4;have k5:=b.cell 5;have k6:=b.cell 6;have k7:=b.cell 7;have k8:=b.cell 8;have k9:=b.cell 9;simp only[bY,bZ,cA]at k0 k1 k2 k3 k4 k5 k6 k7 k8 k9;clear b dS d7 cL cH;cases pd with
       |true=>
        have b4:=Hd (s.out c9.out.symm);go_wp2_with fail;refine(aJ.out _ (l.out.trans (aA.out.mono l.out.size))).mono ?_;rintro e w8 ⟨rfl,A⟩;have Q:=Hd (aA.out.trans (A.mono aA.out.size));clear A k0 k1 k2 k3 k4 k5 k6 k7 k8 k9;have bJ:=Hd (Uu X.out Q.out (by have:=b0.out;have:=HR.out;have:=u.out;omega) b0.out);have j:=Hd (aG.out.trans (Q.out.mono (fE b0.out)));go_wp2_with fail
        go_roundw
        case rel=>exact⟨_,aP,bJ.out,b4.out,j.out⟩
        case measure=>rw[bJ.out.left_eq,aD.out.left_eq];exact bU.out
       |false=>
        have HE:=Hd (R.out c9.out.symm);go_wp2_with fail;refine(aJ.out _ (l.out.trans (aA.out.mono l.out.size))).mono ?_;rintro e w8 ⟨rfl,A⟩;have Q:=Hd (aA.out.trans (A.mono aA.out.size));have j:=Hd (l.out.trans (Q.out.mono l.out.size));clear A k0 k1 k2 k3 k4 k5 k6 k7 k8 k9;go_wp2_with fail;go_ret;exact⟨Eb HE.out,j.out⟩
    ·have dX:((kd:Int) !=1)=true:=(by simp;omega);have HE:=Hd (a3.out hk1);clear hk1;go_in;go_wp2_with fail;rw[<-aM.out];refine aC.out.mono ?_;rintro e w2 ⟨rfl,rfl⟩;go_wp2_with fail;go_ret;exact⟨Eb HE.out,K.out⟩
   ·have d6:decide (ow>=lv)=true:=dT (by omega);have HE:=Hd (bX.out fun h=>ho2 h.2);clear ho1 ho2;go_in;go_wp2_with fail;rw[<-aM.out];refine aC.out.mono ?_;rintro e w2 ⟨rfl,rfl⟩;go_wp2_with fail;go_ret;exact⟨Eb HE.out,K.out⟩
  ·have d5:decide (ow<0)=true:=dT (by omega);have HE:=Hd (bX.out fun h=>ho1 h.1);clear ho1;go_in;go_wp2_with fail;rw[<-aM.out];refine aC.out.mono ?_;rintro e w2 ⟨rfl,rfl⟩;go_wp2_with fail;go_ret;exact⟨Eb HE.out,K.out⟩
end
def okS (s:SparseD):Bool:=Bt s&&Ce s.leaves s.own (Aj s.op) (Ay s.sh) (s.op.map (·.1)) (s.sh.map (·.1)) false
def Kh (s:SparseD)(w:World)(e:Ending)(w':World):Prop:=Below w.heap.size w w'/\
 if Bt s=true then∃ob sb,e=rM (.tuple #[.agg #[.int .i64 s.leaves,.int .i64 s.own,.map (some ob),.map (some sb)],.bool (okS s)])/\w.heap.size<=ob/\w.heap.size<=sb/\ob≠sb/\∃G G',MapF w' ob s.op.length G/\NodesG w G (Aj s.op)/\MapF w' sb s.sh.length G'/\RunsH w G' (Ay s.sh)
 else e=rM (.tuple #[.agg #[.int .i64 0,.int .i64 0,.map none,.map none],.bool (okS s)])
theorem Ki {l:List (Int×NodeD)} {x:Int}:x∈l.map (·.1)↔(Aj l x).isSome=true:=by
 induction l with
 |nil=>simp[Aj]
 |cons p l ih=>
  rw[cZ,aB,Aj]
  by_cases e:p.1=x
  ·rw[iP e];simp[e]
  ·rw[iN e,<-ih];constructor
   ·rintro(h|h)
    ·exact absurd h.symm e
    ·exact h
   ·exact .inr
theorem Gp {l:List (Int×List Nat)} {x:Int}:x∈l.map (·.1)↔(Ay l x).isSome=true:=by
 induction l with
 |nil=>simp[Ay]
 |cons p l ih=>
  rw[cZ,aB,Ay]
  by_cases e:p.1=x
  ·rw[iP e];simp[e]
  ·rw[iN e,<-ih];constructor
   ·rintro(h|h)
    ·exact absurd h.symm e
    ·exact h
   ·exact .inr
theorem Kj {α:Type} {l:List α} {f: α->Int} {g:Nat->Int}(hg:∀i (hi:i<l.length),g i=f l[i])(h:Hm g l.length=true):(l.map f).Pairwise (· < ·):=by
 have hr:=Sc (Lg h);rw[List.pairwise_iff_getElem];intro i j hi hj hij;simp only[eE]at hi hj;rw[hQ,hQ,<-hg i hi,<-hg j hj];exact(hr j hj).2 i hij
theorem Lu {s:SparseD}(hok:SparseOk s)(hs:Bx s=true):Zkj (Aj s.op):=by
 intro x d hd;have hm:=Cv hd;have:=hok.op _ hm;unfold Bx at hs;simp only[cK,List.all_eq_true]at hs;exact⟨this.1,this.2,hs.1.2 _ hm⟩
theorem Li {s:SparseD}(hs:Bx s=true):s.op.length<=5000/\s.sh.length<=5000:=by
 unfold Bx at hs;simp only[cK,decide_eq_true_eq]at hs;exact⟨hs.1.1.1,hs.1.1.2⟩
theorem MapF.only {w w':World} {b n g:Nat} {F:Int->Option Value}(h:MapF w b n F)(ho:OnlyG g w w')(hne:b≠g):MapF w' b n F:=by
 have hlt:=h.lt;obtain⟨D,⟨es,clock,h0,h1⟩,h2⟩:=h;exact⟨D,⟨es,clock,(ho.2.2 b hlt hne).trans h0,h1⟩,h2⟩
theorem Hl (v:Value)(s:SparseD)(w:World)(h:SparseR w v s)(z:SparseOk s)(B:Bx s=true):
  Calls prog 88 #[v] w (Kh s w):=by
 obtain⟨aZ,a0⟩:=Li B;have aK:=Hd fun(W:World) (hw:Below w.heap.size w W)=>Xf v s w W h hw z (by omega) (by omega);have Q:=Hd fun(ob sb:Nat) (W:World) (hb:Bt s=true) (h1:PieceN W ob s.op.length (Aj s.op)) (h2:PieceH W sb s.sh.length (Ay s.sh))=>
  Qf s.leaves s.own ob sb s.op.length s.sh.length (Aj s.op) (Ay s.sh) (s.op.map (·.1)) (s.sh.map (·.1)) false W h1 h2 (by omega) (by omega) (Lu z B) (by
   unfold Bt at hb;rw[cK]at hb;exact Kj (g:=spK s.op) (fun i hi=>by unfold spK;rw[Lr hi]) hb.1) (fun x=>Ki) (by
   unfold Bt at hb;rw[cK]at hb;exact Kj (g:=stK s.sh) (fun i hi=>by unfold stK;rw[Ls hi]) hb.2) (fun x=>Gp) (by simp;omega) (by simp;omega) z.leaves z.own
 obtain⟨o,g,rfl,-,-⟩:=h;obtain⟨PB,aA⟩:=eX (Bt s);obtain⟨RB,L⟩:=eX (Ce s.leaves s.own (Aj s.op) (Ay s.sh) (s.op.map (·.1)) (s.sh.map (·.1)) false);have r:=Hd aA;have a3:=Hd L;have aI:=Hd (show okS s=(PB&&RB) by rw[aA,L];rfl);have P:Hid (∀(W:World),Below w.heap.size w W->Calls prog 148 #[.agg #[.int .i64 s.leaves,.int .i64 s.own,o,g]] W (Kd s w W)):=aK;obtain⟨lv,O⟩:=eX s.leaves;obtain⟨ow,how⟩:=eX s.own;have aD:=Hd O;have aJ:=Hd how;rw[<-O,<-how]at P|-;rw[<-L,<-O,<-how]at Q;clear aK aA L O how z B aZ a0;obtain⟨h,hh⟩:=eX w.heap.size;have HH:=Hd hh;obtain⟨w2,C⟩:=eX ((w.alloc (rK #[.int .i64 lv,.int .i64 ow,o,g] 25)).alloc (rK #[.int .i64 0,.int .i64 0,.map none,.map none] 101));have aW:=Hd C;have U:=Hd (show Below w.heap.size w w2 by rw[C];exact(bR.alloc lR _).alloc (by simp) _);have R:=Hd (show Blk w2 (h+1) 101 #[.int .i64 0,.int .i64 0,.map none,.map none] by
  rw[C,hh];have h1:=Blk.new (w.alloc (rK #[.int .i64 lv,.int .i64 ow,o,g] 25)) 101 #[.int .i64 0,.int .i64 0,.map none,.map none];simpa using h1)
 have S:=Hd (show w2.heap.size=h+2 by rw[C,hh];simp);clear C;go_in;go_wp2_with fail;rw[<-aW.out,<-hh];refine(P.out w2 U.out).mono ?_;rintro e E ⟨M,A⟩;have F:=Hd (U.out.trans (M.mono U.out.size));have a2:=Hd M;have d:=Hd (R.out.below M R.out.lt);rw[<-r.out,<-aD.out,<-aJ.out]at A;clear hh M;cases PB with
 |false=>
  rw[iN (by simp)]at A;obtain rfl:=A;obtain⟨q,hq⟩:=eX E.heap.size;have b:=Hd (show Blk (E.alloc (rK #[.int .i64 0,.int .i64 0,.map none,.map none] 101)) q 101 #[.int .i64 0,.int .i64 0,.map none,.map none] by rw[hq];exact Blk.new _ _ _);have j:=Hd ((Below.refl E.heap.size E).alloc lR (rK #[.int .i64 0,.int .i64 0,.map none,.map none] 101));have V:=Hd hq;go_wp2_with fail;rw[<-V.out];generalize hwr:E.alloc (rK #[.int .i64 0,.int .i64 0,.map none,.map none] 101)=wr at b j|-;have p:=Hd (d.out.below j.out d.out.lt);have n:=Hd (F.out.trans (j.out.mono F.out.size));have u:h+1<wr.heap.size:=p.out.lt;have a1:q≠h+1:=(by have:=d.out.lt;omega);have H:=Hd b.out;clear hwr hq b;refine Bp [eF (.agg #[.int .i64 0,.int .i64 0,.map none,.map none]),eF (.bool false),eF (.bool false),eF undef,eF undef,eF (.bool false),fun v w'=>Blk w' (h+1) 101 #[.int .i64 0,.int .i64 0,.map none,.map none],eF (.bool false)]
   (cJ 8 true) (fun X=>OnlyG (h+1) wr X) (fun X Y=>OnlyG (h+1) X Y) (some 6) (by kernel_rfl) ?_ ((OnlyG.of_below bR (fE u)).drewN 1) (fun X Y hx h=>OnlyG.of_below h (eN (fE u) hx.2.1)) (fun X Y hx B=>hx.trans B) (by kernel_rfl) (by kernel_rfl) ?_ ?_
  ·exact kE (kE (kE (kE (kE (kE (Cw (fun v x y k hi B=>k.below B k.lt) (kE Ae)))))))
  ·refine gOw (by kernel_rfl) ?_ (gP ?_ rfl (gP ?_ rfl (fO rfl rfl rfl rfl rfl rfl (fun _ _ D=>D.1) rfl (fO rfl rfl rfl rfl rfl rfl (fun _ _ D=>D.2.1) rfl (gP ?_ rfl (gOw (by kernel_rfl) ?_ (gP ?_ rfl .nil)))))));all_goals
    intro a wx m N ho D;have m:OnlyG (h+1) wr wx:=m;refine⟨rfl,?_⟩;intro K J;try have Z:a.tmps[2]?.getD undef=rF (some ⟨h+1,0,rJ⟩):=ho 2 (by kernel_rfl)
    try have I:a.tmps[4]?.getD undef=rF (some ⟨q,0,rJ⟩):=ho 4 (by kernel_rfl)
    try have aX:a.tmps[5]?.getD undef=.bool false:=ho 5 (by kernel_rfl)
    try have T:=eqn D.1
    try have t:=p.out.below N p.out.lt
    try(refine Hd ?_;go_simp;exact J _ rfl)
   ·exact wp_load_row 101 (.tmp 4) rfl _ (evs I) _ _ (0,0) _ (H.out.only2 m (by omega)) underlying101 rfl (by kernel_rfl) (J _ _ rfl (Af rfl bR))
   ·refine wp_store_row 101 (.tmp 2) (.tmp 11) rfl (h+1) #[.int .i64 0,.int .i64 0,.map none,.map none] (evs Z) (evs T) _ _ t (by kernel_rfl) rfl (by rw[<-Array.all_toList];rfl) ?_;exact J undef _ (setRow_heap wx (h+1) _ _ _ _ t) (Cc rfl (OnlyG.setRow (h+1) _))
  ·rintro f w9 l c;have l:OnlyG (h+1) wr w9:=l;have S3:f 3=.bool false:=c.2.2.2.2.2.2.2.1;have S2:Blk w9 (h+1) 101 #[.int .i64 0,.int .i64 0,.map none,.map none]:=c.2.2.2.2.2.2.1;clear c;simp only[Ak,At,Ei,dG,dH,dJ,dK,Nat.reduceBEq,Nat.reduceAdd,dO,dP,cond_true,cond_false];rw[S3];clear S3;go_wp2_with fail;refine bodyPost_ret (v:=.tuple #[.agg #[.int .i64 0,.int .i64 0,.map none,.map none],.bool false]) (Ad results88 _ _ (h+1) _ _ _ rfl S2 underlying101 rfl (by kernel_rfl)) rfl ?_;refine⟨n.out.trans (l.1.mono (by rw[HH.out];exact gJ _)),?_⟩;rw[<-r.out,iN (by simp),aI.out];rfl
 |true=>
  rw[iP rfl]at A;obtain⟨ob,sb,rfl,aP,aQ,aR,G,G',aN,aL,aO,aM⟩:=A;have aS:=Hd aN;have aT:=Hd aO;have aB:=Hd aL;have aC:=Hd aM;have aU:=Hd aR;have aG:=Hd (show h+2<=ob by rw[<-S.out];exact aP);have aH:=Hd (show h+2<=sb by rw[<-S.out];exact aQ);clear aN aO aL aM aP aQ aR;obtain⟨q,hq⟩:=eX E.heap.size;have b:=Hd (show Blk (E.alloc (rK #[.int .i64 lv,.int .i64 ow,.map (some ob),.map (some sb)] 101)) q 101 #[.int .i64 lv,.int .i64 ow,.map (some ob),.map (some sb)] by rw[hq];exact Blk.new _ _ _);have j:=Hd ((Below.refl E.heap.size E).alloc lR (rK #[.int .i64 lv,.int .i64 ow,.map (some ob),.map (some sb)] 101));have V:=Hd hq;go_wp2_with fail;rw[<-V.out];generalize hwr:E.alloc (rK #[.int .i64 lv,.int .i64 ow,.map (some ob),.map (some sb)] 101)=wr at b j|-;have p:=Hd (d.out.below j.out d.out.lt);have n:=Hd (F.out.trans (j.out.mono F.out.size));have u:h+1<wr.heap.size:=p.out.lt;have a1:q≠h+1:=(by have:=d.out.lt;omega);have H:=Hd b.out;have aE:=Hd (aS.out.below j.out lR);have aF:=Hd (aT.out.below j.out lR);have aV:=Hd fun(W:World) (hw:Below wr.heap.size wr W)=>Q.out ob sb W r.out.symm ⟨G,aE.out.below hw lR,aB.out.below (n.out.trans (hw.mono n.out.size)) lR⟩ ⟨G',aF.out.below hw lR,aC.out.below (n.out.trans (hw.mono n.out.size)) lR⟩;clear hwr hq b;refine Bp [eF (.agg #[.int .i64 lv,.int .i64 ow,.map (some ob),.map (some sb)]),eF (.bool true),eF (.bool true),eF (.agg #[.int .i64 lv,.int .i64 ow,.map (some ob),.map (some sb)]),eF (.bool RB),eF (.bool RB),fun v w'=>Blk w' (h+1) 101 #[.int .i64 lv,.int .i64 ow,.map (some ob),.map (some sb)],eF (.bool RB)]
   (cJ 8 true) (fun X=>OnlyG (h+1) wr X) (fun X Y=>OnlyG (h+1) X Y) (some 6) (by kernel_rfl) ?_ ((OnlyG.of_below bR (fE u)).drewN 1) (fun X Y hx h=>OnlyG.of_below h (eN (fE u) hx.2.1)) (fun X Y hx B=>hx.trans B) (by kernel_rfl) (by kernel_rfl) ?_ ?_
  ·exact kE (kE (kE (kE (kE (kE (Cw (fun v x y k hi B=>k.below B k.lt) (kE Ae)))))))
  ·refine gOw (by kernel_rfl) ?_ (gP ?_ rfl (gP ?_ rfl (gO ?_ (gOw (by kernel_rfl) ?_ (gP ?_ rfl (gOw (by kernel_rfl) ?_ (gP ?_ rfl .nil)))))));all_goals
    intro a wx m N ho D;have m:OnlyG (h+1) wr wx:=m;refine⟨by first|rfl|exact Be rfl rfl rfl D.1|exact Be rfl rfl rfl D.2.1,?_⟩;intro K J;try have Z:a.tmps[2]?.getD undef=rF (some ⟨h+1,0,rJ⟩):=ho 2 (by kernel_rfl)
    try have I:a.tmps[4]?.getD undef=rF (some ⟨q,0,rJ⟩):=ho 4 (by kernel_rfl)
    try have aX:a.tmps[5]?.getD undef=.bool true:=ho 5 (by kernel_rfl)
    try have T:=eqn D.1
    try have a4:=eqn D.2.1
    try have t:=p.out.below N p.out.lt
    try(refine Hd ?_;go_simp;exact J _ rfl)
   ·exact wp_load_row 101 (.tmp 4) rfl _ (evs I) _ _ (0,0) _ (H.out.only2 m (by omega)) underlying101 rfl (by kernel_rfl) (J _ _ rfl (Af rfl bR))
   ·exact wp_load_row 101 (.tmp 4) rfl _ (evs I) _ _ (0,0) _ (H.out.only2 m (by omega)) underlying101 rfl (by kernel_rfl) (J _ _ rfl (Af rfl bR))
   ·go_simp;refine(aV.out wx N).mono ?_;rintro e w2 ⟨rfl,aY⟩;exact J _ _ rfl (Af rfl aY)
   ·refine wp_store_row 101 (.tmp 2) (.tmp 11) rfl (h+1) #[.int .i64 lv,.int .i64 ow,.map (some ob),.map (some sb)] (evs Z) (evs T) _ _ t (by kernel_rfl) rfl (by rw[<-Array.all_toList];rfl) ?_;exact J undef _ (setRow_heap wx (h+1) _ _ _ _ t) (Cc rfl (OnlyG.setRow (h+1) _))
  ·rintro f w9 l c;have l:OnlyG (h+1) wr w9:=l;have S3:f 3=.bool RB:=c.2.2.2.2.2.2.2.1;have S2:Blk w9 (h+1) 101 #[.int .i64 lv,.int .i64 ow,.map (some ob),.map (some sb)]:=c.2.2.2.2.2.2.1;clear c;simp only[Ak,At,Ei,dG,dH,dJ,dK,Nat.reduceBEq,Nat.reduceAdd,dO,dP,cond_true,cond_false];rw[S3];clear S3;go_wp2_with fail;refine bodyPost_ret (v:=.tuple #[.agg #[.int .i64 lv,.int .i64 ow,.map (some ob),.map (some sb)],.bool RB]) (Ad results88 _ _ (h+1) _ _ _ rfl S2 underlying101 rfl (by kernel_rfl)) rfl ?_;refine⟨n.out.trans (l.1.mono (by rw[HH.out];exact gJ _)),?_⟩;rw[<-r.out,iP rfl,aI.out,<-aD.out,<-aJ.out];exact⟨ob,sb,rfl,by rw[<-HH.out];have:=aG.out;omega,by rw[<-HH.out];have:=aH.out;omega,aU.out,G,G',aE.out.only l (by have:=aG.out;omega),aB.out,aF.out.only l (by have:=aH.out;omega),aC.out⟩
theorem In {l:List Int} {f:Nat->Int}(b:∀i (a:i<l.length),f i=l[i])(h:l.Pairwise (· < ·))(c:∀x∈l,0<=x):Hm f l.length=true:=by
 refine Lf fun i a=> ?_;unfold Fy;rw[b i a]
 by_cases e:i=0
 ·rw[iP e];have:=c l[i] (aG a);omega
 ·rw[iN e,b (i-1) (by omega)];exact List.pairwise_iff_getElem.1 h (i-1) i (by omega) a (by omega)
theorem Hx {l:List (Int×NodeD)}(h:(l.map (·.1)).Pairwise (· < ·)) {p:Int×NodeD}(c:p∈l):Aj l p.1=some p.2:=by
 obtain⟨i,a,rfl⟩:=eA c;have d:=Lr a;rw[<-d];refine Zq a (fun j b e=> ?_) rfl;have:=List.pairwise_iff_getElem.1 h j i (by simp;omega) (by simpa using a) b;rw[hQ,hQ,<-Lr (by omega),<-Lr a]at this;omega
theorem Gq {l:List (Int×List Nat)}(h:(l.map (·.1)).Pairwise (· < ·)) {p:Int×List Nat}(c:p∈l):Ay l p.1=some p.2:=by
 obtain⟨i,a,rfl⟩:=eA c;have d:=Ls a;rw[<-d];refine Zs a (fun j b e=> ?_) rfl;have:=List.pairwise_iff_getElem.1 h j i (by simp;omega) (by simpa using a) b;rw[hQ,hQ,<-Ls (by omega),<-Ls a]at this;omega
theorem Uw {x:Int}(h0:0<=x)(h:x%2=0):Ziz x=2:=by rw[Ziz,eM h0,iN (by omega)]
theorem Zx {x:Int}(h0:0<=x)(h:x%2=1):Ziz x=1:=by rw[Ziz,eM h0,iP h]
theorem Qg {n:Int} {p:Int×NodeD}(h:0<=p.1/\p.1<=2*n-2):Qc n p=true↔Bz p.1 p.2=true:=by
 constructor
 ·intro g;obtain⟨-,h2,h3,f,c⟩:=Lt g;unfold Bz;rw[h2,dM,cK,cM,gZ];refine⟨?_,fun u j=>by rw[c u j];simp⟩;rw[dI];rcases Int.emod_two_eq p.1 with e|e
  ·rw[Uw h.1 e];exact fun hk=>h3 ⟨e,hk⟩
  ·rw[Zx h.1 e];exact fun hk=>f ⟨e,hk⟩
 ·intro a;have c:=Qe a;have h2:=Hw a;unfold Bz at a;rw[h2,dM,cK,dI]at a;refine Ziy h h2 (fun b=>a.1 ?_) (fun b=>a.1 ?_) fun i d=>c _ ?_
  ·rw[Uw h.1 b.1];exact b.2
  ·rw[Zx h.1 b.1];exact b.2
  ·rw[List.getD_eq_getElem?_getD,List.getElem?_eq_getElem d];exact aG d
theorem Zy {d:NodeD}(h:Aq d=true) {u:Int}(hu:u∈d.par.late):∃m:Nat,u=(m:Int)/\m<65536:=by
 have:=Fu (De h) u hu;exact⟨u.toNat,by omega,by omega⟩
theorem Kk (s:SparseD)(only:Bool):(Bt s&&Ce s.leaves s.own (Aj s.op) (Ay s.sh) (s.op.map (·.1)) (s.sh.map (·.1)) only)=Ah s only:=by
 rw[Bool.eq_iff_iff];cases hft:fits s.leaves.toNat with
 |false=>rw[Zfb hft,Ur hft];simp
 |true=>
  by_cases ho:0<=s.own/\s.own<s.leaves
  ·obtain⟨d,t,E⟩:∃d,d<=16/\s.leaves=((2^d:Nat):Int):=by
    obtain⟨d,t,e⟩:=(fits_iff _).1 hft;exact⟨d,t,by omega⟩
   obtain⟨i,k⟩:∃i:Nat,s.own=(i:Int):=⟨s.own.toNat,by omega⟩;obtain⟨X,e2⟩:=Fx t;have Y:=fK d;have v:2*i+1<2^(d+1):=(by omega);have j:=Ci (F:=fun n:Nat=>Aj s.op n) (i:=i) (only:=only) d (2^d-1) 0 [] (Bs d) (by omega);have q:=fun(r:Cm fun n:Nat=>Aj s.op n)=>(show(Bf (fun n:Nat=>Aj s.op n) i only d (2^d-1) 0 []).2.2=Le (Aj s.op) d i only d/\_ from⟨Zp (FI:=Aj s.op) t (fun _=>rfl) r v,Uq (FI:=Aj s.op) (only:=only) t (fun _=>rfl) r v⟩);rw[Ah,Ce,hft,dT ho,E,k,cD,cD,iD];simp only[dM,cK,Zo,Ze8,k];generalize Bf (fun n:Nat=>Aj s.op n) i only d (2^d-1) 0 []=V at j q|-;constructor
   ·rintro⟨U,⟨⟨hk,G⟩,T⟩,⟨g,b⟩,c⟩;have b:=oD b;have c:=oD c;have A:(s.op.map (·.1)).Pairwise (· < ·):=(by rw[<-b];exact j.opr);have B:(s.sh.map (·.1)).Pairwise (· < ·):=(by rw[<-c];exact j.shr);have M:∀p∈s.op,0<=p.1/\p.1<=2*((2^d:Nat):Int)-2:=fun p a=>by
     have w:p.1∈V.1:=(by rw[b];exact iC a);obtain⟨m,e,h⟩:=j.op _ w;unfold inR at h;omega
    have o:∀p∈s.op,Bz p.1 p.2=true:=fun p a=>by
     have:=List.all_eq_true.1 G p.1 (iC a)
     rwa [Hx A a]at this
    have r:Cm fun n:Nat=>Aj s.op n:=fun x D C u z=>by
     have a:=Cv C;have P:=o _ a;obtain⟨m,e,w⟩:=Zy (Hw P) z;exact⟨m,e,w,by have:=Qe P u z;rwa [e]at this⟩
    obtain⟨I,J⟩:=q r;obtain⟨K,L⟩:=J g;refine⟨⟨?_,?_⟩,⟨⟨hk,by rw[<-I];exact g⟩,?_⟩,?_⟩
    ·exact List.all_eq_true.2 fun p a=>(Qg (M p a)).2 (o p a)
    ·refine List.all_eq_true.2 fun p a=> ?_;have:=List.all_eq_true.1 T p.1 (iC a)
     rwa [Gq B a]at this
    ·exact dT (b.symm.trans K.symm)
    ·exact dT (c.symm.trans L.symm)
   ·rintro⟨⟨y,H⟩,⟨⟨hk,g⟩,b⟩,c⟩;have b:=oD b;have c:=oD c;have r:Cm fun n:Nat=>Aj s.op n:=fun x D C u z=>by
     have a:=Cv C;obtain⟨-,h2,-,-,S⟩:=Lt (List.all_eq_true.1 y _ a);obtain⟨m,e,w⟩:=Zy h2 z;exact⟨m,e,w,by have:=S u z;rwa [e]at this⟩
    obtain⟨I,J⟩:=q r;rw[<-I]at g;obtain⟨K,L⟩:=J g;rw[K]at b;rw[L]at c;have A:(s.op.map (·.1)).Pairwise (· < ·):=(by rw[b];exact j.opr);have B:(s.sh.map (·.1)).Pairwise (· < ·):=(by rw[c];exact j.shr);have R:∀x∈s.op.map (·.1),0<=x:=fun x hx=>(by rw[b]at hx;obtain⟨m,e,h⟩:=j.op _ hx;omega);have g2:∀x∈s.sh.map (·.1),0<=x:=fun x hx=>(by rw[c]at hx;obtain⟨m,e,h⟩:=j.sh _ hx;omega);have W:Bt s=true:=by
     have N:=In (l:=s.op.map (·.1)) (f:=spK s.op) (fun i k=>by simp only[eE]at k;rw[hQ,spK,Lr k]) A R;have O:=In (l:=s.sh.map (·.1)) (f:=stK s.sh) (fun i k=>by simp only[eE]at k;rw[hQ,stK,Ls k]) B g2;rw[eE]at N O;rw[Bt,N,O];rfl
    refine⟨W,⟨⟨hk,?_⟩,?_⟩,⟨g,by rw[dI,b]⟩,by rw[dI,c]⟩
    ·refine List.all_eq_true.2 fun x hx=> ?_;obtain⟨p,a,rfl⟩:=List.mem_map.1 hx;rw[Hx A a];have Q:=List.all_eq_true.1 y _ a;exact(Qg (Lt Q).1).1 Q
    ·refine List.all_eq_true.2 fun x hx=> ?_;obtain⟨p,a,rfl⟩:=List.mem_map.1 hx;rw[Gq B a];exact List.all_eq_true.1 H _ a
  ·rw[Zkh ho,Xd ho];simp
theorem Zz (s:SparseD):okS s=Ah s false:=Kk s false
end Go.Proofs.YtfofaiommeckbaaGreat
namespace Go.Proofs.YtfofaiommeckbaaGreat
open Go.RowKit WalkM WireM
theorem Xi {w:World} {B:Nat} {e:TypeId} {v:Value} {xs:List Value}(h:Own w B e v xs) {g:Nat}(hg:w.heap.size<=g):v.ownBlock≠some g:=fun he=>absurd (Own.blockLt h he).1 (by omega)
theorem Blk.rdV {w:World} {g:Nat} {t:TypeId} {cs:List Value}(h:Blk w g t cs.toArray)(hl:cs.length<=maxLen):Rd w (rD (some ⟨g,0,rJ⟩) cs.length cs.length) cs:=
 ⟨_,_,rfl,lR,hl,.inr ⟨g,0,rfl,fun j u hu=>by rw[h.cell,Nat.zero_add];simpa using hu⟩⟩
theorem StepO.trans {V:Value} {B:Nat} {a b c:World}(h:StepO V B a b)(k:StepO V B b c):StepO V B a c:=
 ⟨h.1.trans k.1,fun i hi hne=>(k.2 i (bO hi h.1.size) hne).trans (h.2 i hi hne)⟩
theorem StepO.keep {V:Value} {B g:Nat} {a b:World} {t:TypeId} {cs:Array Value}(h:StepO V B a b)(k:Blk a g t cs)(hne:V.ownBlock≠some g):Blk b g t cs:=(h.2 g k.lt hne).trans k
theorem StepO.drew (V:Value)(B:Nat)(w:World):StepO V B w w.drew:=⟨⟨rfl,rfl,rfl,lR,fun _ _=>rfl⟩,fun _ _ _=>rfl⟩
theorem Zaa {w:World} {G:Int->Option Value} {H:Int->Option (List Nat)}(h:RunsH w G H)(x:Nat):Rd w ((G (x:Int)).getD (rD rJ 0 0)) (bvs (Es H x)):=by
 have:=h (x:Int);unfold Es;cases e:H (x:Int)with
 |none=>rw[e]at this;have this:G (x:Int)=none:=this;rw[this];exact(Own.nil w 0 5).rd
 |some L=>rw[e]at this;obtain⟨v,a,h2⟩:=this;rw[a];exact h2
def Znm (F:Int->Option NodeD)(H:Int->Option (List Nat))(k:Nat):Prop:=
 ∀(x:Nat) (lv ow:Int) (ob sb nb mb:Nat) (G G':Int->Option Value) (w0:World) (B:Nat) (v:Value) (xs:List Nat) (w:World),IsLev x k->x+2^k<=131071->MapF w0 ob nb G->NodesG w0 G F->MapF w0 sb mb G'->RunsH w0 G' H->w0.heap.size<=B->Below B w0 w->B<=w.heap.size->
  Own w B 5 v (bvs xs)->xs.length+12002*2^k<=1000000000->
  Calls prog 135 #[.agg #[.int .i64 lv,.int .i64 ow,.map (some ob),.map (some sb)],v,.int .i64 (x:Nat)] w fun e w'=>∃v',e=rM v'/\Grow w v B w' v' (bvs (xs++putS F H k x))
theorem Zab (F:Int->Option NodeD)(H:Int->Option (List Nat))(hP:PieceOk F H)(k:Nat)(IH:∀j,k=j+1->Znm F H j):Znm F H k:=by
 intro x lv ow ob sb nb mb G G' w0 B v xs w hl hx hm J aM a2 bW hB aY aR aP;obtain⟨hv,S⟩:=J.val (x:Int);have aA:=J.one (x:Int);have E:=fun d (h:F (x:Int)=some d)=>(J.some h).2;obtain⟨c0,c1,c2,c3,c4,c5,c6,c7,c8,c9,hc⟩:=J.ten (x:Int);rw[hc]at hv aA E;have cX:=fK k;have cZ:=hm.lt;have dA:=aM.lt;have a8:inI (x:Int):=(by unfold inI;omega);have RG:=fun(W:World) (hw:Below B w0 W)=>MapF.run_getOk (T:=98) (hm.belowB hw (by omega)) underlying98 (Fg W) a8;rw[hv,S]at RG;have aX:=fun(W:World) (hw:Below B w0 W)=>MapF.run_get (T:=99) (aM.belowB hw (by omega)) underlying99 (zeroValue28 W) a8;have RU:=Zaa a2 x;obtain⟨u0,b5⟩:=eX ((G' (x:Int)).getD (rD rJ 0 0));rw[<-b5]at aX RU;have a6:=Hv hP x;have PN:=fun(h:F (x:Int)=none)=>Gn (H:=H) (k:=k) h;obtain⟨L,hL⟩:=eX (Es H x);rw[<-hL]at RU a6 PN;obtain⟨p,hp⟩:=eX w.heap.size;have HP:=Hd hp;have HB:=Hd hB;have r:=Hd aY;have aG:=Hd aR;have aE:=Hd bW;have bJ:=Hd aA;have bP:=Hd aX;have cM:=Hd RU;have cP:=Hd a6;have cJ:=Hd PN;have s:=Hd aP;have cQ:=Hd E;have bV:=RG _ ((hB.trans ((Below.refl w.heap.size w).alloc lR (rK #[.int .i64 lv,.int .i64 ow,.map (some ob),.map (some sb)] 101)|>.mono aY)));have aT:=Hd (show Blk (w.alloc (rK #[.int .i64 lv,.int .i64 ow,.map (some ob),.map (some sb)] 101)) w.heap.size 101 #[.int .i64 lv,.int .i64 ow,.map (some ob),.map (some sb)]from Blk.new _ _ _);have aS:=Hd ((Below.refl w.heap.size w).alloc lR (rK #[.int .i64 lv,.int .i64 ow,.map (some ob),.map (some sb)] 101));have p2:=(aT.out).cell 2;simp only[bY,bZ,cA]at p2;obtain⟨is,a3⟩:=eX ((F (x:Int)).isSome);rw[<-a3]at bV;have bE:=Hd a3;have HX:=Hd hx;have aV:=Hd hl;have HM:=Hd hm;have HG:=Hd J;have bF:=Hd aM;have bC:=Hd a2;clear RG aX RU hm J aM a2 hv S hc a3 hp hB aY aR bW aA a6 PN hL aP E b5 a8 hx hl cZ dA cX;go_in;go_wp2_with (refine Aa rfl 52 (.tmp 7) (.tmp 16) rfl (w.heap.size+1) #[c0,c1,c2,c3,c4,c5,c6,c7,c8,c9] rfl rfl 52 #[.int .u8 0,rD rJ 0 0,rD rJ 0 0,rD rJ 0 0,.int .u8 0,rD rJ 0 0,rD rJ 0 0,rD rJ 0 0,rD rJ 0 0,rD rJ 0 0] (by have Q:=Blk.new (w.alloc (rK #[.int .i64 lv,.int .i64 ow,.map (some ob),.map (some sb)] 101)) 52 #[.int .u8 0,rD rJ 0 0,rD rJ 0 0,rD rJ 0 0,.int .u8 0,rD rJ 0 0,rD rJ 0 0,rD rJ 0 0,rD rJ 0 0,rD rJ 0 0];simpa using Q) (by kernel_rfl) rfl bJ.out ?_);rintro D n b0 aQ a5;have aF:=Hd ((aS.out.alloc aS.out.size (rK #[.int .u8 0,rD rJ 0 0,rD rJ 0 0,rD rJ 0 0,.int .u8 0,rD rJ 0 0,rD rJ 0 0,rD rJ 0 0,rD rJ 0 0,rD rJ 0 0] 52)).trans (b0 w.heap.size (gJ _)));have aH:=Hd (show Blk D w.heap.size 101 #[.int .i64 lv,.int .i64 ow,.map (some ob),.map (some sb)]from(aQ w.heap.size (by omega)).trans (aT.out.alloc _));rw[<-HP.out]at aH n|-;have l:=Hd n;have dE:=Hd (show p+1<D.heap.size from n.lt);have bK:=Hd (show w.heap.size=p from HP.out.symm);have V:=Hd ((Grow.start aG.out r.out).next aF.out r.out);have aI:=Hd (HB.out.trans (aF.out.mono r.out));have i:=Hd (eN r.out aF.out.size);clear n b0 aQ a5 bV p2 aS aT;cases is with
 |false=>
  have hF:F (x:Int)=none:=by have:=bE.out;cases e:F (x:Int)with
   |none=>rfl
   |some d=>rw[e]at this;cases this
  have HQ:=Hd (cJ.out hF);clear hF;go_wp2_with fail;refine Gy [eF v,fun u w'=>∃g,u=rD (some ⟨g,0,rJ⟩) 1 1/\D.heap.size<=g/\Blk w' g 5 #[.int .u8 0],fun u w'=>Grow D v B w' u (bvs xs++[.int .u8 0]),eF (rF (some ⟨p,3,rJ⟩)),eF (.map (some sb)),eF (.int .i64 (x:Nat)),eF u0,fun u w'=>Grow D v B w' u (bvs xs++[.int .u8 0]++bvs L),fun u w'=>Grow D v B w' u (bvs xs++[.int .u8 0]++bvs L)]
   (fun X=>StepO v B D X) (fun X Y=>StepO v B X Y) (some 2) 7 (by kernel_rfl) (by kernel_rfl) (by kernel_rfl) (by kernel_rfl)
   (kE (Dk (fun u x y h hi S=>let⟨g,e,J,hb⟩:=h;⟨g,e,J,(S.2 g hb.lt (Xi V.out.own J)).trans hb⟩) (Cw (fun u x y h hi S=>h.next S i.out) (kE (kE (kE (kE (Ag (fun _ _ _ _ _ _=>trivial) (Ag (fun _ _ _ _ _ _=>trivial) Ae)))))))))
   (fun u x y h hb=>h.next hb i.out) (fun u x y h hb=>h.next hb i.out) (StepO.drew v B D) (fun X Y hx h=>StepO.of h (eN i.out hx.1.size)) (fun X Y hx S=>hx.trans S) ?_ ?_
  ·refine gP9 rfl ?_ rfl (gO9 rfl ?_ (gO9 rfl ?_ (gP9 rfl ?_ rfl (gP9 rfl ?_ rfl (gP9 rfl ?_ rfl (gO9 rfl ?_ (gO9 rfl ?_ (gT9 rfl ?_ .nil))))))))
   rotate_right
   ·intro a C O N;refine⟨rfl,?_⟩;intro K z;have P:Grow D v B C (a.tmps[27]?.getD undef) (bvs xs++[.int .u8 0]++bvs L):=N.1;obtain⟨v1,b⟩:=eX (a.tmps[27]?.getD undef);rw[<-b]at P;have e1:=b.symm;clear b;go_simp;exact z _ _ P bR
   all_goals
    intro a C c m O N;have c:StepO v B D C:=c;refine⟨rfl,?_⟩;intro K z;try have cS:a.tmps[1]?.getD undef=v:=O 1 (by kernel_rfl)
    try have cT:a.tmps[2]?.getD undef=.int .i64 (x:Nat):=O 2 (by kernel_rfl)
    try have aW:a.tmps[3]?.getD undef=rF (some ⟨p,0,rJ⟩):=O 3 (by kernel_rfl)
    try have bA:=eqn N.1
    try have bB:=eqn N.2.1
    try(have b9:=(StepO.keep c aH.out (Xi aG.out (iE bK.out))).cell 3;simp only[bY,bZ,cA]at b9)
    try(refine Hd ?_;go_simp;exact z _ rfl)
   ·go_simp;exact z _ _ ⟨_,rfl,c.1.size,Blk.new _ _ _⟩ (fun _=>Af rfl (bR.alloc lR _))
   ·have m:Below D.heap.size D C:=m (by kernel_rfl);obtain⟨ga,b,dI,n⟩:∃g,a.tmps[21]?.getD undef=rD (some ⟨g,0,rJ⟩) 1 1/\D.heap.size<=g/\Blk C g 5 #[.int .u8 0]:=N.2.1;have o1:=Blk.rdV (cs:=[.int .u8 0]) n (by unfold maxLen;simp);refine Rj (.tmp 20) (.tmp 21) 28 rfl B 5 _ 1 Ca v (bvs xs) (evs bA) (V.out.own.below m lR) _ [.int .u8 0] (evs b) o1 (by simp[Value.oneCell']) (by have:=s.out;have:=fK k;simp only[bvs_len,dB,bU];omega) (eN i.out m.size) ?_;intro v' w4 Q h2 h3 R;exact z _ _ (((Grow.start V.out.own i.out).next m i.out).trans (Grow.app Q h2 h3 R)) (fun _=>Cc rfl (Grow.app Q h2 h3 R).step)
   ·have dC:=bP.out C (aI.out.trans c.1);go_simp;exact z _ _ rfl (fun _=>Af rfl bR)
   ·have P:Grow D v B C (a.tmps[22]?.getD undef) (bvs xs++[.int .u8 0]):=N.1;obtain⟨v1,b⟩:=eX (a.tmps[22]?.getD undef);rw[<-b]at P;have e1:=b.symm;clear b;refine Rj (.tmp 22) (.tmp 26) 28 rfl B 5 _ 1 Ca v1 _ (evs e1) P.own u0 (bvs L) (evs bB) (cM.out.below (aI.out.trans c.1) aE.out) (By _) (by have:=s.out;have:=cP.out;have:=fK k;simp only[aD,bvs_len,dB,bU];omega) (eN i.out c.1.size) ?_;intro v' w4 Q h2 h3 R;exact z _ _ (P.trans (Grow.app Q h2 h3 R)) (fun h=>absurd rfl h)
  ·rintro f w9 A;have S6:Grow D v B w9 (f 6) (bvs xs++[.int .u8 0]++bvs L):=A.2.2.2.2.2.2.2.2.1;clear A;simp only[Ak,At,Ei,dG,dH,dJ,dK,Nat.reduceBEq,Nat.reduceAdd,dO,dP,cond_true,cond_false];obtain⟨u,hu⟩:=eX (f 6);rw[<-hu]at S6|-;have cO:=Hd S6;clear S6 hu;go_wp2_with fail;go_ret;refine⟨_,rfl,?_⟩;have:=V.out.trans cO.out;rw[HQ.out];simpa [bvs]using this
 |true=>
  obtain⟨d,hF⟩:∃d,F (x:Int)=some d:=Option.isSome_iff_exists.1 bE.out.symm;have b2:=cQ.out d hF;obtain⟨b4,a7,hr⟩:=hP.ok _ _ hF;have aN:=Kv d _ D (b2.below aI.out aE.out) b4 a7;unfold Ej at aN;rw[iP hr,iP hr]at aN;have cH:=Hd aN;have bI:=Hd (Cz a7);have HF:=Hd hF;have k0:=l.out.cell 0;have k1:=l.out.cell 1;have k2:=l.out.cell 2;have k3:=l.out.cell 3;have k4:=l.out.cell 4;have k5:=l.out.cell 5;have k6:=l.out.cell 6;have k7:=l.out.cell 7;have k8:=l.out.cell 8;have k9:=l.out.cell 9;simp only[bY,bZ,cA]at k0 k1 k2 k3 k4 k5 k6 k7 k8 k9;have bQ:=Hd (Xi aG.out (iE bK.out));clear hF b2 b4 a7 hr aN;go_wp2_with fail;refine cH.out.mono ?_;rintro e w4 ⟨Z,v9,rfl,aB⟩;have bD:=Hd (V.out.next Z r.out);have bL:=Hd (aH.out.below Z aH.out.lt);have cD:=Hd aB;have dF:=Hd (aI.out.trans (Z.mono i.out));have cB:=Hd (eN i.out Z.size);have cI:=Hd (show p<w4.heap.size from bL.out.lt);clear Z aB k0 k1 k2 k3 k4 k5 k6 k7 k8 k9;go_wp2_with (at_builtin;refine Df rfl (.tmp 33) (.tmp 34) 28 rfl B 5 _ 1 Ca _ _ rfl (bD.out.own.alloc _) _ (.int .u8 1) rfl ?c1 rfl ?c2 ?c3 ?_);case c1=>exact Bi rfl
  case c2=>have:=s.out;simp only[bvs_len];omega
  case c3=>have:=cB.out;simp;omega
  rintro v5 w5 Q h2 h3 R;have t:=Grow.app Q h2 h3 R;have aU:=Hd ((bD.out.next (bR.alloc lR _) r.out).trans t);have bM:=Hd (StepO.keep t.step (bL.out.alloc _) bQ.out);have cC:=Hd (StepO.own t.step (cD.out.alloc _) fun g J=>bO (Own.blockLt aG.out J).1 (by have:=aF.out.size;omega));have bG:=Hd (show v5.ownBlock≠some p by
   rcases R with e|⟨g,e,J⟩
   ·rw[e];exact bQ.out
   ·rw[e];intro e2;cases e2;have:=cI.out;simp at J;omega)
  clear Q h2 h3 R t;go_wp2_with (at_builtin;refine Xc rfl (.tmp 35) (.tmp 36) 28 rfl B 5 _ 1 Ca _ _ rfl aU.out.own _ _ rfl cC.out.rd (By _) ?c4 ?c5 ?_);case c4=>have:=s.out;have:=bI.out;simp only[aD,bvs_len,dB,bU];omega
  case c5=>have:=aU.out.size;have:=r.out;omega
  rintro o I Q h2 h3 R;have t:=Grow.app Q h2 h3 R;obtain⟨U,aO⟩:=eX (xs++(1::Bk d));have M:=Hd (show Grow w v B I o (bvs U) by rw[aO];simpa [bvs]using aU.out.trans t);have cR:=Hd (show U.length<=xs.length+6001 by rw[aO];have:=bI.out;simp only[aD,dB];omega);have bN:=Hd (StepO.keep t.step bM.out bG.out);have bH:=Hd (show o.ownBlock≠some p by
   rcases R with e|⟨g,e,J⟩
   ·rw[e];exact bG.out
   ·rw[e];intro e2;cases e2;have:=bM.out.lt;omega)
  have bT:=Hd aO;have q:=Hd (show B<=I.heap.size from eN r.out M.out.size);have bS:=Hd (HB.out.trans M.out.step.1);clear Q h2 h3 R t aO;cases k with
  |zero=>
   have a1:x%2=0:=Hh aV.out;have b1:eL (x:Int) 2=0:=(by rw[eM (by omega)];omega);have a4:(x:Int)%2=0:=(by omega);clear a1;go_wp2_with fail;go_ret;refine⟨_,rfl,?_⟩;rw[Kf HF.out,<-bT.out];exact M.out
  |succ j=>
   have b3:x%2=1:=Fn aV.out;have b1:eL (x:Int) 2=1:=(by rw[eM (by omega)];omega);have a4:(x:Int)%2=1:=(by omega);have cW:=fK j;have cU:2^(j+1)=2*2^j:=(by rw[Nat.pow_succ];omega);have aC:x<=131070:=(by have:=HX.out;omega);obtain⟨kl,kr,b7,b8,kx⟩:=kids_lev aC aV.out;have aJ:=fun(W:World)=>Gb (x:Int) W;have aK:=fun(W:World)=>Ev (x:Int) W;rw[kl]at aJ;rw[kr]at aK;have PS:=Kg (H:=H) (k:=j) HF.out;have PL:=Zv hP j (x-2^j);have hX:=HX.out;have bX:=s.out;have cV:=cR.out;have I1:=fun(W:World) (h:StepO o B I W) (O:Own W B 5 o (bvs U))=>IH j rfl (x-2^j) lv ow ob sb nb mb G G' w0 B o U W b7 (by omega) HM.out HG.out bF.out bC.out aE.out (bS.out.trans h.1) (eN q.out h.1.size) O (by omega);have I2:=fun(u:Value) (W:World) (h:StepO o B I W) (O:Own W B 5 u (bvs (U++putS F H j (x-2^j))))=>IH j rfl (x+2^j) lv ow ob sb nb mb G G' w0 B u (U++putS F H j (x-2^j)) W b8 (by omega) HM.out HG.out bF.out bC.out aE.out (bS.out.trans h.1) (eN q.out h.1.size) O (by rw[aD];omega);obtain⟨L1,aZ⟩:=eX (putS F H j (x-2^j));obtain⟨L2,a0⟩:=eX (putS F H j (x+2^j));rw[<-aZ]at I1 PS;rw[<-a0]at PS;simp only[<-aZ,<-a0]at I2;obtain⟨xl,b6⟩:=eX (x-2^j);obtain⟨xr,a9⟩:=eX (x+2^j);rw[<-b6]at I1 aJ;simp only[<-a9]at I2;rw[<-a9]at aK;have cE:=Hd I1;have cF:=Hd I2;have cG:=Hd aJ;have cL:=Hd aK;have cK:=Hd PS;clear I1 I2 aJ aK PS PL kl kr b7 b8 kx aZ a0 b6 a9 hX bX cV aC b3 cU cW;go_wp2_with fail;refine Gy [eF (.agg #[.int .i64 lv,.int .i64 ow,.map (some ob),.map (some sb)]),eF (.agg #[.int .i64 lv,.int .i64 ow,.map (some ob),.map (some sb)]),eF o,eF (.int .i64 (x:Nat)),eF (.int .i64 (xl:Nat)),fun u w'=>Grow I o B w' u (bvs (U++L1)),eF (.int .i64 (x:Nat)),eF (.int .i64 (xr:Nat)),fun u w'=>Grow I o B w' u (bvs (U++L1++L2)),fun u w'=>Grow I o B w' u (bvs (U++L1++L2))]
    (fun X=>StepO o B I X) (fun X Y=>StepO o B X Y) (some 5) 8 (by kernel_rfl) (by kernel_rfl) (by kernel_rfl) (by kernel_rfl)
    (kE (kE (kE (kE (kE (Cw (fun u x y h hi S=>h.next S q.out) (kE (kE (Ag (fun _ _ _ _ _ _=>trivial) (Ag (fun _ _ _ _ _ _=>trivial) Ae))))))))))
    (fun u x y h hb=>h.next hb q.out) (fun u x y h hb=>h.next hb q.out) (StepO.drew o B I) (fun X Y hx h=>StepO.of h (eN q.out hx.1.size)) (fun X Y hx S=>hx.trans S) ?_ ?_
   ·refine gO9 rfl ?_ (gO9 rfl ?_ (gP9 rfl ?_ rfl (gP9 rfl ?_ rfl (gO9 rfl ?_ (gO9 rfl ?_ (gP9 rfl ?_ rfl (gO9 rfl ?_ (gO9 rfl ?_ (gT9 rfl ?_ .nil)))))))))
    rotate_right
    ·intro a C O N;refine⟨rfl,?_⟩;intro K z;have P:Grow I o B C (a.tmps[49]?.getD undef) (bvs (U++L1++L2)):=N.1;obtain⟨v1,b⟩:=eX (a.tmps[49]?.getD undef);rw[<-b]at P;have e1:=b.symm;clear b;go_simp;exact z _ _ P bR
    all_goals
     intro a C c m O N;have c:StepO o B I C:=c;refine⟨rfl,?_⟩;intro K z;try have cS:a.tmps[1]?.getD undef=o:=O 1 (by kernel_rfl)
     try have cT:a.tmps[2]?.getD undef=.int .i64 (x:Nat):=O 2 (by kernel_rfl)
     try have aW:a.tmps[3]?.getD undef=rF (some ⟨p,0,rJ⟩):=O 3 (by kernel_rfl)
     try have bA:=eqn N.1
     try have bB:=eqn N.2.1
     try have dD:=eqn N.2.2.1
     try(refine Hd ?_;go_simp;exact z _ rfl)
    ·exact wp_load_row 101 (.tmp 3) rfl _ (evs aW) _ _ (0,0) _ (StepO.keep c bN.out bH.out) underlying101 rfl (by kernel_rfl) (z _ _ rfl (fun _=>Af rfl bR))
    ·exact wp_load_row 101 (.tmp 3) rfl _ (evs aW) _ _ (0,0) _ (StepO.keep c bN.out bH.out) underlying101 rfl (by kernel_rfl) (z _ _ rfl (fun _=>Af rfl bR))
    ·go_simp;refine(cG.out C).mono ?_;rintro e w2 ⟨rfl,rfl⟩;exact z _ _ rfl (fun _=>Af rfl bR)
    ·have m:Below I.heap.size I C:=m (by kernel_rfl);go_simp;refine(cE.out C c (M.out.own.below m lR)).mono ?_;rintro e w2 ⟨u,rfl,aL⟩;exact z _ _ (((Grow.start M.out.own q.out).next m q.out).trans aL) (fun _=>Cc rfl aL.step)
    ·go_simp;refine(cL.out C).mono ?_;rintro e w2 ⟨rfl,rfl⟩;exact z _ _ rfl (fun _=>Af rfl bR)
    ·have P:Grow I o B C (a.tmps[46]?.getD undef) (bvs (U++L1)):=N.2.1;obtain⟨v1,b⟩:=eX (a.tmps[46]?.getD undef);rw[<-b]at P;have e1:=b.symm;clear b;go_simp;refine(cF.out v1 C c P.own).mono ?_;rintro e w2 ⟨u,rfl,aL⟩;exact z _ _ (P.trans aL) (fun h=>absurd rfl h)
   ·rintro f w9 A;have S1:Grow I o B w9 (f 1) (bvs (U++L1++L2)):=A.2.2.2.2.2.2.2.2.2.1;clear A;simp only[Ak,At,Ei,dG,dH,dJ,dK,Nat.reduceBEq,Nat.reduceAdd,dO,dP,cond_true,cond_false];obtain⟨u,hu⟩:=eX (f 1);rw[<-hu]at S1|-;have cN:=Hd S1;clear S1 hu;go_wp2_with fail;go_ret;refine⟨_,rfl,?_⟩;rw[cK.out,<-cY,<-bT.out,<-cY];exact M.out.trans cN.out
theorem Zlq (F:Int->Option NodeD)(H:Int->Option (List Nat))(hP:PieceOk F H):∀k,Znm F H k:=by
 intro k
 induction k with
 |zero=>exact Zab F H hP 0 fun j h=>by cases h
 |succ k ih=>exact Zab F H hP (k+1) fun j h=>by cases h;exact ih
open Go.Maps
theorem Xj (v:Value)(s:SparseD)(w:World)(h:SparseR w v s)(l:SparseOk s)(t:Bx s=true):
  Calls prog 58 #[v] w fun e w'=>e=rM (.bool (Ah s false))/\Below w.heap.size w w':=by
 have r:=fun(W:World) (x:Below w.heap.size w W)=>Hl v s W (h.below x lR) l t;obtain⟨o,g,rfl,-,-⟩:=h;rw[<-Zz];obtain⟨u,j⟩:=eX (Bt s);obtain⟨y,d⟩:=eX (okS s);have q:=Hd j;have n:=Hd d;have i:Hid (∀W,Below w.heap.size w W->Calls prog 88 #[.agg #[.int .i64 s.leaves,.int .i64 s.own,o,g]] W (Kh s W)):=r;obtain⟨lv,f⟩:=eX s.leaves;obtain⟨ow,how⟩:=eX s.own;have m:=Hd f;have p:=Hd how;rw[<-f,<-how]at i|-;rw[<-d];have c:=Hd ((Below.refl w.heap.size w).alloc lR (rK #[.int .i64 lv,.int .i64 ow,o,g] 25));clear r l t j d f how;go_in;go_wp2_with fail;refine(i.out _ c.out).mono ?_;rintro e z ⟨k,a⟩;have b:=Hd (c.out.trans (k.mono c.out.size));rw[<-q.out,<-m.out,<-p.out,<-n.out]at a;clear k;cases u with
 |false=>
  rw[iN (by simp)]at a;obtain rfl:=a;go_wp2_with fail;go_ret;exact⟨rfl,b.out.alloc b.out.size _⟩
 |true=>
  rw[iP rfl]at a;obtain⟨ob,sb,rfl,-⟩:=a;go_wp2_with fail;go_ret;exact⟨rfl,b.out.alloc b.out.size _⟩
def Qh (F:Int->Option NodeD)(H:Int->Option (List Nat))(m d i:Nat):List Nat:=([m]++beN 4 (2^d))++beN 4 i++putS F H d (2^d-1)
theorem Oe {d:Nat}(hd:d<=16):Ne ((2^d:Nat):Int)=((2^d-1:Nat):Int):=by
 have hf:fits (((2^d:Nat):Int)).toNat=true:=(by rw[cD];exact(fits_iff _).2 ⟨d,hd,rfl⟩);have:=fK d;rw[Ne,iP hf];omega
theorem Zb6 (F:Int->Option NodeD)(H:Int->Option (List Nat))(hP:PieceOk F H)(d i m ob sb nb mb:Nat)(G G':Int->Option Value)(w0 w:World)(hd:d<=16)(hi:i<2^d)(hm:MapF w0 ob nb G)(hg:NodesG w0 G F)(R:MapF w0 sb mb G')(P:RunsH w0 G' H)(hB:Below w0.heap.size w0 w):
  Calls prog 75 #[.agg #[.int .i64 ((2^d:Nat):Int),.int .i64 (i:Nat),.map (some ob),.map (some sb)],.int .u8 (m:Nat)] w fun e w'=>∃v',e=rM v'/\Own w' w.heap.size 5 v' (bvs (Qh F H m d i))/\Below w.heap.size w w':=by
 have aK:2^d<=65536:=eN (aZ (by omega) hd) (by decide);have aM:=fK d;have j:=fun(E:World) (U:Below w0.heap.size w0 E) (v:Value) (xs:List Nat) (W:World) (h2:Below E.heap.size E W) (h4:Own W E.heap.size 5 v (bvs xs)) (h5:xs.length<=100)=>
  Zlq F H hP d (2^d-1) ((2^d:Nat):Int) (i:Int) ob sb nb mb G G' E E.heap.size v xs W (Bs d) (by omega) (hm.below U lR) (hg.below U lR) (R.below U lR) (P.below U lR) lR h2 h2.size h4 (by omega)
 have M:=fun(W:World)=>Jf ((2^d:Nat):Int) W (by omega) (by omega);rw[Oe hd]at M;have D:Qh F H m d i=([m]++beN 4 (2^d))++beN 4 i++putS F H d (2^d-1):=rfl;obtain⟨Y,hY⟩:=eX (putS F H d (2^d-1));rw[<-hY]at D;simp only[<-hY]at j;obtain⟨x,hx⟩:=eX (2^d-1);simp only[<-hx]at j M;obtain⟨n,hn⟩:=eX (2^d);rw[<-hn]at aK D hi|-;simp only[<-hn]at j M;have P1:=fun(v:Value) (W:World) (h:Rd W v (bvs [m]))=>Ey v [m] 4 n W h (by simp) rfl (by omega);have T:=fun(v:Value) (W:World) (h:Rd W v (bvs ([m]++beN 4 n)))=>Ey v ([m]++beN 4 n) 4 i W h (by rw[aD,beN_len];simp) rfl (by omega);obtain⟨A,V⟩:=eX ([m]++beN 4 n);obtain⟨C,hC⟩:=eX (A++beN 4 i);have O:C.length<=100:=(by rw[hC,V];simp only[aD,beN_len,dB,bU];omega);rw[<-V]at D;simp only[<-V]at P1 T;rw[<-hC]at D;simp only[<-hC]at T;rw[D];have J:=Hd j;have aH:=Hd M;have aF:=Hd P1;have aG:=Hd T;have aC:=Hd O;have HB:=Hd hB;obtain⟨p,hp⟩:=eX w.heap.size;have HP:=Hd hp;have aT:IntKind.u64.wrap ((n:Nat):Int)=(n:Int):=(by rw[IntKind.wrap_u64];omega);have aS:IntKind.u64.wrap ((i:Nat):Int)=(i:Int):=(by rw[IntKind.wrap_u64];omega);have r:=Hd (show Blk (w.alloc (rK #[.int .i64 (n:Nat),.int .i64 (i:Nat),.map (some ob),.map (some sb)] 101)) w.heap.size 101 #[.int .i64 (n:Nat),.int .i64 (i:Nat),.map (some ob),.map (some sb)]from Blk.new _ _ _);have q0:=r.out.cell 0;simp only[bY,bZ]at q0;clear j M P1 T D hY hx hn V hC O hB hp hm hg R P aM hd;go_in;go_wp2_with fail;refine(aF.out _ _ ?rd).mono ?_;case rd=>
  have h1:=Blk.new (w.alloc (rK #[.int .i64 (n:Nat),.int .i64 (i:Nat),.map (some ob),.map (some sb)] 101)) 5 #[.int .u8 (m:Nat)];exact Blk.rdV (cs:=[.int .u8 (m:Nat)]) (by simpa using h1) (by unfold maxLen;simp)
 rintro e b ⟨v1,rfl,k,z⟩;have s:=Hd ((r.out.alloc (rK #[.int .u8 (m:Nat)] 5)).below z (r.out.alloc _).lt);have l:=Hd ((((Below.refl w.heap.size w).alloc lR (rK #[.int .i64 (n:Nat),.int .i64 (i:Nat),.map (some ob),.map (some sb)] 101)).alloc (by simp) (rK #[.int .u8 (m:Nat)] 5)).trans (z.mono (by simp;omega)));have aE:=Hd k;rw[<-HP.out]at s|-;clear k z q0;go_wp2_with fail;refine Gy [eF (.agg #[.int .i64 (n:Nat),.int .i64 (i:Nat),.map (some ob),.map (some sb)]),eF v1,eF (rF (some ⟨p,1,rJ⟩)),eF (.int .i64 (i:Nat)),eF (.int .u64 (i:Nat)),fun u w'=>Own w' b.heap.size 5 u (bvs C),eF (rF (some ⟨p,0,rJ⟩)),eF (.int .i64 (n:Nat)),eF (.int .i64 (x:Nat)),fun u w'=>Own w' b.heap.size 5 u (bvs (C++Y))/\Below b.heap.size b w',fun u w'=>Own w' b.heap.size 5 u (bvs (C++Y))/\Below b.heap.size b w']
  (fun X=>Below b.heap.size b X) (fun X Z=>Below X.heap.size X Z) none 9 (by kernel_rfl) (by kernel_rfl) (by kernel_rfl) (by kernel_rfl)
  (kE (kE (kE (kE (kE (Ag (fun u x y h hi hs=>Own.below h hs lR) (kE (kE (kE (Ag (fun _ _ _ _ _ _=>trivial) (Ag (fun _ _ _ _ _ _=>trivial) Ae)))))))))))
  (fun u x y h N=>⟨h.1.below N lR,h.2.trans (N.mono h.2.size)⟩) (fun u x y h N=>⟨h.1.below N lR,h.2.trans (N.mono h.2.size)⟩) ⟨rfl,rfl,rfl,lR,fun _ _=>rfl⟩ (fun _ _ _ h=>h) (fun _ _ hx hs=>hx.trans (hs.mono hx.size)) ?_ ?_
 ·refine gO9 rfl ?_ (gP9 rfl ?_ rfl (gP9 rfl ?_ rfl (gP9 rfl ?_ rfl (gP9 rfl ?_ rfl (gO9 rfl ?_ (gP9 rfl ?_ rfl (gP9 rfl ?_ rfl (gO9 rfl ?_ (gO9 rfl ?_ (gT9 rfl ?_ .nil))))))))))
  rotate_right
  ·intro a q ho I;refine⟨rfl,?_⟩;intro K t;have S:Own q b.heap.size 5 (a.tmps[21]?.getD undef) (bvs (C++Y))/\Below b.heap.size b q:=I.1;obtain⟨v2,g⟩:=eX (a.tmps[21]?.getD undef);rw[<-g]at S;have e1:=g.symm;clear g;go_simp;exact t _ _ S bR
  all_goals
   intro a q c aR ho I;have c:Below b.heap.size b q:=c;refine⟨rfl,?_⟩;intro K t;try have aI:a.tmps[2]?.getD undef=rF (some ⟨p,0,rJ⟩):=ho 2 (by kernel_rfl)
   try have aQ:a.tmps[5]?.getD undef=v1:=ho 5 (by kernel_rfl)
   try have aN:=eqn I.1
   try have aO:=eqn I.2.1
   try have aP:=eqn I.2.2.1
   have B:=s.out.below c s.out.lt;try(have aA:=B.cell 0;simp only[bY,bZ]at aA)
   try(have aB:=B.cell 1;simp only[bY,bZ,cA]at aB)
   try(refine Hd ?_;go_simp;exact t _ rfl)
  ·exact wp_load_row 101 (.tmp 2) rfl _ (evs aI) _ _ (0,0) _ B underlying101 rfl (by kernel_rfl) (t _ _ rfl (fun _=>Af rfl bR))
  ·go_simp;refine(aG.out _ q (aE.out.rd.below c lR)).mono ?_;rintro e w2 ⟨u,rfl,aL,aJ⟩;exact t _ _ (aL.mono c.size) (fun _=>Af rfl aJ)
  ·go_simp;refine(aH.out q).mono ?_;rintro e w2 ⟨rfl,rfl⟩;exact t _ _ rfl (fun _=>Af rfl bR)
  ·have S:Own q b.heap.size 5 (a.tmps[17]?.getD undef) (bvs C):=I.2.1;obtain⟨v2,g⟩:=eX (a.tmps[17]?.getD undef);rw[<-g]at S;have e1:=g.symm;clear g;go_simp;refine(J.out b (HB.out.trans (l.out.mono HB.out.size)) v2 C q c S aC.out).mono ?_;rintro e w2 ⟨u,rfl,Q⟩;exact t _ _ ⟨Q.own,c.trans Q.step.1⟩ (fun h=>absurd rfl h)
 ·rintro f w9 o;have S4:Own w9 b.heap.size 5 (f 4) (bvs (C++Y))/\Below b.heap.size b w9:=o.2.2.2.2.2.2.2.2.2.2.1;clear o;simp only[Ak,At,Ei,dG,dH,dJ,dK,Nat.reduceBEq,Nat.reduceAdd,dO,dP,cond_true,cond_false];obtain⟨u,hu⟩:=eX (f 4);rw[<-hu]at S4|-;have L:=Hd S4;clear S4 hu;go_wp2_with fail;go_ret;exact⟨_,rfl,L.out.1.mono l.out.size,l.out.trans (L.out.2.mono l.out.size)⟩
theorem Dy {s:SparseD} {only:Bool}(h:Ah s only=true)(c:SparseOk s)(l:Bx s=true):
  PieceOk (Aj s.op) (Ay s.sh)/\∃d i:Nat,d<=16/\s.leaves=((2^d:Nat):Int)/\s.own=(i:Int)/\i<2^d/\aY s.leaves.toNat=d/\s.own.toNat=i:=by
 unfold Ah at h;simp only[cK]at h;obtain⟨⟨⟨⟨n,k⟩,g⟩,j⟩,-⟩:=h;have k:=oD k;simp only[Bx,cK]at l;refine⟨⟨fun x d f=> ?_,fun x L f=> ?_⟩,?_⟩
 ·have a:=Cv f;exact⟨(c.op _ a).2,List.all_eq_true.1 l.1.2 _ a,(Lt (List.all_eq_true.1 g _ a)).2.1⟩
 ·have a:=Ka f;exact⟨iE (oD (List.all_eq_true.1 j _ a)),(c.sh _ a).2⟩
 ·obtain⟨d,m,e⟩:=(fits_iff _).1 n;have b:s.leaves=((2^d:Nat):Int):=(by omega);exact⟨d,s.own.toNat,m,b,by omega,by omega,by rw[b,cD,iD],rfl⟩
def bytesOf (s:SparseD)(m:Nat):List Nat:=Qh (Aj s.op) (Ay s.sh) m (aY s.leaves.toNat) s.own.toNat
theorem Xk (v:Value)(s:SparseD)(w:World)(h:SparseR w v s)(t:SparseOk s)(Q:Bx s=true):
  Calls prog 42 #[v] w fun e w'=>(if Ah s false=true then∃v',e=rM (.tuple #[v',.int .u8 0])/\Own w' w.heap.size 5 v' (bvs (bytesOf s 1))else e=rM (.tuple #[rD rJ 0 0,.int .u8 3]))/\Below w.heap.size w w':=by
 have S:=fun(W:World) (hw:Below w.heap.size w W)=>Hl v s W (h.below hw lR) t Q;have A:=fun(hr:Ah s false=true) (ob sb:Nat) (G x:Int->Option Value) (w0 W:World) (D:MapF w0 ob s.op.length G) (C:NodesG w0 G (Aj s.op)) (l:MapF w0 sb s.sh.length x) (j:RunsH w0 x (Ay s.sh)) (hB:Below w0.heap.size w0 W)=>(show Calls prog 75 #[.agg #[.int .i64 s.leaves,.int .i64 s.own,.map (some ob),.map (some sb)],.int .u8 1] W fun e w'=>∃v',e=rM v'/\Own w' W.heap.size 5 v' (bvs (bytesOf s 1))/\Below W.heap.size W w' from by
  obtain⟨hP,d,i,hd,X,h2,h3,Y,Z⟩:=Dy hr t Q;unfold bytesOf;rw[Y,Z,X,h2];exact Zb6 _ _ hP d i 1 ob sb _ _ G x w0 W hd h3 D C l j hB)
 obtain⟨o,g,rfl,-,-⟩:=h;have m:=Zz s;obtain⟨O,q⟩:=eX (Bt s);have u:Bt s=false->Ah s false=false:=fun e=>(by rw[<-m,okS,e];rfl);obtain⟨V,p⟩:=eX (Ah s false);rw[<-q,<-p]at u;rw[<-p]at A m|-;have M:=Hd q;have N:=Hd u;have K:=Hd m;have z:Hid (∀W,Below w.heap.size w W->Calls prog 88 #[.agg #[.int .i64 s.leaves,.int .i64 s.own,o,g]] W (Kh s W)):=S;obtain⟨lv,k⟩:=eX s.leaves;obtain⟨ow,how⟩:=eX s.own;have H:=Hd k;have L:=Hd how;obtain⟨YS,r⟩:=eX (bytesOf s 1);rw[<-k,<-how]at z A;rw[<-r]at A;rw[<-k,<-how,<-r];have y:=Hd A;have n:=Hd ((Below.refl w.heap.size w).alloc lR (rK #[.int .i64 lv,.int .i64 ow,o,g] 25));clear S A t Q q p k how r u m;go_in;go_wp2_with fail;refine(z.out _ n.out).mono ?_;rintro e w3 ⟨f,c⟩;have a:=Hd (n.out.trans (f.mono n.out.size));rw[<-M.out,<-H.out,<-L.out,K.out]at c;cases O with
 |false=>
  rw[iN (by simp)]at c;obtain rfl:=N.out rfl;obtain rfl:=c;go_wp2_with fail;go_ret2;exact⟨rfl,a.out.alloc a.out.size _⟩
 |true=>
  rw[iP rfl]at c;obtain⟨ob,sb,rfl,P,R,-,G,x,D,C,l,j⟩:=c;cases V with
  |false=>
   go_wp2_with fail;go_ret2;exact⟨rfl,a.out.alloc a.out.size _⟩
  |true=>
   have U:=Hd D;have I:=Hd l;have T:=Hd (C.below f lR);have F:=Hd (j.below f lR);clear f D l C j P R;go_wp2_with fail;refine(y.out (by trivial) ob sb G x w3 _ U.out T.out I.out F.out (bR.alloc lR _)).mono ?_;rintro e w4 ⟨v4,rfl,b,B⟩;have E:=Hd ((a.out.alloc a.out.size _).trans (B.mono (by have:=a.out.size;simp;omega)));have J:=Hd (b.mono (show w.heap.size<=_ by have:=a.out.size;simp;omega));clear b B;go_wp2_with fail;go_ret2;exact⟨⟨_,rfl,J.out⟩,E.out⟩
end Go.Proofs.YtfofaiommeckbaaGreat
namespace Go.Proofs.YtfofaiommeckbaaGreat
open Go.RowKit WalkM WireM
