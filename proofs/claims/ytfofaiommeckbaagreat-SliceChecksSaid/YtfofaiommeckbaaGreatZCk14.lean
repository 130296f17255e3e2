import Derived.Shelf.SortM.Plain
import Derived.Shelf.SortM.SortNone
import Derived.Shelf.Slices.Delete
import Derived.Sort.OwnSortedInts
import Derived.Shelf.SlIterI.Nil
import Derived.Shelf.SlIterI.Sorted
import Derived.Maps.OwnSet
import Derived.Maps.OwnOps
import Derived.Maps.Ext
import Derived.Test.YtfofaiommeckbaaGreatZCk10
open Go.Obj renaming cells -> rJ
open Go.Ending renaming returned -> rK
open Go.Value renaming pointer -> rE
open Option renaming none -> rI
open Go.Proofs.Tryz
open List renaming getD_eq_getElem?_getD -> aS, getElem?_eq_getElem -> bB, nodup_iff_pairwise_ne -> fM, pairwise_map -> fN, any_eq_true -> aR, mem_map -> eA, mergeSort_perm -> fP, pairwise_mergeSort -> fQ, perm_ext_iff_of_nodup -> fR, append_assoc -> cY, pairwise_append -> fS, singleton_append -> fT, mem_cons -> aZ, mem_append -> fL, mem_singleton -> fU, not_mem_nil -> dC, nodup_append -> fV, mem_append_left -> fW, mem_flatMap -> fX, range -> aN, pairwise_flatMap -> fY, nodup_cons -> fZ, all_eq_true -> dX
open Bool renaming and_eq_true -> aT, eq_iff_iff -> gA, or_eq_true -> aU, not_eq_true -> cX
open Nat renaming two_pow_pos -> fD, pow_succ -> bF, pow_le_pow_right -> bQ, sub_zero -> dR, lt_or_ge -> aB, div_add_mod -> bM, mul_add -> gC, mul_le_mul_left -> aC
set_option linter.unusedVariables false
set_option maxRecDepth 100000
set_option maxHeartbeats 40000000
namespace Go.Proofs.YtfofaiommeckbaaGreat
open Go.RowKit
def Zbd:Go.Shelf.Ren:=⟨fun|5=>183|8=>205|7=>223|19=>243|20=>244|10=>257|11=>258|12=>259|13=>260|14=>261|15=>262|16=>263|17=>264|18=>265|30=>283|31=>275|32=>276|33=>284|34=>285|35=>206|40=>293|n=>n,fun|23=>48|25=>3|3=>3|32=>207|22=>48|0=>0|44=>231|46=>92|4=>4|36=>250|35=>249|41=>199|5=>5|9=>9|53=>277|57=>281|63=>291|64=>137|n=>n,fun|n=>n⟩
theorem Zds:Go.Proofs.SlLaysM.n5 prog Zbd:= {
 mixed:=by kernel_rfl
 f5:=⟨Tryz.f183.name,by decide,func183.trans (congrArg some (by kernel_rfl))⟩
 f7:=⟨Tryz.f223.name,by decide,func223.trans (congrArg some (by kernel_rfl))⟩
 f8:=func205.trans (congrArg some (by kernel_rfl))
 f10:=⟨Tryz.f257.name,by decide,func257.trans (congrArg some (by kernel_rfl))⟩
 f11:=⟨Tryz.f258.name,by decide,func258.trans (congrArg some (by kernel_rfl))⟩
 f12:=⟨Tryz.f259.name,by decide,func259.trans (congrArg some (by kernel_rfl))⟩
 f13:=⟨Tryz.f260.name,by decide,func260.trans (congrArg some (by kernel_rfl))⟩
 f14:=⟨Tryz.f261.name,by decide,func261.trans (congrArg some (by kernel_rfl))⟩
 f15:=⟨Tryz.f262.name,by decide,func262.trans (congrArg some (by kernel_rfl))⟩
 f16:=⟨Tryz.f263.name,by decide,func263.trans (congrArg some (by kernel_rfl))⟩
 f17:=⟨Tryz.f264.name,by decide,func264.trans (congrArg some (by kernel_rfl))⟩
 f18:=⟨Tryz.f265.name,by decide,func265.trans (congrArg some (by kernel_rfl))⟩
 f19:=func243.trans (congrArg some (by kernel_rfl))
 f20:=func244.trans (congrArg some (by kernel_rfl))
 f30:=⟨Tryz.f283.name,by decide,func283.trans (congrArg some (by kernel_rfl))⟩
 f31:=func275.trans (congrArg some (by kernel_rfl))
 f32:=func276.trans (congrArg some (by kernel_rfl))
 f33:=⟨Tryz.f284.name,by decide,func284.trans (congrArg some (by kernel_rfl))⟩
 f34:=⟨Tryz.f285.name,by decide,func285.trans (congrArg some (by kernel_rfl))⟩
 f35:=⟨Tryz.f206.name,by decide,func206.trans (congrArg some (by kernel_rfl))⟩
 f40:=⟨Tryz.f293.name,by decide,func293.trans (congrArg some (by kernel_rfl))⟩
 t0:=underlying0
 a0:=Tryz.isAgg0
 z0:=Tryz.sizeOf0
 v0:=zeroValue0
 t3:=underlying3
 a3:=Tryz.isAgg3
 z3:=Tryz.sizeOf3
 v3:=zeroValue3
 t4:=underlying4
 a4:=Tryz.isAgg4
 z4:=Tryz.sizeOf4
 v4:=zeroValue4
 t5:=underlying5
 a5:=Tryz.isAgg5
 z5:=Tryz.sizeOf5
 v5:=zeroValue5
 t9:=underlying9
 a9:=Tryz.isAgg9
 z9:=Tryz.sizeOf9
 v9:=zeroValue9
 t22:=underlying48
 a22:=Tryz.isAgg48
 z22:=Tryz.sizeOf48
 v22:=zeroValue48
 t23:=underlying48
 a23:=Tryz.isAgg48
 z23:=Tryz.sizeOf48
 v23:=zeroValue48
 t25:=underlying3
 a25:=Tryz.isAgg3
 z25:=Tryz.sizeOf3
 v25:=zeroValue3
 t32:=underlying207
 a32:=Tryz.isAgg207
 z32:=Tryz.sizeOf207
 v32:=zeroValue207
 t35:=underlying249
 a35:=Tryz.isAgg249
 z35:=Tryz.sizeOf249
 v35:=zeroValue249
 t36:=underlying250
 a36:=Tryz.isAgg250
 z36:=Tryz.sizeOf250
 v36:=zeroValue250
 t41:=underlying199
 a41:=Tryz.isAgg199
 z41:=Tryz.sizeOf199
 v41:=zeroValue199
 t44:=underlying231
 a44:=Tryz.isAgg231
 z44:=Tryz.sizeOf231
 v44:=zeroValue231
 t46:=underlying92
 a46:=Tryz.isAgg92
 z46:=Tryz.sizeOf92
 v46:=zeroValue92
 t53:=underlying277
 a53:=Tryz.isAgg277
 z53:=Tryz.sizeOf277
 v53:=zeroValue277
 t57:=underlying281
 a57:=Tryz.isAgg281
 z57:=Tryz.sizeOf281
 v57:=zeroValue281
 t63:=underlying291
 a63:=Tryz.isAgg291
 z63:=Tryz.sizeOf291
 v63:=zeroValue291
 t64:=underlying137
 a64:=Tryz.isAgg137
 z64:=Tryz.sizeOf137
 v64:=zeroValue137}
open Go.Sort
def Fe (L:List Int):List Int:=L.mergeSort fun x y=>decide (x<=y)
theorem Ue (L:List Int):(Fe L).length=L.length:=List.length_mergeSort L
theorem Zl2 {L M:List Int} {i:Nat}(h:L.getD i 0≠M.getD i 0):decide (L=M)=false:=dF fun e=>h (by rw[e])
theorem Zkp {L M:List Int}(hl:L.length=M.length)(h:∀j,j<L.length->L.getD j 0=M.getD j 0):decide (L=M)=true:=by
 refine dT (List.ext_getElem hl fun i h1 h2=> ?_);have:=h i h1
 rwa [aS,aS,bB h1,bB h2]at this
theorem Ys (G H:Value)(L M:List Int)(w:World)(h1:Rd w G (ivs .i64 L))(h2:Rd w H (ivs .i64 M))(Q:L.length<=1000000)(T:M.length<=1000000):
  Calls prog 152 #[G,H] w fun e w'=>e=rK (.bool (decide (L=M)))/\∃n,w'=w.drewN n:=by
 obtain⟨a1,k1,rfl⟩:∃a c,G=.slice a L.length c:=(by obtain⟨a,c,e,_⟩:=h1;rw[show(ivs .i64 L).length=L.length by simp[ivs]]at e;exact⟨a,c,e⟩);obtain⟨a2,k2,rfl⟩:∃a c,H=.slice a M.length c:=(by obtain⟨a,c,e,_⟩:=h2;rw[show(ivs .i64 M).length=M.length by simp[ivs]]at e;exact⟨a,c,e⟩);have l:=fun(i:Nat) (f:i<L.length)=>h1.at3 (u:=.int .i64 (L.getD i 0)) (r:=i) (by simp[ivs,aS,f]);have k:=fun(i:Nat) (f:i<M.length)=>h2.at3 (u:=.int .i64 (M.getD i 0)) (r:=i) (by simp[ivs,aS,f])
 by_cases hlm:L.length=M.length
 ·have z:=fun(i:Nat) (h:L.getD i 0≠M.getD i 0)=>Zl2 h;have b:=fun(h:∀j,j<L.length->L.getD j 0=M.getD j 0)=>Zkp hlm h;obtain⟨R,N⟩:=eX (decide (L=M));rw[<-N]at z b|-;obtain⟨n,y⟩:=eX L.length;rw[<-hlm]at k|-;rw[<-y]at l k Q b|-;obtain⟨X,O⟩:∃X:Nat->Int,X=fun i=>L.getD i 0:=⟨_,rfl⟩;obtain⟨Y,P⟩:∃X:Nat->Int,X=fun i=>M.getD i 0:=⟨_,rfl⟩;have s:∀i,L.getD i 0=X i:=fun i=>(by rw[O]);have t:∀i,M.getD i 0=Y i:=fun i=>(by rw[P]);simp only[s,t]at l k z b;have B:=Hd l;have C:=Hd k;have D:=Hd z;have p:=Hd b;clear l k h1 h2 y z b O P s t N hlm T;go_in;go_wp2_with fail
  go_loopg [13] n (fun q iv wr=>∃i m:Nat,i+q=n/\iv=.int .i64 (i:Nat)/\wr=w.drewN m/\∀j,j<i->X j=Y j)
  case atStart=>exact⟨0,0,by omega,rfl,rfl,fun j A=>by omega⟩
  case round=>
   obtain⟨i,m,f,rfl,rfl,A⟩:=hrel;have I:=Hd f;have J:=Hd A;clear A
   by_cases hlt:i<n
   ·have v:decide (i<n)=true:=dT hlt;have S:(i:Int)<(n:Int):=(by omega);obtain⟨b1,o1,e1,Z,q1⟩:=B.out i hlt;obtain⟨b2,o2,e2,aA,q2⟩:=C.out i hlt;obtain⟨u,E⟩:=eX (X i);obtain⟨F,g⟩:∃u,u=Y i:=⟨_,rfl⟩;rw[<-E]at q1;rw[<-g]at q2;subst e1 e2;have K:=Hd E;have o:=Hd g;clear f E g
    by_cases e:u=F
    ·subst e;go_wp2
     go_quiet (fail)
     go_wp2;go_roundg (gk-1);case measure=>have:=I.out;omega
     case rel=>
      refine⟨i+1,_,by have:=I.out;omega,by go_num,rfl,fun j A=> ?_⟩
      by_cases e:j=i
      ·rw[e,<-K.out];exact o.out
      ·exact J.out j (by omega)
    ·have V:=Hd (D.out i (by rw[<-K.out,<-o.out];exact e));have d:(u==F)=false:=(by rw[qN];exact e);have U:(u !=F)=true:=(by rw[bne,d];rfl);go_wp2
     go_quiet (fail)
     go_wp2;go_ret;exact⟨by rw[V.out];rfl,m+nq,by simp[World.drewN,Nat.add_assoc]⟩
   ·obtain rfl:i=n:=(by omega);have v:decide (i<i)=false:=dF hlt;have W:=Hd (p.out J.out);clear f hlt;go_wp2_with fail;go_ret;exact⟨by rw[W.out];rfl,_,rfl⟩
 ·have d:decide (L=M)=false:=dF fun e=>hlm (by rw[e]);rw[d];obtain⟨n,y⟩:=eX L.length;obtain⟨m,x⟩:∃n,n=M.length:=⟨_,rfl⟩;rw[<-y,<-x]at hlm|-;have h1:¬((n:Int)=(m:Int)):=(by omega);have h2:((n:Int)==(m:Int))=false:=(by rw[qN];exact h1);have h3:((n:Int) !=(m:Int))=true:=(by rw[bne,h2];rfl);clear l k y x d Q T;go_in;go_wp2_with fail;go_ret;exact⟨rfl,0,rfl⟩
end Go.Proofs.YtfofaiommeckbaaGreat
namespace Go.Proofs.YtfofaiommeckbaaGreat
open Go.RowKit
def Oc:Go.Shelf.Ren:=⟨fun|7=>125|10=>184|n=>n,fun|23=>98|26=>3|3=>52|28=>162|0=>0|27=>161|33=>106|4=>4|n=>n,fun|n=>n⟩
theorem Yt:Go.Proofs.SlLaysZI.n7 prog Oc:= {
 mixed:=by kernel_rfl
 f7:=⟨Tryz.f125.name,by decide,func125.trans (congrArg some (by kernel_rfl))⟩
 f10:=⟨Tryz.f184.name,by decide,func184.trans (congrArg some (by kernel_rfl))⟩
 t0:=underlying0
 a0:=Tryz.isAgg0
 z0:=Tryz.sizeOf0
 v0:=zeroValue0
 t4:=underlying4
 a4:=Tryz.isAgg4
 z4:=Tryz.sizeOf4
 v4:=zeroValue4
 t23:=underlying98
 a23:=Tryz.isAgg98
 z23:=Tryz.sizeOf98
 v23:=zeroValue98
 t26:=underlying3
 a26:=Tryz.isAgg3
 z26:=Tryz.sizeOf3
 v26:=zeroValue3
 t27:=underlying161
 a27:=Tryz.isAgg161
 z27:=Tryz.sizeOf161
 v27:=zeroValue161
 t28:=underlying162
 a28:=Tryz.isAgg162
 z28:=Tryz.sizeOf162
 v28:=zeroValue162
 t33:=underlying106
 a33:=Tryz.isAgg106
 z33:=Tryz.sizeOf106
 v33:=zeroValue106}
def Od:Go.Shelf.Ren:=⟨fun|7=>126|10=>185|n=>n,fun|23=>99|26=>3|3=>28|28=>162|0=>0|27=>161|33=>106|4=>4|n=>n,fun|n=>n⟩
theorem Yu:Go.Proofs.SlLaysZI.n7 prog Od:= {
 mixed:=by kernel_rfl
 f7:=⟨Tryz.f126.name,by decide,func126.trans (congrArg some (by kernel_rfl))⟩
 f10:=⟨Tryz.f185.name,by decide,func185.trans (congrArg some (by kernel_rfl))⟩
 t0:=underlying0
 a0:=Tryz.isAgg0
 z0:=Tryz.sizeOf0
 v0:=zeroValue0
 t4:=underlying4
 a4:=Tryz.isAgg4
 z4:=Tryz.sizeOf4
 v4:=zeroValue4
 t23:=underlying99
 a23:=Tryz.isAgg99
 z23:=Tryz.sizeOf99
 v23:=zeroValue99
 t26:=underlying3
 a26:=Tryz.isAgg3
 z26:=Tryz.sizeOf3
 v26:=zeroValue3
 t27:=underlying161
 a27:=Tryz.isAgg161
 z27:=Tryz.sizeOf161
 v27:=zeroValue161
 t28:=underlying162
 a28:=Tryz.isAgg162
 z28:=Tryz.sizeOf162
 v28:=zeroValue162
 t33:=underlying106
 a33:=Tryz.isAgg106
 z33:=Tryz.sizeOf106
 v33:=zeroValue106}
def Lx:Go.Shelf.Ren:=⟨fun|6=>124|8=>182|9=>183|11=>222|13=>205|12=>223|23=>243|24=>244|14=>257|15=>258|16=>259|17=>260|18=>261|19=>262|20=>263|21=>264|22=>265|25=>283|26=>275|27=>276|28=>284|29=>285|30=>206|31=>293|n=>n,fun|26=>3|28=>162|24=>48|0=>0|3=>3|37=>207|48=>231|50=>92|4=>4|40=>250|39=>249|45=>199|5=>5|9=>9|51=>277|55=>281|57=>291|58=>137|33=>106|n=>n,fun|n=>n⟩
theorem Uf:Go.Proofs.SlLaysZI.n6 prog Lx:= {
 mixed:=by kernel_rfl
 f6:=⟨Tryz.f124.name,by decide,func124.trans (congrArg some (by kernel_rfl))⟩
 f8:=⟨Tryz.f182.name,by decide,func182.trans (congrArg some (by kernel_rfl))⟩
 f11:=⟨Tryz.f222.name,by decide,func222.trans (congrArg some (by kernel_rfl))⟩
 t0:=underlying0
 a0:=Tryz.isAgg0
 z0:=Tryz.sizeOf0
 v0:=zeroValue0
 t24:=underlying48
 a24:=Tryz.isAgg48
 z24:=Tryz.sizeOf48
 v24:=zeroValue48
 t26:=underlying3
 a26:=Tryz.isAgg3
 z26:=Tryz.sizeOf3
 v26:=zeroValue3
 t28:=underlying162
 a28:=Tryz.isAgg162
 z28:=Tryz.sizeOf162
 v28:=zeroValue162
 i26:=by kernel_rfl}
open Go.Maps Go.Sort Go.Shelf
section
def rdV (v:Value):Option (DataW Value×List MemPlace):=some (.held v,[])
def inI (x:Int):Prop:= -9223372036854775808<=x/\x<=9223372036854775807
theorem Zl3 {x:Int}(h:inI x):(Lit.int .i64 x).wf=true:=by
 unfold inI at h;have e1:IntKind.i64.min= -9223372036854775808:=(by decide);have e2:IntKind.i64.max=9223372036854775807:=(by decide);simp only[Lit.wf,e1,e2,aT,decide_eq_true_eq];exact h
theorem Zjj:Keyed prog 3:=int_keyed underlying3
theorem Zdt {x:Int}(h:inI x):keyOf prog 3 (.int .i64 x)=some (.int .i64 x):=keyOf_int_mk underlying3 (Zl3 h)
def MapF (w:World)(b n:Nat)(F:Int->Option Value):Prop:=
 ∃D:DataW Value,w.ownsMap prog 3 rdV b n D/\(∀x,has D (.int .i64 x)=(F x).isSome)/\∀x v z,F x=some v->D.atKey (.int .i64 x) z=.held v
theorem MapF.lt {w:World} {b n:Nat} {F:Int->Option Value}(h:MapF w b n F):b<w.heap.size:=by
 obtain⟨D,h1,_⟩:=h;exact h1.lt
theorem MapF.grown {w w':World} {b n:Nat} {F:Int->Option Value} {row:Option Nat}(h:MapF w b n F)(hg:w.grownBy w' row)(hne:some b≠row):MapF w' b n F:=by
 obtain⟨D,h1,h2⟩:=h;exact⟨D,h1.kept hg hne,h2⟩
theorem MapF.below {w w':World} {b n B:Nat} {F:Int->Option Value}(h:MapF w b n F)(hb:Below B w w')(hB:w.heap.size<=B):MapF w' b n F:=by
 have hlt:=h.lt;obtain⟨D,⟨es,clock,h0,h1⟩,h2⟩:=h;exact⟨D,⟨es,clock,(hb.block b (by omega)).trans h0,h1⟩,h2⟩
theorem MapF.belowB {w w':World} {b n B:Nat} {F:Int->Option Value}(h:MapF w b n F)(hb:Below B w w')(hB:b<B):MapF w' b n F:=by
 obtain⟨D,⟨es,clock,h0,h1⟩,h2⟩:=h;exact⟨D,⟨es,clock,(hb.block b hB).trans h0,h1⟩,h2⟩
theorem MapF.alloc {w:World} {b n:Nat} {F:Int->Option Value}(h:MapF w b n F)(o:Obj):MapF (w.alloc o) b n F:=by
 obtain⟨D,h1,h2⟩:=h;exact⟨D,h1.alloc o,h2⟩
theorem MapF.drewN {w:World} {b n:Nat} {F:Int->Option Value}(h:MapF w b n F)(k:Nat):MapF (w.drewN k) b n F:=h
theorem MapF.mono {w:World} {b n n':Nat} {F:Int->Option Value}(h:MapF w b n F)(hn:n<=n'):MapF w b n' F:=by
 obtain⟨D,h1,h2⟩:=h;exact⟨D,h1.mono hn,h2⟩
theorem MapF.congr {w:World} {b n:Nat} {F G:Int->Option Value}(h:MapF w b n F)(e:∀x,G x=F x):MapF w b n G:=by
 have:G=F:=funext e;rw[this];exact h
theorem MapF.made (w:World):MapF (w.alloc (.map #[] 0)) w.heap.size 0 fun _=>none:=
 ⟨.map [],World.ownsMap_made w _ _ _,fun x=>rfl,fun x v z h=>by cases h⟩
section
variable {w:World} {b n:Nat} {F:Int->Option Value} {T E:TypeId} {z:Value} {k:Int}
theorem Ug (k:Int):WideAt.IsKeyLit (.int .i64 k):=by simp[WideAt.IsKeyLit]
theorem MapF.run_getOk (h:MapF w b n F)(ht:prog.underlying T=some (.map 3 E))(e:(zeroValue E).run prog w=.ok z w)(hk:inI k):
  (Instr.lookup T (.map (some b)) (.int .i64 k) true).run prog w=.ok (.tuple #[(F k).getD z,.bool (F k).isSome]) w:=by
 obtain⟨D,h1,h2,h3⟩:=h;obtain⟨v,f,d,a⟩:=h1.look_ok Zjj ht e (zd:=.held z) (zp:=[]) rfl (Zdt hk);rw[d,h2 k];unfold rdV at a;simp only[Option.some.injEq,Prod.mk.injEq]at a;cases hF:F k with
 |some u=>
  rw[h3 k u _ hF]at a;simp only[DataW.held.injEq]at a;rw[a.1];rfl
 |none=>
  have c:has D (.int .i64 k)=false:=(by rw[h2,hF];rfl);rw[atKey_of_not_has c]at a;simp only[DataW.held.injEq]at a;rw[a.1];rfl
theorem MapF.run_get (h:MapF w b n F)(ht:prog.underlying T=some (.map 3 E))(e:(zeroValue E).run prog w=.ok z w)(hk:inI k):
  (Instr.lookup T (.map (some b)) (.int .i64 k) false).run prog w=.ok ((F k).getD z) w:=by
 obtain⟨D,h1,h2,h3⟩:=h;obtain⟨v,f,d,a⟩:=h1.lookup Zjj ht e (zd:=.held z) (zp:=[]) rfl (Zdt hk);rw[d];unfold rdV at a;simp only[Option.some.injEq,Prod.mk.injEq]at a;cases hF:F k with
 |some u=>
  rw[h3 k u _ hF]at a;simp only[DataW.held.injEq]at a;rw[a.1];rfl
 |none=>
  have c:has D (.int .i64 k)=false:=(by rw[h2,hF];rfl);rw[atKey_of_not_has c]at a;simp only[DataW.held.injEq]at a;rw[a.1];rfl
theorem MapF.run_put (h:MapF w b n F)(ht:prog.underlying T=some (.map 3 E))(hk:inI k)(c:n<maxLen)(v:Value):
  ∃w',(Instr.mapUpdate T (.map (some b)) (.int .i64 k) v).run prog w=.ok () w'/\MapF w' b (n+1) (fun y=>if y=k then some v else F y)/\w.grownBy w' (some b):=by
 obtain⟨D,h1,h2,h3⟩:=h;obtain⟨w',f,d,a⟩:=h1.update Zjj ht c (Zdt hk) (show rdV v=some (.held v,[])from rfl);refine⟨w',f,⟨_,d,fun x=> ?_,fun x u z hx=> ?_⟩,a⟩
 ·show _=(if x=k then some v else F x).isSome
  by_cases e:x=k
  ·subst e;rw[has_put_same h1.isMap (Ug x),iP rfl];rfl
  ·rw[has_put_other (fun e2=>e (by cases e2;rfl)),h2,iN e]
 ·replace hx:(if x=k then some v else F x)=some u:=hx
  by_cases e:x=k
  ·subst e;rw[iP rfl]at hx;cases hx;exact atKey_put_same h1.isMap (Ug x) _ _
  ·rw[iN e]at hx;rw[atKey_put_other (fun e2=>e (by cases e2;rfl))];exact h3 x u z hx
end
section
variable {w:World} {ops:Array Oper} {rest:List Oper} {o:Oper} {a:Act} {Q:Exit->Act->World->Prop} {b n:Nat} {F:Int->Option Value} {T E:TypeId} {z:Value} {k:Int}
theorem Ep (d:o.guard=none) (m x y:Operand) (e:o.op=.mapUpdate T m x y) (ht:prog.underlying T=some (.map 3 E)) (i:a.eval m=.map (some b)) (h:MapF w b n F) (hx:a.eval x=.int .i64 k) (hk:inI k) (j:n<maxLen) (v:Value) (q:a.eval y=v)
  (f:∀w',MapF w' b (n+1) (fun y=>if y=k then some v else F y)->w.grownBy w' (some b)->wpList prog ops Q rest (a.put o.dst undef) w'):wpList prog ops Q (o::rest) a w:=by
 refine wpList_plain d fun r c=> ?_;obtain⟨w',p,l,g⟩:=h.run_put ht hk j v;unfold Oper.wp;simp[execOp,e,i,hx,q,p,Result.andThen];exact c _ _ (f w' l g)
end
def Dg (F:Int->Option Value)(K:List Int):Prop:=K.Pairwise (· < ·)/\∀x,x∈K↔(F x).isSome=true
theorem Ly {w:World} {b n:Nat} {F:Int->Option Value} {D:DataW Value}(h1:w.ownsMap prog 3 rdV b n D)(h2:∀x,has D (.int .i64 x)=(F x).isSome):∃K,Dg F K/\K.Perm (intKeys D)/\K.length<=n:=by
 obtain⟨o,k,h0,h3,s,rfl⟩:=h1;obtain⟨E,j⟩:=eX ((o.toList.map (Go.WideElems.rg prog 3 rdV)).foldr DataW.insert []);rw[<-j]at h2|-;have hk:∀p∈E,∃x,p.1=.int .i64 x:=by
  intro p d;rw[j,(Go.WideShapes.sorted_perm _).mem_iff]at d;obtain⟨v,z⟩:=fit_keys h3 p d;obtain⟨a,_,e2,_⟩:=keyOf_i64 underlying3 z;exact⟨a,e2⟩
 have l:E.Pairwise (fun p q=>p.1≠q.1):=by
  have:=fit_apart Zjj h3;rw[j];exact((Go.WideShapes.sorted_perm _).pairwise_iff (fun h e=>h e.symm)).2 this
 have t:E.length<=n:=(by rw[j,length_sorted];simpa using s);have m:(intKeys (.map E)).Nodup:=by
  show(E.map fun p=>Go.intOf p.1).Nodup;rw[fM,fN];refine l.imp_of_mem fun {p q} d hq hne e=>hne ?_;obtain⟨x,r⟩:=hk p d;obtain⟨y,i⟩:=hk q hq;rw[r,i]at e|-;have:x=y:=e;rw[this]
 have f:∀x,x∈intKeys (.map E)↔(F x).isSome=true:=by
  intro x;rw[<-h2 x,has_eq,aR];show x∈E.map (fun p=>Go.intOf p.1)↔_;rw[eA];constructor
  ·rintro⟨p,d,e⟩;obtain⟨y,i⟩:=hk p d;rw[i]at e;have:y=x:=e;subst this;exact⟨p,d,by rw[i];exact WideAt.sameKey_self (Ug y)⟩
  ·rintro⟨p,d,e⟩;have:=(WideAt.sameKey_iff (Ug x)).1 e;exact⟨p,d,by rw[this];rfl⟩
 refine⟨Fe (intKeys (.map E)),⟨?_,fun x=> ?_⟩,fP _ _,?_⟩
 ·have u:(Fe (intKeys (.map E))).Pairwise fun a b=>decide (a<=b)=true:=fQ (fun a b c h1 h2=>by simp at*;omega) (fun a b=>by simp;omega) _;have g:(Fe (intKeys (.map E))).Nodup:=(fP (intKeys (.map E)) _).nodup_iff.2 m;rw[fM]at g;exact(u.and g).imp fun h=>by have h1:=oD h.1;have h2:=h.2;omega
 ·rw[<-f x];exact(fP (intKeys (.map E)) _).mem_iff
 ·rw[Ue];show(E.map _).length<=n;rw[List.length_map];exact t
theorem Oe {F:Int->Option Value} {K L:List Int}(h1:Dg F K)(h2:Dg F L):K=L:=by
 have c:K.Perm L:=(fR (by rw[fM];exact h1.1.imp fun h e=>by omega) (by rw[fM];exact h2.1.imp fun h e=>by omega)).2 fun x=>(h1.2 x).trans (h2.2 x).symm;exact List.Perm.eq_of_pairwise (le:=fun a b=>a<b) (fun a b _ _ h3 d=>by omega) h1.1 h2.1 c
end
theorem sortL_eq {L M:List Int}(h1:L.Perm M)(h2:M.Pairwise (· < ·)):Fe L=M:=by
 have f:(Fe L).Perm M:=(fP L _).trans h1;have g:(Fe L).Pairwise fun a b=>decide (a<=b)=true:=fQ (fun a b c h1 h2=>by simp at*;omega) (fun a b=>by simp;omega) L;have e:M.Pairwise fun a b=>decide (a<=b)=true:=h2.imp fun h=>(by simp;omega);refine List.Perm.eq_of_pairwise (le:=fun a b=>decide (a<=b)=true) ?_ g e f;intro a b _ _ h3 d;simp at h3 d;omega
theorem Uh (mb:Option Nat)(w:World):
  Calls prog 125 #[.map mb] w fun e w'=>e=rK (.func (.func 184) #[] #[rE (some ⟨w.heap.size,0,rI⟩)])/\w'=w.alloc (rJ #[.map mb] 98):=
 (callsIn_wide (n:=5)).1 (AnyZI.keys_in Yt Fence.wide 5 trivial rfl mb w)
theorem Ui (mb:Option Nat)(w:World):
  Calls prog 126 #[.map mb] w fun e w'=>e=rK (.func (.func 185) #[] #[rE (some ⟨w.heap.size,0,rI⟩)])/\w'=w.alloc (rJ #[.map mb] 99):=
 (callsIn_wide (n:=5)).1 (AnyZI.keys_in Yu Fence.wide 5 trivial rfl mb w)
theorem Yv (m:Nat):AnyZI.SortsIn prog Lx Fence.wide m:=
 ⟨fun blk off cap ss W hH hblk hsz=>callsIn_wide.2 (AnyM.slices_Sort_int Zds blk off cap ss W hH hblk hsz),
  fun p cap W=>callsIn_wide.2 (AnyM.slices_Sort_int_none Zds p cap W)⟩
theorem Uj {w':World} {B:Nat} {v:Value} {a K:List Int}(h:w'.ownsRow B 3 1 v a.length ((a.mergeSort (fun x y=>decide (x<=y))).map encZ))(e:Fe a=K):Own w' B 3 v (ivs .i64 K):=by
 have e2:(a.mergeSort (fun x y=>decide (x<=y))).map encZ=ivs .i64 K:=(by rw[<-e];rfl);rw[e2]at h;have b:(ivs .i64 K).length=a.length:=(by rw[<-e];simp[ivs,Ue]);unfold Own;rw[b];exact h
theorem Of (b n g:Nat)(F:Int->Option Value)(K:List Int)(w:World)(h:MapF w b n F)(j:Dg F K)(r:n<=1000000)(l:w.cell? ⟨g,0,rI⟩=some (.map (some b)))(d:g<w.heap.size):
  Calls prog 124 #[.func (.func 184) #[] #[rE (some ⟨g,0,rI⟩)]] w fun e w'=>∃v,e=rK v/\Own w' w.heap.size 3 v (ivs .i64 K)/\Below w.heap.size w w':=by
 obtain⟨D,h1,h2,h3⟩:=h;obtain⟨q,f,p,s⟩:=Ly h1 h2;obtain rfl:=Oe j f;have o:Maps.size D<=n:=h1.size_le;have c:SeqGives Fence.wide 2 prog 184 #[rE (some ⟨g,0,rI⟩)] encZ (fun i=>i.Perm (intKeys D)) (Maps.size D) w:=
  AnyZI.keys_gives (ρ:=Oc) {Yt with} Fence.wide _ trivial rfl (by omega) g b n D w d l h1
 refine(callsIn_wide (n:=5)).1 ?_;refine(AnyZI.sorted_in Uf Fence.wide 5 trivial trivial trivial trivial rfl (by omega) (Yv _) (enters_of func183 (by kernel_rfl) rfl) 184 #[rE (some ⟨g,0,rI⟩)] trivial (enters_of func184 (by kernel_rfl) rfl) _ _ (by unfold maxLen;omega) (by omega) _ c).mono ?_;rintro e w' ⟨v,i,rfl,m,a,_,k⟩;exact⟨v,rfl,Uj a (sortL_eq (m.trans p.symm) f.1),k⟩
theorem Og (b n g:Nat)(F:Int->Option Value)(K:List Int)(w:World)(h:MapF w b n F)(j:Dg F K)(r:n<=1000000)(l:w.cell? ⟨g,0,rI⟩=some (.map (some b)))(d:g<w.heap.size):
  Calls prog 124 #[.func (.func 185) #[] #[rE (some ⟨g,0,rI⟩)]] w fun e w'=>∃v,e=rK v/\Own w' w.heap.size 3 v (ivs .i64 K)/\Below w.heap.size w w':=by
 obtain⟨D,h1,h2,h3⟩:=h;obtain⟨q,f,p,s⟩:=Ly h1 h2;obtain rfl:=Oe j f;have o:Maps.size D<=n:=h1.size_le;have c:SeqGives Fence.wide 2 prog 185 #[rE (some ⟨g,0,rI⟩)] encZ (fun i=>i.Perm (intKeys D)) (Maps.size D) w:=
  AnyZI.keys_gives (ρ:=Od) {Yu with} Fence.wide _ trivial rfl (by omega) g b n D w d l h1
 refine(callsIn_wide (n:=5)).1 ?_;refine(AnyZI.sorted_in Uf Fence.wide 5 trivial trivial trivial trivial rfl (by omega) (Yv _) (enters_of func183 (by kernel_rfl) rfl) 185 #[rE (some ⟨g,0,rI⟩)] trivial (enters_of func185 (by kernel_rfl) rfl) _ _ (by unfold maxLen;omega) (by omega) _ c).mono ?_;rintro e w' ⟨v,i,rfl,m,a,_,k⟩;exact⟨v,rfl,Uj a (sortL_eq (m.trans p.symm) f.1),k⟩
end Go.Proofs.YtfofaiommeckbaaGreat
namespace Go.Proofs.YtfofaiommeckbaaGreat
open Go.RowKit WalkM WireM
def Uk (k x:Nat)(L:List Int):Prop:=∀y∈L,∃m:Nat,y=(m:Int)/\inR k x m
theorem Fm (k x:Nat):inR k x x:=by have:=fD k;unfold inR;omega
theorem Bo {k x y:Nat}(h:2^k<=x):inR (k+1) x y↔y=x\/inR k (x-2^k) y\/inR k (x+2^k) y:=by
 have e:2^(k+1)=2*2^k:=(by rw[bF];omega);have hp:=fD k;unfold inR;omega
theorem Ik {k x y:Nat}(h:2^k<=x)(hy:inR k (x-2^k) y):y<x:=by unfold inR at hy;omega
theorem Gb {k x y:Nat}(hy:inR k (x+2^k) y):x<y:=by unfold inR at hy;omega
structure SpanR (k x:Nat) (r:List Int×List Int×Bool):Prop where
 op:Uk k x r.1
 sh:Uk k x r.2.1
 opr:r.1.Pairwise (· < ·)
 shr:r.2.1.Pairwise (· < ·)
theorem Mz {V:Nat->Nat->List Int->List Int×List Int×Bool} {i:Nat} {only:Bool} {c k how:Nat} {d:NodeD} {late:List Int}(h:∀how late,SpanR k c (V c how late)):SpanR k c (Ih V i only c how d late):=by
 have b:SpanR k c ([],[(c:Int)],true):=⟨fun y a=>by simp at a,fun y a=>⟨c,by simpa using a,Fm k c⟩,by simp,by simp⟩;unfold Ih
 split
 ·exact h _ _
 ·split
  ·exact b
  ·split
   ·exact h _ _
   ·split
    ·exact h _ _
    ·exact b
theorem Ul {k x:Nat} {A B:List Int}(hx:2^k<=x)(j:Uk k (x-2^k) A)(l:Uk k (x+2^k) B)(p:A.Pairwise (· < ·))(q:B.Pairwise (· < ·)):
  (A++[(x:Int)]++B).Pairwise (· < ·)/\(A++B).Pairwise (· < ·)/\Uk (k+1) x (A++[(x:Int)]++B)/\Uk (k+1) x (A++B):=by
 have g:∀y∈A,y<(x:Int):=fun y c=>(by obtain⟨m,e,h⟩:=j y c;have:=Ik hx h;omega);have i:∀y∈B,(x:Int)<y:=fun y c=>(by obtain⟨m,e,h⟩:=l y c;have:=Gb h;omega);have n:Uk (k+1) x A:=fun y c=>(by obtain⟨m,e,h⟩:=j y c;exact⟨m,e,(Bo hx).2 (.inr (.inl h))⟩);have o:Uk (k+1) x B:=fun y c=>(by obtain⟨m,e,h⟩:=l y c;exact⟨m,e,(Bo hx).2 (.inr (.inr h))⟩);refine⟨?_,?_,?_,?_⟩
 ·rw[cY,fS];refine⟨p,?_,?_⟩
  ·rw[fT,List.pairwise_cons];exact⟨i,q⟩
  ·intro a f b d;simp only[fT,aZ]at d;rcases d with rfl|d
   ·exact g a f
   ·have:=g a f;have:=i b d;omega
 ·rw[fS];exact⟨p,q,fun a f b d=>by have:=g a f;have:=i b d;omega⟩
 ·intro y c;simp only[fL,fU]at c;rcases c with(h|h)|h
  ·exact n y h
  ·exact⟨x,h,Fm _ _⟩
  ·exact o y h
 ·intro y c;rw[fL]at c;rcases c with h|h
  ·exact n y h
  ·exact o y h
theorem kids_two {x k M:Nat}(c:IsLev x (k+1))(hx:x+2^(k+1)<=M)(d:M<=131071):IsLev (x-2^k) k/\IsLev (x+2^k) k/\2^k<=x/\x-2^k+2^k<=M/\x+2^k+2^k<=M/\Dt (x:Int)=((x-2^k:Nat):Int)/\Cb (x:Int)=((x+2^k:Nat):Int):=by
 have f:=fD k;have e:2^(k+1)=2*2^k:=(by rw[bF];omega);obtain⟨h1,h2,h3,a,b⟩:=Go.Proofs.YtfofaiommeckbaaGreat.kids_lev (by omega) c;exact⟨h3,a,b,by omega,by omega,h1,h2⟩
theorem Ee {F:Nat->Option NodeD} {i:Nat} {only:Bool}:∀(k x how:Nat) (late:List Int),IsLev x k->x+2^k<=131071->SpanR k x (Cv F i only k x how late):=by
 intro k
 induction k with
 |zero=>
  intro x how late e hx;cases hF:F x with
  |none=>rw[Ck hF];exact⟨fun y c=>by simp at c,fun y c=>by simp at c,by simp,by simp⟩
  |some d=>rw[Fz hF];exact⟨fun y c=>⟨x,by simpa using c,Fm _ _⟩,fun y c=>by simp at c,by simp,by simp⟩
 |succ k ih=>
  intro x how late e hx;cases hF:F x with
  |none=>rw[Ck hF];exact⟨fun y c=>by simp at c,fun y c=>by simp at c,by simp,by simp⟩
  |some d=>
   rw[Ev hF];obtain⟨g,h,h0,h1,h2,-,-⟩:=kids_two e hx lR;have A:=Mz (i:=i) (only:=only) (how:=how) (d:=d) (late:=if how=1 then d.par.late else late) fun a b=>ih (x-2^k) a b g h1;have B:=Mz (i:=i) (only:=only) (how:=how) (d:=d) (late:=if how=1 then d.par.late else late) fun a b=>ih (x+2^k) a b h h2;obtain⟨j1,-,j3,-⟩:=Ul h0 A.op B.op A.opr B.opr;obtain⟨-,j2,-,f⟩:=Ul h0 A.sh B.sh A.shr B.shr;exact⟨j3,f,j1,j2⟩
def Pl (z y:Int):Prop:=0<=y/\(y=Dt z\/y=Cb z)
def Zkq (r:List Int×List Int×Bool):Prop:=∀y,y∈r.2.1↔(∃z∈r.1,Pl z y)/\y∉r.1
theorem Sa {x:Nat}(hx:x<=131070)(hl:IsLev x 0):Dt (x:Int)= -1/\Cb (x:Int)= -1:=by
 have h:=Nx (x:=(x:Int)) (by
  have e:Mh (x:Int)=0:=by
   rw[Mh,iP (by unfold Bk;rw[dI];omega),Int.toNat_natCast,lev_eq hx hl];rfl
  omega)
 exact h
def Znl (c:Nat)(r:List Int×List Int×Bool):Prop:=r.2.2=true->((c:Int)∈r.1/\Zkq r)\/(r.1=[]/\r.2.1=[(c:Int)])
theorem Um {V:Nat->Nat->List Int->List Int×List Int×Bool} {i:Nat} {only:Bool} {c how:Nat} {d:NodeD} {late:List Int}(h:∀how late,(V c how late).2.2=true->(c:Int)∈(V c how late).1/\Zkq (V c how late)):Znl c (Ih V i only c how d late):=by
 unfold Ih
 split
 ·exact fun a=> .inl (h _ _ a)
 ·split
  ·exact fun _=> .inr ⟨rfl,rfl⟩
  ·split
   ·exact fun a=> .inl (h _ _ a)
   ·split
    ·exact fun a=> .inl (h _ _ a)
    ·exact fun _=> .inr ⟨rfl,rfl⟩
theorem Zdu {F:Nat->Option NodeD} {i:Nat} {only:Bool}:∀(k x how:Nat) (late:List Int),IsLev x k->x+2^k<=131071->(Cv F i only k x how late).2.2=true->(x:Int)∈(Cv F i only k x how late).1/\Zkq (Cv F i only k x how late):=by
 intro k
 induction k with
 |zero=>
  intro x how late p hx;have C:=fD 0;cases hF:F x with
  |none=>rw[Ck hF];intro h;cases h
  |some d=>
   rw[Fz hF];intro _;refine⟨by simp,fun y=> ?_⟩;obtain⟨e1,e2⟩:=Sa (by omega) p;simp only[dC,fU,false_iff,not_and];rintro⟨z,rfl,h0,h1|h1⟩
   ·rw[e1]at h1;omega
   ·rw[e2]at h1;omega
 |succ k ih=>
  intro x how late p hx;cases hF:F x with
  |none=>rw[Ck hF];intro h;cases h
  |some d=>
   rw[Ev hF];obtain⟨t,u,h0,h1,h2,D,E⟩:=kids_two p hx lR;have A:=Mz (i:=i) (only:=only) (how:=how) (d:=d) (late:=if how=1 then d.par.late else late) fun a b=>Ee (F:=F) (i:=i) (only:=only) k (x-2^k) a b t h1;have B:=Mz (i:=i) (only:=only) (how:=how) (d:=d) (late:=if how=1 then d.par.late else late) fun a b=>Ee (F:=F) (i:=i) (only:=only) k (x+2^k) a b u h2;have n:=Um (i:=i) (only:=only) (how:=how) (d:=d) (late:=if how=1 then d.par.late else late) fun a b=>ih (x-2^k) a b t h1;have o:=Um (i:=i) (only:=only) (how:=how) (d:=d) (late:=if how=1 then d.par.late else late) fun a b=>ih (x+2^k) a b u h2;generalize Ih (Cv F i only k) i only (x-2^k) how d (if how=1 then d.par.late else late)=a at A n|-;generalize Ih (Cv F i only k) i only (x+2^k) how d (if how=1 then d.par.late else late)=b at B o|-;intro r;have c:(a.2.2&&b.2.2)=true:=r;rw[aT]at c;refine⟨by simp[Wm],fun y=> ?_⟩;show y∈a.2.1++b.2.1↔(∃z∈a.1++[(x:Int)]++b.1,Pl z y)/\y∉a.1++[(x:Int)]++b.1;simp only[fL,fU];have v:∀y∈a.1,y<(x:Int):=fun y f=>(by obtain⟨m,e,h⟩:=A.op y f;have:=Ik h0 h;omega);have w:∀y∈b.1,(x:Int)<y:=fun y f=>(by obtain⟨m,e,h⟩:=B.op y f;have:=Gb h;omega);have G:∀y∈a.2.1,y<(x:Int):=fun y f=>(by obtain⟨m,e,h⟩:=A.sh y f;have:=Ik h0 h;omega);have sb:∀y∈b.2.1,(x:Int)<y:=fun y f=>(by obtain⟨m,e,h⟩:=B.sh y f;have:=Gb h;omega);have C:=fD k;have s:∀y,Pl (x:Int) y↔y=((x-2^k:Nat):Int)\/y=((x+2^k:Nat):Int):=by
    intro y;unfold Pl;rw[D,E];constructor
    ·rintro⟨_,h⟩;exact h
    ·rintro(h|h)<;>omega
   constructor
   ·rintro(f|f)
    ·have q:=G y f;rcases n c.1 with⟨_,l⟩|⟨e1,e2⟩
     ·obtain⟨⟨z,g,hk⟩,j⟩:=(l y).1 f;refine⟨⟨z,.inl (.inl g),hk⟩,?_⟩;rintro((h|h)|h)
      ·exact j h
      ·omega
      ·have:=w y h;omega
     ·rw[e2,fU]at f;refine⟨⟨x,.inl (.inr rfl),(s y).2 (.inl f)⟩,?_⟩;rintro((h|h)|h)
      ·rw[e1]at h;cases h
      ·omega
      ·have:=w y h;omega
    ·have q:=sb y f;rcases o c.2 with⟨_,l⟩|⟨e1,e2⟩
     ·obtain⟨⟨z,g,hk⟩,j⟩:=(l y).1 f;refine⟨⟨z,.inr g,hk⟩,?_⟩;rintro((h|h)|h)
      ·have:=v y h;omega
      ·omega
      ·exact j h
     ·rw[e2,fU]at f;refine⟨⟨x,.inl (.inr rfl),(s y).2 (.inr f)⟩,?_⟩;rintro((h|h)|h)
      ·have:=v y h;omega
      ·omega
      ·rw[e1]at h;cases h
   ·rintro⟨⟨z,g,hk⟩,j⟩;rcases g with(g|g)|g
    ·rcases n c.1 with⟨_,l⟩|⟨e1,e2⟩
     ·exact .inl ((l y).2 ⟨⟨z,g,hk⟩,fun h=>j (.inl (.inl h))⟩)
     ·rw[e1]at g;cases g
    ·rw[g]at hk;rcases(s y).1 hk with e|e
     ·rcases n c.1 with⟨h3,l⟩|⟨e1,e2⟩
      ·rw[e]at j;exact absurd (.inl (.inl h3)) j
      ·rw[e2,e];exact .inl (by simp)
     ·rcases o c.2 with⟨h3,l⟩|⟨e1,e2⟩
      ·rw[e]at j;exact absurd (.inr h3) j
      ·rw[e2,e];exact .inr (by simp)
    ·rcases o c.2 with⟨_,l⟩|⟨e1,e2⟩
     ·exact .inr ((l y).2 ⟨⟨z,g,hk⟩,fun h=>j (.inr h)⟩)
     ·rw[e1]at g;cases g
section
def upL (d:Nat)(u:Int):List Int:=(2*u)::(Pg (2*u) ((2^d:Nat):Int)).map fun n:Nat=>(n:Int)
def Zb3 (FI:Int->Option NodeD)(x:Int)(s:List Int×Bool)(y:Int):List Int×Bool:=
 if y≠x/\Bv y x=true/\y∉s.1 then(s.1++[y],s.2&&(FI y).isSome)else s
def Oh (FI:Int->Option NodeD)(x:Int)(s:List Int×Bool)(ys:List Int):List Int×Bool:=ys.foldl (Zb3 FI x) s
def Hr (FI:Int->Option NodeD)(d:Nat)(x:Int)(late:List Int):List Int×Bool:=Oh FI x ([x],true) (late.flatMap (upL d))
def Bb (FI:Int->Option NodeD)(d:Nat):Nat->Nat->List Int×Bool
 |0,x=>match FI (x:Int)with
  |none=>([],false)
  |some y=>Hr FI d x y.par.late
 |k+1,x=>match FI (x:Int)with
  |none=>([],false)
  |some y=>if y.kind=0 then([(x:Int)]++(Bb FI d k (x-2^k)).1++(Bb FI d k (x+2^k)).1,(Bb FI d k (x-2^k)).2&&(Bb FI d k (x+2^k)).2)
   else Hr FI d x y.par.late
theorem Ey {FI:Int->Option NodeD} {d k x:Nat}(h:FI (x:Int)=none):Bb FI d k x=([],false):=by
 cases k<;>simp only[Bb,h]
theorem Gx {FI:Int->Option NodeD} {d x:Nat} {y:NodeD}(h:FI (x:Int)=some y):Bb FI d 0 x=Hr FI d x y.par.late:=by simp only[Bb,h]
theorem Jj {FI:Int->Option NodeD} {d k x:Nat} {y:NodeD}(h:FI (x:Int)=some y)(hk:y.kind≠0):Bb FI d k x=Hr FI d x y.par.late:=by
 cases k with
 |zero=>exact Gx h
 |succ k=>simp only[Bb,h];rw[iN hk]
theorem Hs {FI:Int->Option NodeD} {d k x:Nat} {y:NodeD}(h:FI (x:Int)=some y)(hk:y.kind=0):
  Bb FI d (k+1) x=([(x:Int)]++(Bb FI d k (x-2^k)).1++(Bb FI d k (x+2^k)).1,(Bb FI d k (x-2^k)).2&&(Bb FI d k (x+2^k)).2):=by
 simp only[Bb,h];rw[iP hk]
structure AddWP (FI:Int->Option NodeD) (x:Int) (ys:List Int) (s:List Int×Bool):Prop where
 nd:s.1.Nodup
 mem:∀y,y∈s.1↔y=x\/(y∈ys/\y≠x/\Bv y x=true)
 ok:s.2=true↔∀y∈ys,y≠x->Bv y x=true->(FI y).isSome=true
theorem Zdv {FI:Int->Option NodeD} {x y:Int} {i:List Int} {s:List Int×Bool}(h:AddWP FI x i s):AddWP FI x (i++[y]) (Zb3 FI x s y):=by
 unfold Zb3
 split
 ·rename_i hc
  obtain⟨c1,c2,c3⟩:=hc;refine⟨?_,fun z=> ?_,?_⟩
  ·rw[fV];exact⟨h.nd,by simp,fun a j b g e=>by rw[fU]at g;subst e g;exact c3 j⟩
  ·simp only[fL,fU,h.mem z];constructor
   ·rintro((e|⟨a,b,c⟩)|e)
    ·exact .inl e
    ·exact .inr ⟨.inl a,b,c⟩
    ·subst e;exact .inr ⟨.inr rfl,c1,c2⟩
   ·rintro(e|⟨a|a,b,c⟩)
    ·exact .inl (.inl e)
    ·exact .inl (.inr ⟨a,b,c⟩)
    ·exact .inr a
  ·show(s.2&&(FI y).isSome)=true↔_;rw[aT,h.ok];constructor
   ·rintro⟨a,b⟩ z d;rw[fL,fU]at d;rcases d with d|rfl
    ·exact a z d
    ·exact fun _ _=>b
   ·intro a;exact⟨fun z d=>a z (fW _ d),a y (by simp) c1 c2⟩
 ·rename_i hc
  have f:y≠x->Bv y x=true->y∈s.1:=fun a b=>Decidable.byContradiction fun c=>hc ⟨a,b,c⟩;refine⟨h.nd,fun z=> ?_,?_⟩
  ·rw[h.mem z];simp only[fL,fU];constructor
   ·rintro(e|⟨a,b,c⟩)
    ·exact .inl e
    ·exact .inr ⟨.inl a,b,c⟩
   ·rintro(e|⟨a|a,b,c⟩)
    ·exact .inl e
    ·exact .inr ⟨a,b,c⟩
    ·subst a;exact(h.mem z).1 (f b c)
  ·rw[h.ok];constructor
   ·intro a z d b c;rw[fL,fU]at d;rcases d with d|rfl
    ·exact a z d b c
    ·rcases(h.mem z).1 (f b c)with e|⟨e,_,_⟩
     ·exact absurd e b
     ·exact a z e b c
   ·exact fun a z d=>a z (fW _ d)
theorem Zhx {FI:Int->Option NodeD} {x:Int}:∀(zs ys:List Int) (s:List Int×Bool),AddWP FI x ys s->AddWP FI x (ys++zs) (Oh FI x s zs):=by
 intro zs
 induction zs with
 |nil=>intro ys s h;simpa [Oh]using h
 |cons z zs ih=>
  intro ys s h;have:=ih (ys++[z]) _ (Zdv (y:=z) h);rw[cY,fT]at this;exact this
theorem Zkr (FI:Int->Option NodeD)(d:Nat)(x:Int)(late:List Int):AddWP FI x (late.flatMap (upL d)) (Hr FI d x late):=by
 have h0:AddWP FI x [] ([x],true):=⟨by simp,fun y=>by simp,by simp⟩;have:=Zhx (late.flatMap (upL d)) [] _ h0
 rwa [List.nil_append]at this
theorem Sb {z:Nat}:∀(k j:Nat) (y:Nat),y∈ups z j k↔∃l,j<l/\l<=j+k/\y=anc z l:=by
 intro k
 induction k with
 |zero=>
  intro j y;simp only[ups,dC,false_iff,not_exists,not_and];intro l h1 h2;omega
 |succ k ih=>
  intro j y;rw[ups,aZ,ih];constructor
  ·rintro(e|⟨l,h1,h2,e⟩)
   ·exact⟨j+1,by omega,by omega,e⟩
   ·exact⟨l,by omega,by omega,e⟩
  ·rintro⟨l,h1,h2,e⟩
   by_cases hl:l=j+1
   ·subst hl;exact .inl e
   ·exact .inr ⟨l,by omega,by omega,e⟩
theorem Ll {d m:Nat}(f:d<=16)(h:2*m+1<2^(d+1))(y:Int):y∈upL d (m:Int)↔∃j,j<=d/\y=((anc (2*m) j:Nat):Int):=by
 have c:2^(d+1)<=2^17:=bQ (by omega) (by omega);have a:(2:Nat)^17=131072:=rfl;have g:=Ig (q:=2*m) (by omega) (by omega);have b:anc (2*m) 0=2*m:=anc_self (by unfold IsLev;simp);have e2:2*(m:Int)=((2*m:Nat):Int):=(by omega);unfold upL;rw[e2,Rl f h,g,dR,aZ,eA];constructor
 ·rintro(e|⟨n,i,e⟩)
  ·exact⟨0,by omega,by rw[b];exact e⟩
  ·obtain⟨l,h1,h2,e3⟩:=(Sb _ _ _).1 i;exact⟨l,by omega,by rw[<-e,e3]⟩
 ·rintro⟨j,k,e⟩
  by_cases h0:j=0
  ·subst h0;rw[b]at e;exact .inl e
  ·exact .inr ⟨anc (2*m) j,(Sb _ _ _).2 ⟨j,by omega,by omega,rfl⟩,e.symm⟩
def Jk (d:Nat)(late:List Int):Prop:=∀u∈late,∃m:Nat,u=(m:Int)/\2*m+1<2^(d+1)
theorem Zdw {d m x:Nat}(hd:d<=16)(hm:2*m+1<2^(d+1))(hx:x+1<2^(d+1)):Bv (2*(m:Int)) (x:Int)=decide (x=anc (2*m) (lev x)):=by
 rw[Znc];exact Kh hd hm hx (by omega)
theorem Na {d x:Nat} {late:List Int}(c:d<=16)(e:Jk d late)(hx:x+1<2^(d+1)):Kg late (x:Int)=true↔∃m:Nat,(m:Int)∈late/\2*m+1<2^(d+1)/\x=anc (2*m) (lev x):=by
 unfold Kg;rw[aR];constructor
 ·rintro⟨u,b,h⟩;obtain⟨m,rfl,a⟩:=e u b;rw[Zdw c a hx,dI]at h;exact⟨m,b,a,h⟩
 ·rintro⟨m,b,a,h⟩;refine⟨m,b,?_⟩;rw[Zdw c a hx,dI];exact h
theorem Wo {x k y:Nat}(c:IsLev x k)(b:inR k x y):anc y k=x:=by
 have a:=anc_self c;have e1:2^(k+1)=2*2^k:=(by rw[bF];omega);have e:=fD k;have d:y/2^(k+1)=x/2^(k+1):=by
  unfold anc at a;refine Nat.div_eq_of_lt_le ?_ ?_
  ·unfold inR at b;omega
  ·rw[Nat.add_mul,Nat.one_mul];unfold inR at b;omega
 unfold anc;rw[d];exact a
theorem Zjk {x k y l:Nat}(b:IsLev x k)(d:IsLev y l)(g:inR k x y):l<=k:=by
 rcases aB k l with h|h
 ·exfalso;have e1:2^(k+1)=2*2^k:=(by rw[bF];omega);have i:=fD k;have f:=fD l;have e2:2^(l+1)=2*2^l:=(by rw[bF];omega);have d1:2^(k+1)∣y+1:=by
   unfold IsLev at d;have a:=bM y (2^(l+1));rw[d]at a;have e3:y+1=2^l*(2*(y/2^(l+1))+1):=by
    rw[gC,<-Nat.mul_assoc,Nat.mul_comm (2^l) 2,<-e2];omega
   rw[e3];exact Nat.dvd_trans (Nat.pow_dvd_pow 2 (by omega)) (Nat.dvd_mul_right _ _)
  obtain⟨c,e⟩:=d1;unfold IsLev at b;have a:=bM x (2^(k+1));rw[b]at a;unfold inR at g;rcases Nat.lt_trichotomy c (x/2^(k+1)+1)with h3|h3|h3
  ·have:=aC (2^(k+1)) (show c<=x/2^(k+1) by omega);omega
  ·rw[h3,gC]at e;omega
  ·have:=aC (2^(k+1)) (show x/2^(k+1)+1+1<=c by omega);rw[gC,gC]at this;omega
 ·exact h
theorem Zks {d c k y:Nat} {late:List Int}(l:d<=16)(n:Jk d late)(q:c+1<2^(d+1))(i:y+1<2^(d+1))(a:IsLev c k)(o:inR k c y)(h:Kg late (y:Int)=true):Kg late (c:Int)=true:=by
 have p:2^(d+1)<=2^17:=bQ (by omega) (by omega);have j:(2:Nat)^17=131072:=rfl;obtain⟨m,r,g,e⟩:=(Na l n i).1 h;refine(Na l n q).2 ⟨m,r,g,?_⟩;have f:=lev_is (x:=y) (by omega);have b:=Zjk a f o;rw[lev_eq (by omega) a,<-anc_anc b,<-e];exact(Wo a o).symm
section
variable {F:Nat->Option NodeD} {i d:Nat} {only:Bool}
structure BetwP (F:Nat->Option NodeD) (k c:Nat) (late:List Int) (r:List Int×List Int×Bool):Prop where
 ok:r.2.2=true↔∀y:Nat,inR k c y->Kg late (y:Int)=true->(F y).isSome=true
 mem:r.2.2=true->∀y:Int,y∈r.1↔∃m:Nat,y=(m:Int)/\inR k c m/\Kg late (m:Int)=true
theorem Wp {k c y M:Nat}(hc:c+2^k<=M)(hy:inR k c y):y+1<=M:=by unfold inR at hy;omega
theorem Nb {k c:Nat} {D:NodeD} {late:List Int} (l:d<=16) (n:Jk d late) (e:IsLev c k) (j:c+2^k<=2*2^d-1)
  (o:Kg late (c:Int)=true->BetwP F k c late (Cv F i only k c 2 late)):BetwP F k c late (Ih (Cv F i only k) i only c 2 D late):=by
 have e2:2^(d+1)=2*2^d:=(by rw[bF];omega);have p:=fD k;have g:Ih (Cv F i only k) i only c 2 D late=if Kg late (c:Int)=true then Cv F i only k c 2 late else([],[(c:Int)],true):=by
  unfold Ih;rw[iN (by omega),iN (by omega),iN (by omega)]
 rw[g]
 by_cases h:Kg late (c:Int)=true
 ·rw[iP h];exact o h
 ·rw[iN h];have b:∀y:Nat,inR k c y->¬Kg late (y:Int)=true:=fun y a f=>h (Zks l n (by omega) (by have:=Wp j a;omega) e a f);exact⟨⟨fun _ y a f=>absurd f (b y a),fun _=>rfl⟩,fun _ y=>⟨fun a=>(by cases a),fun⟨m,_,h1,h2⟩=>absurd h2 (b m h1)⟩⟩
theorem Zdx {k c:Nat} {D:NodeD} {late:List Int} {a b:List Int×List Int×Bool}(hx:2^k<=c)(n:F c=some D)(o:Kg late (c:Int)=true)(j:BetwP F k (c-2^k) late a)(l:BetwP F k (c+2^k) late b):BetwP F (k+1) c late (Wm a c b):=by
 constructor
 ·show(a.2.2&&b.2.2)=true↔_;rw[aT,j.ok,l.ok];constructor
  ·rintro⟨h1,h2⟩ y g f;rcases(Bo hx).1 g with rfl|h|h
   ·rw[n];rfl
   ·exact h1 y h f
   ·exact h2 y h f
  ·intro h;exact⟨fun y g=>h y ((Bo hx).2 (.inr (.inl g))),fun y g=>h y ((Bo hx).2 (.inr (.inr g)))⟩
 ·intro i y;have d:(a.2.2&&b.2.2)=true:=i;rw[aT]at d;show y∈a.1++[(c:Int)]++b.1↔_;simp only[fL,fU,j.mem d.1 y,l.mem d.2 y];constructor
  ·rintro((⟨m,e,h1,h2⟩|e)|⟨m,e,h1,h2⟩)
   ·exact⟨m,e,(Bo hx).2 (.inr (.inl h1)),h2⟩
   ·exact⟨c,e,Fm _ _,o⟩
   ·exact⟨m,e,(Bo hx).2 (.inr (.inr h1)),h2⟩
  ·rintro⟨m,e,h1,h2⟩;rcases(Bo hx).1 h1 with rfl|h|h
   ·exact .inl (.inr e)
   ·exact .inl (.inl ⟨m,e,h,h2⟩)
   ·exact .inr ⟨m,e,h,h2⟩
theorem Znd (f:d<=16) {late:List Int}(l:Jk d late):∀(k c:Nat),IsLev c k->c+2^k<=2*2^d-1->Kg late (c:Int)=true->BetwP F k c late (Cv F i only k c 2 late):=by
 have q:2*2^d-1<=131071:=by
  have p:2^d<=2^16:=bQ (by omega) f;have g:(2:Nat)^16=65536:=rfl;omega
 intro k
 induction k with
 |zero=>
  intro c a j b;have h0:∀y,inR 0 c y↔y=c:=fun y=>(by have e:2^0=1:=rfl;unfold inR;omega);cases hF:F c with
  |none=>
   rw[Ck hF];exact⟨⟨fun h=>(by cases h),fun h=>by have:=h c ((h0 c).2 rfl) b;rw[hF]at this;cases this⟩,fun h=>by cases h⟩
  |some D=>
   rw[Fz hF];refine⟨⟨fun _ y r _=>by rw[(h0 y).1 r,hF];rfl,fun _=>rfl⟩,fun _ y=> ?_⟩;simp only[fU];exact⟨fun e=>⟨c,e,(h0 c).2 rfl,b⟩,fun⟨m,e,h,_⟩=>by rw[e,(h0 m).1 h]⟩
 |succ k ih=>
  intro c a j b;cases hF:F c with
  |none=>
   rw[Ck hF];exact⟨⟨fun h=>(by cases h),fun h=>by have:=h c (Fm _ _) b;rw[hF]at this;cases this⟩,fun h=>by cases h⟩
  |some D=>
   obtain⟨n,o,h0,h1,h2,-,-⟩:=kids_two a j q;rw[Ev hF,iN (by omega)];exact Zdx h0 hF b (Nb f l n h1 (ih _ n h1)) (Nb f l o h2 (ih _ o h2))
def Cz (F:Nat->Option NodeD):Prop:=∀x D,F x=some D->∀u∈D.par.late,∃m:Nat,u=(m:Int)/\m<65536/\Bv (2*(m:Int)) (x:Int)=true
theorem Kn (i:d<=16)(g:Cz F) {x k:Nat} {D:NodeD}(f:F x=some D)(j:IsLev x k)(hx:x+2^k<=2*2^d-1):Jk d D.par.late/\∀m:Nat,(m:Int)∈D.par.late->inR k x (2*m):=by
 have e2:2^(d+1)=2*2^d:=(by rw[bF];omega);have n:2*2^d-1<=131071:=by
  have h:2^d<=2^16:=bQ (by omega) i;have c:(2:Nat)^16=65536:=rfl;omega
 have o:=fD k;have a:∀m:Nat,(m:Int)∈D.par.late->inR k x (2*m):=by
  intro m b;obtain⟨l,e,h1,h2⟩:=g x D f _ b;have:l=m:=(by omega);subst this;rw[Znc]at h2;exact(Wk (by omega) (by omega) j).1 h2
 refine⟨fun u b=> ?_,a⟩;obtain⟨m,rfl,-,-⟩:=g x D f u b;have:=Wp hx (a m b);exact⟨m,rfl,by omega⟩
theorem Zl4 (a:d<=16) {late:List Int}(h:Jk d late) {k x:Nat}(b:IsLev x k)(hx:x+2^k<=2*2^d-1)(y:Int):
  (y∈late.flatMap (upL d)/\Bv y (x:Int)=true)↔∃m:Nat,y=(m:Int)/\inR k x m/\Kg late (m:Int)=true:=by
 have e2:2^(d+1)=2*2^d:=(by rw[bF];omega);have v:2*2^d-1<=131071:=by
  have r:2^d<=2^16:=bQ (by omega) a;have o:(2:Nat)^16=65536:=rfl;omega
 have w:=fD k;rw[fX];constructor
 ·rintro⟨⟨u,q,t⟩,c⟩;obtain⟨m,rfl,f⟩:=h u q;obtain⟨j,s,rfl⟩:=(Ll a f y).1 t;have g:anc (2*m) j+1<2^(d+1):=anc_le (by omega) s;refine⟨_,rfl,(Wk (by omega) (by omega) b).1 c,(Na a h g).2 ⟨m,q,f,?_⟩⟩;rw[lev_eq (by omega) (anc_lev _ _)]
 ·rintro⟨n,rfl,h1,h2⟩;have p:n+1<2^(d+1):=(by have:=Wp hx h1;omega);obtain⟨m,f,l,e⟩:=(Na a h p).1 h2;have i:=(lev_root p (lev_is (x:=n) (by omega))).1;exact⟨⟨m,f,(Ll a l _).2 ⟨lev n,i,by rw[<-e]⟩⟩,(Wk (by omega) (by omega) b).2 h1⟩
end
end
section
structure WholeP (v:List Int×List Int×Bool) (w:List Int×Bool):Prop where
 ok:v.2.2=w.2
 nd:w.2=true->w.1.Nodup
 mem:w.2=true->∀y,y∈w.1↔y∈v.1
theorem Zdy {V:Nat->Nat->List Int->List Int×List Int×Bool} {i c:Nat} {only:Bool} {D:NodeD} {late:List Int}(hk:D.kind≠0):Ih V i only c 1 D late=Ih V i only c 2 D late:=by
 have e1:Ih V i only c 1 D late=if Kg late (c:Int)=true then V c 2 late else([],[(c:Int)],true):=by
  unfold Ih;rw[iN (by omega),iN (by omega),iN (by omega)]
 have e2:Ih V i only c 2 D late=if Kg late (c:Int)=true then V c 2 late else([],[(c:Int)],true):=by
  unfold Ih;rw[iN (by omega),iN (by omega),iN (by omega)]
 rw[e1,e2]
theorem Zdz {V:Nat->Nat->List Int->List Int×List Int×Bool} {i c:Nat} {only:Bool} {D:NodeD} {late:List Int}(hk:D.kind=0):Ih V i only c 1 D late=V c 1 []:=by
 unfold Ih;rw[iN (by omega),iN (by omega),iP (.inr ⟨rfl,hk⟩)]
section
variable {FI:Int->Option NodeD} {F:Nat->Option NodeD} {i d:Nat} {only:Bool}
theorem Dh (hd:d<=16):2*2^d-1<=131071/\2^(d+1)=2*2^d:=by
 have h17:2^d<=2^16:=bQ (by omega) hd;have h17':(2:Nat)^16=65536:=rfl;exact⟨by omega,by rw[bF];omega⟩
theorem Qd (p:d<=16) (c:∀n:Nat,F n=FI (n:Int)) {k x:Nat} {D:NodeD} {v:List Int×List Int×Bool} (q:IsLev x k) (hx:x+2^k<=2*2^d-1) (j:Jk d D.par.late) (s:F x=some D)
  (l:v.2.2=true↔∀y:Nat,inR k x y->y≠x->Kg D.par.late (y:Int)=true->(F y).isSome=true)
  (f:v.2.2=true->∀y:Int,y∈v.1↔y=(x:Int)\/∃m:Nat,y=(m:Int)/\inR k x m/\m≠x/\Kg D.par.late (m:Int)=true):WholeP v (Hr FI d x D.par.late):=by
 have P:=Zkr FI d (x:Int) D.par.late;have U:=Zl4 p j q hx;have e:v.2.2=(Hr FI d x D.par.late).2:=by
  rw[gA,l,P.ok];constructor
  ·intro h y r a g;obtain⟨m,rfl,h1,h2⟩:=(U y).1 ⟨r,g⟩;rw[<-c];exact h m h1 (fun e=>a (by rw[e])) h2
  ·intro h y h1 a h2;obtain⟨h3,b⟩:=(U (y:Int)).2 ⟨y,rfl,h1,h2⟩;rw[c];exact h _ h3 (fun e=>a (by omega)) b
 refine⟨e,fun _=>P.nd,fun h y=> ?_⟩;rw[P.mem y,f (by rw[e];exact h) y];constructor
 ·rintro(h1|⟨h1,h2,h3⟩)
  ·exact .inl h1
  ·obtain⟨m,rfl,b,i⟩:=(U y).1 ⟨h1,h3⟩;exact .inr ⟨m,rfl,b,fun e=>h2 (by rw[e]),i⟩
 ·rintro(h1|⟨m,rfl,b,o,i⟩)
  ·exact .inl h1
  ·obtain⟨h3,h2⟩:=(U (m:Int)).2 ⟨m,rfl,b,i⟩;exact .inr ⟨h3,fun e=>o (by omega),h2⟩
theorem Yw (r:d<=16)(f:∀n:Nat,F n=FI (n:Int))(J:Cz F):∀(k x:Nat) (late:List Int),IsLev x k->x+2^k<=2*2^d-1->WholeP (Cv F i only k x 1 late) (Bb FI d k x):=by
 obtain⟨L,e2⟩:=Dh r;intro k
 induction k with
 |zero=>
  intro x late v hx;cases hF:F x with
  |none=>rw[Ck hF,Ey (by rw[<-f];exact hF)];exact⟨rfl,fun h=>(by cases h),fun h=>(by cases h)⟩
  |some D=>
   have h0:∀y,inR 0 x y↔y=x:=fun y=>(by have e:2^0=1:=rfl;unfold inR;omega);rw[Fz hF,Gx (y:=D) (by rw[<-f];exact hF)];refine Qd r f v hx (Kn r J hF v hx).1 hF ⟨fun _ y j u _=>absurd ((h0 y).1 j) u,fun _=>rfl⟩ fun _ y=> ?_;simp only[fU];refine⟨fun e=> .inl e,fun h=> ?_⟩;rcases h with e|⟨m,e,h1,h2,_⟩
   ·exact e
   ·exact absurd ((h0 m).1 h1) h2
 |succ k ih=>
  intro x late v hx;obtain⟨z,C,h0,h1,h2,-,-⟩:=kids_two v hx L;cases hF:F x with
  |none=>rw[Ck hF,Ey (by rw[<-f];exact hF)];exact⟨rfl,fun h=>(by cases h),fun h=>(by cases h)⟩
  |some D=>
   rw[Ev hF,iP rfl]
   by_cases hk:D.kind=0
   ·rw[Hs (y:=D) (by rw[<-f];exact hF) hk,Zdz hk,Zdz hk];have A:=ih (x-2^k) [] z h1;have B:=ih (x+2^k) [] C h2;have H:=Ee (F:=F) (i:=i) (only:=only) k (x-2^k) 1 [] z (by omega);have I:=Ee (F:=F) (i:=i) (only:=only) k (x+2^k) 1 [] C (by omega);generalize Cv F i only k (x-2^k) 1 []=a at A H|-;generalize Cv F i only k (x+2^k) 1 []=b at B I|-;generalize Bb FI d k (x-2^k)=p at A|-;generalize Bb FI d k (x+2^k)=q at B|-;refine⟨by show(a.2.2&&b.2.2)=(p.2&&q.2);rw[A.ok,B.ok],fun E=> ?_,fun E y=> ?_⟩
    ·have c:(p.2&&q.2)=true:=E;rw[aT]at c;show([(x:Int)]++p.1++q.1).Nodup;have K:∀y∈p.1,y<(x:Int):=fun y j=>(by obtain⟨m,e,h⟩:=H.op y ((A.mem c.1 y).1 j);have:=Ik h0 h;omega);have M:∀y∈q.1,(x:Int)<y:=fun y j=>(by obtain⟨m,e,h⟩:=I.op y ((B.mem c.2 y).1 j);have:=Gb h;omega);rw[fV,fV];refine⟨⟨by simp,A.nd c.1,fun s g t ht=> ?_⟩,B.nd c.2,fun s g t ht=> ?_⟩
     ·rw[fU]at g;have:=K t ht;omega
     ·have:=M t ht;rw[fL,fU]at g;rcases g with g|g
      ·omega
      ·have:=K s g;omega
    ·have c:(p.2&&q.2)=true:=E;rw[aT]at c;show y∈[(x:Int)]++p.1++q.1↔y∈a.1++[(x:Int)]++b.1;simp only[fL,fU,A.mem c.1 y,B.mem c.2 y];constructor
     ·rintro((h|h)|h)
      ·exact .inl (.inr h)
      ·exact .inl (.inl h)
      ·exact .inr h
     ·rintro((h|h)|h)
      ·exact .inl (.inr h)
      ·exact .inl (.inl h)
      ·exact .inr h
   ·rw[Jj (y:=D) (by rw[<-f];exact hF) hk,Zdy hk,Zdy hk];have w:=(Kn r J hF v hx).1;have A:=Nb (F:=F) (i:=i) (only:=only) (D:=D) r w z h1 (Znd r w k _ z h1);have B:=Nb (F:=F) (i:=i) (only:=only) (D:=D) r w C h2 (Znd r w k _ C h2);generalize Ih (Cv F i only k) i only (x-2^k) 2 D D.par.late=a at A|-;generalize Ih (Cv F i only k) i only (x+2^k) 2 D D.par.late=b at B|-;have N:=fD k;refine Qd r f v hx w hF ?_ fun G y=> ?_
    ·show(a.2.2&&b.2.2)=true↔_;rw[aT,A.ok,B.ok];constructor
     ·rintro⟨o,g2⟩ y j u g;rcases(Bo h0).1 j with e|h|h
      ·exact absurd e u
      ·exact o y h g
      ·exact g2 y h g
     ·intro h;exact⟨fun y j g=>h y ((Bo h0).2 (.inr (.inl j))) (by have:=Ik h0 j;omega) g,fun y j g=>h y ((Bo h0).2 (.inr (.inr j))) (by have:=Gb j;omega) g⟩
    ·have l:(a.2.2&&b.2.2)=true:=G;rw[aT]at l;show y∈a.1++[(x:Int)]++b.1↔_;simp only[fL,fU,A.mem l.1 y,B.mem l.2 y];constructor
     ·rintro((⟨m,e,o,g2⟩|e)|⟨m,e,o,g2⟩)
      ·exact .inr ⟨m,e,(Bo h0).2 (.inr (.inl o)),by have:=Ik h0 o;omega,g2⟩
      ·exact .inl e
      ·exact .inr ⟨m,e,(Bo h0).2 (.inr (.inr o)),by have:=Gb o;omega,g2⟩
     ·rintro(e|⟨m,e,o,g3,g2⟩)
      ·exact .inl (.inr e)
      ·rcases(Bo h0).1 o with h|h|h
       ·exact absurd h g3
       ·exact .inl (.inl ⟨m,e,h,g2⟩)
       ·exact .inr ⟨m,e,h,g2⟩
def Jl (z j:Nat):Nat:=if anc z j<anc z (j+1)then anc z (j+1)+2^j else anc z (j+1)-2^j
theorem Sc (z j:Nat):2^j<=anc z (j+1)/\((anc z j=anc z (j+1)-2^j/\Jl z j=anc z (j+1)+2^j)\/(anc z j=anc z (j+1)+2^j/\Jl z j=anc z (j+1)-2^j)):=by
 have h:=halves z j;have a:=anc_plo z j;have e1:=anc_plo z (j+1);have d:phi z j=plo z j+(2^(j+1)-2):=rfl;have c:=fD j;have b:2^(j+1)=2*2^j:=(by rw[bF];omega);refine⟨by omega,?_⟩;unfold Jl;rcases h with⟨h1,h2,h3⟩|⟨h1,h2,h3⟩
 ·left;rw[iP (by omega)];omega
 ·right;rw[iN (by omega)];omega
theorem Sd (z j y:Nat):inR (j+1) (anc z (j+1)) y↔y=anc z (j+1)\/inR j (anc z j) y\/inR j (Jl z j) y:=by
 obtain⟨h0,h⟩:=Sc z j;rw[Bo h0];rcases h with⟨h1,h2⟩|⟨h1,h2⟩<;>rw[h1,h2]
 rw[or_comm (a:=inR j (anc z (j+1)-2^j) y)]
theorem Wq (z j y:Nat)(h:inR j (Jl z j) y):¬inR j (anc z j) y/\y≠anc z (j+1):=by
 obtain⟨h0,h1⟩:=Sc z j;unfold inR at h|-;omega
theorem Yx (z y:Nat):∀(n j:Nat),inR j (anc z j) y->inR (j+n) (anc z (j+n)) y:=by
 intro n
 induction n with
 |zero=>intro j h;exact h
 |succ n ih=>
  intro j h;have:=(Sd z (j+n) y).2 (.inr (.inl (ih j h)));exact this
theorem Zd0 {z j l y:Nat}(hjl:j<l)(h:inR j (Jl z j) y):¬inR l (Jl z l) y:=by
 intro h2;have h3:=Yx z y (l-(j+1)) (j+1) ((Sd z j y).2 (.inr (.inr h)));rw[show j+1+(l-(j+1))=l by omega]at h3;exact(Wq z l y h2).1 h3
theorem Zkt {z j l:Nat}(h:inR j (Jl z j) (anc z l)):False:=by
 rcases aB j l with a|a
 ·have h1:=(Sd z j (anc z l)).2 (.inr (.inr h));have h2:=Zjk (anc_lev z (j+1)) (anc_lev z l) h1;have:l=j+1:=(by omega);subst this;exact(Wq z j _ h).2 rfl
 ·have h1:=Yx z (anc z l) (j-l) l (Fm _ _);rw[show l+(j-l)=j by omega]at h1;exact(Wq z j _ h).1 h1
theorem Oi (a:d<=16) {z j:Nat}(m:z+1<2^(d+1))(l:j<d):IsLev (Jl z j) j/\Jl z j+2^j<=2*2^d-1:=by
 obtain⟨e,e2⟩:=Dh a;obtain⟨h0,h⟩:=Sc z j;have b:=anc_lev z (j+1);have f:=anc_le (x:=z) (d:=d) (j:=j+1) (by omega) (by omega);have g:=Yk f a;rw[lev_eq (by omega) b]at g;obtain⟨i,k,-,b1,c,-,-⟩:=kids_two (M:=2*2^d-1) b (by omega) e;rcases h with⟨h1,h2⟩|⟨h1,h2⟩
 ·rw[h2];exact⟨k,c⟩
 ·rw[h2];exact⟨i,b1⟩
theorem Zl5 (hd:d<=16) {z j:Nat}(hz:z+1<2^(d+1))(hj:j<=d):anc z j+2^j<=2*2^d-1:=by
 obtain⟨hM,e2⟩:=Dh hd;have ha:=anc_le (x:=z) (d:=d) (j:=j) (by omega) hj;have hu:=Yk ha hd;rw[lev_eq (by omega) (anc_lev z j)]at hu;omega
structure OwnS (FI:Int->Option NodeD) (d z:Nat) (only:Bool) (k:Nat) (v:List Int×List Int×Bool):Prop where
 ok:v.2.2=true↔(∀j,j<=k->(FI (anc z j:Nat)).isSome=true)/\(only=false->∀j,j<k->(Bb FI d j (Jl z j)).2=true)
 mem:v.2.2=true->∀y:Int,y∈v.1↔(∃j,j<=k/\y=(anc z j:Nat))\/(only=false/\∃j,j<k/\y∈(Bb FI d j (Jl z j)).1)
theorem Yy {z k:Nat} {v a b:List Int×List Int×Bool} (m:(FI (anc z (k+1):Nat)).isSome=true) (l:v.2.2=(a.2.2&&b.2.2)) (o:∀y:Int,y∈v.1↔y∈a.1\/y=(anc z (k+1):Nat)\/y∈b.1) (i:OwnS FI d z only k a)
  (n:b.2.2=(only||(Bb FI d k (Jl z k)).2)) (h:b.2.2=true->∀y,y∈b.1↔only=false/\y∈(Bb FI d k (Jl z k)).1):OwnS FI d z only (k+1) v:=by
 constructor
 ·rw[l,aT,i.ok,n,aU];constructor
  ·rintro⟨⟨h1,h2⟩,h3⟩;refine⟨fun j f=> ?_,fun c j f=> ?_⟩
   ·by_cases e:j=k+1
    ·rw[e];exact m
    ·exact h1 j (by omega)
   ·by_cases e:j=k
    ·rw[e];rcases h3 with h3|h3
     ·rw[c]at h3;cases h3
     ·exact h3
    ·exact h2 c j (by omega)
  ·rintro⟨h1,h2⟩;refine⟨⟨fun j f=>h1 j (by omega),fun c j f=>h2 c j (by omega)⟩,?_⟩;cases c:only with
   |true=>exact .inl rfl
   |false=>exact .inr (h2 c k (by omega))
 ·intro g y;rw[l,aT]at g;rw[o y,i.mem g.1 y,h g.2 y];constructor
  ·rintro((⟨j,f,e⟩|⟨c,j,f,e⟩)|e|⟨c,e⟩)
   ·exact .inl ⟨j,by omega,e⟩
   ·exact .inr ⟨c,j,by omega,e⟩
   ·exact .inl ⟨k+1,lR,e⟩
   ·exact .inr ⟨c,k,by omega,e⟩
  ·rintro(⟨j,f,e⟩|⟨c,j,f,e⟩)
   ·by_cases ej:j=k+1
    ·subst ej;exact .inr (.inl e)
    ·exact .inl (.inl ⟨j,by omega,e⟩)
   ·by_cases ej:j=k
    ·subst ej;exact .inr (.inr ⟨c,e⟩)
    ·exact .inl (.inr ⟨c,j,by omega,e⟩)
theorem Un (a:d<=16) {k c:Nat} {V:Nat->Nat->List Int->List Int×List Int×Bool} {D:NodeD} {late:List Int}(e:2*i+1<2^(d+1))(f:IsLev c k)(j:c+2^k<=2*2^d-1):
  Ih V i only c 0 D late=if c=anc (2*i) k then V c 0 []else if only=true then([],[(c:Int)],true)else V c 1 []:=by
 obtain⟨g,e2⟩:=Dh a;have l:=fD k;have b:=Zdw a e (x:=c) (by omega);rw[lev_eq (by omega) f]at b;unfold Ih;rw[b]
 by_cases h:c=anc (2*i) k
 ·rw[iP ⟨rfl,dT h⟩,iP h]
 ·rw[iN (by rintro⟨_,h2⟩;exact h (oD h2)),iN h]
  by_cases ho:only=true
  ·rw[iP ⟨rfl,ho⟩,iP ho]
  ·rw[iN (by rintro⟨_,h2⟩;exact ho h2),iN ho,iP (.inl rfl)]
theorem Zd1 (g:d<=16)(a:∀n:Nat,F n=FI (n:Int))(l:Cz F) {k c:Nat}(j:IsLev c k)(f:c+2^k<=2*2^d-1):
  let b:List Int×List Int×Bool:=if only=true then([],[(c:Int)],true)else Cv F i only k c 1 []
  b.2.2=(only||(Bb FI d k c).2)/\(b.2.2=true->∀y,y∈b.1↔only=false/\y∈(Bb FI d k c).1):=by
 intro b;have W:=Yw (i:=i) (only:=only) g a l k c [] j f;cases ho:only with
 |true=>
  have e:b=([],[(c:Int)],true):=(by show(if only=true then _ else _)=_;rw[iP ho]);rw[e];exact⟨rfl,fun _ y=>by simp⟩
 |false=>
  have e:b=Cv F i only k c 1 []:=(by show(if only=true then _ else _)=_;rw[iN (by rw[ho];simp)]);rw[e];refine⟨by rw[W.ok,Bool.false_or],fun h y=> ?_⟩;rw[W.ok]at h;rw[<-W.mem h y];exact⟨fun h=>⟨rfl,h⟩,fun h=>h.2⟩
theorem Zjl (b:d<=16)(a:∀n:Nat,F n=FI (n:Int))(p:Cz F)(o:2*i+1<2^(d+1)):∀k,k<=d->OwnS FI d (2*i) only k (Cv F i only k (anc (2*i) k) 0 []):=by
 obtain⟨q,e2⟩:=Dh b;intro k
 induction k with
 |zero=>
  intro _;cases hF:F (anc (2*i) 0)with
  |none=>
   rw[Ck hF];refine⟨⟨fun h=>(by cases h),fun h=> ?_⟩,fun h=>by cases h⟩;have:=h.1 0 lR;rw[<-a,hF]at this;cases this
  |some D=>
   rw[Fz hF];refine⟨⟨fun _=>⟨fun j f=> ?_,fun _ j f=>by omega⟩,fun _=>rfl⟩,fun _ y=> ?_⟩
   ·obtain rfl:j=0:=(by omega);rw[<-a,hF];rfl
   ·simp only[fU];constructor
    ·exact fun e=> .inl ⟨0,lR,e⟩
    ·rintro(⟨j,f,e⟩|⟨_,j,f,_⟩)
     ·obtain rfl:j=0:=(by omega);exact e
     ·omega
 |succ k ih=>
  intro hk;have s:=anc_lev (2*i) (k+1);have r:=Zl5 b (z:=2*i) (j:=k+1) (by omega) hk;obtain⟨t,u,h0,h1,h2,-,-⟩:=kids_two s r q;cases hF:F (anc (2*i) (k+1))with
  |none=>
   rw[Ck hF];refine⟨⟨fun h=>(by cases h),fun h=> ?_⟩,fun h=>by cases h⟩;have:=h.1 (k+1) lR;rw[<-a,hF]at this;cases this
  |some D=>
   rw[Ev hF,iN (by omega)];have m:(FI (anc (2*i) (k+1):Nat)).isSome=true:=(by rw[<-a,hF];rfl);have A:=ih (by omega);rw[Un b o t h1,Un b o u h2];have v:=fD k;rcases(Sc (2*i) k).2 with⟨c1,c2⟩|⟨c1,c2⟩
   ·rw[iP c1.symm,iN (by omega),<-c1,<-c2];have c:=Oi b (z:=2*i) (j:=k) (by omega) (by omega);obtain⟨g,l⟩:=Zd1 (F:=F) (FI:=FI) (i:=i) (only:=only) b a p c.1 c.2;refine Yy m rfl (fun y=> ?_) A g l;simp only[Wm,fL,fU];rw[or_assoc]
   ·rw[iN (by omega),iP c1.symm,<-c1,<-c2];have c:=Oi b (z:=2*i) (j:=k) (by omega) (by omega);obtain⟨g,l⟩:=Zd1 (F:=F) (FI:=FI) (i:=i) (only:=only) b a p c.1 c.2;refine Yy m (Bool.and_comm _ _) (fun y=> ?_) A g l;simp only[Wm,fL,fU];constructor
    ·rintro((h|h)|h)
     ·exact .inr (.inr h)
     ·exact .inr (.inl h)
     ·exact .inl h
    ·rintro(h|h|h)
     ·exact .inr h
     ·exact .inl (.inr h)
     ·exact .inl (.inl h)
end
def Ad (FI:Int->Option NodeD)(d i:Nat)(only:Bool)(r:Nat):List Int:=upL d (i:Int)++if only=true then []else(aN r).flatMap fun j=>(Bb FI d j (Jl (2*i) j)).1
def Ca (FI:Int->Option NodeD)(d i:Nat)(only:Bool)(r:Nat):Bool:=((upL d (i:Int)).all fun y=>(FI y).isSome)&&(only||(aN r).all fun j=>(Bb FI d j (Jl (2*i) j)).2)
def Jb (out:List Int)(z:Int):List Int:=(if 0<=Dt z/\Dt z∉out then [Dt z]else [])++(if 0<=Cb z/\Cb z∉out then [Cb z]else [])
def Dr (out:List Int):List Int:=out.flatMap (Jb out)
def Oj (FI:Int->Option NodeD)(d i:Nat)(only:Bool):List Int×List Int×Bool:=(Fe (Ad FI d i only d),Fe (Dr (Ad FI d i only d)),Ca FI d i only d)
theorem Il {out:List Int} {z y:Int}:y∈Jb out z↔Pl z y/\y∉out:=by
 unfold Jb Pl;rw[fL];constructor
 ·rintro(h|h)
  ·split at h
   ·rename_i hc;rw[fU]at h;subst h;exact⟨⟨hc.1,.inl rfl⟩,hc.2⟩
   ·cases h
  ·split at h
   ·rename_i hc;rw[fU]at h;subst h;exact⟨⟨hc.1,.inr rfl⟩,hc.2⟩
   ·cases h
 ·rintro⟨⟨h0,rfl|rfl⟩,h2⟩
  ·left;rw[iP ⟨h0,h2⟩];simp
  ·right;rw[iP ⟨h0,h2⟩];simp
theorem Wr {out:List Int} {y:Int}:y∈Dr out↔(∃z∈out,Pl z y)/\y∉out:=by
 unfold Dr;rw[fX];constructor
 ·rintro⟨z,hz,h⟩;obtain⟨h1,h2⟩:=Il.1 h;exact⟨⟨z,hz,h1⟩,h2⟩
 ·rintro⟨⟨z,hz,h1⟩,h2⟩;exact⟨z,hz,Il.2 ⟨h1,h2⟩⟩
theorem Qe {z:Nat} {y:Int}(b:z<=131070)(h:Pl (z:Int) y):∃m k:Nat,y=(m:Int)/\IsLev m k/\anc m (k+1)=z:=by
 obtain⟨h0,h⟩:=h;have a:=lev_is b;cases hk:lev z with
 |zero=>
  rw[hk]at a;obtain⟨e1,e2⟩:=Sa b a;rw[e1,e2]at h;omega
 |succ k=>
  rw[hk]at a;obtain⟨e1,e2,c,d,hx⟩:=Go.Proofs.YtfofaiommeckbaaGreat.kids_lev b a;have e:=fD k;rw[e1,e2]at h;rcases h with h|h
  ·exact⟨_,k,h,c,Wo a ((Bo hx).2 (.inr (.inl (Fm _ _))))⟩
  ·exact⟨_,k,h,d,Wo a ((Bo hx).2 (.inr (.inr (Fm _ _))))⟩
theorem Zku {z z':Nat} {y:Int}(hz:z<=131070)(hz':z'<=131070)(h:Pl (z:Int) y)(h':Pl (z':Int) y):z=z':=by
 obtain⟨m,k,rfl,hl,e⟩:=Qe hz h;obtain⟨m',k',e1,hl',e'⟩:=Qe hz' h';obtain rfl:m=m':=(by omega);have:=lev_unique hl hl';rw[<-e,<-e',this]
theorem Zbe {out:List Int} {z:Nat}(g:z<=131070):(Jb out (z:Int)).Nodup:=by
 unfold Jb;rw[fV];refine⟨by split<;>simp,by split<;>simp,fun a d b f e=> ?_⟩
 split at d
 ·split at f
  ·rename_i c1 c2
   rw[fU]at d f;have c:=lev_is g;cases hk:lev z with
   |zero=>
    rw[hk]at c;obtain⟨e1,e2⟩:=Sa g c;omega
   |succ k=>
    rw[hk]at c;obtain⟨e1,e2,i,j,hx⟩:=Go.Proofs.YtfofaiommeckbaaGreat.kids_lev g c;have h:=fD k;omega
  ·cases f
 ·cases d
theorem Zbf {out:List Int}(d:out.Nodup)(c:∀z∈out,∃n:Nat,z=(n:Int)/\n<=131070):(Dr out).Nodup:=by
 unfold Dr List.Nodup;rw[fY];refine⟨fun z f=> ?_,?_⟩
 ·obtain⟨n,rfl,h⟩:=c z f;exact Zbe h
 ·refine List.Pairwise.imp_of_mem (fun {a b} ha hb hne x hx y hy e=> ?_) d;obtain⟨n,rfl,h1⟩:=c a ha;obtain⟨m,rfl,h2⟩:=c b hb;subst e;exact hne (by rw[Zku h1 h2 (Il.1 hx).1 (Il.1 hy).1])
theorem Qf {L:List Int}(h:L.Pairwise (· < ·)):L.Nodup:=by rw[fM];exact h.imp fun h e=>by omega
section
variable {FI:Int->Option NodeD} {F:Nat->Option NodeD} {i d:Nat} {only:Bool}
theorem Zd2 (z:Nat):∀(k j:Nat),(ups z j k).Nodup:=by
 intro k
 induction k with
 |zero=>intro j;simp[ups]
 |succ k ih=>
  intro j;rw[ups,fZ];refine⟨fun h=> ?_,ih _⟩;obtain⟨l,h1,h2,e⟩:=(Sb _ _ _).1 h;have:=lev_unique (anc_lev z (j+1)) (by rw[e];exact anc_lev z l);omega
theorem Zd3 (a:d<=16)(b:2*i+1<2^(d+1)):(upL d (i:Int)).Nodup:=by
 obtain⟨g,e2⟩:=Dh a;have c:=Ig (q:=2*i) (by omega) (by omega);have e2:2*(i:Int)=((2*i:Nat):Int):=(by omega);unfold upL;rw[e2,Rl a b,c,dR,fZ];refine⟨fun h=> ?_,?_⟩
 ·rw[eA]at h;obtain⟨n,f,e⟩:=h;obtain⟨l,h1,h2,e3⟩:=(Sb _ _ _).1 f;have h3:=anc_lev (2*i) l;rw[<-e3,show n=2*i by omega]at h3;have:=lev_unique h3 (show IsLev (2*i) 0 from by unfold IsLev;simp);omega
 ·have:=Zd2 (2*i) d 0;unfold List.Nodup at this|-;rw[fN];exact this.imp fun h e=>h (by omega)
theorem Yz (c:d<=16)(b:∀n:Nat,F n=FI (n:Int))(g:Cz F)(e:2*i+1<2^(d+1)):(Cv F i only d (2^d-1) 0 []).2.2=Ca FI d i only d:=by
 have O:=Zjl (only:=only) c b g e d lR;rw[anc_root (by omega)]at O;rw[gA,O.ok];unfold Ca;rw[aT,aU,dX,dX];constructor
 ·rintro⟨h1,h2⟩;refine⟨fun y h=> ?_,?_⟩
  ·obtain⟨j,a,rfl⟩:=(Ll c e y).1 h;exact h1 j a
  ·cases f:only with
   |true=>exact .inl rfl
   |false=>exact .inr fun j a=>h2 f j (List.mem_range.1 a)
 ·rintro⟨h1,h2⟩;refine⟨fun j a=>h1 _ ((Ll c e _).2 ⟨j,a,rfl⟩),fun f j a=> ?_⟩;rcases h2 with h2|h2
  ·rw[f]at h2;cases h2
  ·exact h2 j (List.mem_range.2 a)
theorem Zd4 (p:d<=16)(r:∀n:Nat,F n=FI (n:Int))(D:Cz F)(u:2*i+1<2^(d+1))(k:(Cv F i only d (2^d-1) 0 []).2.2=true):
  Fe (Ad FI d i only d)=(Cv F i only d (2^d-1) 0 []).1/\Fe (Dr (Ad FI d i only d))=(Cv F i only d (2^d-1) 0 []).2.1:=by
 obtain⟨P,e2⟩:=Dh p;have q:=k;rw[Yz p r D u,Ca,aT,aU,dX,dX]at q;have O:=Zjl (only:=only) p r D u d lR;rw[anc_root (by omega)]at O;have f:IsLev (2^d-1) d:=by
  have:=fD d;unfold IsLev;rw[bF];have:(2^d-1)%(2^d*2)=2^d-1:=Nat.mod_eq_of_lt (by omega);omega
 have R:=fD d;have s:=Ee (F:=F) (i:=i) (only:=only) d (2^d-1) 0 [] f (by omega);have J:=(Zdu (F:=F) (i:=i) (only:=only) d (2^d-1) 0 [] f (by omega) k).2;have I:=O.mem k;generalize Cv F i only d (2^d-1) 0 []=v at s J I k|-;have B:only=false->∀j,j<d->(Bb FI d j (Jl (2*i) j)).1.Nodup/\∀y∈(Bb FI d j (Jl (2*i) j)).1,∃m:Nat,y=(m:Int)/\inR j (Jl (2*i) j) m:=by
  intro g j t;obtain⟨K,N⟩:=Oi p (z:=2*i) (j:=j) (by omega) t;have W:=Yw (i:=i) (only:=only) p r D j _ [] K N;have L:(Bb FI d j (Jl (2*i) j)).2=true:=by
   rcases q.2 with h|h
   ·rw[g]at h;cases h
   ·exact h j (List.mem_range.2 t)
  exact⟨W.nd L,fun y H=>(Ee (F:=F) (i:=i) (only:=only) j _ 1 [] K (by omega)).op y ((W.mem L y).1 H)⟩
 have c:∀y,y∈Ad FI d i only d↔y∈v.1:=by
  intro y;rw[I y];unfold Ad;rw[fL,Ll p u];cases g:only with
  |true=>simp
  |false=>
   simp only[Bool.false_eq_true,if_false,fX,List.mem_range,true_and]
 have w:(Ad FI d i only d).Nodup:=by
  unfold Ad;rw[fV];refine⟨Zd3 p u,?_,?_⟩
  ·split
   ·simp
   ·rename_i g
    rw[cX]at g;unfold List.Nodup;rw[fY];refine⟨fun j t=>(B g j (List.mem_range.1 t)).1,?_⟩;refine List.Pairwise.imp_of_mem (fun {a b} C o hlt x hx y H e=> ?_) List.pairwise_lt_range;obtain⟨m,e1,h1⟩:=(B g a (List.mem_range.1 C)).2 x hx;obtain⟨M,e3,h3⟩:=(B g b (List.mem_range.1 o)).2 y H;obtain rfl:m=M:=(by omega);exact Zd0 hlt h1 h3
  ·intro a C b o e
   split at o
   ·cases o
   ·rename_i g
    rw[cX]at g;rw[fX]at o;obtain⟨j,t,o⟩:=o;obtain⟨m,e1,h1⟩:=(B g j (List.mem_range.1 t)).2 b o;obtain⟨l,Q,e3⟩:=(Ll p u a).1 C;have:m=anc (2*i) l:=(by omega);rw[this]at h1;exact Zkt h1
 have E:=Qf s.opr;have G:=Qf s.shr;refine⟨Go.Proofs.YtfofaiommeckbaaGreat.sortL_eq ((fR w E).2 c) s.opr,Go.Proofs.YtfofaiommeckbaaGreat.sortL_eq ((fR (Zbf w fun z A=> ?_) G).2 fun y=> ?_) s.shr⟩
 ·obtain⟨m,e,h⟩:=s.op z ((c z).1 A);exact⟨m,e,by unfold inR at h;omega⟩
 ·rw[Wr,J y,c y];constructor
  ·rintro⟨⟨z,A,h1⟩,h2⟩;exact⟨⟨z,(c z).1 A,h1⟩,h2⟩
  ·rintro⟨⟨z,A,h1⟩,h2⟩;exact⟨⟨z,(c z).2 A,h1⟩,h2⟩
end
end
