import Derived.Shelf.SortM.Plain
import Derived.Shelf.SortM.SortNone
import Derived.Shelf.Slices.Delete
import Derived.Sort.OwnSortedInts
import Derived.Shelf.SlIterI.Nil
import Derived.Shelf.SlIterI.Sorted
import Derived.Maps.OwnSet
import Derived.Maps.OwnOps
import Derived.Maps.Ext
import Derived.Test.YtfofaiommeckbaaGreatZTr12
open Go.Obj renaming cells -> rK
open Go.Ending renaming returned -> rM
open Go.Value renaming pointer -> rF
open Option renaming none -> rJ
open Go.Proofs.Tryz
open List renaming getD_eq_getElem?_getD -> aE, getElem?_eq_getElem -> aF, nodup_iff_pairwise_ne -> fT, pairwise_map -> fU, any_eq_true -> cH, mem_map -> dY, mergeSort_perm -> fV, pairwise_mergeSort -> fW, perm_ext_iff_of_nodup -> fX, append_assoc -> cY, pairwise_append -> fY, singleton_append -> fZ, mem_cons -> aB, mem_append -> dZ, mem_singleton -> gA, not_mem_nil -> dC, nodup_append -> gC, mem_append_left -> gD, mem_flatMap -> gE, range -> aC, pairwise_flatMap -> gF, nodup_cons -> gG, all_eq_true -> eB
open Bool renaming and_eq_true -> cK, eq_iff_iff -> gH, or_eq_true -> cL, not_eq_true -> cF
open Nat renaming two_pow_pos -> fK, pow_succ -> aN, pow_le_pow_right -> aZ, sub_zero -> dS, lt_or_ge -> aJ, div_add_mod -> aV, mul_add -> gI, mul_le_mul_left -> aK
set_option linter.unusedVariables false
set_option maxRecDepth 100000
set_option maxHeartbeats 40000000
namespace Go.Proofs.YtfofaiommeckbaaGreat
open Go.RowKit
def Zby:Go.Shelf.Ren:=⟨fun|5=>183|8=>205|7=>223|19=>243|20=>244|10=>257|11=>258|12=>259|13=>260|14=>261|15=>262|16=>263|17=>264|18=>265|30=>283|31=>275|32=>276|33=>284|34=>285|35=>206|40=>293|n=>n,fun|23=>48|25=>3|3=>3|32=>207|22=>48|0=>0|44=>231|46=>92|4=>4|36=>250|35=>249|41=>199|5=>5|9=>9|53=>277|57=>281|63=>291|64=>137|n=>n,fun|n=>n⟩
theorem Zev:Go.Proofs.SlLaysM.n5 prog Zby:= {
 mixed:=by kernel_rfl
 f5:=⟨Tryz.f183.name,by decide,func183.trans (congrArg some (by kernel_rfl))⟩
 f7:=⟨Tryz.f223.name,by decide,func223.trans (congrArg some (by kernel_rfl))⟩
 f8:=func205.trans (congrArg some (by kernel_rfl))
 f10:=⟨Tryz.f257.name,by decide,func257.trans (congrArg some (by kernel_rfl))⟩
 f11:=⟨Tryz.f258.name,by decide,func258.trans (congrArg some (by kernel_rfl))⟩
 f12:=⟨Tryz.f259.name,by decide,func259.trans (congrArg some (by kernel_rfl))⟩
 f13:=⟨Tryz.f260.name,by decide,func260.trans (congrArg some (by kernel_rfl))⟩
 f14:=⟨Tryz.f261.name,by decide,func261.trans (congrArg some (by kernel_rfl))⟩
 f15:=⟨Tryz.f262.name,by decide,func262.trans (congrArg some (by kernel_rfl))⟩
 f16:=⟨Tryz.f263.name,by decide,func263.trans (congrArg some (by kernel_rfl))⟩
 f17:=⟨Tryz.f264.name,by decide,func264.trans (congrArg some (by kernel_rfl))⟩
 f18:=⟨Tryz.f265.name,by decide,func265.trans (congrArg some (by kernel_rfl))⟩
 f19:=func243.trans (congrArg some (by kernel_rfl))
 f20:=func244.trans (congrArg some (by kernel_rfl))
 f30:=⟨Tryz.f283.name,by decide,func283.trans (congrArg some (by kernel_rfl))⟩
 f31:=func275.trans (congrArg some (by kernel_rfl))
 f32:=func276.trans (congrArg some (by kernel_rfl))
 f33:=⟨Tryz.f284.name,by decide,func284.trans (congrArg some (by kernel_rfl))⟩
 f34:=⟨Tryz.f285.name,by decide,func285.trans (congrArg some (by kernel_rfl))⟩
 f35:=⟨Tryz.f206.name,by decide,func206.trans (congrArg some (by kernel_rfl))⟩
 f40:=⟨Tryz.f293.name,by decide,func293.trans (congrArg some (by kernel_rfl))⟩
 t0:=underlying0
 a0:=Tryz.isAgg0
 z0:=Tryz.sizeOf0
 v0:=zeroValue0
 t3:=underlying3
 a3:=Tryz.isAgg3
 z3:=Tryz.sizeOf3
 v3:=zeroValue3
 t4:=underlying4
 a4:=Tryz.isAgg4
 z4:=Tryz.sizeOf4
 v4:=zeroValue4
 t5:=underlying5
 a5:=Tryz.isAgg5
 z5:=Tryz.sizeOf5
 v5:=zeroValue5
 t9:=underlying9
 a9:=Tryz.isAgg9
 z9:=Tryz.sizeOf9
 v9:=zeroValue9
 t22:=underlying48
 a22:=Tryz.isAgg48
 z22:=Tryz.sizeOf48
 v22:=zeroValue48
 t23:=underlying48
 a23:=Tryz.isAgg48
 z23:=Tryz.sizeOf48
 v23:=zeroValue48
 t25:=underlying3
 a25:=Tryz.isAgg3
 z25:=Tryz.sizeOf3
 v25:=zeroValue3
 t32:=underlying207
 a32:=Tryz.isAgg207
 z32:=Tryz.sizeOf207
 v32:=zeroValue207
 t35:=underlying249
 a35:=Tryz.isAgg249
 z35:=Tryz.sizeOf249
 v35:=zeroValue249
 t36:=underlying250
 a36:=Tryz.isAgg250
 z36:=Tryz.sizeOf250
 v36:=zeroValue250
 t41:=underlying199
 a41:=Tryz.isAgg199
 z41:=Tryz.sizeOf199
 v41:=zeroValue199
 t44:=underlying231
 a44:=Tryz.isAgg231
 z44:=Tryz.sizeOf231
 v44:=zeroValue231
 t46:=underlying92
 a46:=Tryz.isAgg92
 z46:=Tryz.sizeOf92
 v46:=zeroValue92
 t53:=underlying277
 a53:=Tryz.isAgg277
 z53:=Tryz.sizeOf277
 v53:=zeroValue277
 t57:=underlying281
 a57:=Tryz.isAgg281
 z57:=Tryz.sizeOf281
 v57:=zeroValue281
 t63:=underlying291
 a63:=Tryz.isAgg291
 z63:=Tryz.sizeOf291
 v63:=zeroValue291
 t64:=underlying137
 a64:=Tryz.isAgg137
 z64:=Tryz.sizeOf137
 v64:=zeroValue137}
open Go.Sort
def Jw (L:List Int):List Int:=L.mergeSort fun x y=>decide (x<=y)
theorem Ug (L:List Int):(Jw L).length=L.length:=List.length_mergeSort L
theorem Zms {L M:List Int} {i:Nat}(h:L.getD i 0≠M.getD i 0):decide (L=M)=false:=dF fun e=>h (by rw[e])
theorem Zld {L M:List Int}(hl:L.length=M.length)(h:∀j,j<L.length->L.getD j 0=M.getD j 0):decide (L=M)=true:=by
 refine dT (List.ext_getElem hl fun i h1 h2=> ?_);have:=h i h1
 rwa [aE,aE,aF h1,aF h2]at this
theorem Rw (H I:Value)(L M:List Int)(w:World)(s:Rd w H (ivs .i64 L))(h2:Rd w I (ivs .i64 M))(S:L.length<=1000000)(U:M.length<=1000000):
  Calls prog 152 #[H,I] w fun e w'=>e=rM (.bool (decide (L=M)))/\∃n,w'=w.drewN n:=by
 obtain⟨a1,k1,rfl⟩:∃a c,H=.slice a L.length c:=(by obtain⟨a,c,e,_⟩:=s;rw[show(ivs .i64 L).length=L.length by simp[ivs]]at e;exact⟨a,c,e⟩);obtain⟨a2,k2,rfl⟩:∃a c,I=.slice a M.length c:=(by obtain⟨a,c,e,_⟩:=h2;rw[show(ivs .i64 M).length=M.length by simp[ivs]]at e;exact⟨a,c,e⟩);have l:=fun(i:Nat) (f:i<L.length)=>s.at3 (u:=.int .i64 (L.getD i 0)) (r:=i) (by simp[ivs,aE,f]);have k:=fun(i:Nat) (f:i<M.length)=>h2.at3 (u:=.int .i64 (M.getD i 0)) (r:=i) (by simp[ivs,aE,f])
 by_cases hlm:L.length=M.length
 ·have A:=fun(i:Nat) (h:L.getD i 0≠M.getD i 0)=>Zms h;have b:=fun(h:∀j,j<L.length->L.getD j 0=M.getD j 0)=>Zld hlm h;obtain⟨R,O⟩:=eX (decide (L=M));rw[<-O]at A b|-;obtain⟨n,z⟩:=eX L.length;rw[<-hlm]at k|-;rw[<-z]at l k S b|-;obtain⟨X,P⟩:∃X:Nat->Int,X=fun i=>L.getD i 0:=⟨_,rfl⟩;obtain⟨Y,Q⟩:∃X:Nat->Int,X=fun i=>M.getD i 0:=⟨_,rfl⟩;have t:∀i,L.getD i 0=X i:=fun i=>(by rw[P]);have v:∀i,M.getD i 0=Y i:=fun i=>(by rw[Q]);simp only[t,v]at l k A b;have C:=Hd l;have D:=Hd k;have E:=Hd A;have p:=Hd b;clear l k s h2 z A b P Q t v O hlm U;go_in;go_wp2_with fail
  go_loopg [13] n (fun q iv wr=>∃i m:Nat,i+q=n/\iv=.int .i64 (i:Nat)/\wr=w.drewN m/\∀j,j<i->X j=Y j)
  case atStart=>exact⟨0,0,by omega,rfl,rfl,fun j B=>by omega⟩
  case round=>
   obtain⟨i,m,f,rfl,rfl,B⟩:=hrel;have J:=Hd f;have K:=Hd B;clear B
   by_cases hlt:i<n
   ·have x:decide (i<n)=true:=dT hlt;have T:(i:Int)<(n:Int):=(by omega);obtain⟨b1,o1,e1,aA,q1⟩:=C.out i hlt;obtain⟨b2,o2,e2,aB,q2⟩:=D.out i hlt;obtain⟨u,F⟩:=eX (X i);obtain⟨G,g⟩:∃u,u=Y i:=⟨_,rfl⟩;rw[<-F]at q1;rw[<-g]at q2;subst e1 e2;have N:=Hd F;have o:=Hd g;clear f F g
    by_cases e:u=G
    ·subst e;go_wp2
     go_quiet (fail)
     go_wp2;go_roundg (gk-1);case measure=>have:=J.out;omega
     case rel=>
      refine⟨i+1,_,by have:=J.out;omega,by go_num,rfl,fun j B=> ?_⟩
      by_cases e:j=i
      ·rw[e,<-N.out];exact o.out
      ·exact K.out j (by omega)
    ·have W:=Hd (E.out i (by rw[<-N.out,<-o.out];exact e));have d:(u==G)=false:=(by rw[qN];exact e);have V:(u !=G)=true:=(by rw[bne,d];rfl);go_wp2
     go_quiet (fail)
     go_wp2;go_ret;exact⟨by rw[W.out];rfl,m+nq,by simp[World.drewN,Nat.add_assoc]⟩
   ·obtain rfl:i=n:=(by omega);have x:decide (i<i)=false:=dF hlt;have Z:=Hd (p.out K.out);clear f hlt;go_wp2_with fail;go_ret;exact⟨by rw[Z.out];rfl,_,rfl⟩
 ·have d:decide (L=M)=false:=dF fun e=>hlm (by rw[e]);rw[d];obtain⟨n,z⟩:=eX L.length;obtain⟨m,y⟩:∃n,n=M.length:=⟨_,rfl⟩;rw[<-z,<-y]at hlm|-;have s:¬((n:Int)=(m:Int)):=(by omega);have h2:((n:Int)==(m:Int))=false:=(by rw[qN];exact s);have h3:((n:Int) !=(m:Int))=true:=(by rw[bne,h2];rfl);clear l k z y d S U;go_in;go_wp2_with fail;go_ret;exact⟨rfl,0,rfl⟩
end Go.Proofs.YtfofaiommeckbaaGreat
namespace Go.Proofs.YtfofaiommeckbaaGreat
open Go.RowKit
def Nt:Go.Shelf.Ren:=⟨fun|7=>125|10=>184|n=>n,fun|23=>98|26=>3|3=>52|28=>162|0=>0|27=>161|33=>106|4=>4|n=>n,fun|n=>n⟩
theorem Zi:Go.Proofs.SlLaysZI.n7 prog Nt:= {
 mixed:=by kernel_rfl
 f7:=⟨Tryz.f125.name,by decide,func125.trans (congrArg some (by kernel_rfl))⟩
 f10:=⟨Tryz.f184.name,by decide,func184.trans (congrArg some (by kernel_rfl))⟩
 t0:=underlying0
 a0:=Tryz.isAgg0
 z0:=Tryz.sizeOf0
 v0:=zeroValue0
 t4:=underlying4
 a4:=Tryz.isAgg4
 z4:=Tryz.sizeOf4
 v4:=zeroValue4
 t23:=underlying98
 a23:=Tryz.isAgg98
 z23:=Tryz.sizeOf98
 v23:=zeroValue98
 t26:=underlying3
 a26:=Tryz.isAgg3
 z26:=Tryz.sizeOf3
 v26:=zeroValue3
 t27:=underlying161
 a27:=Tryz.isAgg161
 z27:=Tryz.sizeOf161
 v27:=zeroValue161
 t28:=underlying162
 a28:=Tryz.isAgg162
 z28:=Tryz.sizeOf162
 v28:=zeroValue162
 t33:=underlying106
 a33:=Tryz.isAgg106
 z33:=Tryz.sizeOf106
 v33:=zeroValue106}
def Nu:Go.Shelf.Ren:=⟨fun|7=>126|10=>185|n=>n,fun|23=>99|26=>3|3=>28|28=>162|0=>0|27=>161|33=>106|4=>4|n=>n,fun|n=>n⟩
theorem Zj:Go.Proofs.SlLaysZI.n7 prog Nu:= {
 mixed:=by kernel_rfl
 f7:=⟨Tryz.f126.name,by decide,func126.trans (congrArg some (by kernel_rfl))⟩
 f10:=⟨Tryz.f185.name,by decide,func185.trans (congrArg some (by kernel_rfl))⟩
 t0:=underlying0
 a0:=Tryz.isAgg0
 z0:=Tryz.sizeOf0
 v0:=zeroValue0
 t4:=underlying4
 a4:=Tryz.isAgg4
 z4:=Tryz.sizeOf4
 v4:=zeroValue4
 t23:=underlying99
 a23:=Tryz.isAgg99
 z23:=Tryz.sizeOf99
 v23:=zeroValue99
 t26:=underlying3
 a26:=Tryz.isAgg3
 z26:=Tryz.sizeOf3
 v26:=zeroValue3
 t27:=underlying161
 a27:=Tryz.isAgg161
 z27:=Tryz.sizeOf161
 v27:=zeroValue161
 t28:=underlying162
 a28:=Tryz.isAgg162
 z28:=Tryz.sizeOf162
 v28:=zeroValue162
 t33:=underlying106
 a33:=Tryz.isAgg106
 z33:=Tryz.sizeOf106
 v33:=zeroValue106}
def Lo:Go.Shelf.Ren:=⟨fun|6=>124|8=>182|9=>183|11=>222|13=>205|12=>223|23=>243|24=>244|14=>257|15=>258|16=>259|17=>260|18=>261|19=>262|20=>263|21=>264|22=>265|25=>283|26=>275|27=>276|28=>284|29=>285|30=>206|31=>293|n=>n,fun|26=>3|28=>162|24=>48|0=>0|3=>3|37=>207|48=>231|50=>92|4=>4|40=>250|39=>249|45=>199|5=>5|9=>9|51=>277|55=>281|57=>291|58=>137|33=>106|n=>n,fun|n=>n⟩
theorem Uh:Go.Proofs.SlLaysZI.n6 prog Lo:= {
 mixed:=by kernel_rfl
 f6:=⟨Tryz.f124.name,by decide,func124.trans (congrArg some (by kernel_rfl))⟩
 f8:=⟨Tryz.f182.name,by decide,func182.trans (congrArg some (by kernel_rfl))⟩
 f11:=⟨Tryz.f222.name,by decide,func222.trans (congrArg some (by kernel_rfl))⟩
 t0:=underlying0
 a0:=Tryz.isAgg0
 z0:=Tryz.sizeOf0
 v0:=zeroValue0
 t24:=underlying48
 a24:=Tryz.isAgg48
 z24:=Tryz.sizeOf48
 v24:=zeroValue48
 t26:=underlying3
 a26:=Tryz.isAgg3
 z26:=Tryz.sizeOf3
 v26:=zeroValue3
 t28:=underlying162
 a28:=Tryz.isAgg162
 z28:=Tryz.sizeOf162
 v28:=zeroValue162
 i26:=by kernel_rfl}
open Go.Maps Go.Sort Go.Shelf
section
def rdV (v:Value):Option (DataW Value×List MemPlace):=some (.held v,[])
def inI (x:Int):Prop:= -9223372036854775808<=x/\x<=9223372036854775807
theorem Zmt {x:Int}(h:inI x):(Lit.int .i64 x).wf=true:=by
 unfold inI at h;have e1:IntKind.i64.min= -9223372036854775808:=(by decide);have e2:IntKind.i64.max=9223372036854775807:=(by decide);simp only[Lit.wf,e1,e2,cK,decide_eq_true_eq];exact h
theorem Zke:Keyed prog 3:=int_keyed underlying3
theorem Zew {x:Int}(h:inI x):keyOf prog 3 (.int .i64 x)=some (.int .i64 x):=keyOf_int_mk underlying3 (Zmt h)
def MapF (w:World)(b n:Nat)(F:Int->Option Value):Prop:=
 ∃D:DataW Value,w.ownsMap prog 3 rdV b n D/\(∀x,has D (.int .i64 x)=(F x).isSome)/\∀x v z,F x=some v->D.atKey (.int .i64 x) z=.held v
theorem MapF.lt {w:World} {b n:Nat} {F:Int->Option Value}(h:MapF w b n F):b<w.heap.size:=by
 obtain⟨D,h1,_⟩:=h;exact h1.lt
theorem MapF.grown {w w':World} {b n:Nat} {F:Int->Option Value} {row:Option Nat}(h:MapF w b n F)(hg:w.grownBy w' row)(hne:some b≠row):MapF w' b n F:=by
 obtain⟨D,h1,h2⟩:=h;exact⟨D,h1.kept hg hne,h2⟩
theorem MapF.below {w w':World} {b n B:Nat} {F:Int->Option Value}(h:MapF w b n F)(hb:Below B w w')(hB:w.heap.size<=B):MapF w' b n F:=by
 have hlt:=h.lt;obtain⟨D,⟨es,clock,h0,h1⟩,h2⟩:=h;exact⟨D,⟨es,clock,(hb.block b (by omega)).trans h0,h1⟩,h2⟩
theorem MapF.belowB {w w':World} {b n B:Nat} {F:Int->Option Value}(h:MapF w b n F)(hb:Below B w w')(hB:b<B):MapF w' b n F:=by
 obtain⟨D,⟨es,clock,h0,h1⟩,h2⟩:=h;exact⟨D,⟨es,clock,(hb.block b hB).trans h0,h1⟩,h2⟩
theorem MapF.alloc {w:World} {b n:Nat} {F:Int->Option Value}(h:MapF w b n F)(o:Obj):MapF (w.alloc o) b n F:=by
 obtain⟨D,h1,h2⟩:=h;exact⟨D,h1.alloc o,h2⟩
theorem MapF.drewN {w:World} {b n:Nat} {F:Int->Option Value}(h:MapF w b n F)(k:Nat):MapF (w.drewN k) b n F:=h
theorem MapF.mono {w:World} {b n n':Nat} {F:Int->Option Value}(h:MapF w b n F)(hn:n<=n'):MapF w b n' F:=by
 obtain⟨D,h1,h2⟩:=h;exact⟨D,h1.mono hn,h2⟩
theorem MapF.congr {w:World} {b n:Nat} {F G:Int->Option Value}(h:MapF w b n F)(e:∀x,G x=F x):MapF w b n G:=by
 have:G=F:=funext e;rw[this];exact h
theorem MapF.made (w:World):MapF (w.alloc (.map #[] 0)) w.heap.size 0 fun _=>none:=
 ⟨.map [],World.ownsMap_made w _ _ _,fun x=>rfl,fun x v z h=>by cases h⟩
section
variable {w:World} {b n:Nat} {F:Int->Option Value} {T E:TypeId} {z:Value} {k:Int}
theorem Ui (k:Int):WideAt.IsKeyLit (.int .i64 k):=by simp[WideAt.IsKeyLit]
theorem MapF.run_getOk (h:MapF w b n F)(f:prog.underlying T=some (.map 3 E))(g:(zeroValue E).run prog w=.ok z w)(hk:inI k):
  (Instr.lookup T (.map (some b)) (.int .i64 k) true).run prog w=.ok (.tuple #[(F k).getD z,.bool (F k).isSome]) w:=by
 obtain⟨D,c,h2,h3⟩:=h;obtain⟨v,i,e,a⟩:=c.look_ok Zke f g (zd:=.held z) (zp:=[]) rfl (Zew hk);rw[e,h2 k];unfold rdV at a;simp only[Option.some.injEq,Prod.mk.injEq]at a;cases hF:F k with
 |some u=>
  rw[h3 k u _ hF]at a;simp only[DataW.held.injEq]at a;rw[a.1];rfl
 |none=>
  have d:has D (.int .i64 k)=false:=(by rw[h2,hF];rfl);rw[atKey_of_not_has d]at a;simp only[DataW.held.injEq]at a;rw[a.1];rfl
theorem MapF.run_get (h:MapF w b n F)(f:prog.underlying T=some (.map 3 E))(g:(zeroValue E).run prog w=.ok z w)(hk:inI k):
  (Instr.lookup T (.map (some b)) (.int .i64 k) false).run prog w=.ok ((F k).getD z) w:=by
 obtain⟨D,c,h2,h3⟩:=h;obtain⟨v,i,e,a⟩:=c.lookup Zke f g (zd:=.held z) (zp:=[]) rfl (Zew hk);rw[e];unfold rdV at a;simp only[Option.some.injEq,Prod.mk.injEq]at a;cases hF:F k with
 |some u=>
  rw[h3 k u _ hF]at a;simp only[DataW.held.injEq]at a;rw[a.1];rfl
 |none=>
  have d:has D (.int .i64 k)=false:=(by rw[h2,hF];rfl);rw[atKey_of_not_has d]at a;simp only[DataW.held.injEq]at a;rw[a.1];rfl
theorem MapF.run_put (h:MapF w b n F)(i:prog.underlying T=some (.map 3 E))(hk:inI k)(d:n<maxLen)(v:Value):
  ∃w',(Instr.mapUpdate T (.map (some b)) (.int .i64 k) v).run prog w=.ok () w'/\MapF w' b (n+1) (fun y=>if y=k then some v else F y)/\w.grownBy w' (some b):=by
 obtain⟨D,a,h2,h3⟩:=h;obtain⟨w',g,f,c⟩:=a.update Zke i d (Zew hk) (show rdV v=some (.held v,[])from rfl);refine⟨w',g,⟨_,f,fun x=> ?_,fun x u z hx=> ?_⟩,c⟩
 ·show _=(if x=k then some v else F x).isSome
  by_cases e:x=k
  ·subst e;rw[has_put_same a.isMap (Ui x),iP rfl];rfl
  ·rw[has_put_other (fun e2=>e (by cases e2;rfl)),h2,iN e]
 ·replace hx:(if x=k then some v else F x)=some u:=hx
  by_cases e:x=k
  ·subst e;rw[iP rfl]at hx;cases hx;exact atKey_put_same a.isMap (Ui x) _ _
  ·rw[iN e]at hx;rw[atKey_put_other (fun e2=>e (by cases e2;rfl))];exact h3 x u z hx
end
section
variable {w:World} {ops:Array Oper} {rest:List Oper} {o:Oper} {a:Act} {Q:Exit->Act->World->Prop} {b n:Nat} {F:Int->Option Value} {T E:TypeId} {z:Value} {k:Int}
theorem Ep (d:o.guard=none) (m x y:Operand) (e:o.op=.mapUpdate T m x y) (q:prog.underlying T=some (.map 3 E)) (i:a.eval m=.map (some b)) (h:MapF w b n F) (hx:a.eval x=.int .i64 k) (hk:inI k) (j:n<maxLen) (v:Value) (r:a.eval y=v)
  (f:∀w',MapF w' b (n+1) (fun y=>if y=k then some v else F y)->w.grownBy w' (some b)->wpList prog ops Q rest (a.put o.dst undef) w'):wpList prog ops Q (o::rest) a w:=by
 refine wpList_plain d fun s c=> ?_;obtain⟨w',p,l,g⟩:=h.run_put q hk j v;unfold Oper.wp;simp[execOp,e,i,hx,r,p,Result.andThen];exact c _ _ (f w' l g)
end
def Dc (F:Int->Option Value)(K:List Int):Prop:=K.Pairwise (· < ·)/\∀x,x∈K↔(F x).isSome=true
theorem Lp {w:World} {b n:Nat} {F:Int->Option Value} {D:DataW Value}(l:w.ownsMap prog 3 rdV b n D)(h2:∀x,has D (.int .i64 x)=(F x).isSome):∃K,Dc F K/\K.Perm (intKeys D)/\K.length<=n:=by
 obtain⟨r,k,B,h3,t,rfl⟩:=l;obtain⟨E,j⟩:=eX ((r.toList.map (Go.WideElems.rg prog 3 rdV)).foldr DataW.insert []);rw[<-j]at h2|-;have hk:∀p∈E,∃x,p.1=.int .i64 x:=by
  intro p d;rw[j,(Go.WideShapes.sorted_perm _).mem_iff]at d;obtain⟨v,A⟩:=fit_keys h3 p d;obtain⟨a,_,e2,_⟩:=keyOf_i64 underlying3 A;exact⟨a,e2⟩
 have m:E.Pairwise (fun p q=>p.1≠q.1):=by
  have:=fit_apart Zke h3;rw[j];exact((Go.WideShapes.sorted_perm _).pairwise_iff (fun h e=>h e.symm)).2 this
 have u:E.length<=n:=(by rw[j,length_sorted];simpa using t);have o:(intKeys (.map E)).Nodup:=by
  show(E.map fun p=>Go.intOf p.1).Nodup;rw[fT,fU];refine m.imp_of_mem fun {p q} d hq hne e=>hne ?_;obtain⟨x,s⟩:=hk p d;obtain⟨y,i⟩:=hk q hq;rw[s,i]at e|-;have:x=y:=e;rw[this]
 have f:∀x,x∈intKeys (.map E)↔(F x).isSome=true:=by
  intro x;rw[<-h2 x,has_eq,cH];show x∈E.map (fun p=>Go.intOf p.1)↔_;rw[dY];constructor
  ·rintro⟨p,d,e⟩;obtain⟨y,i⟩:=hk p d;rw[i]at e;have:y=x:=e;subst this;exact⟨p,d,by rw[i];exact WideAt.sameKey_self (Ui y)⟩
  ·rintro⟨p,d,e⟩;have:=(WideAt.sameKey_iff (Ui x)).1 e;exact⟨p,d,by rw[this];rfl⟩
 refine⟨Jw (intKeys (.map E)),⟨?_,fun x=> ?_⟩,fV _ _,?_⟩
 ·have z:(Jw (intKeys (.map E))).Pairwise fun a b=>decide (a<=b)=true:=fW (fun a b c l h2=>by simp at*;omega) (fun a b=>by simp;omega) _;have g:(Jw (intKeys (.map E))).Nodup:=(fV (intKeys (.map E)) _).nodup_iff.2 o;rw[fT]at g;exact(z.and g).imp fun h=>by have l:=oD h.1;have h2:=h.2;omega
 ·rw[<-f x];exact(fV (intKeys (.map E)) _).mem_iff
 ·rw[Ug];show(E.map _).length<=n;rw[List.length_map];exact u
theorem Nv {F:Int->Option Value} {K L:List Int}(c:Dc F K)(h2:Dc F L):K=L:=by
 have d:K.Perm L:=(fX (by rw[fT];exact c.1.imp fun h e=>by omega) (by rw[fT];exact h2.1.imp fun h e=>by omega)).2 fun x=>(c.2 x).trans (h2.2 x).symm;exact List.Perm.eq_of_pairwise (le:=fun a b=>a<b) (fun a b _ _ h3 f=>by omega) c.1 h2.1 d
end
theorem sortL_eq {L M:List Int}(d:L.Perm M)(h2:M.Pairwise (· < ·)):Jw L=M:=by
 have g:(Jw L).Perm M:=(fV L _).trans d;have i:(Jw L).Pairwise fun a b=>decide (a<=b)=true:=fW (fun a b c d h2=>by simp at*;omega) (fun a b=>by simp;omega) L;have f:M.Pairwise fun a b=>decide (a<=b)=true:=h2.imp fun h=>(by simp;omega);refine List.Perm.eq_of_pairwise (le:=fun a b=>decide (a<=b)=true) ?_ i f g;intro a b _ _ h3 e;simp at h3 e;omega
theorem Uj (mb:Option Nat)(w:World):
  Calls prog 125 #[.map mb] w fun e w'=>e=rM (.func (.func 184) #[] #[rF (some ⟨w.heap.size,0,rJ⟩)])/\w'=w.alloc (rK #[.map mb] 98):=
 (callsIn_wide (n:=5)).1 (AnyZI.keys_in Zi Fence.wide 5 trivial rfl mb w)
theorem Uk (mb:Option Nat)(w:World):
  Calls prog 126 #[.map mb] w fun e w'=>e=rM (.func (.func 185) #[] #[rF (some ⟨w.heap.size,0,rJ⟩)])/\w'=w.alloc (rK #[.map mb] 99):=
 (callsIn_wide (n:=5)).1 (AnyZI.keys_in Zj Fence.wide 5 trivial rfl mb w)
theorem Zk (m:Nat):AnyZI.SortsIn prog Lo Fence.wide m:=
 ⟨fun blk off cap ss W hH hblk hsz=>callsIn_wide.2 (AnyM.slices_Sort_int Zev blk off cap ss W hH hblk hsz),
  fun p cap W=>callsIn_wide.2 (AnyM.slices_Sort_int_none Zev p cap W)⟩
theorem Ul {w':World} {B:Nat} {v:Value} {a K:List Int}(h:w'.ownsRow B 3 1 v a.length ((a.mergeSort (fun x y=>decide (x<=y))).map encZ))(e:Jw a=K):Own w' B 3 v (ivs .i64 K):=by
 have e2:(a.mergeSort (fun x y=>decide (x<=y))).map encZ=ivs .i64 K:=(by rw[<-e];rfl);rw[e2]at h;have b:(ivs .i64 K).length=a.length:=(by rw[<-e];simp[ivs,Ug]);unfold Own;rw[b];exact h
theorem Nw (b n g:Nat)(F:Int->Option Value)(K:List Int)(w:World)(h:MapF w b n F)(k:Dc F K)(s:n<=1000000)(m:w.cell? ⟨g,0,rJ⟩=some (.map (some b)))(f:g<w.heap.size):
  Calls prog 124 #[.func (.func 184) #[] #[rF (some ⟨g,0,rJ⟩)]] w fun e w'=>∃v,e=rM v/\Own w' w.heap.size 3 v (ivs .i64 K)/\Below w.heap.size w w':=by
 obtain⟨D,d,h2,h3⟩:=h;obtain⟨r,i,q,t⟩:=Lp d h2;obtain rfl:=Nv k i;have p:Maps.size D<=n:=d.size_le;have c:SeqGives Fence.wide 2 prog 184 #[rF (some ⟨g,0,rJ⟩)] encZ (fun j=>j.Perm (intKeys D)) (Maps.size D) w:=
  AnyZI.keys_gives (ρ:=Nt) {Zi with} Fence.wide _ trivial rfl (by omega) g b n D w f m d
 refine(callsIn_wide (n:=5)).1 ?_;refine(AnyZI.sorted_in Uh Fence.wide 5 trivial trivial trivial trivial rfl (by omega) (Zk _) (enters_of func183 (by kernel_rfl) rfl) 184 #[rF (some ⟨g,0,rJ⟩)] trivial (enters_of func184 (by kernel_rfl) rfl) _ _ (by unfold maxLen;omega) (by omega) _ c).mono ?_;rintro e w' ⟨v,j,rfl,o,a,_,l⟩;exact⟨v,rfl,Ul a (sortL_eq (o.trans q.symm) i.1),l⟩
theorem Nx (b n g:Nat)(F:Int->Option Value)(K:List Int)(w:World)(h:MapF w b n F)(k:Dc F K)(s:n<=1000000)(m:w.cell? ⟨g,0,rJ⟩=some (.map (some b)))(f:g<w.heap.size):
  Calls prog 124 #[.func (.func 185) #[] #[rF (some ⟨g,0,rJ⟩)]] w fun e w'=>∃v,e=rM v/\Own w' w.heap.size 3 v (ivs .i64 K)/\Below w.heap.size w w':=by
 obtain⟨D,d,h2,h3⟩:=h;obtain⟨r,i,q,t⟩:=Lp d h2;obtain rfl:=Nv k i;have p:Maps.size D<=n:=d.size_le;have c:SeqGives Fence.wide 2 prog 185 #[rF (some ⟨g,0,rJ⟩)] encZ (fun j=>j.Perm (intKeys D)) (Maps.size D) w:=
  AnyZI.keys_gives (ρ:=Nu) {Zj with} Fence.wide _ trivial rfl (by omega) g b n D w f m d
 refine(callsIn_wide (n:=5)).1 ?_;refine(AnyZI.sorted_in Uh Fence.wide 5 trivial trivial trivial trivial rfl (by omega) (Zk _) (enters_of func183 (by kernel_rfl) rfl) 185 #[rF (some ⟨g,0,rJ⟩)] trivial (enters_of func185 (by kernel_rfl) rfl) _ _ (by unfold maxLen;omega) (by omega) _ c).mono ?_;rintro e w' ⟨v,j,rfl,o,a,_,l⟩;exact⟨v,rfl,Ul a (sortL_eq (o.trans q.symm) i.1),l⟩
end Go.Proofs.YtfofaiommeckbaaGreat
namespace Go.Proofs.YtfofaiommeckbaaGreat
open Go.RowKit WalkM WireM
def Rx (k x:Nat)(L:List Int):Prop:=∀y∈L,∃m:Nat,y=(m:Int)/\inR k x m
theorem Dp (k x:Nat):inR k x x:=by have:=fK k;unfold inR;omega
theorem Az {k x y:Nat}(h:2^k<=x):inR (k+1) x y↔y=x\/inR k (x-2^k) y\/inR k (x+2^k) y:=by
 have e:2^(k+1)=2*2^k:=(by rw[aN];omega);have hp:=fK k;unfold inR;omega
theorem Fq {k x y:Nat}(h:2^k<=x)(hy:inR k (x-2^k) y):y<x:=by unfold inR at hy;omega
theorem Eg {k x y:Nat}(hy:inR k (x+2^k) y):x<y:=by unfold inR at hy;omega
structure SpanR (k x:Nat) (r:List Int×List Int×Bool):Prop where
 op:Rx k x r.1
 sh:Rx k x r.2.1
 opr:r.1.Pairwise (· < ·)
 shr:r.2.1.Pairwise (· < ·)
theorem Ij {V:Nat->Nat->List Int->List Int×List Int×Bool} {i:Nat} {only:Bool} {c k how:Nat} {d:NodeD} {late:List Int}(h:∀how late,SpanR k c (V c how late)):SpanR k c (Ds V i only c how d late):=by
 have b:SpanR k c ([],[(c:Int)],true):=⟨fun y a=>by simp at a,fun y a=>⟨c,by simpa using a,Dp k c⟩,by simp,by simp⟩;unfold Ds
 split
 ·exact h _ _
 ·split
  ·exact b
  ·split
   ·exact h _ _
   ·split
    ·exact h _ _
    ·exact b
theorem Um {k x:Nat} {A B:List Int}(hx:2^k<=x)(j:Rx k (x-2^k) A)(l:Rx k (x+2^k) B)(p:A.Pairwise (· < ·))(q:B.Pairwise (· < ·)):
  (A++[(x:Int)]++B).Pairwise (· < ·)/\(A++B).Pairwise (· < ·)/\Rx (k+1) x (A++[(x:Int)]++B)/\Rx (k+1) x (A++B):=by
 have g:∀y∈A,y<(x:Int):=fun y c=>(by obtain⟨m,e,h⟩:=j y c;have:=Fq hx h;omega);have i:∀y∈B,(x:Int)<y:=fun y c=>(by obtain⟨m,e,h⟩:=l y c;have:=Eg h;omega);have n:Rx (k+1) x A:=fun y c=>(by obtain⟨m,e,h⟩:=j y c;exact⟨m,e,(Az hx).2 (.inr (.inl h))⟩);have o:Rx (k+1) x B:=fun y c=>(by obtain⟨m,e,h⟩:=l y c;exact⟨m,e,(Az hx).2 (.inr (.inr h))⟩);refine⟨?_,?_,?_,?_⟩
 ·rw[cY,fY];refine⟨p,?_,?_⟩
  ·rw[fZ,List.pairwise_cons];exact⟨i,q⟩
  ·intro a f b d;simp only[fZ,aB]at d;rcases d with rfl|d
   ·exact g a f
   ·have:=g a f;have:=i b d;omega
 ·rw[fY];exact⟨p,q,fun a f b d=>by have:=g a f;have:=i b d;omega⟩
 ·intro y c;simp only[dZ,gA]at c;rcases c with(h|h)|h
  ·exact n y h
  ·exact⟨x,h,Dp _ _⟩
  ·exact o y h
 ·intro y c;rw[dZ]at c;rcases c with h|h
  ·exact n y h
  ·exact o y h
theorem Er {x k M:Nat}(d:IsLev x (k+1))(hx:x+2^(k+1)<=M)(f:M<=131071):IsLev (x-2^k) k/\IsLev (x+2^k) k/\2^k<=x/\x-2^k+2^k<=M/\x+2^k+2^k<=M/\Em (x:Int)=((x-2^k:Nat):Int)/\Cq (x:Int)=((x+2^k:Nat):Int):=by
 have g:=fK k;have e:2^(k+1)=2*2^k:=(by rw[aN];omega);obtain⟨a,h2,h3,b,c⟩:=Go.Proofs.YtfofaiommeckbaaGreat.kids_lev (by omega) d;exact⟨h3,b,c,by omega,by omega,a,h2⟩
theorem Ci {F:Nat->Option NodeD} {i:Nat} {only:Bool}:∀(k x how:Nat) (late:List Int),IsLev x k->x+2^k<=131071->SpanR k x (Bf F i only k x how late):=by
 intro k
 induction k with
 |zero=>
  intro x how late f hx;cases hF:F x with
  |none=>rw[Av hF];exact⟨fun y c=>by simp at c,fun y c=>by simp at c,by simp,by simp⟩
  |some d=>rw[Cd hF];exact⟨fun y c=>⟨x,by simpa using c,Dp _ _⟩,fun y c=>by simp at c,by simp,by simp⟩
 |succ k ih=>
  intro x how late f hx;cases hF:F x with
  |none=>rw[Av hF];exact⟨fun y c=>by simp at c,fun y c=>by simp at c,by simp,by simp⟩
  |some d=>
   rw[Br hF];obtain⟨j,l,e,g,h2,-,-⟩:=Er f hx lR;have A:=Ij (i:=i) (only:=only) (how:=how) (d:=d) (late:=if how=1 then d.par.late else late) fun a b=>ih (x-2^k) a b j g;have B:=Ij (i:=i) (only:=only) (how:=how) (d:=d) (late:=if how=1 then d.par.late else late) fun a b=>ih (x+2^k) a b l h2;obtain⟨j1,-,j3,-⟩:=Um e A.op B.op A.opr B.opr;obtain⟨-,j2,-,h⟩:=Um e A.sh B.sh A.shr B.shr;exact⟨j3,h,j1,j2⟩
def Oz (z y:Int):Prop:=0<=y/\(y=Em z\/y=Cq z)
def Zle (r:List Int×List Int×Bool):Prop:=∀y,y∈r.2.1↔(∃z∈r.1,Oz z y)/\y∉r.1
theorem Ry {x:Nat}(hx:x<=131070)(hl:IsLev x 0):Em (x:Int)= -1/\Cq (x:Int)= -1:=by
 have h:=Nn (x:=(x:Int)) (by
  have e:Kq (x:Int)=0:=by
   rw[Kq,iP (by unfold Bd;rw[dI];omega),Int.toNat_natCast,lev_eq hx hl];rfl
  omega)
 exact h
def Znx (c:Nat)(r:List Int×List Int×Bool):Prop:=r.2.2=true->((c:Int)∈r.1/\Zle r)\/(r.1=[]/\r.2.1=[(c:Int)])
theorem Un {V:Nat->Nat->List Int->List Int×List Int×Bool} {i:Nat} {only:Bool} {c how:Nat} {d:NodeD} {late:List Int}(h:∀how late,(V c how late).2.2=true->(c:Int)∈(V c how late).1/\Zle (V c how late)):Znx c (Ds V i only c how d late):=by
 unfold Ds
 split
 ·exact fun a=> .inl (h _ _ a)
 ·split
  ·exact fun _=> .inr ⟨rfl,rfl⟩
  ·split
   ·exact fun a=> .inl (h _ _ a)
   ·split
    ·exact fun a=> .inl (h _ _ a)
    ·exact fun _=> .inr ⟨rfl,rfl⟩
theorem Uo {F:Nat->Option NodeD} {i:Nat} {only:Bool}:∀(k x how:Nat) (late:List Int),IsLev x k->x+2^k<=131071->(Bf F i only k x how late).2.2=true->(x:Int)∈(Bf F i only k x how late).1/\Zle (Bf F i only k x how late):=by
 intro k
 induction k with
 |zero=>
  intro x how late s hx;have G:=fK 0;cases hF:F x with
  |none=>rw[Av hF];intro h;cases h
  |some d=>
   rw[Cd hF];intro _;refine⟨by simp,fun y=> ?_⟩;obtain⟨j,e2⟩:=Ry (by omega) s;simp only[dC,gA,false_iff,not_and];rintro⟨z,rfl,r,o|o⟩
   ·rw[j]at o;omega
   ·rw[e2]at o;omega
 |succ k ih=>
  intro x how late s hx;cases hF:F x with
  |none=>rw[Av hF];intro h;cases h
  |some d=>
   rw[Br hF];obtain⟨w,C,r,o,h2,H,I⟩:=Er s hx lR;have A:=Ij (i:=i) (only:=only) (how:=how) (d:=d) (late:=if how=1 then d.par.late else late) fun a b=>Ci (F:=F) (i:=i) (only:=only) k (x-2^k) a b w o;have B:=Ij (i:=i) (only:=only) (how:=how) (d:=d) (late:=if how=1 then d.par.late else late) fun a b=>Ci (F:=F) (i:=i) (only:=only) k (x+2^k) a b C h2;have p:=Un (i:=i) (only:=only) (how:=how) (d:=d) (late:=if how=1 then d.par.late else late) fun a b=>ih (x-2^k) a b w o;have q:=Un (i:=i) (only:=only) (how:=how) (d:=d) (late:=if how=1 then d.par.late else late) fun a b=>ih (x+2^k) a b C h2;generalize Ds (Bf F i only k) i only (x-2^k) how d (if how=1 then d.par.late else late)=a at A p|-;generalize Ds (Bf F i only k) i only (x+2^k) how d (if how=1 then d.par.late else late)=b at B q|-;intro u;have c:(a.2.2&&b.2.2)=true:=u;rw[cK]at c;refine⟨by simp[Ky],fun y=> ?_⟩;show y∈a.2.1++b.2.1↔(∃z∈a.1++[(x:Int)]++b.1,Oz z y)/\y∉a.1++[(x:Int)]++b.1;simp only[dZ,gA];have D:∀y∈a.1,y<(x:Int):=fun y f=>(by obtain⟨m,e,h⟩:=A.op y f;have:=Fq r h;omega);have E:∀y∈b.1,(x:Int)<y:=fun y f=>(by obtain⟨m,e,h⟩:=B.op y f;have:=Eg h;omega);have J:∀y∈a.2.1,y<(x:Int):=fun y f=>(by obtain⟨m,e,h⟩:=A.sh y f;have:=Fq r h;omega);have sb:∀y∈b.2.1,(x:Int)<y:=fun y f=>(by obtain⟨m,e,h⟩:=B.sh y f;have:=Eg h;omega);have G:=fK k;have v:∀y,Oz (x:Int) y↔y=((x-2^k:Nat):Int)\/y=((x+2^k:Nat):Int):=by
    intro y;unfold Oz;rw[H,I];constructor
    ·rintro⟨_,h⟩;exact h
    ·rintro(h|h)<;>omega
   constructor
   ·rintro(f|f)
    ·have t:=J y f;rcases p c.1 with⟨_,n⟩|⟨j,e2⟩
     ·obtain⟨⟨z,g,hk⟩,l⟩:=(n y).1 f;refine⟨⟨z,.inl (.inl g),hk⟩,?_⟩;rintro((h|h)|h)
      ·exact l h
      ·omega
      ·have:=E y h;omega
     ·rw[e2,gA]at f;refine⟨⟨x,.inl (.inr rfl),(v y).2 (.inl f)⟩,?_⟩;rintro((h|h)|h)
      ·rw[j]at h;cases h
      ·omega
      ·have:=E y h;omega
    ·have t:=sb y f;rcases q c.2 with⟨_,n⟩|⟨j,e2⟩
     ·obtain⟨⟨z,g,hk⟩,l⟩:=(n y).1 f;refine⟨⟨z,.inr g,hk⟩,?_⟩;rintro((h|h)|h)
      ·have:=D y h;omega
      ·omega
      ·exact l h
     ·rw[e2,gA]at f;refine⟨⟨x,.inl (.inr rfl),(v y).2 (.inr f)⟩,?_⟩;rintro((h|h)|h)
      ·have:=D y h;omega
      ·omega
      ·rw[j]at h;cases h
   ·rintro⟨⟨z,g,hk⟩,l⟩;rcases g with(g|g)|g
    ·rcases p c.1 with⟨_,n⟩|⟨j,e2⟩
     ·exact .inl ((n y).2 ⟨⟨z,g,hk⟩,fun h=>l (.inl (.inl h))⟩)
     ·rw[j]at g;cases g
    ·rw[g]at hk;rcases(v y).1 hk with e|e
     ·rcases p c.1 with⟨h3,n⟩|⟨j,e2⟩
      ·rw[e]at l;exact absurd (.inl (.inl h3)) l
      ·rw[e2,e];exact .inl (by simp)
     ·rcases q c.2 with⟨h3,n⟩|⟨j,e2⟩
      ·rw[e]at l;exact absurd (.inr h3) l
      ·rw[e2,e];exact .inr (by simp)
    ·rcases q c.2 with⟨_,n⟩|⟨j,e2⟩
     ·exact .inr ((n y).2 ⟨⟨z,g,hk⟩,fun h=>l (.inr h)⟩)
     ·rw[j]at g;cases g
section
def upL (d:Nat)(u:Int):List Int:=(2*u)::(Re (2*u) ((2^d:Nat):Int)).map fun n:Nat=>(n:Int)
def Znk (FI:Int->Option NodeD)(x:Int)(s:List Int×Bool)(y:Int):List Int×Bool:=
 if y≠x/\Bu y x=true/\y∉s.1 then(s.1++[y],s.2&&(FI y).isSome)else s
def Zlf (FI:Int->Option NodeD)(x:Int)(s:List Int×Bool)(ys:List Int):List Int×Bool:=ys.foldl (Znk FI x) s
def Wv (FI:Int->Option NodeD)(d:Nat)(x:Int)(late:List Int):List Int×Bool:=Zlf FI x ([x],true) (late.flatMap (upL d))
def Bv (FI:Int->Option NodeD)(d:Nat):Nat->Nat->List Int×Bool
 |0,x=>match FI (x:Int)with
  |none=>([],false)
  |some y=>Wv FI d x y.par.late
 |k+1,x=>match FI (x:Int)with
  |none=>([],false)
  |some y=>if y.kind=0 then([(x:Int)]++(Bv FI d k (x-2^k)).1++(Bv FI d k (x+2^k)).1,(Bv FI d k (x-2^k)).2&&(Bv FI d k (x+2^k)).2)
   else Wv FI d x y.par.late
theorem Ny {FI:Int->Option NodeD} {d k x:Nat}(h:FI (x:Int)=none):Bv FI d k x=([],false):=by
 cases k<;>simp only[Bv,h]
theorem Nz {FI:Int->Option NodeD} {d x:Nat} {y:NodeD}(h:FI (x:Int)=some y):Bv FI d 0 x=Wv FI d x y.par.late:=by simp only[Bv,h]
theorem Ww {FI:Int->Option NodeD} {d k x:Nat} {y:NodeD}(h:FI (x:Int)=some y)(hk:y.kind≠0):Bv FI d k x=Wv FI d x y.par.late:=by
 cases k with
 |zero=>exact Nz h
 |succ k=>simp only[Bv,h];rw[iN hk]
theorem Up {FI:Int->Option NodeD} {d k x:Nat} {y:NodeD}(h:FI (x:Int)=some y)(hk:y.kind=0):
  Bv FI d (k+1) x=([(x:Int)]++(Bv FI d k (x-2^k)).1++(Bv FI d k (x+2^k)).1,(Bv FI d k (x-2^k)).2&&(Bv FI d k (x+2^k)).2):=by
 simp only[Bv,h];rw[iP hk]
structure AddWP (FI:Int->Option NodeD) (x:Int) (ys:List Int) (s:List Int×Bool):Prop where
 nd:s.1.Nodup
 mem:∀y,y∈s.1↔y=x\/(y∈ys/\y≠x/\Bu y x=true)
 ok:s.2=true↔∀y∈ys,y≠x->Bu y x=true->(FI y).isSome=true
theorem Zex {FI:Int->Option NodeD} {x y:Int} {i:List Int} {s:List Int×Bool}(h:AddWP FI x i s):AddWP FI x (i++[y]) (Znk FI x s y):=by
 unfold Znk
 split
 ·rename_i hc
  obtain⟨c1,c2,c3⟩:=hc;refine⟨?_,fun z=> ?_,?_⟩
  ·rw[gC];exact⟨h.nd,by simp,fun a j b g e=>by rw[gA]at g;subst e g;exact c3 j⟩
  ·simp only[dZ,gA,h.mem z];constructor
   ·rintro((e|⟨a,b,c⟩)|e)
    ·exact .inl e
    ·exact .inr ⟨.inl a,b,c⟩
    ·subst e;exact .inr ⟨.inr rfl,c1,c2⟩
   ·rintro(e|⟨a|a,b,c⟩)
    ·exact .inl (.inl e)
    ·exact .inl (.inr ⟨a,b,c⟩)
    ·exact .inr a
  ·show(s.2&&(FI y).isSome)=true↔_;rw[cK,h.ok];constructor
   ·rintro⟨a,b⟩ z d;rw[dZ,gA]at d;rcases d with d|rfl
    ·exact a z d
    ·exact fun _ _=>b
   ·intro a;exact⟨fun z d=>a z (gD _ d),a y (by simp) c1 c2⟩
 ·rename_i hc
  have f:y≠x->Bu y x=true->y∈s.1:=fun a b=>Decidable.byContradiction fun c=>hc ⟨a,b,c⟩;refine⟨h.nd,fun z=> ?_,?_⟩
  ·rw[h.mem z];simp only[dZ,gA];constructor
   ·rintro(e|⟨a,b,c⟩)
    ·exact .inl e
    ·exact .inr ⟨.inl a,b,c⟩
   ·rintro(e|⟨a|a,b,c⟩)
    ·exact .inl e
    ·exact .inr ⟨a,b,c⟩
    ·subst a;exact(h.mem z).1 (f b c)
  ·rw[h.ok];constructor
   ·intro a z d b c;rw[dZ,gA]at d;rcases d with d|rfl
    ·exact a z d b c
    ·rcases(h.mem z).1 (f b c)with e|⟨e,_,_⟩
     ·exact absurd e b
     ·exact a z e b c
   ·exact fun a z d=>a z (gD _ d)
theorem Ziw {FI:Int->Option NodeD} {x:Int}:∀(zs ys:List Int) (s:List Int×Bool),AddWP FI x ys s->AddWP FI x (ys++zs) (Zlf FI x s zs):=by
 intro zs
 induction zs with
 |nil=>intro ys s h;simpa [Zlf]using h
 |cons z zs ih=>
  intro ys s h;have:=ih (ys++[z]) _ (Zex (y:=z) h);rw[cY,fZ]at this;exact this
theorem Zlg (FI:Int->Option NodeD)(d:Nat)(x:Int)(late:List Int):AddWP FI x (late.flatMap (upL d)) (Wv FI d x late):=by
 have h0:AddWP FI x [] ([x],true):=⟨by simp,fun y=>by simp,by simp⟩;have:=Ziw (late.flatMap (upL d)) [] _ h0
 rwa [List.nil_append]at this
theorem Rz {z:Nat}:∀(k j:Nat) (y:Nat),y∈ups z j k↔∃l,j<l/\l<=j+k/\y=anc z l:=by
 intro k
 induction k with
 |zero=>
  intro j y;simp only[ups,dC,false_iff,not_exists,not_and];intro l a h2;omega
 |succ k ih=>
  intro j y;rw[ups,aB,ih];constructor
  ·rintro(e|⟨l,a,h2,e⟩)
   ·exact⟨j+1,by omega,by omega,e⟩
   ·exact⟨l,by omega,by omega,e⟩
  ·rintro⟨l,a,h2,e⟩
   by_cases hl:l=j+1
   ·subst hl;exact .inl e
   ·exact .inr ⟨l,by omega,by omega,e⟩
theorem Ld {d m:Nat}(f:d<=16)(h:2*m+1<2^(d+1))(y:Int):y∈upL d (m:Int)↔∃j,j<=d/\y=((anc (2*m) j:Nat):Int):=by
 have c:2^(d+1)<=2^17:=aZ (by omega) (by omega);have a:(2:Nat)^17=131072:=rfl;have g:=Mp (q:=2*m) (by omega) (by omega);have b:anc (2*m) 0=2*m:=anc_self (by unfold IsLev;simp);have e2:2*(m:Int)=((2*m:Nat):Int):=(by omega);unfold upL;rw[e2,Mj f h,g,dS,aB,dY];constructor
 ·rintro(e|⟨n,i,e⟩)
  ·exact⟨0,by omega,by rw[b];exact e⟩
  ·obtain⟨l,k,h2,e3⟩:=(Rz _ _ _).1 i;exact⟨l,by omega,by rw[<-e,e3]⟩
 ·rintro⟨j,o,e⟩
  by_cases h0:j=0
  ·subst h0;rw[b]at e;exact .inl e
  ·exact .inr ⟨anc (2*m) j,(Rz _ _ _).2 ⟨j,by omega,by omega,rfl⟩,e.symm⟩
def Ja (d:Nat)(late:List Int):Prop:=∀u∈late,∃m:Nat,u=(m:Int)/\2*m+1<2^(d+1)
theorem Zey {d m x:Nat}(hd:d<=16)(hm:2*m+1<2^(d+1))(hx:x+1<2^(d+1)):Bu (2*(m:Int)) (x:Int)=decide (x=anc (2*m) (lev x)):=by
 rw[Zno];exact Jm hd hm hx (by omega)
theorem Mu {d x:Nat} {late:List Int}(c:d<=16)(e:Ja d late)(hx:x+1<2^(d+1)):Jb late (x:Int)=true↔∃m:Nat,(m:Int)∈late/\2*m+1<2^(d+1)/\x=anc (2*m) (lev x):=by
 unfold Jb;rw[cH];constructor
 ·rintro⟨u,b,h⟩;obtain⟨m,rfl,a⟩:=e u b;rw[Zey c a hx,dI]at h;exact⟨m,b,a,h⟩
 ·rintro⟨m,b,a,h⟩;refine⟨m,b,?_⟩;rw[Zey c a hx,dI];exact h
theorem Wx {x k y:Nat}(c:IsLev x k)(b:inR k x y):anc y k=x:=by
 have a:=anc_self c;have e:2^(k+1)=2*2^k:=(by rw[aN];omega);have f:=fK k;have d:y/2^(k+1)=x/2^(k+1):=by
  unfold anc at a;refine Nat.div_eq_of_lt_le ?_ ?_
  ·unfold inR at b;omega
  ·rw[Nat.add_mul,Nat.one_mul];unfold inR at b;omega
 unfold anc;rw[d];exact a
theorem Zkf {x k y l:Nat}(b:IsLev x k)(d:IsLev y l)(g:inR k x y):l<=k:=by
 rcases aJ k l with h|h
 ·exfalso;have i:2^(k+1)=2*2^k:=(by rw[aN];omega);have j:=fK k;have f:=fK l;have e2:2^(l+1)=2*2^l:=(by rw[aN];omega);have d1:2^(k+1)∣y+1:=by
   unfold IsLev at d;have a:=aV y (2^(l+1));rw[d]at a;have e3:y+1=2^l*(2*(y/2^(l+1))+1):=by
    rw[gI,<-Nat.mul_assoc,Nat.mul_comm (2^l) 2,<-e2];omega
   rw[e3];exact Nat.dvd_trans (Nat.pow_dvd_pow 2 (by omega)) (Nat.dvd_mul_right _ _)
  obtain⟨c,e⟩:=d1;unfold IsLev at b;have a:=aV x (2^(k+1));rw[b]at a;unfold inR at g;rcases Nat.lt_trichotomy c (x/2^(k+1)+1)with h3|h3|h3
  ·have:=aK (2^(k+1)) (show c<=x/2^(k+1) by omega);omega
  ·rw[h3,gI]at e;omega
  ·have:=aK (2^(k+1)) (show x/2^(k+1)+1+1<=c by omega);rw[gI,gI]at this;omega
 ·exact h
theorem Zlh {d c k y:Nat} {late:List Int}(l:d<=16)(n:Ja d late)(q:c+1<2^(d+1))(i:y+1<2^(d+1))(a:IsLev c k)(o:inR k c y)(h:Jb late (y:Int)=true):Jb late (c:Int)=true:=by
 have p:2^(d+1)<=2^17:=aZ (by omega) (by omega);have j:(2:Nat)^17=131072:=rfl;obtain⟨m,r,g,e⟩:=(Mu l n i).1 h;refine(Mu l n q).2 ⟨m,r,g,?_⟩;have f:=lev_is (x:=y) (by omega);have b:=Zkf a f o;rw[lev_eq (by omega) a,<-anc_anc b,<-e];exact(Wx a o).symm
section
variable {F:Nat->Option NodeD} {i d:Nat} {only:Bool}
structure BetwP (F:Nat->Option NodeD) (k c:Nat) (late:List Int) (r:List Int×List Int×Bool):Prop where
 ok:r.2.2=true↔∀y:Nat,inR k c y->Jb late (y:Int)=true->(F y).isSome=true
 mem:r.2.2=true->∀y:Int,y∈r.1↔∃m:Nat,y=(m:Int)/\inR k c m/\Jb late (m:Int)=true
theorem Wy {k c y M:Nat}(hc:c+2^k<=M)(hy:inR k c y):y+1<=M:=by unfold inR at hy;omega
theorem Mv {k c:Nat} {D:NodeD} {late:List Int} (l:d<=16) (n:Ja d late) (e:IsLev c k) (j:c+2^k<=2*2^d-1)
  (o:Jb late (c:Int)=true->BetwP F k c late (Bf F i only k c 2 late)):BetwP F k c late (Ds (Bf F i only k) i only c 2 D late):=by
 have e2:2^(d+1)=2*2^d:=(by rw[aN];omega);have p:=fK k;have g:Ds (Bf F i only k) i only c 2 D late=if Jb late (c:Int)=true then Bf F i only k c 2 late else([],[(c:Int)],true):=by
  unfold Ds;rw[iN (by omega),iN (by omega),iN (by omega)]
 rw[g]
 by_cases h:Jb late (c:Int)=true
 ·rw[iP h];exact o h
 ·rw[iN h];have b:∀y:Nat,inR k c y->¬Jb late (y:Int)=true:=fun y a f=>h (Zlh l n (by omega) (by have:=Wy j a;omega) e a f);exact⟨⟨fun _ y a f=>absurd f (b y a),fun _=>rfl⟩,fun _ y=>⟨fun a=>(by cases a),fun⟨m,_,h1,h2⟩=>absurd h2 (b m h1)⟩⟩
theorem Zez {k c:Nat} {D:NodeD} {late:List Int} {a b:List Int×List Int×Bool}(hx:2^k<=c)(o:F c=some D)(p:Jb late (c:Int)=true)(l:BetwP F k (c-2^k) late a)(n:BetwP F k (c+2^k) late b):BetwP F (k+1) c late (Ky a c b):=by
 constructor
 ·show(a.2.2&&b.2.2)=true↔_;rw[cK,l.ok,n.ok];constructor
  ·rintro⟨f,h2⟩ y i g;rcases(Az hx).1 i with rfl|h|h
   ·rw[o];rfl
   ·exact f y h g
   ·exact h2 y h g
  ·intro h;exact⟨fun y i=>h y ((Az hx).2 (.inr (.inl i))),fun y i=>h y ((Az hx).2 (.inr (.inr i)))⟩
 ·intro j y;have d:(a.2.2&&b.2.2)=true:=j;rw[cK]at d;show y∈a.1++[(c:Int)]++b.1↔_;simp only[dZ,gA,l.mem d.1 y,n.mem d.2 y];constructor
  ·rintro((⟨m,e,f,h2⟩|e)|⟨m,e,f,h2⟩)
   ·exact⟨m,e,(Az hx).2 (.inr (.inl f)),h2⟩
   ·exact⟨c,e,Dp _ _,p⟩
   ·exact⟨m,e,(Az hx).2 (.inr (.inr f)),h2⟩
  ·rintro⟨m,e,f,h2⟩;rcases(Az hx).1 f with rfl|h|h
   ·exact .inl (.inr e)
   ·exact .inl (.inl ⟨m,e,h,h2⟩)
   ·exact .inr ⟨m,e,h,h2⟩
theorem Znp (g:d<=16) {late:List Int}(o:Ja d late):∀(k c:Nat),IsLev c k->c+2^k<=2*2^d-1->Jb late (c:Int)=true->BetwP F k c late (Bf F i only k c 2 late):=by
 have s:2*2^d-1<=131071:=by
  have r:2^d<=2^16:=aZ (by omega) g;have l:(2:Nat)^16=65536:=rfl;omega
 intro k
 induction k with
 |zero=>
  intro c b n f;have a:∀y,inR 0 c y↔y=c:=fun y=>(by have e:2^0=1:=rfl;unfold inR;omega);cases hF:F c with
  |none=>
   rw[Av hF];exact⟨⟨fun h=>(by cases h),fun h=>by have:=h c ((a c).2 rfl) f;rw[hF]at this;cases this⟩,fun h=>by cases h⟩
  |some D=>
   rw[Cd hF];refine⟨⟨fun _ y t _=>by rw[(a y).1 t,hF];rfl,fun _=>rfl⟩,fun _ y=> ?_⟩;simp only[gA];exact⟨fun e=>⟨c,e,(a c).2 rfl,f⟩,fun⟨m,e,h,_⟩=>by rw[e,(a m).1 h]⟩
 |succ k ih=>
  intro c b n f;cases hF:F c with
  |none=>
   rw[Av hF];exact⟨⟨fun h=>(by cases h),fun h=>by have:=h c (Dp _ _) f;rw[hF]at this;cases this⟩,fun h=>by cases h⟩
  |some D=>
   obtain⟨p,q,a,j,h2,-,-⟩:=Er b n s;rw[Br hF,iN (by omega)];exact Zez a hF f (Mv g o p j (ih _ p j)) (Mv g o q h2 (ih _ q h2))
def Cm (F:Nat->Option NodeD):Prop:=∀x D,F x=some D->∀u∈D.par.late,∃m:Nat,u=(m:Int)/\m<65536/\Bu (2*(m:Int)) (x:Int)=true
theorem Jx (i:d<=16)(g:Cm F) {x k:Nat} {D:NodeD}(f:F x=some D)(j:IsLev x k)(hx:x+2^k<=2*2^d-1):Ja d D.par.late/\∀m:Nat,(m:Int)∈D.par.late->inR k x (2*m):=by
 have e2:2^(d+1)=2*2^d:=(by rw[aN];omega);have o:2*2^d-1<=131071:=by
  have h:2^d<=2^16:=aZ (by omega) i;have c:(2:Nat)^16=65536:=rfl;omega
 have p:=fK k;have a:∀m:Nat,(m:Int)∈D.par.late->inR k x (2*m):=by
  intro m b;obtain⟨l,e,n,h2⟩:=g x D f _ b;have:l=m:=(by omega);subst this;rw[Zno]at h2;exact(Rm (by omega) (by omega) j).1 h2
 refine⟨fun u b=> ?_,a⟩;obtain⟨m,rfl,-,-⟩:=g x D f u b;have:=Wy hx (a m b);exact⟨m,rfl,by omega⟩
theorem Zmu (a:d<=16) {late:List Int}(h:Ja d late) {k x:Nat}(b:IsLev x k)(hx:x+2^k<=2*2^d-1)(y:Int):
  (y∈late.flatMap (upL d)/\Bu y (x:Int)=true)↔∃m:Nat,y=(m:Int)/\inR k x m/\Jb late (m:Int)=true:=by
 have e2:2^(d+1)=2*2^d:=(by rw[aN];omega);have w:2*2^d-1<=131071:=by
  have s:2^d<=2^16:=aZ (by omega) a;have p:(2:Nat)^16=65536:=rfl;omega
 have z:=fK k;rw[gE];constructor
 ·rintro⟨⟨u,r,v⟩,c⟩;obtain⟨m,rfl,f⟩:=h u r;obtain⟨j,t,rfl⟩:=(Ld a f y).1 v;have g:anc (2*m) j+1<2^(d+1):=anc_le (by omega) t;refine⟨_,rfl,(Rm (by omega) (by omega) b).1 c,(Mu a h g).2 ⟨m,r,f,?_⟩⟩;rw[lev_eq (by omega) (anc_lev _ _)]
 ·rintro⟨n,rfl,o,h2⟩;have q:n+1<2^(d+1):=(by have:=Wy hx o;omega);obtain⟨m,f,l,e⟩:=(Mu a h q).1 h2;have i:=(lev_root q (lev_is (x:=n) (by omega))).1;exact⟨⟨m,f,(Ld a l _).2 ⟨lev n,i,by rw[<-e]⟩⟩,(Rm (by omega) (by omega) b).2 o⟩
end
end
section
structure WholeP (v:List Int×List Int×Bool) (w:List Int×Bool):Prop where
 ok:v.2.2=w.2
 nd:w.2=true->w.1.Nodup
 mem:w.2=true->∀y,y∈w.1↔y∈v.1
theorem Ze0 {V:Nat->Nat->List Int->List Int×List Int×Bool} {i c:Nat} {only:Bool} {D:NodeD} {late:List Int}(hk:D.kind≠0):Ds V i only c 1 D late=Ds V i only c 2 D late:=by
 have a:Ds V i only c 1 D late=if Jb late (c:Int)=true then V c 2 late else([],[(c:Int)],true):=by
  unfold Ds;rw[iN (by omega),iN (by omega),iN (by omega)]
 have e2:Ds V i only c 2 D late=if Jb late (c:Int)=true then V c 2 late else([],[(c:Int)],true):=by
  unfold Ds;rw[iN (by omega),iN (by omega),iN (by omega)]
 rw[a,e2]
theorem Ze1 {V:Nat->Nat->List Int->List Int×List Int×Bool} {i c:Nat} {only:Bool} {D:NodeD} {late:List Int}(hk:D.kind=0):Ds V i only c 1 D late=V c 1 []:=by
 unfold Ds;rw[iN (by omega),iN (by omega),iP (.inr ⟨rfl,hk⟩)]
section
variable {FI:Int->Option NodeD} {F:Nat->Option NodeD} {i d:Nat} {only:Bool}
theorem Fx (hd:d<=16):2*2^d-1<=131071/\2^(d+1)=2*2^d:=by
 have h17:2^d<=2^16:=aZ (by omega) hd;have h17':(2:Nat)^16=65536:=rfl;exact⟨by omega,by rw[aN];omega⟩
theorem Pz (q:d<=16) (f:∀n:Nat,F n=FI (n:Int)) {k x:Nat} {D:NodeD} {v:List Int×List Int×Bool} (r:IsLev x k) (hx:x+2^k<=2*2^d-1) (l:Ja d D.par.late) (t:F x=some D)
  (o:v.2.2=true↔∀y:Nat,inR k x y->y≠x->Jb D.par.late (y:Int)=true->(F y).isSome=true)
  (g:v.2.2=true->∀y:Int,y∈v.1↔y=(x:Int)\/∃m:Nat,y=(m:Int)/\inR k x m/\m≠x/\Jb D.par.late (m:Int)=true):WholeP v (Wv FI d x D.par.late):=by
 have P:=Zlg FI d (x:Int) D.par.late;have U:=Zmu q l r hx;have e:v.2.2=(Wv FI d x D.par.late).2:=by
  rw[gH,o,P.ok];constructor
  ·intro h y s b i;obtain⟨m,rfl,a,h2⟩:=(U y).1 ⟨s,i⟩;rw[<-f];exact h m a (fun e=>b (by rw[e])) h2
  ·intro h y a b h2;obtain⟨h3,c⟩:=(U (y:Int)).2 ⟨y,rfl,a,h2⟩;rw[f];exact h _ h3 (fun e=>b (by omega)) c
 refine⟨e,fun _=>P.nd,fun h y=> ?_⟩;rw[P.mem y,g (by rw[e];exact h) y];constructor
 ·rintro(a|⟨a,h2,h3⟩)
  ·exact .inl a
  ·obtain⟨m,rfl,c,j⟩:=(U y).1 ⟨a,h3⟩;exact .inr ⟨m,rfl,c,fun e=>h2 (by rw[e]),j⟩
 ·rintro(a|⟨m,rfl,c,p,j⟩)
  ·exact .inl a
  ·obtain⟨h3,h2⟩:=(U (m:Int)).2 ⟨m,rfl,c,j⟩;exact .inr ⟨h3,fun e=>p (by omega),h2⟩
theorem Zl (u:d<=16)(f:∀n:Nat,F n=FI (n:Int))(M:Cm F):∀(k x:Nat) (late:List Int),IsLev x k->x+2^k<=2*2^d-1->WholeP (Bf F i only k x 1 late) (Bv FI d k x):=by
 obtain⟨O,e2⟩:=Fx u;intro k
 induction k with
 |zero=>
  intro x late w hx;cases hF:F x with
  |none=>rw[Av hF,Ny (by rw[<-f];exact hF)];exact⟨rfl,fun h=>(by cases h),fun h=>(by cases h)⟩
  |some D=>
   have l:∀y,inR 0 x y↔y=x:=fun y=>(by have e:2^0=1:=rfl;unfold inR;omega);rw[Cd hF,Nz (y:=D) (by rw[<-f];exact hF)];refine Pz u f w hx (Jx u M hF w hx).1 hF ⟨fun _ y j v _=>absurd ((l y).1 j) v,fun _=>rfl⟩ fun _ y=> ?_;simp only[gA];refine⟨fun e=> .inl e,fun h=> ?_⟩;rcases h with e|⟨m,e,C,h2,_⟩
   ·exact e
   ·exact absurd ((l m).1 C) h2
 |succ k ih=>
  intro x late w hx;obtain⟨E,G,l,C,h2,-,-⟩:=Er w hx O;cases hF:F x with
  |none=>rw[Av hF,Ny (by rw[<-f];exact hF)];exact⟨rfl,fun h=>(by cases h),fun h=>(by cases h)⟩
  |some D=>
   rw[Br hF,iP rfl]
   by_cases hk:D.kind=0
   ·rw[Up (y:=D) (by rw[<-f];exact hF) hk,Ze1 hk,Ze1 hk];have A:=ih (x-2^k) [] E C;have B:=ih (x+2^k) [] G h2;have K:=Ci (F:=F) (i:=i) (only:=only) k (x-2^k) 1 [] E (by omega);have L:=Ci (F:=F) (i:=i) (only:=only) k (x+2^k) 1 [] G (by omega);generalize Bf F i only k (x-2^k) 1 []=a at A K|-;generalize Bf F i only k (x+2^k) 1 []=b at B L|-;generalize Bv FI d k (x-2^k)=p at A|-;generalize Bv FI d k (x+2^k)=q at B|-;refine⟨by show(a.2.2&&b.2.2)=(p.2&&q.2);rw[A.ok,B.ok],fun H=> ?_,fun H y=> ?_⟩
    ·have c:(p.2&&q.2)=true:=H;rw[cK]at c;show([(x:Int)]++p.1++q.1).Nodup;have N:∀y∈p.1,y<(x:Int):=fun y j=>(by obtain⟨m,e,h⟩:=K.op y ((A.mem c.1 y).1 j);have:=Fq l h;omega);have P:∀y∈q.1,(x:Int)<y:=fun y j=>(by obtain⟨m,e,h⟩:=L.op y ((B.mem c.2 y).1 j);have:=Eg h;omega);rw[gC,gC];refine⟨⟨by simp,A.nd c.1,fun s g t J=> ?_⟩,B.nd c.2,fun s g t J=> ?_⟩
     ·rw[gA]at g;have:=N t J;omega
     ·have:=P t J;rw[dZ,gA]at g;rcases g with g|g
      ·omega
      ·have:=N s g;omega
    ·have c:(p.2&&q.2)=true:=H;rw[cK]at c;show y∈[(x:Int)]++p.1++q.1↔y∈a.1++[(x:Int)]++b.1;simp only[dZ,gA,A.mem c.1 y,B.mem c.2 y];constructor
     ·rintro((h|h)|h)
      ·exact .inl (.inr h)
      ·exact .inl (.inl h)
      ·exact .inr h
     ·rintro((h|h)|h)
      ·exact .inl (.inr h)
      ·exact .inl (.inl h)
      ·exact .inr h
   ·rw[Ww (y:=D) (by rw[<-f];exact hF) hk,Ze0 hk,Ze0 hk];have z:=(Jx u M hF w hx).1;have A:=Mv (F:=F) (i:=i) (only:=only) (D:=D) u z E C (Znp u z k _ E C);have B:=Mv (F:=F) (i:=i) (only:=only) (D:=D) u z G h2 (Znp u z k _ G h2);generalize Ds (Bf F i only k) i only (x-2^k) 2 D D.par.late=a at A|-;generalize Ds (Bf F i only k) i only (x+2^k) 2 D D.par.late=b at B|-;have Q:=fK k;refine Pz u f w hx z hF ?_ fun I y=> ?_
    ·show(a.2.2&&b.2.2)=true↔_;rw[cK,A.ok,B.ok];constructor
     ·rintro⟨r,g2⟩ y j v g;rcases(Az l).1 j with e|h|h
      ·exact absurd e v
      ·exact r y h g
      ·exact g2 y h g
     ·intro h;exact⟨fun y j g=>h y ((Az l).2 (.inr (.inl j))) (by have:=Fq l j;omega) g,fun y j g=>h y ((Az l).2 (.inr (.inr j))) (by have:=Eg j;omega) g⟩
    ·have o:(a.2.2&&b.2.2)=true:=I;rw[cK]at o;show y∈a.1++[(x:Int)]++b.1↔_;simp only[dZ,gA,A.mem o.1 y,B.mem o.2 y];constructor
     ·rintro((⟨m,e,r,g2⟩|e)|⟨m,e,r,g2⟩)
      ·exact .inr ⟨m,e,(Az l).2 (.inr (.inl r)),by have:=Fq l r;omega,g2⟩
      ·exact .inl e
      ·exact .inr ⟨m,e,(Az l).2 (.inr (.inr r)),by have:=Eg r;omega,g2⟩
     ·rintro(e|⟨m,e,r,g3,g2⟩)
      ·exact .inl (.inr e)
      ·rcases(Az l).1 r with h|h|h
       ·exact absurd h g3
       ·exact .inl (.inl ⟨m,e,h,g2⟩)
       ·exact .inr ⟨m,e,h,g2⟩
def Jy (z j:Nat):Nat:=if anc z j<anc z (j+1)then anc z (j+1)+2^j else anc z (j+1)-2^j
theorem Oa (z j:Nat):2^j<=anc z (j+1)/\((anc z j=anc z (j+1)-2^j/\Jy z j=anc z (j+1)+2^j)\/(anc z j=anc z (j+1)+2^j/\Jy z j=anc z (j+1)-2^j)):=by
 have h:=halves z j;have b:=anc_plo z j;have c:=anc_plo z (j+1);have f:phi z j=plo z j+(2^(j+1)-2):=rfl;have e:=fK j;have d:2^(j+1)=2*2^j:=(by rw[aN];omega);refine⟨by omega,?_⟩;unfold Jy;rcases h with⟨a,h2,h3⟩|⟨a,h2,h3⟩
 ·left;rw[iP (by omega)];omega
 ·right;rw[iN (by omega)];omega
theorem Sa (z j y:Nat):inR (j+1) (anc z (j+1)) y↔y=anc z (j+1)\/inR j (anc z j) y\/inR j (Jy z j) y:=by
 obtain⟨h0,h⟩:=Oa z j;rw[Az h0];rcases h with⟨h1,h2⟩|⟨h1,h2⟩<;>rw[h1,h2]
 rw[or_comm (a:=inR j (anc z (j+1)-2^j) y)]
theorem Wz (z j y:Nat)(h:inR j (Jy z j) y):¬inR j (anc z j) y/\y≠anc z (j+1):=by
 obtain⟨h0,h1⟩:=Oa z j;unfold inR at h|-;omega
theorem Zm (z y:Nat):∀(n j:Nat),inR j (anc z j) y->inR (j+n) (anc z (j+n)) y:=by
 intro n
 induction n with
 |zero=>intro j h;exact h
 |succ n ih=>
  intro j h;have:=(Sa z (j+n) y).2 (.inr (.inl (ih j h)));exact this
theorem Ze2 {z j l y:Nat}(hjl:j<l)(h:inR j (Jy z j) y):¬inR l (Jy z l) y:=by
 intro h2;have h3:=Zm z y (l-(j+1)) (j+1) ((Sa z j y).2 (.inr (.inr h)));rw[show j+1+(l-(j+1))=l by omega]at h3;exact(Wz z l y h2).1 h3
theorem Zli {z j l:Nat}(h:inR j (Jy z j) (anc z l)):False:=by
 rcases aJ j l with b|b
 ·have a:=(Sa z j (anc z l)).2 (.inr (.inr h));have h2:=Zkf (anc_lev z (j+1)) (anc_lev z l) a;have:l=j+1:=(by omega);subst this;exact(Wz z j _ h).2 rfl
 ·have a:=Zm z (anc z l) (j-l) l (Dp _ _);rw[show l+(j-l)=j by omega]at a;exact(Wz z j _ h).1 a
theorem Ob (a:d<=16) {z j:Nat}(p:z+1<2^(d+1))(o:j<d):IsLev (Jy z j) j/\Jy z j+2^j<=2*2^d-1:=by
 obtain⟨g,e2⟩:=Fx a;obtain⟨n,h⟩:=Oa z j;have b:=anc_lev z (j+1);have i:=anc_le (x:=z) (d:=d) (j:=j+1) (by omega) (by omega);have k:=Mq i a;rw[lev_eq (by omega) b]at k;obtain⟨l,m,-,c,e,-,-⟩:=Er (M:=2*2^d-1) b (by omega) g;rcases h with⟨f,h2⟩|⟨f,h2⟩
 ·rw[h2];exact⟨m,e⟩
 ·rw[h2];exact⟨l,c⟩
theorem Zix (hd:d<=16) {z j:Nat}(hz:z+1<2^(d+1))(hj:j<=d):anc z j+2^j<=2*2^d-1:=by
 obtain⟨hM,e2⟩:=Fx hd;have ha:=anc_le (x:=z) (d:=d) (j:=j) (by omega) hj;have hu:=Mq ha hd;rw[lev_eq (by omega) (anc_lev z j)]at hu;omega
structure OwnS (FI:Int->Option NodeD) (d z:Nat) (only:Bool) (k:Nat) (v:List Int×List Int×Bool):Prop where
 ok:v.2.2=true↔(∀j,j<=k->(FI (anc z j:Nat)).isSome=true)/\(only=false->∀j,j<k->(Bv FI d j (Jy z j)).2=true)
 mem:v.2.2=true->∀y:Int,y∈v.1↔(∃j,j<=k/\y=(anc z j:Nat))\/(only=false/\∃j,j<k/\y∈(Bv FI d j (Jy z j)).1)
theorem Zn {z k:Nat} {v a b:List Int×List Int×Bool} (n:(FI (anc z (k+1):Nat)).isSome=true) (m:v.2.2=(a.2.2&&b.2.2)) (p:∀y:Int,y∈v.1↔y∈a.1\/y=(anc z (k+1):Nat)\/y∈b.1) (l:OwnS FI d z only k a)
  (o:b.2.2=(only||(Bv FI d k (Jy z k)).2)) (i:b.2.2=true->∀y,y∈b.1↔only=false/\y∈(Bv FI d k (Jy z k)).1):OwnS FI d z only (k+1) v:=by
 constructor
 ·rw[m,cK,l.ok,o,cL];constructor
  ·rintro⟨⟨h,h2⟩,h3⟩;refine⟨fun j f=> ?_,fun c j f=> ?_⟩
   ·by_cases e:j=k+1
    ·rw[e];exact n
    ·exact h j (by omega)
   ·by_cases e:j=k
    ·rw[e];rcases h3 with h3|h3
     ·rw[c]at h3;cases h3
     ·exact h3
    ·exact h2 c j (by omega)
  ·rintro⟨h,h2⟩;refine⟨⟨fun j f=>h j (by omega),fun c j f=>h2 c j (by omega)⟩,?_⟩;cases c:only with
   |true=>exact .inl rfl
   |false=>exact .inr (h2 c k (by omega))
 ·intro g y;rw[m,cK]at g;rw[p y,l.mem g.1 y,i g.2 y];constructor
  ·rintro((⟨j,f,e⟩|⟨c,j,f,e⟩)|e|⟨c,e⟩)
   ·exact .inl ⟨j,by omega,e⟩
   ·exact .inr ⟨c,j,by omega,e⟩
   ·exact .inl ⟨k+1,lR,e⟩
   ·exact .inr ⟨c,k,by omega,e⟩
  ·rintro(⟨j,f,e⟩|⟨c,j,f,e⟩)
   ·by_cases ej:j=k+1
    ·subst ej;exact .inr (.inl e)
    ·exact .inl (.inl ⟨j,by omega,e⟩)
   ·by_cases ej:j=k
    ·subst ej;exact .inr (.inr ⟨c,e⟩)
    ·exact .inl (.inr ⟨c,j,by omega,e⟩)
theorem Jz (a:d<=16) {k c:Nat} {V:Nat->Nat->List Int->List Int×List Int×Bool} {D:NodeD} {late:List Int}(e:2*i+1<2^(d+1))(f:IsLev c k)(j:c+2^k<=2*2^d-1):
  Ds V i only c 0 D late=if c=anc (2*i) k then V c 0 []else if only=true then([],[(c:Int)],true)else V c 1 []:=by
 obtain⟨g,e2⟩:=Fx a;have l:=fK k;have b:=Zey a e (x:=c) (by omega);rw[lev_eq (by omega) f]at b;unfold Ds;rw[b]
 by_cases h:c=anc (2*i) k
 ·rw[iP ⟨rfl,dT h⟩,iP h]
 ·rw[iN (by rintro⟨_,h2⟩;exact h (oD h2)),iN h]
  by_cases ho:only=true
  ·rw[iP ⟨rfl,ho⟩,iP ho]
  ·rw[iN (by rintro⟨_,h2⟩;exact ho h2),iN ho,iP (.inl rfl)]
theorem Ze3 (g:d<=16)(a:∀n:Nat,F n=FI (n:Int))(l:Cm F) {k c:Nat}(j:IsLev c k)(f:c+2^k<=2*2^d-1):
  let b:List Int×List Int×Bool:=if only=true then([],[(c:Int)],true)else Bf F i only k c 1 []
  b.2.2=(only||(Bv FI d k c).2)/\(b.2.2=true->∀y,y∈b.1↔only=false/\y∈(Bv FI d k c).1):=by
 intro b;have W:=Zl (i:=i) (only:=only) g a l k c [] j f;cases ho:only with
 |true=>
  have e:b=([],[(c:Int)],true):=(by show(if only=true then _ else _)=_;rw[iP ho]);rw[e];exact⟨rfl,fun _ y=>by simp⟩
 |false=>
  have e:b=Bf F i only k c 1 []:=(by show(if only=true then _ else _)=_;rw[iN (by rw[ho];simp)]);rw[e];refine⟨by rw[W.ok,Bool.false_or],fun h y=> ?_⟩;rw[W.ok]at h;rw[<-W.mem h y];exact⟨fun h=>⟨rfl,h⟩,fun h=>h.2⟩
theorem Zkg (b:d<=16)(a:∀n:Nat,F n=FI (n:Int))(p:Cm F)(o:2*i+1<2^(d+1)):∀k,k<=d->OwnS FI d (2*i) only k (Bf F i only k (anc (2*i) k) 0 []):=by
 obtain⟨r,e2⟩:=Fx b;intro k
 induction k with
 |zero=>
  intro _;cases hF:F (anc (2*i) 0)with
  |none=>
   rw[Av hF];refine⟨⟨fun h=>(by cases h),fun h=> ?_⟩,fun h=>by cases h⟩;have:=h.1 0 lR;rw[<-a,hF]at this;cases this
  |some D=>
   rw[Cd hF];refine⟨⟨fun _=>⟨fun j f=> ?_,fun _ j f=>by omega⟩,fun _=>rfl⟩,fun _ y=> ?_⟩
   ·obtain rfl:j=0:=(by omega);rw[<-a,hF];rfl
   ·simp only[gA];constructor
    ·exact fun e=> .inl ⟨0,lR,e⟩
    ·rintro(⟨j,f,e⟩|⟨_,j,f,_⟩)
     ·obtain rfl:j=0:=(by omega);exact e
     ·omega
 |succ k ih=>
  intro hk;have t:=anc_lev (2*i) (k+1);have s:=Zix b (z:=2*i) (j:=k+1) (by omega) hk;obtain⟨u,v,w,q,h2,-,-⟩:=Er t s r;cases hF:F (anc (2*i) (k+1))with
  |none=>
   rw[Av hF];refine⟨⟨fun h=>(by cases h),fun h=> ?_⟩,fun h=>by cases h⟩;have:=h.1 (k+1) lR;rw[<-a,hF]at this;cases this
  |some D=>
   rw[Br hF,iN (by omega)];have m:(FI (anc (2*i) (k+1):Nat)).isSome=true:=(by rw[<-a,hF];rfl);have A:=ih (by omega);rw[Jz b o u q,Jz b o v h2];have x:=fK k;rcases(Oa (2*i) k).2 with⟨c1,c2⟩|⟨c1,c2⟩
   ·rw[iP c1.symm,iN (by omega),<-c1,<-c2];have c:=Ob b (z:=2*i) (j:=k) (by omega) (by omega);obtain⟨g,l⟩:=Ze3 (F:=F) (FI:=FI) (i:=i) (only:=only) b a p c.1 c.2;refine Zn m rfl (fun y=> ?_) A g l;simp only[Ky,dZ,gA];rw[or_assoc]
   ·rw[iN (by omega),iP c1.symm,<-c1,<-c2];have c:=Ob b (z:=2*i) (j:=k) (by omega) (by omega);obtain⟨g,l⟩:=Ze3 (F:=F) (FI:=FI) (i:=i) (only:=only) b a p c.1 c.2;refine Zn m (Bool.and_comm _ _) (fun y=> ?_) A g l;simp only[Ky,dZ,gA];constructor
    ·rintro((h|h)|h)
     ·exact .inr (.inr h)
     ·exact .inr (.inl h)
     ·exact .inl h
    ·rintro(h|h|h)
     ·exact .inr h
     ·exact .inl (.inr h)
     ·exact .inl (.inl h)
end
def Dq (FI:Int->Option NodeD)(d i:Nat)(only:Bool)(r:Nat):List Int:=upL d (i:Int)++if only=true then []else(aC r).flatMap fun j=>(Bv FI d j (Jy (2*i) j)).1
def Le (FI:Int->Option NodeD)(d i:Nat)(only:Bool)(r:Nat):Bool:=((upL d (i:Int)).all fun y=>(FI y).isSome)&&(only||(aC r).all fun j=>(Bv FI d j (Jy (2*i) j)).2)
def Lq (out:List Int)(z:Int):List Int:=(if 0<=Em z/\Em z∉out then [Em z]else [])++(if 0<=Cq z/\Cq z∉out then [Cq z]else [])
def Hk (out:List Int):List Int:=out.flatMap (Lq out)
def Zo (FI:Int->Option NodeD)(d i:Nat)(only:Bool):List Int×List Int×Bool:=(Jw (Dq FI d i only d),Jw (Hk (Dq FI d i only d)),Le FI d i only d)
theorem Ik {out:List Int} {z y:Int}:y∈Lq out z↔Oz z y/\y∉out:=by
 unfold Lq Oz;rw[dZ];constructor
 ·rintro(h|h)
  ·split at h
   ·rename_i hc;rw[gA]at h;subst h;exact⟨⟨hc.1,.inl rfl⟩,hc.2⟩
   ·cases h
  ·split at h
   ·rename_i hc;rw[gA]at h;subst h;exact⟨⟨hc.1,.inr rfl⟩,hc.2⟩
   ·cases h
 ·rintro⟨⟨a,rfl|rfl⟩,h2⟩
  ·left;rw[iP ⟨a,h2⟩];simp
  ·right;rw[iP ⟨a,h2⟩];simp
theorem Xa {out:List Int} {y:Int}:y∈Hk out↔(∃z∈out,Oz z y)/\y∉out:=by
 unfold Hk;rw[gE];constructor
 ·rintro⟨z,hz,h⟩;obtain⟨h1,h2⟩:=Ik.1 h;exact⟨⟨z,hz,h1⟩,h2⟩
 ·rintro⟨⟨z,hz,h1⟩,h2⟩;exact⟨z,hz,Ik.2 ⟨h1,h2⟩⟩
theorem Qa {z:Nat} {y:Int}(c:z<=131070)(h:Oz (z:Int) y):∃m k:Nat,y=(m:Int)/\IsLev m k/\anc m (k+1)=z:=by
 obtain⟨f,h⟩:=h;have a:=lev_is c;cases hk:lev z with
 |zero=>
  rw[hk]at a;obtain⟨b,e2⟩:=Ry c a;rw[b,e2]at h;omega
 |succ k=>
  rw[hk]at a;obtain⟨b,e2,d,e,hx⟩:=Go.Proofs.YtfofaiommeckbaaGreat.kids_lev c a;have g:=fK k;rw[b,e2]at h;rcases h with h|h
  ·exact⟨_,k,h,d,Wx a ((Az hx).2 (.inr (.inl (Dp _ _))))⟩
  ·exact⟨_,k,h,e,Wx a ((Az hx).2 (.inr (.inr (Dp _ _))))⟩
theorem Zlj {z z':Nat} {y:Int}(hz:z<=131070)(hz':z'<=131070)(h:Oz (z:Int) y)(h':Oz (z':Int) y):z=z':=by
 obtain⟨m,k,rfl,hl,e⟩:=Qa hz h;obtain⟨m',k',e1,hl',e'⟩:=Qa hz' h';obtain rfl:m=m':=(by omega);have:=lev_unique hl hl';rw[<-e,<-e',this]
theorem Zbz {out:List Int} {z:Nat}(g:z<=131070):(Lq out (z:Int)).Nodup:=by
 unfold Lq;rw[gC];refine⟨by split<;>simp,by split<;>simp,fun a d b f e=> ?_⟩
 split at d
 ·split at f
  ·rename_i c1 c2
   rw[gA]at d f;have c:=lev_is g;cases hk:lev z with
   |zero=>
    rw[hk]at c;obtain⟨h,e2⟩:=Ry g c;omega
   |succ k=>
    rw[hk]at c;obtain⟨h,e2,j,l,hx⟩:=Go.Proofs.YtfofaiommeckbaaGreat.kids_lev g c;have i:=fK k;omega
  ·cases f
 ·cases d
theorem Zb0 {out:List Int}(f:out.Nodup)(c:∀z∈out,∃n:Nat,z=(n:Int)/\n<=131070):(Hk out).Nodup:=by
 unfold Hk List.Nodup;rw[gF];refine⟨fun z g=> ?_,?_⟩
 ·obtain⟨n,rfl,h⟩:=c z g;exact Zbz h
 ·refine List.Pairwise.imp_of_mem (fun {a b} ha hb hne x hx y hy e=> ?_) f;obtain⟨n,rfl,d⟩:=c a ha;obtain⟨m,rfl,h2⟩:=c b hb;subst e;exact hne (by rw[Zlj d h2 (Ik.1 hx).1 (Ik.1 hy).1])
theorem Qb {L:List Int}(h:L.Pairwise (· < ·)):L.Nodup:=by rw[fT];exact h.imp fun h e=>by omega
section
variable {FI:Int->Option NodeD} {F:Nat->Option NodeD} {i d:Nat} {only:Bool}
theorem Ze4 (z:Nat):∀(k j:Nat),(ups z j k).Nodup:=by
 intro k
 induction k with
 |zero=>intro j;simp[ups]
 |succ k ih=>
  intro j;rw[ups,gG];refine⟨fun h=> ?_,ih _⟩;obtain⟨l,h1,h2,e⟩:=(Rz _ _ _).1 h;have:=lev_unique (anc_lev z (j+1)) (by rw[e];exact anc_lev z l);omega
theorem Ze5 (a:d<=16)(b:2*i+1<2^(d+1)):(upL d (i:Int)).Nodup:=by
 obtain⟨j,e2⟩:=Fx a;have c:=Mp (q:=2*i) (by omega) (by omega);have e2:2*(i:Int)=((2*i:Nat):Int):=(by omega);unfold upL;rw[e2,Mj a b,c,dS,gG];refine⟨fun h=> ?_,?_⟩
 ·rw[dY]at h;obtain⟨n,f,e⟩:=h;obtain⟨l,g,h2,e3⟩:=(Rz _ _ _).1 f;have h3:=anc_lev (2*i) l;rw[<-e3,show n=2*i by omega]at h3;have:=lev_unique h3 (show IsLev (2*i) 0 from by unfold IsLev;simp);omega
 ·have:=Ze4 (2*i) d 0;unfold List.Nodup at this|-;rw[fU];exact this.imp fun h e=>h (by omega)
theorem Zp (e:d<=16)(c:∀n:Nat,F n=FI (n:Int))(h:Cm F)(f:2*i+1<2^(d+1)):(Bf F i only d (2^d-1) 0 []).2.2=Le FI d i only d:=by
 have O:=Zkg (only:=only) e c h f d lR;rw[anc_root (by omega)]at O;rw[gH,O.ok];unfold Le;rw[cK,cL,eB,eB];constructor
 ·rintro⟨b,h2⟩;refine⟨fun y k=> ?_,?_⟩
  ·obtain⟨j,a,rfl⟩:=(Ld e f y).1 k;exact b j a
  ·cases g:only with
   |true=>exact .inl rfl
   |false=>exact .inr fun j a=>h2 g j (List.mem_range.1 a)
 ·rintro⟨b,h2⟩;refine⟨fun j a=>b _ ((Ld e f _).2 ⟨j,a,rfl⟩),fun g j a=> ?_⟩;rcases h2 with h2|h2
  ·rw[g]at h2;cases h2
  ·exact h2 j (List.mem_range.2 a)
theorem Uq (q:d<=16)(s:∀n:Nat,F n=FI (n:Int))(E:Cm F)(w:2*i+1<2^(d+1))(k:(Bf F i only d (2^d-1) 0 []).2.2=true):
  Jw (Dq FI d i only d)=(Bf F i only d (2^d-1) 0 []).1/\Jw (Hk (Dq FI d i only d))=(Bf F i only d (2^d-1) 0 []).2.1:=by
 obtain⟨R,e2⟩:=Fx q;have r:=k;rw[Zp q s E w,Le,cK,cL,eB,eB]at r;have O:=Zkg (only:=only) q s E w d lR;rw[anc_root (by omega)]at O;have f:IsLev (2^d-1) d:=by
  have:=fK d;unfold IsLev;rw[aN];have:(2^d-1)%(2^d*2)=2^d-1:=Nat.mod_eq_of_lt (by omega);omega
 have T:=fK d;have t:=Ci (F:=F) (i:=i) (only:=only) d (2^d-1) 0 [] f (by omega);have K:=(Uo (F:=F) (i:=i) (only:=only) d (2^d-1) 0 [] f (by omega) k).2;have J:=O.mem k;generalize Bf F i only d (2^d-1) 0 []=v at t K J k|-;have C:only=false->∀j,j<d->(Bv FI d j (Jy (2*i) j)).1.Nodup/\∀y∈(Bv FI d j (Jy (2*i) j)).1,∃m:Nat,y=(m:Int)/\inR j (Jy (2*i) j) m:=by
  intro g j u;obtain⟨L,Q⟩:=Ob q (z:=2*i) (j:=j) (by omega) u;have W:=Zl (i:=i) (only:=only) q s E j _ [] L Q;have M:(Bv FI d j (Jy (2*i) j)).2=true:=by
   rcases r.2 with h|h
   ·rw[g]at h;cases h
   ·exact h j (List.mem_range.2 u)
  exact⟨W.nd M,fun y I=>(Ci (F:=F) (i:=i) (only:=only) j _ 1 [] L (by omega)).op y ((W.mem M y).1 I)⟩
 have c:∀y,y∈Dq FI d i only d↔y∈v.1:=by
  intro y;rw[J y];unfold Dq;rw[dZ,Ld q w];cases g:only with
  |true=>simp
  |false=>
   simp only[Bool.false_eq_true,if_false,gE,List.mem_range,true_and]
 have A:(Dq FI d i only d).Nodup:=by
  unfold Dq;rw[gC];refine⟨Ze5 q w,?_,?_⟩
  ·split
   ·simp
   ·rename_i g
    rw[cF]at g;unfold List.Nodup;rw[gF];refine⟨fun j u=>(C g j (List.mem_range.1 u)).1,?_⟩;refine List.Pairwise.imp_of_mem (fun {a b} D p hlt x hx y I e=> ?_) List.pairwise_lt_range;obtain⟨m,N,o⟩:=(C g a (List.mem_range.1 D)).2 x hx;obtain⟨P,e3,h3⟩:=(C g b (List.mem_range.1 p)).2 y I;obtain rfl:m=P:=(by omega);exact Ze2 hlt o h3
  ·intro a D b p e
   split at p
   ·cases p
   ·rename_i g
    rw[cF]at g;rw[gE]at p;obtain⟨j,u,p⟩:=p;obtain⟨m,N,o⟩:=(C g j (List.mem_range.1 u)).2 b p;obtain⟨l,S,e3⟩:=(Ld q w a).1 D;have:m=anc (2*i) l:=(by omega);rw[this]at o;exact Zli o
 have G:=Qb t.opr;have H:=Qb t.shr;refine⟨Go.Proofs.YtfofaiommeckbaaGreat.sortL_eq ((fX A G).2 c) t.opr,Go.Proofs.YtfofaiommeckbaaGreat.sortL_eq ((fX (Zb0 A fun z B=> ?_) H).2 fun y=> ?_) t.shr⟩
 ·obtain⟨m,e,h⟩:=t.op z ((c z).1 B);exact⟨m,e,by unfold inR at h;omega⟩
 ·rw[Xa,K y,c y];constructor
  ·rintro⟨⟨z,B,o⟩,h2⟩;exact⟨⟨z,(c z).1 B,o⟩,h2⟩
  ·rintro⟨⟨z,B,o⟩,h2⟩;exact⟨⟨z,(c z).2 B,o⟩,h2⟩
end
end
