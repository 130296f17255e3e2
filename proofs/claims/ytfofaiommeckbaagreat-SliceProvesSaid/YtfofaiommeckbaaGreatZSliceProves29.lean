import Derived.Shelf.SortM.Plain
import Derived.Shelf.SortM.SortNone
import Derived.Test.YtfofaiommeckbaaGreatZSliceProves14
import Derived.Shelf.Slices.Delete
import Derived.Sort.OwnSortedInts
import Derived.Shelf.SlIterI.Nil
import Derived.Shelf.SlIterI.Sorted
import Derived.Maps.OwnSet
import Derived.Maps.OwnOps
import Derived.Maps.Ext
open Go.Value renaming pointer → rB
open Option renaming none → rF
open Go.Proofs.Tryz
open List renaming getD_eq_getElem?_getD → aH, getElem?_eq_getElem → aI, nodup_iff_pairwise_ne → fE, mergeSort_perm → fF, pairwise_mergeSort → fG
set_option linter.unusedVariables false
set_option maxRecDepth 100000
set_option maxHeartbeats 40000000
namespace Go.Proofs.YtfofaiommeckbaaGreat
open Go.RowKit
def Zbx:Go.Shelf.Ren:=⟨fun|5=>183|8=>205|7=>223|19=>243|20=>244|10=>257|11=>258|12=>259|13=>260|14=>261|15=>262|16=>263|17=>264|18=>265|30=>283|31=>275|32=>276|33=>284|34=>285|35=>206|40=>293|n=>n,fun|23=>48|25=>3|3=>3|32=>207|22=>48|0=>0|44=>231|46=>92|4=>4|36=>250|35=>249|41=>199|5=>5|9=>9|53=>277|57=>281|63=>291|64=>137|n=>n,fun|n=>n⟩
theorem Zeo:Go.Proofs.SlLaysM.n5 prog Zbx:= {
 mixed:=by kernel_rfl
 f5:=⟨Tryz.f183.name,by decide,func183.trans (congrArg some (by kernel_rfl))⟩
 f7:=⟨Tryz.f223.name,by decide,func223.trans (congrArg some (by kernel_rfl))⟩
 f8:=func205.trans (congrArg some (by kernel_rfl))
 f10:=⟨Tryz.f257.name,by decide,func257.trans (congrArg some (by kernel_rfl))⟩
 f11:=⟨Tryz.f258.name,by decide,func258.trans (congrArg some (by kernel_rfl))⟩
 f12:=⟨Tryz.f259.name,by decide,func259.trans (congrArg some (by kernel_rfl))⟩
 f13:=⟨Tryz.f260.name,by decide,func260.trans (congrArg some (by kernel_rfl))⟩
 f14:=⟨Tryz.f261.name,by decide,func261.trans (congrArg some (by kernel_rfl))⟩
 f15:=⟨Tryz.f262.name,by decide,func262.trans (congrArg some (by kernel_rfl))⟩
 f16:=⟨Tryz.f263.name,by decide,func263.trans (congrArg some (by kernel_rfl))⟩
 f17:=⟨Tryz.f264.name,by decide,func264.trans (congrArg some (by kernel_rfl))⟩
 f18:=⟨Tryz.f265.name,by decide,func265.trans (congrArg some (by kernel_rfl))⟩
 f19:=func243.trans (congrArg some (by kernel_rfl))
 f20:=func244.trans (congrArg some (by kernel_rfl))
 f30:=⟨Tryz.f283.name,by decide,func283.trans (congrArg some (by kernel_rfl))⟩
 f31:=func275.trans (congrArg some (by kernel_rfl))
 f32:=func276.trans (congrArg some (by kernel_rfl))
 f33:=⟨Tryz.f284.name,by decide,func284.trans (congrArg some (by kernel_rfl))⟩
 f34:=⟨Tryz.f285.name,by decide,func285.trans (congrArg some (by kernel_rfl))⟩
 f35:=⟨Tryz.f206.name,by decide,func206.trans (congrArg some (by kernel_rfl))⟩
 f40:=⟨Tryz.f293.name,by decide,func293.trans (congrArg some (by kernel_rfl))⟩
 t0:=underlying0
 a0:=Tryz.isAgg0
 z0:=Tryz.sizeOf0
 v0:=zeroValue0
 t3:=underlying3
 a3:=Tryz.isAgg3
 z3:=Tryz.sizeOf3
 v3:=zeroValue3
 t4:=underlying4
 a4:=Tryz.isAgg4
 z4:=Tryz.sizeOf4
 v4:=zeroValue4
 t5:=underlying5
 a5:=Tryz.isAgg5
 z5:=Tryz.sizeOf5
 v5:=zeroValue5
 t9:=underlying9
 a9:=Tryz.isAgg9
 z9:=Tryz.sizeOf9
 v9:=zeroValue9
 t22:=underlying48
 a22:=Tryz.isAgg48
 z22:=Tryz.sizeOf48
 v22:=zeroValue48
 t23:=underlying48
 a23:=Tryz.isAgg48
 z23:=Tryz.sizeOf48
 v23:=zeroValue48
 t25:=underlying3
 a25:=Tryz.isAgg3
 z25:=Tryz.sizeOf3
 v25:=zeroValue3
 t32:=underlying207
 a32:=Tryz.isAgg207
 z32:=Tryz.sizeOf207
 v32:=zeroValue207
 t35:=underlying249
 a35:=Tryz.isAgg249
 z35:=Tryz.sizeOf249
 v35:=zeroValue249
 t36:=underlying250
 a36:=Tryz.isAgg250
 z36:=Tryz.sizeOf250
 v36:=zeroValue250
 t41:=underlying199
 a41:=Tryz.isAgg199
 z41:=Tryz.sizeOf199
 v41:=zeroValue199
 t44:=underlying231
 a44:=Tryz.isAgg231
 z44:=Tryz.sizeOf231
 v44:=zeroValue231
 t46:=underlying92
 a46:=Tryz.isAgg92
 z46:=Tryz.sizeOf92
 v46:=zeroValue92
 t53:=underlying277
 a53:=Tryz.isAgg277
 z53:=Tryz.sizeOf277
 v53:=zeroValue277
 t57:=underlying281
 a57:=Tryz.isAgg281
 z57:=Tryz.sizeOf281
 v57:=zeroValue281
 t63:=underlying291
 a63:=Tryz.isAgg291
 z63:=Tryz.sizeOf291
 v63:=zeroValue291
 t64:=underlying137
 a64:=Tryz.isAgg137
 z64:=Tryz.sizeOf137
 v64:=zeroValue137}
open Go.Sort
def Fd (L:List Int):List Int:=L.mergeSort fun x y=>decide (x≤y)
theorem Uu (L:List Int):(Fd L).length=L.length:=List.length_mergeSort L
theorem Zmq {L M:List Int} {i:Nat}(h:L.getD i 0≠M.getD i 0):decide (L=M)=false:=decide_eq_false fun e=>h (by rw[e])
theorem Zk5 {L M:List Int}(hl:L.length=M.length)(h:∀j,j<L.length→L.getD j 0=M.getD j 0):decide (L=M)=true:=by
 refine decide_eq_true (List.ext_getElem hl fun i h1 h2=> ?_);have:=h i h1
 rwa [aH,aH,aI h1,aI h2]at this
theorem Zm (E H:Value)(L M:List Int)(w:World)(h1:Rd w E (ivs .i64 L))(h2:Rd w H (ivs .i64 M))(T:L.length≤1000000)(N:M.length≤1000000):
  Calls prog 152 #[E,H] w fun e w'=>e=.returned (.bool (decide (L=M)))∧∃n,w'=w.drewN n:=by
 obtain⟨a1,k1,rfl⟩:∃a c,E=.slice a L.length c:=(by obtain⟨a,c,e,_⟩:=h1;rw[show(ivs .i64 L).length=L.length by simp[ivs]]at e;exact⟨a,c,e⟩);obtain⟨a2,k2,rfl⟩:∃a c,H=.slice a M.length c:=(by obtain⟨a,c,e,_⟩:=h2;rw[show(ivs .i64 M).length=M.length by simp[ivs]]at e;exact⟨a,c,e⟩);have x:=fun(i:Nat) (f:i<L.length)=>h1.at3 (u:=.int .i64 (L.getD i 0)) (r:=i) (by simp[ivs,aH,f]);have k:=fun(i:Nat) (f:i<M.length)=>h2.at3 (u:=.int .i64 (M.getD i 0)) (r:=i) (by simp[ivs,aH,f])
 by_cases hlm:L.length=M.length
 ·have z:=fun(i:Nat) (h:L.getD i 0≠M.getD i 0)=>Zmq h;have b:=fun(h:∀j,j<L.length→L.getD j 0=M.getD j 0)=>Zk5 hlm h;obtain⟨R,J⟩:=eX (decide (L=M));rw[←J]at z b⊢;obtain⟨n,l⟩:=eX L.length;rw[←hlm]at k⊢;rw[←l]at x k T b⊢;obtain⟨X,P⟩:∃X:Nat→Int,X=fun i=>L.getD i 0:=⟨_,rfl⟩;obtain⟨Y,I⟩:∃X:Nat→Int,X=fun i=>M.getD i 0:=⟨_,rfl⟩;have t:∀i,L.getD i 0=X i:=fun i=>(by rw[P]);have s:∀i,M.getD i 0=Y i:=fun i=>(by rw[I]);simp only[t,s]at x k z b;have B:=Hd x;have C:=Hd k;have G:=Hd z;have v:=Hd b;clear x k h1 h2 l z b P I t s J hlm N;go_enter func152,ntmps152;go_wp2_with fail
  go_loopg [13] n (fun q iv wr=>∃i m:Nat,i+q=n∧iv=.int .i64 (i:Nat)∧wr=w.drewN m∧∀j,j<i→X j=Y j)
  case atStart=>exact⟨0,0,by omega,rfl,rfl,fun j A=>by omega⟩
  case round=>
   obtain⟨i,m,f,rfl,rfl,A⟩:=hrel;have K:=Hd f;have S:=Hd A;clear A
   by_cases hlt:i<n
   ·have p:decide (i<n)=true:=decide_eq_true hlt;have Q:(i:Int)<(n:Int):=(by omega);obtain⟨b1,o1,e1,aB,Z⟩:=B.out i hlt;obtain⟨b2,o2,e2,aA,q2⟩:=C.out i hlt;obtain⟨u,F⟩:=eX (X i);obtain⟨D,g⟩:∃u,u=Y i:=⟨_,rfl⟩;rw[←F]at Z;rw[←g]at q2;subst e1 e2;have U:=Hd F;have y:=Hd g;clear f F g
    by_cases e:u=D
    ·subst e;go_wp2
     go_quiet (fail)
     go_wp2;go_roundg (gk-1);case measure=>have:=K.out;omega
     case rel=>
      refine⟨i+1,_,by have:=K.out;omega,by go_num,rfl,fun j A=> ?_⟩
      by_cases e:j=i
      ·rw[e,←U.out];exact y.out
      ·exact S.out j (by omega)
    ·have V:=Hd (G.out i (by rw[←U.out,←y.out];exact e));have d:(u==D)=false:=(by rw[beq_eq_false_iff_ne];exact e);have O:(u !=D)=true:=(by rw[bne,d];rfl);go_wp2
     go_quiet (fail)
     go_wp2;go_ret;exact⟨by rw[V.out];rfl,m+nq,by simp[World.drewN,Nat.add_assoc]⟩
   ·obtain rfl:i=n:=(by omega);have p:decide (i<i)=false:=decide_eq_false hlt;have W:=Hd (v.out S.out);clear f hlt;go_wp2_with fail;go_ret;exact⟨by rw[W.out];rfl,_,rfl⟩
 ·have d:decide (L=M)=false:=decide_eq_false fun e=>hlm (by rw[e]);rw[d];obtain⟨n,l⟩:=eX L.length;obtain⟨m,o⟩:∃n,n=M.length:=⟨_,rfl⟩;rw[←l,←o]at hlm⊢;have h1:¬((n:Int)=(m:Int)):=(by omega);have h2:((n:Int)==(m:Int))=false:=(by rw[beq_eq_false_iff_ne];exact h1);have h3:((n:Int) !=(m:Int))=true:=(by rw[bne,h2];rfl);clear x k l o d T N;go_enter func152,ntmps152;go_wp2_with fail;go_ret;exact⟨rfl,0,rfl⟩
end Go.Proofs.YtfofaiommeckbaaGreat
namespace Go.Proofs.YtfofaiommeckbaaGreat
open Go.RowKit
def Ok:Go.Shelf.Ren:=⟨fun|7=>125|10=>184|n=>n,fun|23=>98|26=>3|3=>52|28=>162|0=>0|27=>161|33=>106|4=>4|n=>n,fun|n=>n⟩
theorem Zn:Go.Proofs.SlLaysZI.n7 prog Ok:= {
 mixed:=by kernel_rfl
 f7:=⟨Tryz.f125.name,by decide,func125.trans (congrArg some (by kernel_rfl))⟩
 f10:=⟨Tryz.f184.name,by decide,func184.trans (congrArg some (by kernel_rfl))⟩
 t0:=underlying0
 a0:=Tryz.isAgg0
 z0:=Tryz.sizeOf0
 v0:=zeroValue0
 t4:=underlying4
 a4:=Tryz.isAgg4
 z4:=Tryz.sizeOf4
 v4:=zeroValue4
 t23:=underlying98
 a23:=Tryz.isAgg98
 z23:=Tryz.sizeOf98
 v23:=zeroValue98
 t26:=underlying3
 a26:=Tryz.isAgg3
 z26:=Tryz.sizeOf3
 v26:=zeroValue3
 t27:=underlying161
 a27:=Tryz.isAgg161
 z27:=Tryz.sizeOf161
 v27:=zeroValue161
 t28:=underlying162
 a28:=Tryz.isAgg162
 z28:=Tryz.sizeOf162
 v28:=zeroValue162
 t33:=underlying106
 a33:=Tryz.isAgg106
 z33:=Tryz.sizeOf106
 v33:=zeroValue106}
def Ol:Go.Shelf.Ren:=⟨fun|7=>126|10=>185|n=>n,fun|23=>99|26=>3|3=>28|28=>162|0=>0|27=>161|33=>106|4=>4|n=>n,fun|n=>n⟩
theorem Zo:Go.Proofs.SlLaysZI.n7 prog Ol:= {
 mixed:=by kernel_rfl
 f7:=⟨Tryz.f126.name,by decide,func126.trans (congrArg some (by kernel_rfl))⟩
 f10:=⟨Tryz.f185.name,by decide,func185.trans (congrArg some (by kernel_rfl))⟩
 t0:=underlying0
 a0:=Tryz.isAgg0
 z0:=Tryz.sizeOf0
 v0:=zeroValue0
 t4:=underlying4
 a4:=Tryz.isAgg4
 z4:=Tryz.sizeOf4
 v4:=zeroValue4
 t23:=underlying99
 a23:=Tryz.isAgg99
 z23:=Tryz.sizeOf99
 v23:=zeroValue99
 t26:=underlying3
 a26:=Tryz.isAgg3
 z26:=Tryz.sizeOf3
 v26:=zeroValue3
 t27:=underlying161
 a27:=Tryz.isAgg161
 z27:=Tryz.sizeOf161
 v27:=zeroValue161
 t28:=underlying162
 a28:=Tryz.isAgg162
 z28:=Tryz.sizeOf162
 v28:=zeroValue162
 t33:=underlying106
 a33:=Tryz.isAgg106
 z33:=Tryz.sizeOf106
 v33:=zeroValue106}
def Mg:Go.Shelf.Ren:=⟨fun|6=>124|8=>182|9=>183|11=>222|13=>205|12=>223|23=>243|24=>244|14=>257|15=>258|16=>259|17=>260|18=>261|19=>262|20=>263|21=>264|22=>265|25=>283|26=>275|27=>276|28=>284|29=>285|30=>206|31=>293|n=>n,fun|26=>3|28=>162|24=>48|0=>0|3=>3|37=>207|48=>231|50=>92|4=>4|40=>250|39=>249|45=>199|5=>5|9=>9|51=>277|55=>281|57=>291|58=>137|33=>106|n=>n,fun|n=>n⟩
theorem Uv:Go.Proofs.SlLaysZI.n6 prog Mg:= {
 mixed:=by kernel_rfl
 f6:=⟨Tryz.f124.name,by decide,func124.trans (congrArg some (by kernel_rfl))⟩
 f8:=⟨Tryz.f182.name,by decide,func182.trans (congrArg some (by kernel_rfl))⟩
 f11:=⟨Tryz.f222.name,by decide,func222.trans (congrArg some (by kernel_rfl))⟩
 t0:=underlying0
 a0:=Tryz.isAgg0
 z0:=Tryz.sizeOf0
 v0:=zeroValue0
 t24:=underlying48
 a24:=Tryz.isAgg48
 z24:=Tryz.sizeOf48
 v24:=zeroValue48
 t26:=underlying3
 a26:=Tryz.isAgg3
 z26:=Tryz.sizeOf3
 v26:=zeroValue3
 t28:=underlying162
 a28:=Tryz.isAgg162
 z28:=Tryz.sizeOf162
 v28:=zeroValue162
 i26:=by kernel_rfl}
open Go.Maps Go.Sort Go.Shelf
section
def rdV (v:Value):Option (DataW Value×List MemPlace):=some (.held v,[])
def inI (x:Int):Prop:= -9223372036854775808≤x∧x≤9223372036854775807
theorem Zmr {x:Int}(h:inI x):(Lit.int .i64 x).wf=true:=by
 unfold inI at h;have e1:IntKind.i64.min= -9223372036854775808:=(by decide);have e2:IntKind.i64.max=9223372036854775807:=(by decide);simp only[Lit.wf,e1,e2,Bool.and_eq_true,decide_eq_true_eq];exact h
theorem Zj7:Keyed prog 3:=int_keyed underlying3
theorem Zep {x:Int}(h:inI x):keyOf prog 3 (.int .i64 x)=some (.int .i64 x):=keyOf_int_mk underlying3 (Zmr h)
def MapF (w:World)(b n:Nat)(F:Int→Option Value):Prop:=
 ∃D:DataW Value,w.ownsMap prog 3 rdV b n D∧(∀x,has D (.int .i64 x)=(F x).isSome)∧∀x v z,F x=some v→D.atKey (.int .i64 x) z=.held v
theorem MapF.lt {w:World} {b n:Nat} {F:Int→Option Value}(h:MapF w b n F):b<w.heap.size:=by
 obtain⟨D,h1,_⟩:=h;exact h1.lt
theorem MapF.grown {w w':World} {b n:Nat} {F:Int→Option Value} {row:Option Nat}(h:MapF w b n F)(hg:w.grownBy w' row)(hne:some b≠row):MapF w' b n F:=by
 obtain⟨D,h1,h2⟩:=h;exact⟨D,h1.kept hg hne,h2⟩
theorem MapF.below {w w':World} {b n B:Nat} {F:Int→Option Value}(h:MapF w b n F)(hb:Below B w w')(hB:w.heap.size≤B):MapF w' b n F:=by
 have hlt:=h.lt;obtain⟨D,⟨es,clock,h0,h1⟩,h2⟩:=h;exact⟨D,⟨es,clock,(hb.block b (by omega)).trans h0,h1⟩,h2⟩
theorem MapF.belowB {w w':World} {b n B:Nat} {F:Int→Option Value}(h:MapF w b n F)(hb:Below B w w')(hB:b<B):MapF w' b n F:=by
 obtain⟨D,⟨es,clock,h0,h1⟩,h2⟩:=h;exact⟨D,⟨es,clock,(hb.block b hB).trans h0,h1⟩,h2⟩
theorem MapF.alloc {w:World} {b n:Nat} {F:Int→Option Value}(h:MapF w b n F)(o:Obj):MapF (w.alloc o) b n F:=by
 obtain⟨D,h1,h2⟩:=h;exact⟨D,h1.alloc o,h2⟩
theorem MapF.drewN {w:World} {b n:Nat} {F:Int→Option Value}(h:MapF w b n F)(k:Nat):MapF (w.drewN k) b n F:=h
theorem MapF.mono {w:World} {b n n':Nat} {F:Int→Option Value}(h:MapF w b n F)(hn:n≤n'):MapF w b n' F:=by
 obtain⟨D,h1,h2⟩:=h;exact⟨D,h1.mono hn,h2⟩
theorem MapF.congr {w:World} {b n:Nat} {F G:Int→Option Value}(h:MapF w b n F)(e:∀x,G x=F x):MapF w b n G:=by
 have:G=F:=funext e;rw[this];exact h
theorem MapF.made (w:World):MapF (w.alloc (.map #[] 0)) w.heap.size 0 fun _=>none:=
 ⟨.map [],World.ownsMap_made w _ _ _,fun x=>rfl,fun x v z h=>by cases h⟩
section
variable {w:World} {b n:Nat} {F:Int→Option Value} {T E:TypeId} {z:Value} {k:Int}
theorem Uw (k:Int):WideAt.IsKeyLit (.int .i64 k):=by simp[WideAt.IsKeyLit]
theorem MapF.run_getOk (h:MapF w b n F)(ht:prog.underlying T=some (.map 3 E))(c:(zeroValue E).run prog w=.ok z w)(hk:inI k):
  (Instr.lookup T (.map (some b)) (.int .i64 k) true).run prog w=.ok (.tuple #[(F k).getD z,.bool (F k).isSome]) w:=by
 obtain⟨D,h1,h2,h3⟩:=h;obtain⟨v,f,d,a⟩:=h1.look_ok Zj7 ht c (zd:=.held z) (zp:=[]) rfl (Zep hk);rw[d,h2 k];unfold rdV at a;simp only[Option.some.injEq,Prod.mk.injEq]at a;cases hF:F k with
 |some u=>
  rw[h3 k u _ hF]at a;simp only[DataW.held.injEq]at a;rw[a.1];rfl
 |none=>
  have e:has D (.int .i64 k)=false:=(by rw[h2,hF];rfl);rw[atKey_of_not_has e]at a;simp only[DataW.held.injEq]at a;rw[a.1];rfl
theorem MapF.run_get (h:MapF w b n F)(ht:prog.underlying T=some (.map 3 E))(c:(zeroValue E).run prog w=.ok z w)(hk:inI k):
  (Instr.lookup T (.map (some b)) (.int .i64 k) false).run prog w=.ok ((F k).getD z) w:=by
 obtain⟨D,h1,h2,h3⟩:=h;obtain⟨v,f,d,a⟩:=h1.lookup Zj7 ht c (zd:=.held z) (zp:=[]) rfl (Zep hk);rw[d];unfold rdV at a;simp only[Option.some.injEq,Prod.mk.injEq]at a;cases hF:F k with
 |some u=>
  rw[h3 k u _ hF]at a;simp only[DataW.held.injEq]at a;rw[a.1];rfl
 |none=>
  have e:has D (.int .i64 k)=false:=(by rw[h2,hF];rfl);rw[atKey_of_not_has e]at a;simp only[DataW.held.injEq]at a;rw[a.1];rfl
theorem MapF.run_put (h:MapF w b n F)(ht:prog.underlying T=some (.map 3 E))(hk:inI k)(f:n<maxLen)(v:Value):
  ∃w',(Instr.mapUpdate T (.map (some b)) (.int .i64 k) v).run prog w=.ok () w'∧MapF w' b (n+1) (fun y=>if y=k then some v else F y)∧w.grownBy w' (some b):=by
 obtain⟨D,h1,h2,h3⟩:=h;obtain⟨w',c,a,d⟩:=h1.update Zj7 ht f (Zep hk) (show rdV v=some (.held v,[])from rfl);refine⟨w',c,⟨_,a,fun x=> ?_,fun x u z hx=> ?_⟩,d⟩
 ·show _=(if x=k then some v else F x).isSome
  by_cases e:x=k
  ·subst e;rw[has_put_same h1.isMap (Uw x),if_pos rfl];rfl
  ·rw[has_put_other (fun e2=>e (by cases e2;rfl)),h2,if_neg e]
 ·replace hx:(if x=k then some v else F x)=some u:=hx
  by_cases e:x=k
  ·subst e;rw[if_pos rfl]at hx;cases hx;exact atKey_put_same h1.isMap (Uw x) _ _
  ·rw[if_neg e]at hx;rw[atKey_put_other (fun e2=>e (by cases e2;rfl))];exact h3 x u z hx
end
section
variable {w:World} {ops:Array Oper} {rest:List Oper} {o:Oper} {a:Act} {Q:Exit→Act→World→Prop} {b n:Nat} {F:Int→Option Value} {T E:TypeId} {z:Value} {k:Int}
theorem Fe (d:o.guard=none) (m x y:Operand) (e:o.op=.mapUpdate T m x y) (ht:prog.underlying T=some (.map 3 E)) (g:a.eval m=.map (some b)) (h:MapF w b n F) (hx:a.eval x=.int .i64 k) (hk:inI k) (q:n<maxLen) (v:Value) (f:a.eval y=v)
  (i:∀w',MapF w' b (n+1) (fun y=>if y=k then some v else F y)→w.grownBy w' (some b)→wpList prog ops Q rest (a.put o.dst undef) w'):wpList prog ops Q (o::rest) a w:=by
 refine wpList_plain d fun r c=> ?_;obtain⟨w',l,j,p⟩:=h.run_put ht hk q v;unfold Oper.wp;simp[execOp,e,g,hx,f,l,Result.andThen];exact c _ _ (i w' j p)
end
def Df (F:Int→Option Value)(K:List Int):Prop:=K.Pairwise (· < ·)∧∀x,x∈K↔(F x).isSome=true
theorem Mh {w:World} {b n:Nat} {F:Int→Option Value} {D:DataW Value}(h1:w.ownsMap prog 3 rdV b n D)(h2:∀x,has D (.int .i64 x)=(F x).isSome):∃K,Df F K∧K.Perm (intKeys D)∧K.length≤n:=by
 obtain⟨o,l,h0,h3,s,rfl⟩:=h1;obtain⟨E,i⟩:=eX ((o.toList.map (Go.WideElems.rg prog 3 rdV)).foldr DataW.insert []);rw[←i]at h2⊢;have hk:∀p∈E,∃x,p.1=.int .i64 x:=by
  intro p d;rw[i,(Go.WideShapes.sorted_perm _).mem_iff]at d;obtain⟨v,z⟩:=fit_keys h3 p d;obtain⟨a,_,e2,_⟩:=keyOf_i64 underlying3 z;exact⟨a,e2⟩
 have m:E.Pairwise (fun p q=>p.1≠q.1):=by
  have:=fit_apart Zj7 h3;rw[i];exact((Go.WideShapes.sorted_perm _).pairwise_iff (fun h e=>h e.symm)).2 this
 have u:E.length≤n:=(by rw[i,length_sorted];simpa using s);have k:(intKeys (.map E)).Nodup:=by
  show(E.map fun p=>Go.intOf p.1).Nodup;rw[fE,List.pairwise_map];refine m.imp_of_mem fun {p q} d hq hne e=>hne ?_;obtain⟨x,t⟩:=hk p d;obtain⟨y,j⟩:=hk q hq;rw[t,j]at e⊢;have:x=y:=e;rw[this]
 have g:∀x,x∈intKeys (.map E)↔(F x).isSome=true:=by
  intro x;rw[←h2 x,has_eq,List.any_eq_true];show x∈E.map (fun p=>Go.intOf p.1)↔_;rw[List.mem_map];constructor
  ·rintro⟨p,d,e⟩;obtain⟨y,j⟩:=hk p d;rw[j]at e;have:y=x:=e;subst this;exact⟨p,d,by rw[j];exact WideAt.sameKey_self (Uw y)⟩
  ·rintro⟨p,d,e⟩;have:=(WideAt.sameKey_iff (Uw x)).1 e;exact⟨p,d,by rw[this];rfl⟩
 refine⟨Fd (intKeys (.map E)),⟨?_,fun x=> ?_⟩,fF _ _,?_⟩
 ·have r:(Fd (intKeys (.map E))).Pairwise fun a b=>decide (a≤b)=true:=fG (fun a b c h1 h2=>by simp at*;omega) (fun a b=>by simp;omega) _;have f:(Fd (intKeys (.map E))).Nodup:=(fF (intKeys (.map E)) _).nodup_iff.2 k;rw[fE]at f;exact(r.and f).imp fun h=>by have h1:=of_decide_eq_true h.1;have h2:=h.2;omega
 ·rw[←g x];exact(fF (intKeys (.map E)) _).mem_iff
 ·rw[Uu];show(E.map _).length≤n;rw[List.length_map];exact u
theorem Om {F:Int→Option Value} {K L:List Int}(h1:Df F K)(h2:Df F L):K=L:=by
 have c:K.Perm L:=(List.perm_ext_iff_of_nodup (by rw[fE];exact h1.1.imp fun h e=>by omega) (by rw[fE];exact h2.1.imp fun h e=>by omega)).2 fun x=>(h1.2 x).trans (h2.2 x).symm;exact List.Perm.eq_of_pairwise (le:=fun a b=>a<b) (fun a b _ _ h3 d=>by omega) h1.1 h2.1 c
end
theorem sortL_eq {L M:List Int}(h1:L.Perm M)(h2:M.Pairwise (· < ·)):Fd L=M:=by
 have f:(Fd L).Perm M:=(fF L _).trans h1;have d:(Fd L).Pairwise fun a b=>decide (a≤b)=true:=fG (fun a b c h1 h2=>by simp at*;omega) (fun a b=>by simp;omega) L;have g:M.Pairwise fun a b=>decide (a≤b)=true:=h2.imp fun h=>(by simp;omega);refine List.Perm.eq_of_pairwise (le:=fun a b=>decide (a≤b)=true) ?_ d g f;intro a b _ _ h3 e;simp at h3 e;omega
theorem Ux (mb:Option Nat)(w:World):
  Calls prog 125 #[.map mb] w fun e w'=>e=.returned (.func (.func 184) #[] #[rB (some ⟨w.heap.size,0,rF⟩)])∧w'=w.alloc (.cells #[.map mb] 98):=
 (callsIn_wide (n:=5)).1 (AnyZI.keys_in Zn Fence.wide 5 trivial rfl mb w)
theorem Uy (mb:Option Nat)(w:World):
  Calls prog 126 #[.map mb] w fun e w'=>e=.returned (.func (.func 185) #[] #[rB (some ⟨w.heap.size,0,rF⟩)])∧w'=w.alloc (.cells #[.map mb] 99):=
 (callsIn_wide (n:=5)).1 (AnyZI.keys_in Zo Fence.wide 5 trivial rfl mb w)
theorem Zp (m:Nat):AnyZI.SortsIn prog Mg Fence.wide m:=
 ⟨fun blk off cap ss W hH hblk hsz=>callsIn_wide.2 (AnyM.slices_Sort_int Zeo blk off cap ss W hH hblk hsz),
  fun p cap W=>callsIn_wide.2 (AnyM.slices_Sort_int_none Zeo p cap W)⟩
theorem Uz {w':World} {B:Nat} {v:Value} {a K:List Int}(h:w'.ownsRow B 3 1 v a.length ((a.mergeSort (fun x y=>decide (x≤y))).map encZ))(e:Fd a=K):Own w' B 3 v (ivs .i64 K):=by
 have e2:(a.mergeSort (fun x y=>decide (x≤y))).map encZ=ivs .i64 K:=(by rw[←e];rfl);rw[e2]at h;have b:(ivs .i64 K).length=a.length:=(by rw[←e];simp[ivs,Uu]);unfold Own;rw[b];exact h
theorem On (b n g:Nat)(F:Int→Option Value)(K:List Int)(w:World)(h:MapF w b n F)(l:Df F K)(s:n≤1000000)(o:w.cell? ⟨g,0,rF⟩=some (.map (some b)))(d:g<w.heap.size):
  Calls prog 124 #[.func (.func 184) #[] #[rB (some ⟨g,0,rF⟩)]] w fun e w'=>∃v,e=.returned v∧Own w' w.heap.size 3 v (ivs .i64 K)∧Below w.heap.size w w':=by
 obtain⟨D,h1,h2,h3⟩:=h;obtain⟨r,i,j,q⟩:=Mh h1 h2;obtain rfl:=Om l i;have k:Maps.size D≤n:=h1.size_le;have a:SeqGives Fence.wide 2 prog 184 #[rB (some ⟨g,0,rF⟩)] encZ (fun f=>f.Perm (intKeys D)) (Maps.size D) w:=
  AnyZI.keys_gives (ρ:=Ok) {Zn with} Fence.wide _ trivial rfl (by omega) g b n D w d o h1
 refine(callsIn_wide (n:=5)).1 ?_;refine(AnyZI.sorted_in Uv Fence.wide 5 trivial trivial trivial trivial rfl (by omega) (Zp _) (enters_of func183 (by kernel_rfl) rfl) 184 #[rB (some ⟨g,0,rF⟩)] trivial (enters_of func184 (by kernel_rfl) rfl) _ _ (by unfold maxLen;omega) (by omega) _ a).mono ?_;rintro e w' ⟨v,f,rfl,m,c,_,p⟩;exact⟨v,rfl,Uz c (sortL_eq (m.trans j.symm) i.1),p⟩
theorem Oo (b n g:Nat)(F:Int→Option Value)(K:List Int)(w:World)(h:MapF w b n F)(l:Df F K)(s:n≤1000000)(o:w.cell? ⟨g,0,rF⟩=some (.map (some b)))(d:g<w.heap.size):
  Calls prog 124 #[.func (.func 185) #[] #[rB (some ⟨g,0,rF⟩)]] w fun e w'=>∃v,e=.returned v∧Own w' w.heap.size 3 v (ivs .i64 K)∧Below w.heap.size w w':=by
 obtain⟨D,h1,h2,h3⟩:=h;obtain⟨r,i,j,q⟩:=Mh h1 h2;obtain rfl:=Om l i;have k:Maps.size D≤n:=h1.size_le;have a:SeqGives Fence.wide 2 prog 185 #[rB (some ⟨g,0,rF⟩)] encZ (fun f=>f.Perm (intKeys D)) (Maps.size D) w:=
  AnyZI.keys_gives (ρ:=Ol) {Zo with} Fence.wide _ trivial rfl (by omega) g b n D w d o h1
 refine(callsIn_wide (n:=5)).1 ?_;refine(AnyZI.sorted_in Uv Fence.wide 5 trivial trivial trivial trivial rfl (by omega) (Zp _) (enters_of func183 (by kernel_rfl) rfl) 185 #[rB (some ⟨g,0,rF⟩)] trivial (enters_of func185 (by kernel_rfl) rfl) _ _ (by unfold maxLen;omega) (by omega) _ a).mono ?_;rintro e w' ⟨v,f,rfl,m,c,_,p⟩;exact⟨v,rfl,Uz c (sortL_eq (m.trans j.symm) i.1),p⟩
end Go.Proofs.YtfofaiommeckbaaGreat
