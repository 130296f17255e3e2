/- The library's maps.Keys and slices.Sorted at the program's two map types: the kit's proved contracts, laid at this program. -/
import Derived.Test.YtngealmhgkoaiaaGreatZSliceResolvesB
import Derived.Shelf.SlIterI.Nil
import Derived.Shelf.SlIterI.Sorted
import Derived.Test.YtngealmhgkoaiaaGreatZSliceResolves32
import Derived.Maps.OwnSet
import Derived.Maps.OwnOps
import Derived.Maps.Ext
open List renaming nodup_iff_pairwise_ne → eU, mergeSort_perm → eV, pairwise_mergeSort → eW
set_option linter.unusedVariables false
set_option maxRecDepth 100000
set_option maxHeartbeats 40000000
namespace Go.Proofs.YtngealmhgkoaiaaGreat
open Go.RowKit
def Mh:Go.Shelf.Ren:=⟨fun|7=>165|10=>223|n=>n,fun|23=>105|26=>3|3=>54|28=>177|0=>0|27=>176|33=>136|4=>4|n=>n,fun|n=>n⟩
theorem We:Go.Proofs.SlLaysZI.n7 Tryz.prog Mh:= {
 mixed:=by kernel_rfl
 f7:=⟨Tryz.f165.name,by decide,Tryz.func165.trans (congrArg some (by kernel_rfl))⟩
 f10:=⟨Tryz.f223.name,by decide,Tryz.func223.trans (congrArg some (by kernel_rfl))⟩
 t0:=Tryz.underlying0
 a0:=Tryz.isAgg0
 z0:=Tryz.sizeOf0
 v0:=Tryz.zeroValue0
 t4:=Tryz.underlying4
 a4:=Tryz.isAgg4
 z4:=Tryz.sizeOf4
 v4:=Tryz.zeroValue4
 t23:=Tryz.underlying105
 a23:=Tryz.isAgg105
 z23:=Tryz.sizeOf105
 v23:=Tryz.zeroValue105
 t26:=Tryz.underlying3
 a26:=Tryz.isAgg3
 z26:=Tryz.sizeOf3
 v26:=Tryz.zeroValue3
 t27:=Tryz.underlying176
 a27:=Tryz.isAgg176
 z27:=Tryz.sizeOf176
 v27:=Tryz.zeroValue176
 t28:=Tryz.underlying177
 a28:=Tryz.isAgg177
 z28:=Tryz.sizeOf177
 v28:=Tryz.zeroValue177
 t33:=Tryz.underlying136
 a33:=Tryz.isAgg136
 z33:=Tryz.sizeOf136
 v33:=Tryz.zeroValue136}
def Mi:Go.Shelf.Ren:=⟨fun|7=>166|10=>224|n=>n,fun|23=>106|26=>3|3=>25|28=>177|0=>0|27=>176|33=>136|4=>4|n=>n,fun|n=>n⟩
theorem Wf:Go.Proofs.SlLaysZI.n7 Tryz.prog Mi:= {
 mixed:=by kernel_rfl
 f7:=⟨Tryz.f166.name,by decide,Tryz.func166.trans (congrArg some (by kernel_rfl))⟩
 f10:=⟨Tryz.f224.name,by decide,Tryz.func224.trans (congrArg some (by kernel_rfl))⟩
 t0:=Tryz.underlying0
 a0:=Tryz.isAgg0
 z0:=Tryz.sizeOf0
 v0:=Tryz.zeroValue0
 t4:=Tryz.underlying4
 a4:=Tryz.isAgg4
 z4:=Tryz.sizeOf4
 v4:=Tryz.zeroValue4
 t23:=Tryz.underlying106
 a23:=Tryz.isAgg106
 z23:=Tryz.sizeOf106
 v23:=Tryz.zeroValue106
 t26:=Tryz.underlying3
 a26:=Tryz.isAgg3
 z26:=Tryz.sizeOf3
 v26:=Tryz.zeroValue3
 t27:=Tryz.underlying176
 a27:=Tryz.isAgg176
 z27:=Tryz.sizeOf176
 v27:=Tryz.zeroValue176
 t28:=Tryz.underlying177
 a28:=Tryz.isAgg177
 z28:=Tryz.sizeOf177
 v28:=Tryz.zeroValue177
 t33:=Tryz.underlying136
 a33:=Tryz.isAgg136
 z33:=Tryz.sizeOf136
 v33:=Tryz.zeroValue136}
def Kp:Go.Shelf.Ren:=⟨fun|6=>164|8=>222|9=>154|11=>252|13=>216|12=>215|23=>248|24=>249|14=>240|15=>241|16=>242|17=>243|18=>244|19=>245|20=>191|21=>246|22=>247|25=>264|26=>265|27=>266|28=>267|29=>268|30=>236|31=>274|n=>n,fun|26=>3|28=>177|24=>50|0=>0|3=>3|37=>197|48=>233|50=>126|4=>4|40=>227|39=>226|45=>148|5=>5|9=>9|51=>246|55=>250|57=>260|58=>102|33=>136|n=>n,fun|n=>n⟩
theorem Rt:Go.Proofs.SlLaysZI.n6 Tryz.prog Kp:= {
 mixed:=by kernel_rfl
 f6:=⟨Tryz.f164.name,by decide,Tryz.func164.trans (congrArg some (by kernel_rfl))⟩
 f8:=⟨Tryz.f222.name,by decide,Tryz.func222.trans (congrArg some (by kernel_rfl))⟩
 f11:=⟨Tryz.f252.name,by decide,Tryz.func252.trans (congrArg some (by kernel_rfl))⟩
 t0:=Tryz.underlying0
 a0:=Tryz.isAgg0
 z0:=Tryz.sizeOf0
 v0:=Tryz.zeroValue0
 t24:=Tryz.underlying50
 a24:=Tryz.isAgg50
 z24:=Tryz.sizeOf50
 v24:=Tryz.zeroValue50
 t26:=Tryz.underlying3
 a26:=Tryz.isAgg3
 z26:=Tryz.sizeOf3
 v26:=Tryz.zeroValue3
 t28:=Tryz.underlying177
 a28:=Tryz.isAgg177
 z28:=Tryz.sizeOf177
 v28:=Tryz.zeroValue177
 i26:=by kernel_rfl}
open Go.Maps Go.Sort Go.Shelf
section
def rdV (v:Value):Option (DataW Value×List MemPlace):=some (.held v,[])
def inI (x:Int):Prop:= -9223372036854775808≤x∧x≤9223372036854775807
theorem Zh6 {x:Int}(h:inI x):(Lit.int .i64 x).wf=true:=by
 unfold inI at h;have e1:IntKind.i64.min= -9223372036854775808:=(by decide);have e2:IntKind.i64.max=9223372036854775807:=(by decide);simp only[Lit.wf,e1,e2,Bool.and_eq_true,decide_eq_true_eq];exact h
theorem Yq {x:Int}(h:(Lit.int .i64 x).wf=true):inI x:=by
 have e1:IntKind.i64.min= -9223372036854775808:=(by decide);have e2:IntKind.i64.max=9223372036854775807:=(by decide);simp only[Lit.wf,e1,e2,Bool.and_eq_true,decide_eq_true_eq]at h;exact h
theorem Zex:Keyed Tryz.prog 3:=int_keyed Tryz.underlying3
theorem Wg {x:Int}(h:inI x):keyOf Tryz.prog 3 (.int .i64 x)=some (.int .i64 x):=keyOf_int_mk Tryz.underlying3 (Zh6 h)
def MapF (w:World)(b n:Nat)(F:Int→Option Value):Prop:=
 ∃D:DataW Value,w.ownsMap Tryz.prog 3 rdV b n D∧(∀x,has D (.int .i64 x)=(F x).isSome)∧∀x v z,F x=some v→D.atKey (.int .i64 x) z=.held v
theorem MapF.lt {w:World} {b n:Nat} {F:Int→Option Value}(h:MapF w b n F):b<w.heap.size:=by
 obtain⟨D,h1,_⟩:=h;exact h1.lt
theorem MapF.grown {w w':World} {b n:Nat} {F:Int→Option Value} {row:Option Nat}(h:MapF w b n F)(hg:w.grownBy w' row)(hne:some b≠row):MapF w' b n F:=by
 obtain⟨D,h1,h2⟩:=h;exact⟨D,h1.kept hg hne,h2⟩
theorem MapF.below {w w':World} {b n B:Nat} {F:Int→Option Value}(h:MapF w b n F)(hb:Below B w w')(hB:w.heap.size≤B):MapF w' b n F:=by
 have hlt:=h.lt;obtain⟨D,⟨es,clock,h0,h1⟩,h2⟩:=h;exact⟨D,⟨es,clock,(hb.block b (by omega)).trans h0,h1⟩,h2⟩
theorem MapF.belowB {w w':World} {b n B:Nat} {F:Int→Option Value}(h:MapF w b n F)(hb:Below B w w')(hB:b<B):MapF w' b n F:=by
 obtain⟨D,⟨es,clock,h0,h1⟩,h2⟩:=h;exact⟨D,⟨es,clock,(hb.block b hB).trans h0,h1⟩,h2⟩
theorem MapF.alloc {w:World} {b n:Nat} {F:Int→Option Value}(h:MapF w b n F)(o:Obj):MapF (w.alloc o) b n F:=by
 obtain⟨D,h1,h2⟩:=h;exact⟨D,h1.alloc o,h2⟩
theorem MapF.drewN {w:World} {b n:Nat} {F:Int→Option Value}(h:MapF w b n F)(k:Nat):MapF (w.drewN k) b n F:=h
theorem MapF.congr {w:World} {b n:Nat} {F G:Int→Option Value}(h:MapF w b n F)(e:∀x,G x=F x):MapF w b n G:=by
 have:G=F:=funext e;rw[this];exact h
theorem MapF.made (w:World):MapF (w.alloc (.map #[] 0)) w.heap.size 0 fun _=>none:=
 ⟨.map [],World.ownsMap_made w _ _ _,fun x=>rfl,fun x v z h=>by cases h⟩
section
variable {w:World} {b n:Nat} {F:Int→Option Value} {T E:TypeId} {z:Value} {k:Int}
theorem Ru (k:Int):WideAt.IsKeyLit (.int .i64 k):=by simp[WideAt.IsKeyLit]
theorem MapF.run_getOk (h:MapF w b n F)(ht:Tryz.prog.underlying T=some (.map 3 E))(hz:(zeroValue E).run Tryz.prog w=.ok z w)(hk:inI k):
  (Instr.lookup T (.map (some b)) (.int .i64 k) true).run Tryz.prog w=.ok (.tuple #[(F k).getD z,.bool (F k).isSome]) w:=by
 obtain⟨D,h1,h2,h3⟩:=h;obtain⟨v,ps,hr,hv⟩:=h1.look_ok Zex ht hz (zd:=.held z) (zp:=[]) rfl (Wg hk);rw[hr,h2 k];unfold rdV at hv;simp only[Option.some.injEq,Prod.mk.injEq]at hv;cases hF:F k with
 |some u=>
  rw[h3 k u _ hF]at hv;simp only[DataW.held.injEq]at hv;rw[hv.1];rfl
 |none=>
  have hn:has D (.int .i64 k)=false:=(by rw[h2,hF];rfl);rw[atKey_of_not_has hn]at hv;simp only[DataW.held.injEq]at hv;rw[hv.1];rfl
theorem MapF.run_get (h:MapF w b n F)(ht:Tryz.prog.underlying T=some (.map 3 E))(hz:(zeroValue E).run Tryz.prog w=.ok z w)(hk:inI k):
  (Instr.lookup T (.map (some b)) (.int .i64 k) false).run Tryz.prog w=.ok ((F k).getD z) w:=by
 obtain⟨D,h1,h2,h3⟩:=h;obtain⟨v,ps,hr,hv⟩:=h1.lookup Zex ht hz (zd:=.held z) (zp:=[]) rfl (Wg hk);rw[hr];unfold rdV at hv;simp only[Option.some.injEq,Prod.mk.injEq]at hv;cases hF:F k with
 |some u=>
  rw[h3 k u _ hF]at hv;simp only[DataW.held.injEq]at hv;rw[hv.1];rfl
 |none=>
  have hn:has D (.int .i64 k)=false:=(by rw[h2,hF];rfl);rw[atKey_of_not_has hn]at hv;simp only[DataW.held.injEq]at hv;rw[hv.1];rfl
theorem Gf (ht:Tryz.prog.underlying T=some (.map 3 E))(hz:(zeroValue E).run Tryz.prog w=.ok z w)(hk:inI k):
  (Instr.lookup T (.map none) (.int .i64 k) true).run Tryz.prog w=.ok (.tuple #[z,.bool false]) w:=Maps.look_nil true Zex ht hz (Wg hk)
theorem MapF.run_put (h:MapF w b n F)(ht:Tryz.prog.underlying T=some (.map 3 E))(hk:inI k)(hn:n<maxLen)(v:Value):
  ∃w',(Instr.mapUpdate T (.map (some b)) (.int .i64 k) v).run Tryz.prog w=.ok () w'∧MapF w' b (n+1) (fun y=>if y=k then some v else F y)∧w.grownBy w' (some b):=by
 obtain⟨D,h1,h2,h3⟩:=h;obtain⟨w',hr,ho,hg⟩:=h1.update Zex ht hn (Wg hk) (show rdV v=some (.held v,[])from rfl);refine⟨w',hr,⟨_,ho,fun x=> ?_,fun x u z hx=> ?_⟩,hg⟩
 ·show _=(if x=k then some v else F x).isSome
  by_cases e:x=k
  ·subst e;rw[has_put_same h1.isMap (Ru x),if_pos rfl];rfl
  ·rw[has_put_other (fun e2=>e (by cases e2;rfl)),h2,if_neg e]
 ·replace hx:(if x=k then some v else F x)=some u:=hx
  by_cases e:x=k
  ·subst e;rw[if_pos rfl]at hx;cases hx;exact atKey_put_same h1.isMap (Ru x) _ _
  ·rw[if_neg e]at hx;rw[atKey_put_other (fun e2=>e (by cases e2;rfl))];exact h3 x u z hx
end
section
variable {w:World} {ops:Array Oper} {rest:List Oper} {o:Oper} {a:Act} {Q:Exit→Act→World→Prop} {b n:Nat} {F:Int→Option Value} {T E:TypeId} {z:Value} {k:Int}
theorem Jf (hgd:o.guard=none) (m x y:Operand) (hop:o.op=.mapUpdate T m x y) (ht:Tryz.prog.underlying T=some (.map 3 E)) (hm:a.eval m=.map (some b)) (h:MapF w b n F) (hx:a.eval x=.int .i64 k) (hk:inI k) (hn:n<maxLen) (v:Value) (hy:a.eval y=v)
  (hK:∀w',MapF w' b (n+1) (fun y=>if y=k then some v else F y)→w.grownBy w' (some b)→wpList Tryz.prog ops Q rest (a.put o.dst undef) w'):wpList Tryz.prog ops Q (o::rest) a w:=by
 refine wpList_plain hgd fun K' hK'=> ?_;obtain⟨w',hr,ho,hg⟩:=h.run_put ht hk hn v;unfold Oper.wp;simp[execOp,hop,hm,hx,hy,hr,Result.andThen];exact hK' _ _ (hK w' ho hg)
end
def Cx (F:Int→Option Value)(K:List Int):Prop:=K.Pairwise (· < ·)∧∀x,x∈K↔(F x).isSome=true
theorem Kq {w:World} {b n:Nat} {F:Int→Option Value} {D:DataW Value}(h1:w.ownsMap Tryz.prog 3 rdV b n D)(h2:∀x,has D (.int .i64 x)=(F x).isSome):∃K,Cx F K∧K.Perm (intKeys D)∧K.length≤n:=by
 obtain⟨es,clock,h0,h3,h4,rfl⟩:=h1;obtain⟨E,hE⟩:=eX ((es.toList.map (Go.WideElems.rg Tryz.prog 3 rdV)).foldr DataW.insert []);rw[←hE]at h2⊢;have hk:∀p∈E,∃x,p.1=.int .i64 x:=by
  intro p hp;rw[hE,(Go.WideShapes.sorted_perm _).mem_iff]at hp;obtain⟨v,hv⟩:=fit_keys h3 p hp;obtain⟨a,_,e2,_⟩:=keyOf_i64 Tryz.underlying3 hv;exact⟨a,e2⟩
 have hap:E.Pairwise (fun p q=>p.1≠q.1):=by
  have:=fit_apart Zex h3;rw[hE];exact((Go.WideShapes.sorted_perm _).pairwise_iff (fun h e=>h e.symm)).2 this
 have hl:E.length≤n:=(by rw[hE,length_sorted];simpa using h4);have hnd:(intKeys (.map E)).Nodup:=by
  show(E.map fun p=>Go.intOf p.1).Nodup;rw[eU,List.pairwise_map];refine hap.imp_of_mem fun {p q} hp hq hne e=>hne ?_;obtain⟨x,ex⟩:=hk p hp;obtain⟨y,ey⟩:=hk q hq;rw[ex,ey]at e⊢;have:x=y:=e;rw[this]
 have hmem:∀x,x∈intKeys (.map E)↔(F x).isSome=true:=by
  intro x;rw[←h2 x,has_eq,List.any_eq_true];show x∈E.map (fun p=>Go.intOf p.1)↔_;rw[List.mem_map];constructor
  ·rintro⟨p,hp,e⟩;obtain⟨y,ey⟩:=hk p hp;rw[ey]at e;have:y=x:=e;subst this;exact⟨p,hp,by rw[ey];exact WideAt.sameKey_self (Ru y)⟩
  ·rintro⟨p,hp,e⟩;have:=(WideAt.sameKey_iff (Ru x)).1 e;exact⟨p,hp,by rw[this];rfl⟩
 refine⟨Et (intKeys (.map E)),⟨?_,fun x=> ?_⟩,eV _ _,?_⟩
 ·have hs:(Et (intKeys (.map E))).Pairwise fun a b=>decide (a≤b)=true:=eW (fun a b c h1 h2=>by simp at*;omega) (fun a b=>by simp;omega) _;have hn2:(Et (intKeys (.map E))).Nodup:=(eV (intKeys (.map E)) _).nodup_iff.2 hnd;rw[eU]at hn2;exact(hs.and hn2).imp fun h=>by have h1:=of_decide_eq_true h.1;have h2:=h.2;omega
 ·rw[←hmem x];exact(eV (intKeys (.map E)) _).mem_iff
 ·rw[Rs];show(E.map _).length≤n;rw[List.length_map];exact hl
theorem Mj {F:Int→Option Value} {K L:List Int}(h1:Cx F K)(h2:Cx F L):K=L:=by
 have hp:K.Perm L:=(List.perm_ext_iff_of_nodup (by rw[eU];exact h1.1.imp fun h e=>by omega) (by rw[eU];exact h2.1.imp fun h e=>by omega)).2 fun x=>(h1.2 x).trans (h2.2 x).symm;exact List.Perm.eq_of_pairwise (le:=fun a b=>a<b) (fun a b _ _ h3 h4=>by omega) h1.1 h2.1 hp
end
theorem sortL_eq {L M:List Int}(h1:L.Perm M)(h2:M.Pairwise (· < ·)):Et L=M:=by
 have hp:(Et L).Perm M:=(eV L _).trans h1;have hs:(Et L).Pairwise fun a b=>decide (a≤b)=true:=eW (fun a b c h1 h2=>by simp at*;omega) (fun a b=>by simp;omega) L;have hm:M.Pairwise fun a b=>decide (a≤b)=true:=h2.imp fun h=>(by simp;omega);refine List.Perm.eq_of_pairwise (le:=fun a b=>decide (a≤b)=true) ?_ hs hm hp;intro a b _ _ h3 h4;simp at h3 h4;omega
theorem Rv (mb:Option Nat)(w:World):
  Calls Tryz.prog 165 #[.map mb] w fun e w'=>e=.returned (.func (.func 223) #[] #[.pointer (some ⟨w.heap.size,0,none⟩)])∧w'=w.alloc (.cells #[.map mb] 105):=
 (callsIn_wide (n:=5)).1 (AnyZI.keys_in We Fence.wide 5 trivial rfl mb w)
theorem Rw (mb:Option Nat)(w:World):
  Calls Tryz.prog 166 #[.map mb] w fun e w'=>e=.returned (.func (.func 224) #[] #[.pointer (some ⟨w.heap.size,0,none⟩)])∧w'=w.alloc (.cells #[.map mb] 106):=
 (callsIn_wide (n:=5)).1 (AnyZI.keys_in Wf Fence.wide 5 trivial rfl mb w)
theorem Wh (m:Nat):AnyZI.SortsIn Tryz.prog Kp Fence.wide m:=
 ⟨fun blk off cap ss W hH hblk hsz=>callsIn_wide.2 (AnyM.slices_Sort_int Zbq blk off cap ss W hH hblk hsz),
  fun p cap W=>callsIn_wide.2 (AnyM.slices_Sort_int_none Zbq p cap W)⟩
theorem Rx {w':World} {B:Nat} {v:Value} {ss K:List Int}(h:w'.ownsRow B 3 1 v ss.length ((ss.mergeSort (fun x y=>decide (x≤y))).map encZ))(e:Et ss=K):Own w' B 3 v (ivs .i64 K):=by
 have e2:(ss.mergeSort (fun x y=>decide (x≤y))).map encZ=ivs .i64 K:=(by rw[←e];rfl);rw[e2]at h;have hl:(ivs .i64 K).length=ss.length:=(by rw[←e];simp[ivs,Rs]);unfold Own;rw[hl];exact h
theorem Mk (b n g:Nat)(F:Int→Option Value)(K:List Int)(w:World)(h:MapF w b n F)(hK:Cx F K)(hn:n≤1000000)(hg:w.cell? ⟨g,0,none⟩=some (.map (some b)))(hgl:g<w.heap.size):
  Calls Tryz.prog 164 #[.func (.func 223) #[] #[.pointer (some ⟨g,0,none⟩)]] w fun e w'=>∃v,e=.returned v∧Own w' w.heap.size 3 v (ivs .i64 K)∧Below w.heap.size w w':=by
 obtain⟨D,h1,h2,h3⟩:=h;obtain⟨K',k1,k2,k3⟩:=Kq h1 h2;obtain rfl:=Mj hK k1;have hsz:Maps.size D≤n:=h1.size_le;have hseq:SeqGives Fence.wide 2 Tryz.prog 223 #[.pointer (some ⟨g,0,none⟩)] encZ (fun ss=>ss.Perm (intKeys D)) (Maps.size D) w:=
  AnyZI.keys_gives (ρ:=Mh) {We with} Fence.wide _ trivial rfl (by omega) g b n D w hgl hg h1
 refine(callsIn_wide (n:=5)).1 ?_;refine(AnyZI.sorted_in Rt Fence.wide 5 trivial trivial trivial trivial rfl (by omega) (Wh _) (enters_of Tryz.func154 (by kernel_rfl) rfl) 223 #[.pointer (some ⟨g,0,none⟩)] trivial (enters_of Tryz.func223 (by kernel_rfl) rfl) _ _ (by unfold maxLen;omega) (by omega) _ hseq).mono ?_;rintro e w' ⟨v,ss,rfl,hp,hrow,_,hb⟩;exact⟨v,rfl,Rx hrow (sortL_eq (hp.trans k2.symm) k1.1),hb⟩
theorem Ml (b n g:Nat)(F:Int→Option Value)(K:List Int)(w:World)(h:MapF w b n F)(hK:Cx F K)(hn:n≤1000000)(hg:w.cell? ⟨g,0,none⟩=some (.map (some b)))(hgl:g<w.heap.size):
  Calls Tryz.prog 164 #[.func (.func 224) #[] #[.pointer (some ⟨g,0,none⟩)]] w fun e w'=>∃v,e=.returned v∧Own w' w.heap.size 3 v (ivs .i64 K)∧Below w.heap.size w w':=by
 obtain⟨D,h1,h2,h3⟩:=h;obtain⟨K',k1,k2,k3⟩:=Kq h1 h2;obtain rfl:=Mj hK k1;have hsz:Maps.size D≤n:=h1.size_le;have hseq:SeqGives Fence.wide 2 Tryz.prog 224 #[.pointer (some ⟨g,0,none⟩)] encZ (fun ss=>ss.Perm (intKeys D)) (Maps.size D) w:=
  AnyZI.keys_gives (ρ:=Mi) {Wf with} Fence.wide _ trivial rfl (by omega) g b n D w hgl hg h1
 refine(callsIn_wide (n:=5)).1 ?_;refine(AnyZI.sorted_in Rt Fence.wide 5 trivial trivial trivial trivial rfl (by omega) (Wh _) (enters_of Tryz.func154 (by kernel_rfl) rfl) 224 #[.pointer (some ⟨g,0,none⟩)] trivial (enters_of Tryz.func224 (by kernel_rfl) rfl) _ _ (by unfold maxLen;omega) (by omega) _ hseq).mono ?_;rintro e w' ⟨v,ss,rfl,hp,hrow,_,hb⟩;exact⟨v,rfl,Rx hrow (sortL_eq (hp.trans k2.symm) k1.1),hb⟩
end Go.Proofs.YtngealmhgkoaiaaGreat
