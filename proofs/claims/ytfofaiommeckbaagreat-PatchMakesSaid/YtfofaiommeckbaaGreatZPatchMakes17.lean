/- The library's maps.Keys and slices.Sorted at the program's two map types: the kit's proved contracts, laid at this program. -/
import Derived.Test.YtfofaiommeckbaaGreatZPatchMakesB
import Derived.Shelf.SlIterI.Nil
import Derived.Shelf.SlIterI.Sorted
import Derived.Test.YtfofaiommeckbaaGreatZPatchMakes16
import Derived.Maps.OwnSet
import Derived.Maps.OwnOps
import Derived.Maps.Ext
open List renaming nodup_iff_pairwise_ne → dG, mergeSort_perm → dH, pairwise_mergeSort → dI
set_option linter.unusedVariables false
set_option maxRecDepth 100000
set_option maxHeartbeats 40000000
namespace Go.Proofs.YtfofaiommeckbaaGreat
open Go.RowKit
def Lr:Go.Shelf.Ren:=⟨fun|7=>125|10=>184|n=>n,fun|23=>98|26=>3|3=>52|28=>162|0=>0|27=>161|33=>106|4=>4|n=>n,fun|n=>n⟩
theorem Uu:Go.Proofs.SlLaysZI.n7 Tryz.prog Lr:= {
 mixed:=by kernel_rfl
 f7:=⟨Tryz.f125.name,by decide,Tryz.func125.trans (congrArg some (by kernel_rfl))⟩
 f10:=⟨Tryz.f184.name,by decide,Tryz.func184.trans (congrArg some (by kernel_rfl))⟩
 t0:=Tryz.underlying0
 a0:=Tryz.isAgg0
 z0:=Tryz.sizeOf0
 v0:=Tryz.zeroValue0
 t4:=Tryz.underlying4
 a4:=Tryz.isAgg4
 z4:=Tryz.sizeOf4
 v4:=Tryz.zeroValue4
 t23:=Tryz.underlying98
 a23:=Tryz.isAgg98
 z23:=Tryz.sizeOf98
 v23:=Tryz.zeroValue98
 t26:=Tryz.underlying3
 a26:=Tryz.isAgg3
 z26:=Tryz.sizeOf3
 v26:=Tryz.zeroValue3
 t27:=Tryz.underlying161
 a27:=Tryz.isAgg161
 z27:=Tryz.sizeOf161
 v27:=Tryz.zeroValue161
 t28:=Tryz.underlying162
 a28:=Tryz.isAgg162
 z28:=Tryz.sizeOf162
 v28:=Tryz.zeroValue162
 t33:=Tryz.underlying106
 a33:=Tryz.isAgg106
 z33:=Tryz.sizeOf106
 v33:=Tryz.zeroValue106}
def Ls:Go.Shelf.Ren:=⟨fun|7=>126|10=>185|n=>n,fun|23=>99|26=>3|3=>28|28=>162|0=>0|27=>161|33=>106|4=>4|n=>n,fun|n=>n⟩
theorem Uv:Go.Proofs.SlLaysZI.n7 Tryz.prog Ls:= {
 mixed:=by kernel_rfl
 f7:=⟨Tryz.f126.name,by decide,Tryz.func126.trans (congrArg some (by kernel_rfl))⟩
 f10:=⟨Tryz.f185.name,by decide,Tryz.func185.trans (congrArg some (by kernel_rfl))⟩
 t0:=Tryz.underlying0
 a0:=Tryz.isAgg0
 z0:=Tryz.sizeOf0
 v0:=Tryz.zeroValue0
 t4:=Tryz.underlying4
 a4:=Tryz.isAgg4
 z4:=Tryz.sizeOf4
 v4:=Tryz.zeroValue4
 t23:=Tryz.underlying99
 a23:=Tryz.isAgg99
 z23:=Tryz.sizeOf99
 v23:=Tryz.zeroValue99
 t26:=Tryz.underlying3
 a26:=Tryz.isAgg3
 z26:=Tryz.sizeOf3
 v26:=Tryz.zeroValue3
 t27:=Tryz.underlying161
 a27:=Tryz.isAgg161
 z27:=Tryz.sizeOf161
 v27:=Tryz.zeroValue161
 t28:=Tryz.underlying162
 a28:=Tryz.isAgg162
 z28:=Tryz.sizeOf162
 v28:=Tryz.zeroValue162
 t33:=Tryz.underlying106
 a33:=Tryz.isAgg106
 z33:=Tryz.sizeOf106
 v33:=Tryz.zeroValue106}
def Jx:Go.Shelf.Ren:=⟨fun|6=>124|8=>182|9=>183|11=>222|13=>205|12=>223|23=>243|24=>244|14=>257|15=>258|16=>259|17=>260|18=>261|19=>262|20=>263|21=>264|22=>265|25=>283|26=>275|27=>276|28=>284|29=>285|30=>206|31=>293|n=>n,fun|26=>3|28=>162|24=>48|0=>0|3=>3|37=>207|48=>231|50=>92|4=>4|40=>250|39=>249|45=>199|5=>5|9=>9|51=>277|55=>281|57=>291|58=>137|33=>106|n=>n,fun|n=>n⟩
theorem Qo:Go.Proofs.SlLaysZI.n6 Tryz.prog Jx:= {
 mixed:=by kernel_rfl
 f6:=⟨Tryz.f124.name,by decide,Tryz.func124.trans (congrArg some (by kernel_rfl))⟩
 f8:=⟨Tryz.f182.name,by decide,Tryz.func182.trans (congrArg some (by kernel_rfl))⟩
 f11:=⟨Tryz.f222.name,by decide,Tryz.func222.trans (congrArg some (by kernel_rfl))⟩
 t0:=Tryz.underlying0
 a0:=Tryz.isAgg0
 z0:=Tryz.sizeOf0
 v0:=Tryz.zeroValue0
 t24:=Tryz.underlying48
 a24:=Tryz.isAgg48
 z24:=Tryz.sizeOf48
 v24:=Tryz.zeroValue48
 t26:=Tryz.underlying3
 a26:=Tryz.isAgg3
 z26:=Tryz.sizeOf3
 v26:=Tryz.zeroValue3
 t28:=Tryz.underlying162
 a28:=Tryz.isAgg162
 z28:=Tryz.sizeOf162
 v28:=Tryz.zeroValue162
 i26:=by kernel_rfl}
open Go.Maps Go.Sort Go.Shelf
section
def rdV (v:Value):Option (DataW Value×List MemPlace):=some (.held v,[])
def inI (x:Int):Prop:= -9223372036854775808≤x∧x≤9223372036854775807
theorem Zf8 {x:Int}(h:inI x):(Lit.int .i64 x).wf=true:=by
 unfold inI at h;have e1:IntKind.i64.min= -9223372036854775808:=(by decide);have e2:IntKind.i64.max=9223372036854775807:=(by decide);simp only[Lit.wf,e1,e2,Bool.and_eq_true,decide_eq_true_eq];exact h
theorem Ww {x:Int}(h:(Lit.int .i64 x).wf=true):inI x:=by
 have e1:IntKind.i64.min= -9223372036854775808:=(by decide);have e2:IntKind.i64.max=9223372036854775807:=(by decide);simp only[Lit.wf,e1,e2,Bool.and_eq_true,decide_eq_true_eq]at h;exact h
theorem Zdy:Keyed Tryz.prog 3:=int_keyed Tryz.underlying3
theorem Yz {x:Int}(h:inI x):keyOf Tryz.prog 3 (.int .i64 x)=some (.int .i64 x):=keyOf_int_mk Tryz.underlying3 (Zf8 h)
def MapF (w:World)(b n:Nat)(F:Int→Option Value):Prop:=
 ∃D:DataW Value,w.ownsMap Tryz.prog 3 rdV b n D∧(∀x,has D (.int .i64 x)=(F x).isSome)∧∀x v z,F x=some v→D.atKey (.int .i64 x) z=.held v
theorem MapF.lt {w:World} {b n:Nat} {F:Int→Option Value}(h:MapF w b n F):b<w.heap.size:=by
 obtain⟨D,h1,_⟩:=h;exact h1.lt
theorem MapF.grown {w w':World} {b n:Nat} {F:Int→Option Value} {row:Option Nat}(h:MapF w b n F)(hg:w.grownBy w' row)(hne:some b≠row):MapF w' b n F:=by
 obtain⟨D,h1,h2⟩:=h;exact⟨D,h1.kept hg hne,h2⟩
theorem MapF.below {w w':World} {b n B:Nat} {F:Int→Option Value}(h:MapF w b n F)(hb:Below B w w')(hB:w.heap.size≤B):MapF w' b n F:=by
 have hlt:=h.lt;obtain⟨D,⟨es,clock,h0,h1⟩,h2⟩:=h;exact⟨D,⟨es,clock,(hb.block b (by omega)).trans h0,h1⟩,h2⟩
theorem MapF.alloc {w:World} {b n:Nat} {F:Int→Option Value}(h:MapF w b n F)(o:Obj):MapF (w.alloc o) b n F:=by
 obtain⟨D,h1,h2⟩:=h;exact⟨D,h1.alloc o,h2⟩
theorem MapF.drewN {w:World} {b n:Nat} {F:Int→Option Value}(h:MapF w b n F)(k:Nat):MapF (w.drewN k) b n F:=h
theorem MapF.congr {w:World} {b n:Nat} {F G:Int→Option Value}(h:MapF w b n F)(e:∀x,G x=F x):MapF w b n G:=by
 have:G=F:=funext e;rw[this];exact h
theorem MapF.made (w:World):MapF (w.alloc (.map #[] 0)) w.heap.size 0 fun _=>none:=
 ⟨.map [],World.ownsMap_made w _ _ _,fun x=>rfl,fun x v z h=>by cases h⟩
section
variable {w:World} {b n:Nat} {F:Int→Option Value} {T E:TypeId} {z:Value} {k:Int}
theorem Qp (k:Int):WideAt.IsKeyLit (.int .i64 k):=by simp[WideAt.IsKeyLit]
theorem MapF.run_getOk (h:MapF w b n F)(ht:Tryz.prog.underlying T=some (.map 3 E))(hz:(zeroValue E).run Tryz.prog w=.ok z w)(hk:inI k):
  (Instr.lookup T (.map (some b)) (.int .i64 k) true).run Tryz.prog w=.ok (.tuple #[(F k).getD z,.bool (F k).isSome]) w:=by
 obtain⟨D,h1,h2,h3⟩:=h;obtain⟨v,ps,hr,hv⟩:=h1.look_ok Zdy ht hz (zd:=.held z) (zp:=[]) rfl (Yz hk);rw[hr,h2 k];unfold rdV at hv;simp only[Option.some.injEq,Prod.mk.injEq]at hv;cases hF:F k with
 |some u=>
  rw[h3 k u _ hF]at hv;simp only[DataW.held.injEq]at hv;rw[hv.1];rfl
 |none=>
  have hn:has D (.int .i64 k)=false:=(by rw[h2,hF];rfl);rw[atKey_of_not_has hn]at hv;simp only[DataW.held.injEq]at hv;rw[hv.1];rfl
theorem MapF.run_get (h:MapF w b n F)(ht:Tryz.prog.underlying T=some (.map 3 E))(hz:(zeroValue E).run Tryz.prog w=.ok z w)(hk:inI k):
  (Instr.lookup T (.map (some b)) (.int .i64 k) false).run Tryz.prog w=.ok ((F k).getD z) w:=by
 obtain⟨D,h1,h2,h3⟩:=h;obtain⟨v,ps,hr,hv⟩:=h1.lookup Zdy ht hz (zd:=.held z) (zp:=[]) rfl (Yz hk);rw[hr];unfold rdV at hv;simp only[Option.some.injEq,Prod.mk.injEq]at hv;cases hF:F k with
 |some u=>
  rw[h3 k u _ hF]at hv;simp only[DataW.held.injEq]at hv;rw[hv.1];rfl
 |none=>
  have hn:has D (.int .i64 k)=false:=(by rw[h2,hF];rfl);rw[atKey_of_not_has hn]at hv;simp only[DataW.held.injEq]at hv;rw[hv.1];rfl
theorem MapF.run_put (h:MapF w b n F)(ht:Tryz.prog.underlying T=some (.map 3 E))(hk:inI k)(hn:n<maxLen)(v:Value):
  ∃w',(Instr.mapUpdate T (.map (some b)) (.int .i64 k) v).run Tryz.prog w=.ok () w'∧MapF w' b (n+1) (fun y=>if y=k then some v else F y)∧w.grownBy w' (some b):=by
 obtain⟨D,h1,h2,h3⟩:=h;obtain⟨w',hr,ho,hg⟩:=h1.update Zdy ht hn (Yz hk) (show rdV v=some (.held v,[])from rfl);refine⟨w',hr,⟨_,ho,fun x=> ?_,fun x u z hx=> ?_⟩,hg⟩
 ·show _=(if x=k then some v else F x).isSome
  by_cases e:x=k
  ·subst e;rw[has_put_same h1.isMap (Qp x),if_pos rfl];rfl
  ·rw[has_put_other (fun e2=>e (by cases e2;rfl)),h2,if_neg e]
 ·replace hx:(if x=k then some v else F x)=some u:=hx
  by_cases e:x=k
  ·subst e;rw[if_pos rfl]at hx;cases hx;exact atKey_put_same h1.isMap (Qp x) _ _
  ·rw[if_neg e]at hx;rw[atKey_put_other (fun e2=>e (by cases e2;rfl))];exact h3 x u z hx
end
section
variable {w:World} {ops:Array Oper} {rest:List Oper} {o:Oper} {a:Act} {Q:Exit→Act→World→Prop} {b n:Nat} {F:Int→Option Value} {T E:TypeId} {z:Value} {k:Int}
theorem In (hgd:o.guard=none) (m x y:Operand) (hop:o.op=.mapUpdate T m x y) (ht:Tryz.prog.underlying T=some (.map 3 E)) (hm:a.eval m=.map (some b)) (h:MapF w b n F) (hx:a.eval x=.int .i64 k) (hk:inI k) (hn:n<maxLen) (v:Value) (hy:a.eval y=v)
  (hK:∀w',MapF w' b (n+1) (fun y=>if y=k then some v else F y)→w.grownBy w' (some b)→wpList Tryz.prog ops Q rest (a.put o.dst undef) w'):wpList Tryz.prog ops Q (o::rest) a w:=by
 refine wpList_plain hgd fun K' hK'=> ?_;obtain⟨w',hr,ho,hg⟩:=h.run_put ht hk hn v;unfold Oper.wp;simp[execOp,hop,hm,hx,hy,hr,Result.andThen];exact hK' _ _ (hK w' ho hg)
end
def Hy (F:Int→Option Value)(K:List Int):Prop:=K.Pairwise (· < ·)∧∀x,x∈K↔(F x).isSome=true
theorem Jy {w:World} {b n:Nat} {F:Int→Option Value} {D:DataW Value}(h1:w.ownsMap Tryz.prog 3 rdV b n D)(h2:∀x,has D (.int .i64 x)=(F x).isSome):∃K,Hy F K∧K.Perm (intKeys D)∧K.length≤n:=by
 obtain⟨es,clock,h0,h3,h4,rfl⟩:=h1;obtain⟨E,hE⟩:=eX ((es.toList.map (Go.WideElems.rg Tryz.prog 3 rdV)).foldr DataW.insert []);rw[←hE]at h2⊢;have hk:∀p∈E,∃x,p.1=.int .i64 x:=by
  intro p hp;rw[hE,(Go.WideShapes.sorted_perm _).mem_iff]at hp;obtain⟨v,hv⟩:=fit_keys h3 p hp;obtain⟨a,_,e2,_⟩:=keyOf_i64 Tryz.underlying3 hv;exact⟨a,e2⟩
 have hap:E.Pairwise (fun p q=>p.1≠q.1):=by
  have:=fit_apart Zdy h3;rw[hE];exact((Go.WideShapes.sorted_perm _).pairwise_iff (fun h e=>h e.symm)).2 this
 have hl:E.length≤n:=(by rw[hE,length_sorted];simpa using h4);have hnd:(intKeys (.map E)).Nodup:=by
  show(E.map fun p=>Go.intOf p.1).Nodup;rw[dG,List.pairwise_map];refine hap.imp_of_mem fun {p q} hp hq hne e=>hne ?_;obtain⟨x,ex⟩:=hk p hp;obtain⟨y,ey⟩:=hk q hq;rw[ex,ey]at e⊢;have:x=y:=e;rw[this]
 have hmem:∀x,x∈intKeys (.map E)↔(F x).isSome=true:=by
  intro x;rw[←h2 x,has_eq,List.any_eq_true];show x∈E.map (fun p=>Go.intOf p.1)↔_;rw[List.mem_map];constructor
  ·rintro⟨p,hp,e⟩;obtain⟨y,ey⟩:=hk p hp;rw[ey]at e;have:y=x:=e;subst this;exact⟨p,hp,by rw[ey];exact WideAt.sameKey_self (Qp y)⟩
  ·rintro⟨p,hp,e⟩;have:=(WideAt.sameKey_iff (Qp x)).1 e;exact⟨p,hp,by rw[this];rfl⟩
 refine⟨Du (intKeys (.map E)),⟨?_,fun x=> ?_⟩,dH _ _,?_⟩
 ·have hs:(Du (intKeys (.map E))).Pairwise fun a b=>decide (a≤b)=true:=dI (fun a b c h1 h2=>by simp at*;omega) (fun a b=>by simp;omega) _;have hn2:(Du (intKeys (.map E))).Nodup:=(dH (intKeys (.map E)) _).nodup_iff.2 hnd;rw[dG]at hn2;exact(hs.and hn2).imp fun h=>by have h1:=of_decide_eq_true h.1;have h2:=h.2;omega
 ·rw[←hmem x];exact(dH (intKeys (.map E)) _).mem_iff
 ·rw[Qn];show(E.map _).length≤n;rw[List.length_map];exact hl
theorem Lt {F:Int→Option Value} {K L:List Int}(h1:Hy F K)(h2:Hy F L):K=L:=by
 have hp:K.Perm L:=(List.perm_ext_iff_of_nodup (by rw[dG];exact h1.1.imp fun h e=>by omega) (by rw[dG];exact h2.1.imp fun h e=>by omega)).2 fun x=>(h1.2 x).trans (h2.2 x).symm;exact List.Perm.eq_of_pairwise (le:=fun a b=>a<b) (fun a b _ _ h3 h4=>by omega) h1.1 h2.1 hp
end
theorem sortL_eq {L M:List Int}(h1:L.Perm M)(h2:M.Pairwise (· < ·)):Du L=M:=by
 have hp:(Du L).Perm M:=(dH L _).trans h1;have hs:(Du L).Pairwise fun a b=>decide (a≤b)=true:=dI (fun a b c h1 h2=>by simp at*;omega) (fun a b=>by simp;omega) L;have hm:M.Pairwise fun a b=>decide (a≤b)=true:=h2.imp fun h=>(by simp;omega);refine List.Perm.eq_of_pairwise (le:=fun a b=>decide (a≤b)=true) ?_ hs hm hp;intro a b _ _ h3 h4;simp at h3 h4;omega
theorem Za (mb:Option Nat)(w:World):
  Calls Tryz.prog 125 #[.map mb] w fun e w'=>e=.returned (.func (.func 184) #[] #[.pointer (some ⟨w.heap.size,0,none⟩)])∧w'=w.alloc (.cells #[.map mb] 98):=
 (callsIn_wide (n:=5)).1 (AnyZI.keys_in Uu Fence.wide 5 trivial rfl mb w)
theorem Zb (mb:Option Nat)(w:World):
  Calls Tryz.prog 126 #[.map mb] w fun e w'=>e=.returned (.func (.func 185) #[] #[.pointer (some ⟨w.heap.size,0,none⟩)])∧w'=w.alloc (.cells #[.map mb] 99):=
 (callsIn_wide (n:=5)).1 (AnyZI.keys_in Uv Fence.wide 5 trivial rfl mb w)
theorem Uw (m:Nat):AnyZI.SortsIn Tryz.prog Jx Fence.wide m:=
 ⟨fun blk off cap ss W hH hblk hsz=>callsIn_wide.2 (AnyM.slices_Sort_int Yy blk off cap ss W hH hblk hsz),
  fun p cap W=>callsIn_wide.2 (AnyM.slices_Sort_int_none Yy p cap W)⟩
theorem Qq {w':World} {B:Nat} {v:Value} {ss K:List Int}(h:w'.ownsRow B 3 1 v ss.length ((ss.mergeSort (fun x y=>decide (x≤y))).map encZ))(e:Du ss=K):Own w' B 3 v (ivs .i64 K):=by
 have e2:(ss.mergeSort (fun x y=>decide (x≤y))).map encZ=ivs .i64 K:=(by rw[←e];rfl);rw[e2]at h;have hl:(ivs .i64 K).length=ss.length:=(by rw[←e];simp[ivs,Qn]);unfold Own;rw[hl];exact h
theorem Sy (b n g:Nat)(F:Int→Option Value)(K:List Int)(w:World)(h:MapF w b n F)(hK:Hy F K)(hn:n≤1000000)(hg:w.cell? ⟨g,0,none⟩=some (.map (some b)))(hgl:g<w.heap.size):
  Calls Tryz.prog 124 #[.func (.func 184) #[] #[.pointer (some ⟨g,0,none⟩)]] w fun e w'=>∃v,e=.returned v∧Own w' w.heap.size 3 v (ivs .i64 K)∧Below w.heap.size w w':=by
 obtain⟨D,h1,h2,h3⟩:=h;obtain⟨K',k1,k2,k3⟩:=Jy h1 h2;obtain rfl:=Lt hK k1;have hsz:Maps.size D≤n:=h1.size_le;have hseq:SeqGives Fence.wide 2 Tryz.prog 184 #[.pointer (some ⟨g,0,none⟩)] encZ (fun ss=>ss.Perm (intKeys D)) (Maps.size D) w:=
  AnyZI.keys_gives (ρ:=Lr) {Uu with} Fence.wide _ trivial rfl (by omega) g b n D w hgl hg h1
 refine(callsIn_wide (n:=5)).1 ?_;refine(AnyZI.sorted_in Qo Fence.wide 5 trivial trivial trivial trivial rfl (by omega) (Uw _) (enters_of Tryz.func183 (by kernel_rfl) rfl) 184 #[.pointer (some ⟨g,0,none⟩)] trivial (enters_of Tryz.func184 (by kernel_rfl) rfl) _ _ (by unfold maxLen;omega) (by omega) _ hseq).mono ?_;rintro e w' ⟨v,ss,rfl,hp,hrow,_,hb⟩;exact⟨v,rfl,Qq hrow (sortL_eq (hp.trans k2.symm) k1.1),hb⟩
theorem Sz (b n g:Nat)(F:Int→Option Value)(K:List Int)(w:World)(h:MapF w b n F)(hK:Hy F K)(hn:n≤1000000)(hg:w.cell? ⟨g,0,none⟩=some (.map (some b)))(hgl:g<w.heap.size):
  Calls Tryz.prog 124 #[.func (.func 185) #[] #[.pointer (some ⟨g,0,none⟩)]] w fun e w'=>∃v,e=.returned v∧Own w' w.heap.size 3 v (ivs .i64 K)∧Below w.heap.size w w':=by
 obtain⟨D,h1,h2,h3⟩:=h;obtain⟨K',k1,k2,k3⟩:=Jy h1 h2;obtain rfl:=Lt hK k1;have hsz:Maps.size D≤n:=h1.size_le;have hseq:SeqGives Fence.wide 2 Tryz.prog 185 #[.pointer (some ⟨g,0,none⟩)] encZ (fun ss=>ss.Perm (intKeys D)) (Maps.size D) w:=
  AnyZI.keys_gives (ρ:=Ls) {Uv with} Fence.wide _ trivial rfl (by omega) g b n D w hgl hg h1
 refine(callsIn_wide (n:=5)).1 ?_;refine(AnyZI.sorted_in Qo Fence.wide 5 trivial trivial trivial trivial rfl (by omega) (Uw _) (enters_of Tryz.func183 (by kernel_rfl) rfl) 185 #[.pointer (some ⟨g,0,none⟩)] trivial (enters_of Tryz.func185 (by kernel_rfl) rfl) _ _ (by unfold maxLen;omega) (by omega) _ hseq).mono ?_;rintro e w' ⟨v,ss,rfl,hp,hrow,_,hb⟩;exact⟨v,rfl,Qq hrow (sortL_eq (hp.trans k2.symm) k1.1),hb⟩
end Go.Proofs.YtfofaiommeckbaaGreat
