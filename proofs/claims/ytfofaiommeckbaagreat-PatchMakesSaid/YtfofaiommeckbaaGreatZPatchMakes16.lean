/- The library's slices.Sort at []int: the kit's proved contract, laid at this program. -/
import Derived.Test.YtfofaiommeckbaaGreatZPatchMakesB
import Derived.Shelf.SortM.Plain
import Derived.Shelf.SortM.SortNone
import Derived.Test.YtfofaiommeckbaaGreatZPatchMakes15
import Derived.Shelf.Slices.Delete
import Derived.Sort.OwnSortedInts
open List renaming getD_eq_getElem?_getD → aH, getElem?_eq_getElem → aI
set_option linter.unusedVariables false
set_option maxRecDepth 100000
set_option maxHeartbeats 40000000
namespace Go.Proofs.YtfofaiommeckbaaGreat
open Go.RowKit
def Wv:Go.Shelf.Ren:=⟨fun|5=>183|8=>205|7=>223|19=>243|20=>244|10=>257|11=>258|12=>259|13=>260|14=>261|15=>262|16=>263|17=>264|18=>265|30=>283|31=>275|32=>276|33=>284|34=>285|35=>206|40=>293|n=>n,fun|23=>48|25=>3|3=>3|32=>207|22=>48|0=>0|44=>231|46=>92|4=>4|36=>250|35=>249|41=>199|5=>5|9=>9|53=>277|57=>281|63=>291|64=>137|n=>n,fun|n=>n⟩
theorem Yy:Go.Proofs.SlLaysM.n5 Tryz.prog Wv:= {
 mixed:=by kernel_rfl
 f5:=⟨Tryz.f183.name,by decide,Tryz.func183.trans (congrArg some (by kernel_rfl))⟩
 f7:=⟨Tryz.f223.name,by decide,Tryz.func223.trans (congrArg some (by kernel_rfl))⟩
 f8:=Tryz.func205.trans (congrArg some (by kernel_rfl))
 f10:=⟨Tryz.f257.name,by decide,Tryz.func257.trans (congrArg some (by kernel_rfl))⟩
 f11:=⟨Tryz.f258.name,by decide,Tryz.func258.trans (congrArg some (by kernel_rfl))⟩
 f12:=⟨Tryz.f259.name,by decide,Tryz.func259.trans (congrArg some (by kernel_rfl))⟩
 f13:=⟨Tryz.f260.name,by decide,Tryz.func260.trans (congrArg some (by kernel_rfl))⟩
 f14:=⟨Tryz.f261.name,by decide,Tryz.func261.trans (congrArg some (by kernel_rfl))⟩
 f15:=⟨Tryz.f262.name,by decide,Tryz.func262.trans (congrArg some (by kernel_rfl))⟩
 f16:=⟨Tryz.f263.name,by decide,Tryz.func263.trans (congrArg some (by kernel_rfl))⟩
 f17:=⟨Tryz.f264.name,by decide,Tryz.func264.trans (congrArg some (by kernel_rfl))⟩
 f18:=⟨Tryz.f265.name,by decide,Tryz.func265.trans (congrArg some (by kernel_rfl))⟩
 f19:=Tryz.func243.trans (congrArg some (by kernel_rfl))
 f20:=Tryz.func244.trans (congrArg some (by kernel_rfl))
 f30:=⟨Tryz.f283.name,by decide,Tryz.func283.trans (congrArg some (by kernel_rfl))⟩
 f31:=Tryz.func275.trans (congrArg some (by kernel_rfl))
 f32:=Tryz.func276.trans (congrArg some (by kernel_rfl))
 f33:=⟨Tryz.f284.name,by decide,Tryz.func284.trans (congrArg some (by kernel_rfl))⟩
 f34:=⟨Tryz.f285.name,by decide,Tryz.func285.trans (congrArg some (by kernel_rfl))⟩
 f35:=⟨Tryz.f206.name,by decide,Tryz.func206.trans (congrArg some (by kernel_rfl))⟩
 f40:=⟨Tryz.f293.name,by decide,Tryz.func293.trans (congrArg some (by kernel_rfl))⟩
 t0:=Tryz.underlying0
 a0:=Tryz.isAgg0
 z0:=Tryz.sizeOf0
 v0:=Tryz.zeroValue0
 t3:=Tryz.underlying3
 a3:=Tryz.isAgg3
 z3:=Tryz.sizeOf3
 v3:=Tryz.zeroValue3
 t4:=Tryz.underlying4
 a4:=Tryz.isAgg4
 z4:=Tryz.sizeOf4
 v4:=Tryz.zeroValue4
 t5:=Tryz.underlying5
 a5:=Tryz.isAgg5
 z5:=Tryz.sizeOf5
 v5:=Tryz.zeroValue5
 t9:=Tryz.underlying9
 a9:=Tryz.isAgg9
 z9:=Tryz.sizeOf9
 v9:=Tryz.zeroValue9
 t22:=Tryz.underlying48
 a22:=Tryz.isAgg48
 z22:=Tryz.sizeOf48
 v22:=Tryz.zeroValue48
 t23:=Tryz.underlying48
 a23:=Tryz.isAgg48
 z23:=Tryz.sizeOf48
 v23:=Tryz.zeroValue48
 t25:=Tryz.underlying3
 a25:=Tryz.isAgg3
 z25:=Tryz.sizeOf3
 v25:=Tryz.zeroValue3
 t32:=Tryz.underlying207
 a32:=Tryz.isAgg207
 z32:=Tryz.sizeOf207
 v32:=Tryz.zeroValue207
 t35:=Tryz.underlying249
 a35:=Tryz.isAgg249
 z35:=Tryz.sizeOf249
 v35:=Tryz.zeroValue249
 t36:=Tryz.underlying250
 a36:=Tryz.isAgg250
 z36:=Tryz.sizeOf250
 v36:=Tryz.zeroValue250
 t41:=Tryz.underlying199
 a41:=Tryz.isAgg199
 z41:=Tryz.sizeOf199
 v41:=Tryz.zeroValue199
 t44:=Tryz.underlying231
 a44:=Tryz.isAgg231
 z44:=Tryz.sizeOf231
 v44:=Tryz.zeroValue231
 t46:=Tryz.underlying92
 a46:=Tryz.isAgg92
 z46:=Tryz.sizeOf92
 v46:=Tryz.zeroValue92
 t53:=Tryz.underlying277
 a53:=Tryz.isAgg277
 z53:=Tryz.sizeOf277
 v53:=Tryz.zeroValue277
 t57:=Tryz.underlying281
 a57:=Tryz.isAgg281
 z57:=Tryz.sizeOf281
 v57:=Tryz.zeroValue281
 t63:=Tryz.underlying291
 a63:=Tryz.isAgg291
 z63:=Tryz.sizeOf291
 v63:=Tryz.zeroValue291
 t64:=Tryz.underlying137
 a64:=Tryz.isAgg137
 z64:=Tryz.sizeOf137
 v64:=Tryz.zeroValue137}
open Go.Sort
def Du (L:List Int):List Int:=L.mergeSort fun x y=>decide (x≤y)
theorem Qn (L:List Int):(Du L).length=L.length:=List.length_mergeSort L
theorem Zf7 {L M:List Int} {i:Nat}(h:L.getD i 0≠M.getD i 0):decide (L=M)=false:=decide_eq_false fun e=>h (by rw[e])
theorem Zer {L M:List Int}(hl:L.length=M.length)(h:∀j,j<L.length→L.getD j 0=M.getD j 0):decide (L=M)=true:=by
 refine decide_eq_true (List.ext_getElem hl fun i h1 h2=> ?_);have:=h i h1
 rwa [aH,aH,aI h1,aI h2]at this
theorem Ox (v1 v2:Value)(L M:List Int)(w:World)(h1:Rd w v1 (ivs .i64 L))(h2:Rd w v2 (ivs .i64 M))(hl:L.length≤1000000)(hm:M.length≤1000000):
  Calls Tryz.prog 152 #[v1,v2] w fun e w'=>e=.returned (.bool (decide (L=M)))∧∃n,w'=w.drewN n:=by
 obtain⟨a1,k1,rfl⟩:∃a c,v1=.slice a L.length c:=(by obtain⟨a,c,e,_⟩:=h1;rw[show(ivs .i64 L).length=L.length by simp[ivs]]at e;exact⟨a,c,e⟩);obtain⟨a2,k2,rfl⟩:∃a c,v2=.slice a M.length c:=(by obtain⟨a,c,e,_⟩:=h2;rw[show(ivs .i64 M).length=M.length by simp[ivs]]at e;exact⟨a,c,e⟩);have G1:=fun(i:Nat) (hi:i<L.length)=>h1.at3 (u:=.int .i64 (L.getD i 0)) (r:=i) (by simp[ivs,aH,hi]);have G2:=fun(i:Nat) (hi:i<M.length)=>h2.at3 (u:=.int .i64 (M.getD i 0)) (r:=i) (by simp[ivs,aH,hi])
 by_cases hlm:L.length=M.length
 ·have NO:=fun(i:Nat) (h:L.getD i 0≠M.getD i 0)=>Zf7 h;have YES:=fun(h:∀j,j<L.length→L.getD j 0=M.getD j 0)=>Zer hlm h;obtain⟨R,hR⟩:=eX (decide (L=M));rw[←hR]at NO YES⊢;obtain⟨n,hn⟩:=eX L.length;rw[←hlm]at G2⊢;rw[←hn]at G1 G2 hl YES⊢;obtain⟨X,hX⟩:∃X:Nat→Int,X=fun i=>L.getD i 0:=⟨_,rfl⟩;obtain⟨Y,hY⟩:∃X:Nat→Int,X=fun i=>M.getD i 0:=⟨_,rfl⟩;have hX':∀i,L.getD i 0=X i:=fun i=>(by rw[hX]);have hY':∀i,M.getD i 0=Y i:=fun i=>(by rw[hY]);simp only[hX',hY']at G1 G2 NO YES;have HG1:=Hd G1;have HG2:=Hd G2;have HNO:=Hd NO;have HYES:=Hd YES;clear G1 G2 h1 h2 hn NO YES hX hY hX' hY' hR hlm hm;go_enter Tryz.func152,Tryz.ntmps152;go_wp2_with fail
  go_loopg [13] n (fun q iv wr=>∃i m:Nat,i+q=n∧iv=.int .i64 (i:Nat)∧wr=w.drewN m∧∀j,j<i→X j=Y j)
  case atStart=>exact⟨0,0,by omega,rfl,rfl,fun j hj=>by omega⟩
  case round=>
   obtain⟨i,m,hi,rfl,rfl,hj⟩:=hrel;have HI:=Hd hi;have HJ:=Hd hj;clear hj
   by_cases hlt:i<n
   ·have hlt':decide (i<n)=true:=decide_eq_true hlt;have hltI:(i:Int)<(n:Int):=(by omega);obtain⟨b1,o1,e1,hl1,q1⟩:=HG1.out i hlt;obtain⟨b2,o2,e2,hl2,q2⟩:=HG2.out i hlt;obtain⟨u,hu⟩:=eX (X i);obtain⟨u',hu'⟩:∃u,u=Y i:=⟨_,rfl⟩;rw[←hu]at q1;rw[←hu']at q2;subst e1 e2;have HU:=Hd hu;have HU':=Hd hu';clear hi hu hu'
    by_cases e:u=u'
    ·subst e;go_wp2
     go_quiet (fail)
     go_wp2;go_roundg (gk-1);case measure=>have:=HI.out;omega
     case rel=>
      refine⟨i+1,_,by have:=HI.out;omega,by go_num,rfl,fun j hj=> ?_⟩
      by_cases e:j=i
      ·rw[e,←HU.out];exact HU'.out
      ·exact HJ.out j (by omega)
    ·have HN:=Hd (HNO.out i (by rw[←HU.out,←HU'.out];exact e));have hne:(u==u')=false:=(by rw[beq_eq_false_iff_ne];exact e);have hne2:(u !=u')=true:=(by rw[bne,hne];rfl);go_wp2
     go_quiet (fail)
     go_wp2;go_ret;exact⟨by rw[HN.out];rfl,m+nq,by simp[World.drewN,Nat.add_assoc]⟩
   ·obtain rfl:i=n:=(by omega);have hlt':decide (i<i)=false:=decide_eq_false hlt;have HY:=Hd (HYES.out HJ.out);clear hi hlt;go_wp2_with fail;go_ret;exact⟨by rw[HY.out];rfl,_,rfl⟩
 ·have hne:decide (L=M)=false:=decide_eq_false fun e=>hlm (by rw[e]);rw[hne];obtain⟨n,hn⟩:=eX L.length;obtain⟨m,hm'⟩:∃n,n=M.length:=⟨_,rfl⟩;rw[←hn,←hm']at hlm⊢;have h1:¬((n:Int)=(m:Int)):=(by omega);have h2:((n:Int)==(m:Int))=false:=(by rw[beq_eq_false_iff_ne];exact h1);have h3:((n:Int) !=(m:Int))=true:=(by rw[bne,h2];rfl);clear G1 G2 hn hm' hne hl hm;go_enter Tryz.func152,Tryz.ntmps152;go_wp2_with fail;go_ret;exact⟨rfl,0,rfl⟩
end Go.Proofs.YtfofaiommeckbaaGreat
