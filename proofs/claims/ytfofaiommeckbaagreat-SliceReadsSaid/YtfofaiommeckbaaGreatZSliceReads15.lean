/- Walks: cmp.Less, slices.BinarySearch of rising numbers. -/
import Derived.Test.YtfofaiommeckbaaGreatZSliceReadsB
import Derived.Test.YtfofaiommeckbaaGreatZSliceReads14
open List renaming getD_eq_getElem?_getD → aH, getElem?_eq_getElem → aI, getElem_mem → aJ, getElem_of_mem → cQ, any_eq_true → bQ
set_option linter.unusedVariables false
set_option maxRecDepth 100000
set_option maxHeartbeats 40000000
namespace Go.Proofs.YtfofaiommeckbaaGreat
open Go.RowKit WalkM
theorem Zko {v:Value} {a b:Bool}(h:a=b):Ending.returned (.tuple #[v,.bool b])=.returned (.tuple #[v,.bool a]):=by rw[h]
theorem Ze0 (x:Int)(w:World):Calls Tryz.prog 206 #[.int .i64 x] w fun e w'=>e=.returned (.bool false)∧w'=w:=by
 have h:(x !=x)=false:=(by rw[bne_eq_false_iff_eq]);go_enter Tryz.func206,Tryz.ntmps206;go_wp2_with fail;go_ret;exact⟨rfl,rfl⟩
theorem Ze1 (x:Int)(w:World):Calls Tryz.prog 289 #[.int .i64 x] w fun e w'=>e=.returned (.bool false)∧w'=w:=by
 have h:(x !=x)=false:=(by rw[bne_eq_false_iff_eq]);go_enter Tryz.func289,Tryz.ntmps289;go_wp2_with fail;go_ret;exact⟨rfl,rfl⟩
theorem Za7 (x y:Int)(w:World):Calls Tryz.prog 263 #[.int .i64 x,.int .i64 y] w fun e w'=>e=.returned (.bool (decide (x<y)))∧w'=w:=by
 obtain⟨b,hb⟩:∃b,decide (x<y)=b:=⟨_,rfl⟩;rw[hb];go_enter Tryz.func263,Tryz.ntmps263;go_wp2_with fail;refine(Ze0 x w).mono ?_;rintro e w' ⟨rfl,rfl⟩;go_wp2_with fail;go_ret;exact⟨rfl,rfl⟩
def Zjl (L:List Int):Prop:=∀i j,i<j→j<L.length→L.getD i 0<L.getD j 0
theorem Uh (v:Value)(L:List Int)(x:Int)(w:World)(h:Rd w v (ivs .i64 L))(hs:Zjl L)(hl:L.length≤1000000):
  Calls Tryz.prog 270 #[v,.int .i64 x] w fun e w'=>∃p:Nat,e=.returned (.tuple #[.int .i64 (p:Nat),.bool (decide (x∈L))])∧p≤L.length∧(∀k,k<p→L.getD k 0<x)∧(∀k,p≤k→k<L.length→x≤L.getD k 0)∧w'=w:=by
 have hv:∃a c,v=.slice a L.length c:=(by obtain⟨a,c,e,h1,h2,_⟩:=h;exact⟨a,c,by rw[e];simp[ivs]⟩);obtain⟨a,c,rfl⟩:=hv;have G:=fun(i:Nat) (hi:i<L.length)=>h.at3 (u:=.int .i64 (L.getD i 0)) (r:=i) (by simp[ivs,aH,hi]);have hs2:∀i j,i≤j→j<L.length→L.getD i 0≤L.getD j 0:=by
  intro i j hij hj
  by_cases e:i=j
  ·rw[e];exact Int.le_refl _
  ·exact Int.le_of_lt (hs i j (by omega) hj)
 have M1:=fun(i:Nat) (hi:i<L.length) (e:L.getD i 0=x)=>(show decide (x∈L)=true from decide_eq_true (by
  rw[aH,aI hi]at e;have:L[i]=x:=e;rw[←this];exact aJ hi))
 have M2:=fun(hno:∀i,i<L.length→L.getD i 0≠x)=>(show decide (x∈L)=false from decide_eq_false (fun hm=>by
  obtain⟨i,hi,e⟩:=cQ hm;exact hno i hi (by rw[aH,aI hi];exact e)))
 obtain⟨n,hn⟩:=eX L.length;obtain⟨R,hR⟩:=eX (decide (x∈L));rw[←hn]at G M1 M2 hs2 hl;simp only[←hn];rw[←hR]at M1 M2⊢;have HG:=Hd G;have HM1:=Hd M1;have HM2:=Hd M2;have HS2:=Hd hs2;clear G M1 M2 h hn hR hs hs2;go_enter Tryz.func270,Tryz.ntmps270;go_wp2_with fail
 go_loopg [7,8] n (fun q iv jv wr=>∃i j:Nat,i+q=j∧j≤n∧iv=.int .i64 (i:Nat)∧jv=.int .i64 (j:Nat)∧(∀k,k<i→L.getD k 0<x)∧(∀k,j≤k→k<n→x≤L.getD k 0)∧wr=w)
 case atStart=>exact⟨0,n,by omega,lR,rfl,rfl,fun k hk=>by omega,fun k h1 h2=>by omega,rfl⟩
 case round=>
  obtain⟨i,j,hij,hjn,rfl,rfl,hlo,hhi,rfl⟩:=hrel;have HIJ:=Hd hij;have HLO:=Hd hlo;have HHI:=Hd hhi;clear hij hlo hhi
  by_cases hlt:i<j
  ·have hlt':decide (i<j)=true:=decide_eq_true hlt;obtain⟨m,hm⟩:=eX ((i+j)/2);obtain⟨s,hs⟩:=eX (i+j);have e1:(i:Int)+(j:Int)=(s:Int):=(by omega);have e2:IntKind.u64.wrap (s:Int)=(s:Int):=(by rw[IntKind.wrap_u64];omega);have e3:(s:Int)/2=(m:Int):=(by omega);have e4:IntKind.i64.wrap (m:Int)=(m:Int):=(by rw[IntKind.wrap_i64];omega);have hmn:m<n:=(by omega);obtain⟨b,off,rfl,hbl,hcell⟩:=HG.out m hmn;obtain⟨y,hy⟩:=eX (L.getD m 0);rw[←hy]at hcell;have HY:=Hd hy;have HMM:=Hd hm;have HSS:=Hd hs;have CL:=Za7 y x wr
   by_cases hyx:y<x
   ·rw[decide_eq_true hyx]at CL;have HCL:=Hd CL;have HYX:=Hd hyx;clear hy hm hs CL hyx;go_wp2_with fail;refine(HCL.out).mono ?_;rintro e w' ⟨rfl,rfl⟩;go_wp2_with fail;go_roundg (j-(m+1));case measure=>have:=HIJ.out;have:=HMM.out;omega
    case rel=>
     refine⟨m+1,j,by have:=HMM.out;omega,hjn,by go_num,rfl,fun k hk=> ?_,HHI.out,rfl⟩;have:=HS2.out k m (by omega) hmn;have:=HYX.out;rw[HY.out]at this;omega
   ·rw[decide_eq_false hyx]at CL;have HCL:=Hd CL;have HYX:=Hd hyx;clear hy hm hs CL hyx;go_wp2_with fail;refine(HCL.out).mono ?_;rintro e w' ⟨rfl,rfl⟩;go_wp2_with fail;go_roundg (m-i);case measure=>have:=HIJ.out;have:=HMM.out;omega
    case rel=>
     refine⟨i,m,by have:=HMM.out;omega,by omega,rfl,rfl,HLO.out,fun k h1 h2=> ?_,rfl⟩;have:=HS2.out m k h1 h2;have:=HYX.out;rw[HY.out]at this;omega
  ·have hlt':decide (i<j)=false:=decide_eq_false hlt
   by_cases hin:i<n
   ·have hin':decide (i<n)=true:=decide_eq_true hin;obtain⟨b,off,rfl,hbl,hcell⟩:=HG.out i hin;obtain⟨y,hy⟩:=eX (L.getD i 0);rw[←hy]at hcell;have HY:=Hd hy;clear hy
    by_cases he:y=x
    ·have hq:(y==x)=true:=(by rw[beq_iff_eq];exact he);have HF:=Hd (HM1.out i hin (by rw[←HY.out];exact he));clear he;go_wp2_with fail;go_ret2;exact⟨i,Zko HF.out,by have:=HIJ.out;omega,HLO.out,fun k h1 h2=>HHI.out k (by omega) h2,rfl⟩
    ·have hq:(y==x)=false:=(by rw[beq_eq_false_iff_ne];exact he);have HF:=Hd (HM2.out (fun k hk e=>by
      by_cases h1:k<i
      ·have:=HLO.out k h1;omega
      ·by_cases h2:k=i
       ·rw[h2]at e;exact he (HY.out.trans e)
       ·have h3:=HS2.out i k (by omega) hk;have h4:=HHI.out i (by omega) hin;have:=HY.out
        omega))
     clear he;have N1:=Hd (Ze1 y wr);go_wp2_with fail;refine(N1.out).mono ?_;rintro e w' ⟨rfl,rfl⟩;go_wp2_with fail;go_ret2;exact⟨i,Zko HF.out,by have:=HIJ.out;omega,HLO.out,fun k h1 h2=>HHI.out k (by omega) h2,rfl⟩
   ·have hin':decide (i<n)=false:=decide_eq_false hin;have HF:=Hd (HM2.out (fun k hk e=>by have:=HLO.out k (by omega);omega));go_wp2_with fail;go_ret2;exact⟨i,Zko HF.out,by have:=HIJ.out;omega,HLO.out,fun k h1 h2=>HHI.out k (by omega) h2,rfl⟩
def Jh (L:List Int)(x:Int):Bool:=L.any fun u=>Bt (2*u) x
theorem Ws {L:List Int} {p:Int→Bool} {i:Nat}(hi:i<L.length)(h:p (L.getD i 0)=true):L.any p=true:=by
 rw[bQ];refine⟨L.getD i 0,?_,h⟩;rw[aH,aI hi];exact aJ hi
theorem Za8 {L:List Int} {p:Int→Bool}(h:∀i,i<L.length→p (L.getD i 0)=false):L.any p=false:=by
 rw[List.any_eq_false];intro u hu;obtain⟨i,hi,rfl⟩:=cQ hu;have:=h i hi;rw[aH,aI hi]at this;show¬p L[i]=true;have e:p L[i]=false:=this;rw[e];simp
theorem Ze2 (u x:Int)(g:Nat)(w:World)(hx:w.cell? ⟨g,0,none⟩=some (.int .i64 x))(hu:0≤u∧u<1000000):
  Calls Tryz.prog 230 #[.int .i64 u,.pointer (some ⟨g,0,none⟩)] w fun e w'=>e=.returned (.bool (Bt (2*u) x))∧w'=w:=by
 have HU:=Hd (Cm (2*u) x w);obtain⟨b,hb⟩:=eX (Bt (2*u) x);rw[←hb]at HU⊢;clear hb;have hw:wrap64 (2*u)=2*u:=(by unfold wrap64;omega);go_enter Tryz.func230,Tryz.ntmps230;go_wp2_with fail;refine HU.out.mono ?_;rintro e w' ⟨rfl,rfl⟩;go_wp2_with fail;go_ret;exact⟨rfl,rfl⟩
theorem Ze3 (v:Value)(L:List Int)(x:Int)(g:Nat)(w:World)(h:Rd w v (ivs .i64 L))(hx:w.cell? ⟨g,0,none⟩=some (.int .i64 x))(hL:∀u∈L,0≤u∧u<1000000)(hl:L.length≤1000000):
  Calls Tryz.prog 256 #[v,.func (.func 230) #[] #[.pointer (some ⟨g,0,none⟩)]] w fun e w'=>w'=w∧∃r:Int,e=.returned (.int .i64 r)∧decide (r≥0)=L.any (fun u=>(Bt (2*u) x)):=by
 obtain⟨a,cp,rfl⟩:∃a cp,v=.slice a L.length cp:=(by obtain⟨a,cp,e,_⟩:=h;rw[show(ivs .i64 L).length=L.length by simp[ivs]]at e;exact⟨a,cp,e⟩);have AT:=fun(r:Nat) (hr:r<L.length)=>h.at3 (u:=.int .i64 (L.getD r 0)) (r:=r) (by simp[ivs,aH,hr]);have CC:=fun(r:Nat) (hr:r<L.length)=>Ze2 (L.getD r 0) x g w hx (hL _ (by rw[aH,aI hr];exact aJ hr));have YES:=fun(i:Nat) (hi:i<L.length) (h:(fun u=>(Bt (2*u) x)) (L.getD i 0)=true)=>Ws (p:=fun u=>(Bt (2*u) x)) hi h;have NO:=fun(h:∀i,i<L.length→(fun u=>(Bt (2*u) x)) (L.getD i 0)=false)=>Za8 (p:=fun u=>(Bt (2*u) x)) h;obtain⟨U,hU⟩:∃U:Nat→Int,U=fun r=>L.getD r 0:=⟨_,rfl⟩;have hU2:∀r,L.getD r 0=U r:=fun r=>(by rw[hU]);simp only[hU2]at AT CC YES NO;obtain⟨PF,hPF⟩:∃f:Int→Bool,f=fun u=>(Bt (2*u) x):=⟨_,rfl⟩;have hPF2:∀u:Int,(Bt (2*u) x)=PF u:=fun u=>(by rw[hPF]);obtain⟨R,hR⟩:=eX (L.any (fun u=>(Bt (2*u) x)));rw[←hR]at YES NO⊢;simp only[hPF2]at CC YES NO;obtain⟨k,hkk⟩:=eX L.length;rw[←hkk]at AT CC hl YES NO⊢;have HAT:=Hd AT;have HCC:=Hd CC;have HYES:=Hd YES;have HNO:=Hd NO;clear AT CC YES NO hkk h hx hU hU2 hL hPF hPF2 hR;go_enter Tryz.func256,Tryz.ntmps256;go_wp2_with fail
 go_loopg [8] k (fun q iv wr=>∃r:Nat,r+q=k∧iv=.int .i64 (r:Nat)∧(∀i,i<r→PF (U i)=false)∧wr=w)
 case atStart=>exact⟨0,by omega,rfl,fun i hi=>by omega,rfl⟩
 case round=>
  obtain⟨r,hr,rfl,hsm,rfl⟩:=hrel;have HR:=Hd hr;have HM:=Hd hsm;clear hr hsm
  by_cases hlt:r<k
  ·have hlt':decide (r<k)=true:=decide_eq_true hlt;obtain⟨b,off,rfl,hbl,cu⟩:=HAT.out r hlt;have C1:=HCC.out r hlt;obtain⟨u,hu⟩:=eX (U r);rw[←hu]at cu C1;obtain⟨bb,hbb⟩:=eX (PF u);rw[←hbb]at C1;have HC1:=Hd C1;have HUB:=Hd (show PF (U r)=bb by rw[hbb,hu]);clear C1 hbb hu;cases bb with
   |true=>
    have HY:=Hd (HYES.out r hlt HUB.out);go_wp2_with fail;refine(HC1.out).mono ?_;rintro e w2 ⟨rfl,rfl⟩;go_wp2_with fail;go_ret;exact⟨rfl,_,rfl,by rw[HY.out];simp⟩
   |false=>
    go_wp2_with fail;refine(HC1.out).mono ?_;rintro e w2 ⟨rfl,rfl⟩;go_wp2_with fail;go_roundg (gk-1);case measure=>have:=HR.out;omega
    case rel=>
     refine⟨r+1,by have:=HR.out;omega,by go_num,fun i hi=> ?_,rfl⟩
     by_cases e:i=r
     ·rw[e];exact HUB.out
     ·exact HM.out i (by omega)
  ·obtain rfl:r=k:=(by have:=HR.out;omega);have hlt':decide (r<r)=false:=decide_eq_false hlt;have HF:=Hd (HNO.out HM.out);go_wp2_with fail;go_ret;exact⟨rfl,_,rfl,by rw[HF.out];simp⟩
theorem Ze4 (v:Value)(L:List Int)(x:Int)(g:Nat)(w:World)(h:Rd w v (ivs .i64 L))(hx:w.cell? ⟨g,0,none⟩=some (.int .i64 x))(hL:∀u∈L,0≤u∧u<1000000)(hl:L.length≤1000000):
  Calls Tryz.prog 220 #[v,.func (.func 230) #[] #[.pointer (some ⟨g,0,none⟩)]] w fun e w'=>e=.returned (.bool (L.any fun u=>(Bt (2*u) x)))∧w'=w:=by
 have HI:=Hd (Ze3 v L x g w h hx hL hl);obtain⟨R,hR⟩:=eX (L.any (fun u=>(Bt (2*u) x)));rw[←hR]at HI⊢;obtain⟨a,n,cp,rfl⟩:∃a n cp,v=.slice a n cp:=(by obtain⟨a,cp,e,_⟩:=h;exact⟨_,_,_,e⟩);clear h hx hL hR;go_enter Tryz.func220,Tryz.ntmps220;go_wp2_with fail;refine HI.out.mono ?_;rintro e w' ⟨rfl,r,rfl,hr⟩
 by_cases hp:0≤r
 ·have hd:decide (0≤r)=true:=decide_eq_true hp;have HD:=Hd hr;clear hr;go_wp2_with fail;go_ret;exact⟨by rw[←HD.out];simpa using hp,rfl⟩
 ·have hd:decide (0≤r)=false:=decide_eq_false hp;have HD:=Hd hr;clear hr;go_wp2_with fail;go_ret;exact⟨by rw[←HD.out];simpa using hp,rfl⟩
theorem Za9 (u x:Int)(g:Nat)(w:World)(hx:w.cell? ⟨g,0,none⟩=some (.int .i64 x))(hu:0≤u∧u<1000000):
  Calls Tryz.prog 221 #[.int .i64 u,.pointer (some ⟨g,0,none⟩)] w fun e w'=>e=.returned (.bool (!Bt (2*u) x))∧w'=w:=by
 have HU:=Hd (Cm (2*u) x w);obtain⟨b,hb⟩:=eX (Bt (2*u) x);rw[←hb]at HU⊢;clear hb;have hw:wrap64 (2*u)=2*u:=(by unfold wrap64;omega);go_enter Tryz.func221,Tryz.ntmps221;go_wp2_with fail;refine HU.out.mono ?_;rintro e w' ⟨rfl,rfl⟩;go_wp2_with fail;go_ret;exact⟨rfl,rfl⟩
theorem Zba (v:Value)(L:List Int)(x:Int)(g:Nat)(w:World)(h:Rd w v (ivs .i64 L))(hx:w.cell? ⟨g,0,none⟩=some (.int .i64 x))(hL:∀u∈L,0≤u∧u<1000000)(hl:L.length≤1000000):
  Calls Tryz.prog 256 #[v,.func (.func 221) #[] #[.pointer (some ⟨g,0,none⟩)]] w fun e w'=>w'=w∧∃r:Int,e=.returned (.int .i64 r)∧decide (r≥0)=L.any (fun u=>(!Bt (2*u) x)):=by
 obtain⟨a,cp,rfl⟩:∃a cp,v=.slice a L.length cp:=(by obtain⟨a,cp,e,_⟩:=h;rw[show(ivs .i64 L).length=L.length by simp[ivs]]at e;exact⟨a,cp,e⟩);have AT:=fun(r:Nat) (hr:r<L.length)=>h.at3 (u:=.int .i64 (L.getD r 0)) (r:=r) (by simp[ivs,aH,hr]);have CC:=fun(r:Nat) (hr:r<L.length)=>Za9 (L.getD r 0) x g w hx (hL _ (by rw[aH,aI hr];exact aJ hr));have YES:=fun(i:Nat) (hi:i<L.length) (h:(fun u=>(!Bt (2*u) x)) (L.getD i 0)=true)=>Ws (p:=fun u=>(!Bt (2*u) x)) hi h;have NO:=fun(h:∀i,i<L.length→(fun u=>(!Bt (2*u) x)) (L.getD i 0)=false)=>Za8 (p:=fun u=>(!Bt (2*u) x)) h;obtain⟨U,hU⟩:∃U:Nat→Int,U=fun r=>L.getD r 0:=⟨_,rfl⟩;have hU2:∀r,L.getD r 0=U r:=fun r=>(by rw[hU]);simp only[hU2]at AT CC YES NO;obtain⟨PF,hPF⟩:∃f:Int→Bool,f=fun u=>(!Bt (2*u) x):=⟨_,rfl⟩;have hPF2:∀u:Int,(!Bt (2*u) x)=PF u:=fun u=>(by rw[hPF]);obtain⟨R,hR⟩:=eX (L.any (fun u=>(!Bt (2*u) x)));rw[←hR]at YES NO⊢;simp only[hPF2]at CC YES NO;obtain⟨k,hkk⟩:=eX L.length;rw[←hkk]at AT CC hl YES NO⊢;have HAT:=Hd AT;have HCC:=Hd CC;have HYES:=Hd YES;have HNO:=Hd NO;clear AT CC YES NO hkk h hx hU hU2 hL hPF hPF2 hR;go_enter Tryz.func256,Tryz.ntmps256;go_wp2_with fail
 go_loopg [8] k (fun q iv wr=>∃r:Nat,r+q=k∧iv=.int .i64 (r:Nat)∧(∀i,i<r→PF (U i)=false)∧wr=w)
 case atStart=>exact⟨0,by omega,rfl,fun i hi=>by omega,rfl⟩
 case round=>
  obtain⟨r,hr,rfl,hsm,rfl⟩:=hrel;have HR:=Hd hr;have HM:=Hd hsm;clear hr hsm
  by_cases hlt:r<k
  ·have hlt':decide (r<k)=true:=decide_eq_true hlt;obtain⟨b,off,rfl,hbl,cu⟩:=HAT.out r hlt;have C1:=HCC.out r hlt;obtain⟨u,hu⟩:=eX (U r);rw[←hu]at cu C1;obtain⟨bb,hbb⟩:=eX (PF u);rw[←hbb]at C1;have HC1:=Hd C1;have HUB:=Hd (show PF (U r)=bb by rw[hbb,hu]);clear C1 hbb hu;cases bb with
   |true=>
    have HY:=Hd (HYES.out r hlt HUB.out);go_wp2_with fail;refine(HC1.out).mono ?_;rintro e w2 ⟨rfl,rfl⟩;go_wp2_with fail;go_ret;exact⟨rfl,_,rfl,by rw[HY.out];simp⟩
   |false=>
    go_wp2_with fail;refine(HC1.out).mono ?_;rintro e w2 ⟨rfl,rfl⟩;go_wp2_with fail;go_roundg (gk-1);case measure=>have:=HR.out;omega
    case rel=>
     refine⟨r+1,by have:=HR.out;omega,by go_num,fun i hi=> ?_,rfl⟩
     by_cases e:i=r
     ·rw[e];exact HUB.out
     ·exact HM.out i (by omega)
  ·obtain rfl:r=k:=(by have:=HR.out;omega);have hlt':decide (r<r)=false:=decide_eq_false hlt;have HF:=Hd (HNO.out HM.out);go_wp2_with fail;go_ret;exact⟨rfl,_,rfl,by rw[HF.out];simp⟩
theorem Zbb (v:Value)(L:List Int)(x:Int)(g:Nat)(w:World)(h:Rd w v (ivs .i64 L))(hx:w.cell? ⟨g,0,none⟩=some (.int .i64 x))(hL:∀u∈L,0≤u∧u<1000000)(hl:L.length≤1000000):
  Calls Tryz.prog 220 #[v,.func (.func 221) #[] #[.pointer (some ⟨g,0,none⟩)]] w fun e w'=>e=.returned (.bool (L.any fun u=>(!Bt (2*u) x)))∧w'=w:=by
 have HI:=Hd (Zba v L x g w h hx hL hl);obtain⟨R,hR⟩:=eX (L.any (fun u=>(!Bt (2*u) x)));rw[←hR]at HI⊢;obtain⟨a,n,cp,rfl⟩:∃a n cp,v=.slice a n cp:=(by obtain⟨a,cp,e,_⟩:=h;exact⟨_,_,_,e⟩);clear h hx hL hR;go_enter Tryz.func220,Tryz.ntmps220;go_wp2_with fail;refine HI.out.mono ?_;rintro e w' ⟨rfl,r,rfl,hr⟩
 by_cases hp:0≤r
 ·have hd:decide (0≤r)=true:=decide_eq_true hp;have HD:=Hd hr;clear hr;go_wp2_with fail;go_ret;exact⟨by rw[←HD.out];simpa using hp,rfl⟩
 ·have hd:decide (0≤r)=false:=decide_eq_false hp;have HD:=Hd hr;clear hr;go_wp2_with fail;go_ret;exact⟨by rw[←HD.out];simpa using hp,rfl⟩
theorem Gf (v:Value)(L:List Int)(x:Int)(w:World)(h:Rd w v (ivs .i64 L))(hL:∀u∈L,0≤u∧u<1000000)(hl:L.length≤1000000):
  Calls Tryz.prog 193 #[v,.int .i64 x] w fun e w'=>e=.returned (.bool (Jh L x))∧Below w.heap.size w w':=by
 have hb:=(Below.refl w.heap.size w).alloc lR (.cells #[.int .i64 x] 3);have HC:=Hd (Ze4 v L x w.heap.size (w.alloc (.cells #[.int .i64 x] 3)) (h.below hb lR) (Ar rfl) hL hl);have HB:=Hd hb;obtain⟨R,hR⟩:=eX (Jh L x);unfold Jh at hR;rw[←hR]at HC;show Calls Tryz.prog 193 #[v,.int .i64 x] w fun e w'=>e=.returned (.bool (Jh L x))∧Below w.heap.size w w';unfold Jh;rw[←hR];obtain⟨a,n,cp,rfl⟩:∃a n cp,v=.slice a n cp:=(by obtain⟨a,cp,e,_⟩:=h;exact⟨_,_,_,e⟩);clear h hL hR hb;go_enter Tryz.func193,Tryz.ntmps193;go_wp2_with fail;refine HC.out.mono ?_;rintro e w' ⟨rfl,rfl⟩;go_wp2_with fail;go_ret;exact⟨rfl,HB.out⟩
theorem Mp (d:NodeD)(c:Array Value)(w:World)(h:NodeC w d c)(hk:NodeOk d)(hs:Cb d=true)(r:Bool)(hr:Aq d=r):
  Calls Tryz.prog 108 #[.agg c] w fun e w'=>Below w.heap.size w w'∧∃v,e=.returned (.tuple #[v,.int .u8 (if r=true then 0 else 3)])∧Own w' w.heap.size 5 v (bvs (if r=true then Ci d else [])):=by
 subst hr;cases hr:Aq d with
 |true=>
  have:=Sc d c w h hk hs hr;unfold Ep at this;rw[hr]at this;exact this
 |false=>
  have:=Om d c w h hs hr;unfold Ep at this;rw[hr]at this;exact this
def Fo (x:Nat):Nat:=if x%2=1 then 1 else 2
def Ch (t:List NodeD):Bool:=(List.range t.length).all fun x=>decide ((nd t x).kind≠Fo x)&&Aq (nd t x)
theorem Ip (t:List NodeD):Ch t=true↔∀x,x<t.length→(nd t x).kind≠Fo x∧Aq (nd t x)=true:=by
 unfold Ch;rw[List.all_eq_true];constructor
 ·intro h x hx;have:=h x (List.mem_range.2 hx);rw[Bool.and_eq_true,decide_eq_true_iff]at this;exact this
 ·intro h x hx;rw[Bool.and_eq_true,decide_eq_true_iff];exact h x (List.mem_range.1 hx)
theorem Yv {t:List NodeD} {x:Nat}(hx:x<t.length)(h:(nd t x).kind=Fo x∨Aq (nd t x)=false):Ch t=false:=by
 cases hp:Ch t with
 |false=>rfl
 |true=>
  have:=(Ip t).1 hp x hx;rcases h with h|h
  ·exact absurd h this.1
  ·rw[this.2]at h;cases h
theorem Ke {x:Nat}(h:x%2=1):Fo x=1:=by unfold Fo;rw[if_pos h]
theorem Iq {x:Nat}(h:x%2=0):Fo x=2:=by unfold Fo;rw[if_neg (by omega)]
theorem Yw (v:Value)(t:List NodeD)(w:World)(h:TreeR w v t)(hs:Za5 t=true)(hok:TreeOk t):
  Calls Tryz.prog 226 #[v] w fun e w'=>e=.returned (.bool (Ch t))∧Below w.heap.size w w':=by
 obtain⟨a,c,rfl,hc,hc2⟩:=h.sl;have NB:=fun(i:Nat) (cs:Array Value) (W:World) (r:Bool) (hr:Aq (nd t i)=r) (hw:NodeC W (nd t i) cs)=>Mp (nd t i) cs W hw (hok.nd i) (Za6 hs i) r hr;have GN:=fun(W:World) (hw:Below w.heap.size w W) (i:Nat) (hi:i<t.length)=>(h.below hw lR).node hi;have S1:=fun(h:∀i,i<t.length→(nd t i).kind≠Fo i∧Aq (nd t i)=true)=>(Ip t).2 h;have S2:=fun(i:Nat) (hi:i<t.length) (h:(nd t i).kind=Fo i∨Aq (nd t i)=false)=>Yv hi h;have K:=fun(i:Nat)=>(hok.nd i).kind;obtain⟨n,hn⟩:=eX t.length;rw[←hn]at GN S1 S2 hc⊢;obtain⟨R,hR⟩:=eX (Ch t);rw[←hR]at S1 S2⊢;have HNB:=Hd NB;have HGN:=Hd GN;have HS1:=Hd S1;have HS2:=Hd S2;have HK:=Hd K;clear NB GN S1 S2 K h hn hR hs hok;go_enter Tryz.func226,Tryz.ntmps226;go_wp2_with fail
 go_loopg [10] n (fun q iv wr=>∃r:Nat,r+q=n∧iv=.int .i64 (r:Nat)∧(∀i,i<r→(nd t i).kind≠Fo i∧Aq (nd t i)=true)∧Below w.heap.size w wr)
 case atStart=>exact⟨0,by omega,rfl,fun i hi=>by omega,bR⟩
 case round=>
  obtain⟨r,hr,rfl,hsm,hb⟩:=hrel;have HR:=Hd hr;have HM:=Hd hsm;have HB:=Hd hb;clear hr hsm hb
  by_cases hlt:r<n
  ·have hlt':decide (r<n)=true:=decide_eq_true hlt;obtain⟨b,off,cs,rfl,hbl,hnc,hra⟩:=HGN.out wr HB.out r hlt;obtain⟨D,hD⟩:=eX (nd t r);have hkd:=HK.out r;have HND:=Hd hnc;rw[←hD]at hnc hkd;obtain⟨a1,c1,a2,c2,a3,c3,a4,c4,a5,c5,b1,e1,b2,e2,b3,e3,hcs,h1,h2,h3,h4,h5,h6,h7,h8⟩:=hnc;obtain⟨kd,hkd'⟩:∃k,k=D.kind:=⟨_,rfl⟩;rw[←hkd']at hcs hkd;have HKD:=Hd (show kd=(nd t r).kind by rw[hkd',hD]);have HRA:=Hd hra;have HCS:=Hd hcs;have hsz:=HB.out.size;obtain⟨l1,hl1⟩:=eX D.leaf.box.length;obtain⟨l2,hl2⟩:=eX D.leaf.sign.length;obtain⟨l3,hl3⟩:=eX D.leaf.ident.length;obtain⟨l4,hl4⟩:=eX D.leaf.par.length;obtain⟨l5,hl5⟩:=eX D.leaf.sig.length;obtain⟨l6,hl6⟩:=eX D.par.box.length;obtain⟨l7,hl7⟩:=eX D.par.hash.length;obtain⟨l8,hl8⟩:=eX D.par.late.length;obtain⟨s,hsrc⟩:=eX D.leaf.source;rw[←hl1,←hl2,←hl3,←hl4,←hl5,←hl6,←hl7,←hl8,←hsrc]at hcs;subst hcs;clear h1 h2 h3 h4 h5 h6 h7 h8 hra HCS hl1 hl2 hl3 hl4 hl5 hl6 hl7 hl8 hsrc hkd' hD;obtain⟨m,hm⟩:=eX (r%2);have e3':(r:Int)%2=(m:Int):=(by omega);have e4':Int.tmod (r:Int) 2=(m:Int):=(by rw[Int.tmod_eq_emod_of_nonneg (by omega)];omega);have hm2:m=0∨m=1:=(by omega);have HMM:=Hd hm;clear hm;rcases hm2 with rfl|rfl
   ·have HOK:=Hd (Iq HMM.out.symm);have HBA:=Hd (HB.out.alloc HB.out.size (.cells #[.int .u8 (kd:Nat),.slice a1 l1 c1,.slice a2 l2 c2,.slice a3 l3 c3,.int .u8 (s:Nat),.slice a4 l4 c4,.slice a5 l5 c5,.slice b1 l6 e1,.slice b2 l7 e2,.slice b3 l8 e3] 52))
    by_cases hk:kd=2
    ·have hq:((kd:Int)==2)=true:=(by rw[beq_iff_eq];omega);have HF:=Hd (HS2.out r hlt (.inl (by rw[←HKD.out,HOK.out,hk])));clear hk;go_wp2_with (refine wpList_load_mid rfl 52 (.tmp 13) rfl b (off+r*10) rfl [.int .u8 (kd:Nat),.slice a1 l1 c1,.slice a2 l2 c2,.slice a3 l3 c3,.int .u8 (s:Nat),.slice a4 l4 c4,.slice a5 l5 c5,.slice b1 l6 e1,.slice b2 l7 e2,.slice b3 l8 e3] _ HRA.out Tryz.underlying52 rfl Be ?_);go_ret;exact⟨Dg HF.out,HBA.out⟩
    ·have hq:((kd:Int)==2)=false:=(by rw[beq_eq_false_iff_ne];omega);have hq2:(kd:Int)≠2:=(by omega);have HKN:=Hd (show(nd t r).kind≠Fo r by rw[←HKD.out,HOK.out];exact hk);have HNDA:=Hd (HND.out.below ((Below.refl wr.heap.size wr).alloc lR (.cells #[.int .u8 (kd:Nat),.slice a1 l1 c1,.slice a2 l2 c2,.slice a3 l3 c3,.int .u8 (s:Nat),.slice a4 l4 c4,.slice a5 l5 c5,.slice b1 l6 e1,.slice b2 l7 e2,.slice b3 l8 e3] 52)) lR);cases hrb:Aq (nd t r)with
     |true=>
      have HRB:=Hd hrb;have N1:=Hd (HNB.out r _ _ true hrb HNDA.out);clear hrb hk;go_wp2_with (refine wpList_load_mid rfl 52 (.tmp 13) rfl b (off+r*10) rfl [.int .u8 (kd:Nat),.slice a1 l1 c1,.slice a2 l2 c2,.slice a3 l3 c3,.int .u8 (s:Nat),.slice a4 l4 c4,.slice a5 l5 c5,.slice b1 l6 e1,.slice b2 l7 e2,.slice b3 l8 e3] _ HRA.out Tryz.underlying52 rfl Be ?_);refine(N1.out).mono ?_;rintro e w2 ⟨hb2,v,rfl,hown⟩;have HB2:=Hd (HBA.out.trans (hb2.mono HBA.out.size));obtain⟨y1,y2,y3,rfl⟩:=Dl hown;clear hb2 hown;go_wp2_with fail;go_roundg (gk-1);case measure=>have:=HR.out;omega
      case rel=>
       refine⟨r+1,by have:=HR.out;omega,by go_num,fun i hi=> ?_,HB2.out⟩
       by_cases e:i=r
       ·rw[e];exact⟨HKN.out,HRB.out⟩
       ·exact HM.out i (by omega)
     |false=>
      have HF:=Hd (HS2.out r hlt (.inr hrb));have N1:=Hd (HNB.out r _ _ false hrb HNDA.out);clear hrb hk;go_wp2_with (refine wpList_load_mid rfl 52 (.tmp 13) rfl b (off+r*10) rfl [.int .u8 (kd:Nat),.slice a1 l1 c1,.slice a2 l2 c2,.slice a3 l3 c3,.int .u8 (s:Nat),.slice a4 l4 c4,.slice a5 l5 c5,.slice b1 l6 e1,.slice b2 l7 e2,.slice b3 l8 e3] _ HRA.out Tryz.underlying52 rfl Be ?_);refine(N1.out).mono ?_;rintro e w2 ⟨hb2,v,rfl,hown⟩;have HB2:=Hd (HBA.out.trans (hb2.mono HBA.out.size));obtain⟨y1,y2,y3,rfl⟩:=Dl hown;clear hb2 hown;go_wp2_with fail;go_ret;exact⟨Dg HF.out,HB2.out⟩
   ·have HOK:=Hd (Ke HMM.out.symm);have HBA:=Hd (HB.out.alloc HB.out.size (.cells #[.int .u8 (kd:Nat),.slice a1 l1 c1,.slice a2 l2 c2,.slice a3 l3 c3,.int .u8 (s:Nat),.slice a4 l4 c4,.slice a5 l5 c5,.slice b1 l6 e1,.slice b2 l7 e2,.slice b3 l8 e3] 52))
    by_cases hk:kd=1
    ·have hq:((kd:Int)==1)=true:=(by rw[beq_iff_eq];omega);have HF:=Hd (HS2.out r hlt (.inl (by rw[←HKD.out,HOK.out,hk])));clear hk;go_wp2_with (refine wpList_load_mid rfl 52 (.tmp 13) rfl b (off+r*10) rfl [.int .u8 (kd:Nat),.slice a1 l1 c1,.slice a2 l2 c2,.slice a3 l3 c3,.int .u8 (s:Nat),.slice a4 l4 c4,.slice a5 l5 c5,.slice b1 l6 e1,.slice b2 l7 e2,.slice b3 l8 e3] _ HRA.out Tryz.underlying52 rfl Be ?_);go_ret;exact⟨Dg HF.out,HBA.out⟩
    ·have hq:((kd:Int)==1)=false:=(by rw[beq_eq_false_iff_ne];omega);have hq2:(kd:Int)≠1:=(by omega);have HKN:=Hd (show(nd t r).kind≠Fo r by rw[←HKD.out,HOK.out];exact hk);have HNDA:=Hd (HND.out.below ((Below.refl wr.heap.size wr).alloc lR (.cells #[.int .u8 (kd:Nat),.slice a1 l1 c1,.slice a2 l2 c2,.slice a3 l3 c3,.int .u8 (s:Nat),.slice a4 l4 c4,.slice a5 l5 c5,.slice b1 l6 e1,.slice b2 l7 e2,.slice b3 l8 e3] 52)) lR);cases hrb:Aq (nd t r)with
     |true=>
      have HRB:=Hd hrb;have N1:=Hd (HNB.out r _ _ true hrb HNDA.out);clear hrb hk;go_wp2_with (refine wpList_load_mid rfl 52 (.tmp 13) rfl b (off+r*10) rfl [.int .u8 (kd:Nat),.slice a1 l1 c1,.slice a2 l2 c2,.slice a3 l3 c3,.int .u8 (s:Nat),.slice a4 l4 c4,.slice a5 l5 c5,.slice b1 l6 e1,.slice b2 l7 e2,.slice b3 l8 e3] _ HRA.out Tryz.underlying52 rfl Be ?_);refine(N1.out).mono ?_;rintro e w2 ⟨hb2,v,rfl,hown⟩;have HB2:=Hd (HBA.out.trans (hb2.mono HBA.out.size));obtain⟨y1,y2,y3,rfl⟩:=Dl hown;clear hb2 hown;go_wp2_with fail;go_roundg (gk-1);case measure=>have:=HR.out;omega
      case rel=>
       refine⟨r+1,by have:=HR.out;omega,by go_num,fun i hi=> ?_,HB2.out⟩
       by_cases e:i=r
       ·rw[e];exact⟨HKN.out,HRB.out⟩
       ·exact HM.out i (by omega)
     |false=>
      have HF:=Hd (HS2.out r hlt (.inr hrb));have N1:=Hd (HNB.out r _ _ false hrb HNDA.out);clear hrb hk;go_wp2_with (refine wpList_load_mid rfl 52 (.tmp 13) rfl b (off+r*10) rfl [.int .u8 (kd:Nat),.slice a1 l1 c1,.slice a2 l2 c2,.slice a3 l3 c3,.int .u8 (s:Nat),.slice a4 l4 c4,.slice a5 l5 c5,.slice b1 l6 e1,.slice b2 l7 e2,.slice b3 l8 e3] _ HRA.out Tryz.underlying52 rfl Be ?_);refine(N1.out).mono ?_;rintro e w2 ⟨hb2,v,rfl,hown⟩;have HB2:=Hd (HBA.out.trans (hb2.mono HBA.out.size));obtain⟨y1,y2,y3,rfl⟩:=Dl hown;clear hb2 hown;go_wp2_with fail;go_ret;exact⟨Dg HF.out,HB2.out⟩
  ·obtain rfl:r=n:=(by have:=HR.out;omega);have hlt':decide (r<r)=false:=decide_eq_false hlt;go_wp2_with fail;go_ret;exact⟨Dg (HS1.out HM.out),HB.out⟩
def Gg (t:List NodeD):Bool:=t.any fun d=>d.kind==1
theorem Zbc {t:List NodeD} {i:Nat}(hi:i<t.length)(h:(nd t i).kind=1):Gg t=true:=by
 unfold Gg;rw[bQ];refine⟨t[i],aJ hi,?_⟩;rw[nd,aH,aI hi]at h;rw[beq_iff_eq];exact h
theorem Ze5 {t:List NodeD}(h:∀i,i<t.length→(nd t i).kind≠1):Gg t=false:=by
 cases hs:Gg t with
 |false=>rfl
 |true=>
  unfold Gg at hs;rw[bQ]at hs;obtain⟨d,hd,hk⟩:=hs;obtain⟨i,hi,rfl⟩:=cQ hd;have:=h i hi;rw[nd,aH,aI hi]at this;exact absurd (beq_iff_eq.1 hk) this
theorem Zbd (d:NodeD)(c:Array Value)(w:World)(h:NodeC w d c)(hk:d.kind<256):
  Calls Tryz.prog 268 #[.agg c] w fun e w'=>e=.returned (.bool (d.kind==1))∧Below w.heap.size w w':=by
 obtain⟨a1,c1,a2,c2,a3,c3,a4,c4,a5,c5,b1,e1,b2,e2,b3,e3,rfl,_⟩:=h;obtain⟨k,hk'⟩:∃k,k=d.kind:=⟨_,rfl⟩;rw[←hk']at hk⊢;have e:((k:Int)==1)=(k==1):=by
  by_cases h:k=1
  ·subst h;rfl
  ·rw[beq_eq_false_iff_ne.2 h,beq_eq_false_iff_ne];omega
 obtain⟨b,hb⟩:=eX ((k==1));rw[←hb]at e⊢;clear hb hk';go_enter Tryz.func268,Tryz.ntmps268;go_wp2_with fail;go_ret;exact⟨rfl,bR.alloc lR _⟩
theorem Ui (v:Value)(t:List NodeD)(w:World)(h:TreeR w v t)(hok:TreeOk t):
  Calls Tryz.prog 287 #[v,.func (.func 268) #[] #[]] w fun e w'=>∃r:Int,e=.returned (.int .i64 r)∧decide (r≥0)=Gg t∧Below w.heap.size w w':=by
 obtain⟨a,c,rfl,hc,hc2⟩:=h.sl;have SM:=fun(i:Nat) (cs:Array Value) (W:World) (hw:NodeC W (nd t i) cs)=>Zbd (nd t i) cs W hw (hok.nd i).kind;have GN:=fun(W:World) (hw:Below w.heap.size w W) (i:Nat) (hi:i<t.length)=>(h.below hw lR).node hi;have S1:=fun(i:Nat) (hi:i<t.length) (h:(nd t i).kind=1)=>Zbc hi h;have S2:=fun(h:∀i,i<t.length→(nd t i).kind≠1)=>Ze5 h;obtain⟨n,hn⟩:=eX t.length;obtain⟨R,hR⟩:=eX (Gg t);rw[←hn]at GN S1 S2 hc⊢;rw[←hR]at S1 S2⊢;have HSM:=Hd SM;have HGN:=Hd GN;have HS1:=Hd S1;have HS2:=Hd S2;clear SM GN S1 S2 h hn hR hok;go_enter Tryz.func287,Tryz.ntmps287;go_wp2_with fail
 go_loopg [8] n (fun q iv wr=>∃r:Nat,r+q=n∧iv=.int .i64 (r:Nat)∧(∀i,i<r→(nd t i).kind≠1)∧Below w.heap.size w wr)
 case atStart=>exact⟨0,by omega,rfl,fun i hi=>by omega,bR⟩
 case round=>
  obtain⟨r,hr,rfl,hsm,hb⟩:=hrel;have HR:=Hd hr;have HM:=Hd hsm;have HB:=Hd hb;clear hr hsm hb
  by_cases hlt:r<n
  ·have hlt':decide (r<n)=true:=decide_eq_true hlt;obtain⟨b,off,cs,rfl,hbl,hnc,hra⟩:=HGN.out wr HB.out r hlt;have HRA:=Hd hra;have HSZ:=Hd hnc.size;have CC:=HSM.out r cs wr hnc;cases hk:((nd t r).kind==1)with
   |true=>
    rw[hk]at CC;have HCC:=Hd CC;have HF:=Hd (HS1.out r hlt (beq_iff_eq.1 hk));clear CC hk hra hnc;go_wp2_with (refine wpList_load_mid rfl 52 (.tmp 14) rfl b (off+r*10) rfl cs.toList _ HRA.out Tryz.underlying52 rfl (by rw[Array.length_toList,HSZ.out];exact Be) ?_);refine(HCC.out).mono ?_;rintro e w2 ⟨rfl,hb2⟩;have HB2:=Hd (HB.out.trans (hb2.mono HB.out.size));clear hb2;go_wp2_with fail;go_ret;exact⟨(r:Nat),rfl,by rw[HF.out,decide_eq_true_iff];omega,HB2.out⟩
   |false=>
    rw[hk]at CC;have HCC:=Hd CC;have HF:=Hd (beq_eq_false_iff_ne.1 hk);clear CC hk hra hnc;go_wp2_with (refine wpList_load_mid rfl 52 (.tmp 14) rfl b (off+r*10) rfl cs.toList _ HRA.out Tryz.underlying52 rfl (by rw[Array.length_toList,HSZ.out];exact Be) ?_);refine(HCC.out).mono ?_;rintro e w2 ⟨rfl,hb2⟩;have HB2:=Hd (HB.out.trans (hb2.mono HB.out.size));clear hb2;go_wp2_with fail;go_roundg (gk-1);case measure=>have:=HR.out;omega
    case rel=>
     refine⟨r+1,by have:=HR.out;omega,by go_num,fun i hi=> ?_,HB2.out⟩
     by_cases e:i=r
     ·rw[e];exact HF.out
     ·exact HM.out i (by omega)
  ·obtain rfl:r=n:=(by have:=HR.out;omega);have hlt':decide (r<r)=false:=decide_eq_false hlt;go_wp2_with fail;go_ret;exact⟨-1,rfl,by rw[HS2.out HM.out];rfl,HB.out⟩
theorem Sg (v:Value)(t:List NodeD)(w:World)(h:TreeR w v t)(hok:TreeOk t):
  Calls Tryz.prog 227 #[v] w fun e w'=>e=.returned (.bool (Gg t))∧Below w.heap.size w w':=by
 have IX:=Ui v t w h hok;have CF:Calls Tryz.prog 267 #[v,.func (.func 268) #[] #[]] w fun e w'=>e=.returned (.bool (Gg t))∧Below w.heap.size w w':=by
  obtain⟨a,c,rfl,hc,hc2⟩:=h.sl;have HIX:=Hd IX;obtain⟨R,hR⟩:=eX (Gg t);rw[←hR]at HIX⊢;obtain⟨n,hn⟩:=eX t.length;rw[←hn]at HIX⊢;clear IX h hR hn hc hc2 hok;go_enter Tryz.func267,Tryz.ntmps267;go_wp2_with fail;refine(HIX.out).mono ?_;rintro e w2 ⟨r,rfl,hr,hb⟩;have HB:=Hd hb;have HR:=Hd hr;clear hb hr;go_wp2_with fail;go_ret;exact⟨Dg HR.out.symm,HB.out⟩
 obtain⟨a,c,rfl,hc,hc2⟩:=h.sl;have HCF:=Hd CF;obtain⟨R,hR⟩:=eX (Gg t);rw[←hR]at HCF⊢;obtain⟨n,hn⟩:=eX t.length;rw[←hn]at HCF⊢;clear IX CF h hR hn hc hc2 hok;go_enter Tryz.func227,Tryz.ntmps227;go_wp2_with fail;refine(HCF.out).mono ?_;rintro e w2 ⟨rfl,hb⟩;have HB:=Hd hb;clear hb;go_wp2_with fail;go_ret;exact⟨rfl,HB.out⟩
end Go.Proofs.YtfofaiommeckbaaGreat
