/- Plain: a patch: what a sparse tree has beneath a node, what is as it was, the bytes of a patch. -/
import Derived.Test.YtfofaiommeckbaaGreatZPatchMakesB
import Derived.Test.YtfofaiommeckbaaGreatZPatchMakes35
open List renaming length_cons → cR, getElem_map → fX, getElem_mem → aJ, getElem_of_mem → eB
set_option linter.unusedVariables false
set_option maxRecDepth 100000
set_option maxHeartbeats 40000000
namespace Go.Proofs.YtfofaiommeckbaaGreat
open Go.RowKit WalkM WireM
section
def Ef (s:SparseD)(x:Int):SparseD:=⟨0,0,s.op.filter fun p=>Bl p.1 x,s.sh.filter fun p=>Bl p.1 x⟩
def asB (a b:SparseD)(x:Int):Bool:=Fe a x&&Dq (Ef a x) (Ef b x)
def Ix (A:Int→Bool)(F:Int→Option NodeD)(H:Int→Option (List Nat)):Nat→Nat→List Nat
 |0,x=>if A (x:Int)=true then [2]else match F (x:Int)with
  |none=>0::Fs H x
  |some d=>1::Bd d
 |k+1,x=>if A (x:Int)=true then [2]else match F (x:Int)with
  |none=>0::Fs H x
  |some d=>(1::Bd d)++(Ix A F H k (x-2^k)++Ix A F H k (x+2^k))
section
variable {A:Int→Bool} {F:Int→Option NodeD} {H:Int→Option (List Nat)} {k x:Nat} {d:NodeD}
theorem Eu (h:A (x:Int)=true):Ix A F H k x=[2]:=by cases k<;>simp only[Ix,h,if_true]
theorem Fw (h:A (x:Int)=false)(hF:F (x:Int)=none):Ix A F H k x=0::Fs H x:=by cases k<;>simp[Ix,h,hF]
theorem Iy (h:A (x:Int)=false)(hF:F (x:Int)=some d):Ix A F H 0 x=1::Bd d:=by simp[Ix,h,hF]
theorem Iz (h:A (x:Int)=false)(hF:F (x:Int)=some d):Ix A F H (k+1) x=(1::Bd d)++(Ix A F H k (x-2^k)++Ix A F H k (x+2^k)):=by simp[Ix,h,hF]
theorem Kz (h:PieceOk F H):∀k x,(Ix A F H k x).length+6001≤12002*2^k:=by
 intro k
 induction k with
 |zero=>
  intro x;cases ha:A (x:Int)with
  |true=>rw[Eu ha];simp
  |false=>
   cases e:F (x:Int)with
   |none=>rw[Fw ha e];have:=Gw h x;simp only[cR];omega
   |some d=>rw[Iy ha e];have:=Cy (h.ok _ _ e).2.1;simp only[cR];omega
 |succ k ih=>
  intro x;have e2:2^(k+1)=2*2^k:=(by rw[Nat.pow_succ];omega);have hp:=Nat.two_pow_pos k;cases ha:A (x:Int)with
  |true=>rw[Eu ha];simp only[cR,List.length_nil];omega
  |false=>
   cases e:F (x:Int)with
   |none=>rw[Fw ha e];have:=Gw h x;simp only[cR];omega
   |some d=>
    rw[Iz ha e];have:=Cy (h.ok _ _ e).2.1;have h1:=ih (x-2^k);have h2:=ih (x+2^k);simp only[List.length_append,cR];omega
end
def Zbh (a b:SparseD):List Nat:=([3]++beN 4 b.leaves.toNat)++Ix (asB a b) (Ah b.op) (Ap b.sh) (Nat.log2 b.leaves.toNat) (2^Nat.log2 b.leaves.toNat-1)
end
def Mm (x y:Int):Int:=if x<y then-1 else if y<x then 1 else 0
theorem Wc (x y:Int)(w:World):Calls Tryz.prog 159 #[.int .i64 x,.int .i64 y] w fun e w'=>e=.returned (.int .i64 (Mm x y))∧w=w':=by
 have h1:=Hd (Uq x w);have h2:=Hd (Uq y w);obtain⟨c,hc⟩:=eX (Mm x y);rw[←hc];unfold Mm at hc;obtain⟨b1,hb1⟩:∃b,decide (x<y)=b:=⟨_,rfl⟩;obtain⟨b2,hb2⟩:∃b,decide (y<x)=b:=⟨_,rfl⟩;have hb3:decide (x>y)=b2:=hb2;have HC:=Hd (show c=if b1=true then-1 else if b2=true then 1 else 0 from by
  rw[hc,←hb1,←hb2];simp only[decide_eq_true_eq])
 clear hc;go_enter Tryz.func159,Tryz.ntmps159;go_wp2_with fail;refine h1.out.mono ?_;rintro e w' ⟨rfl,rfl⟩;go_wp2_with fail;refine h2.out.mono ?_;rintro e w' ⟨rfl,rfl⟩;cases b1 with
 |true=>
  obtain rfl:=HC.out;go_wp2_with fail;go_ret;exact⟨rfl,rfl⟩
 |false=>
  cases b2 with
  |true=>
   obtain rfl:=HC.out;go_wp2_with fail;go_ret;exact⟨rfl,rfl⟩
  |false=>
   obtain rfl:=HC.out;go_wp2_with fail;go_ret;exact⟨rfl,rfl⟩
theorem Nz (y x:Int)(x0 x1 x2 x3 x4 x5 x6 x7 x8 x9:Value)(w:World):Calls Tryz.prog 166 #[.agg #[.int .i64 y,x0,x1,x2,x3,x4,x5,x6,x7,x8,x9],.int .i64 x] w fun e w'=>e=.returned (.int .i64 (Mm y x))∧Below w.heap.size w w':=by
 have HC:=Hd fun(W:World)=>Wc y x W;have HB:=Hd ((Below.refl w.heap.size w).alloc lR (.cells #[.int .i64 y,x0,x1,x2,x3,x4,x5,x6,x7,x8,x9] 87));obtain⟨c,hc⟩:=eX (Mm y x);rw[←hc]at HC⊢;clear hc;go_enter Tryz.func166,Tryz.ntmps166;go_wp2_with fail;refine(HC.out _).mono ?_;rintro e w' ⟨rfl,rfl⟩;go_wp2_with fail;go_ret;exact⟨rfl,HB.out⟩
theorem Oa (y x:Int)(u:Value)(w:World):Calls Tryz.prog 168 #[.agg #[.int .i64 y,u],.int .i64 x] w fun e w'=>e=.returned (.int .i64 (Mm y x))∧Below w.heap.size w w':=by
 have HC:=Hd fun(W:World)=>Wc y x W;have HB:=Hd ((Below.refl w.heap.size w).alloc lR (.cells #[.int .i64 y,u] 89));obtain⟨c,hc⟩:=eX (Mm y x);rw[←hc]at HC⊢;clear hc;go_enter Tryz.func168,Tryz.ntmps168;go_wp2_with fail;refine(HC.out _).mono ?_;rintro e w' ⟨rfl,rfl⟩;go_wp2_with fail;go_ret;exact⟨rfl,HB.out⟩
theorem Zdl (v:Value)(l:List (Int×NodeD))(x:Int)(w:World)(h:SpotsR w v l)(hs:(l.map (·.1)).Pairwise (· < ·))(hl:l.length≤1000000):
  Calls Tryz.prog 165 #[v,.int .i64 x,.func (.func 166) #[] #[]] w fun e w'=>∃p:Nat,e=.returned (.tuple #[.int .i64 (p:Nat),.bool (Ah l x).isSome])∧((Ah l x).isSome=true→p<l.length∧(spt l p).1=x)∧Below w.heap.size w w':=by
 obtain⟨oa,oc,rfl,-,-⟩:=h.sl;obtain⟨f,hf⟩:∃f:Nat→Int,f=fun i=>(spt l i).1:=⟨_,rfl⟩;have hat:∀i (hi:i<l.length),f i=(l.map (·.1))[i]'(by simpa using hi):=fun i hi=>(by rw[hf,fX];show(spt l i).1=_;rw[Hs hi]);have hs2:∀i j,i≤j→j<l.length→f i≤f j:=by
  intro i j hij hj
  by_cases e:i=j
  ·rw[e];exact Int.le_refl _
  ·rw[hat i (by omega),hat j hj];exact Int.le_of_lt (List.pairwise_iff_getElem.1 hs i j (by simp;omega) (by simpa using hj) (by omega))
 have M1:=fun(i:Nat) (hi:i<l.length) (e:f i=x)=>(show(Ah l x).isSome=true from Ky.1 (by rw[←e,hat i hi];exact aJ _));have M2:=fun(hno:∀i,i<l.length→f i≠x)=>(show(Ah l x).isSome=false from by
  cases e:(Ah l x).isSome with
  |false=>rfl
  |true=>
   obtain⟨i,hi,e2⟩:=eB (Ky.2 e);exact absurd (by rw[hat i (by simpa using hi)];exact e2) (hno i (by simpa using hi)))
 have hf2:∀p,(spt l p).1=f p:=fun p=>(by rw[hf]);obtain⟨C,hC⟩:=Ci (n:=l.length) (P:=fun i c=>∃b off,oa=some ⟨b,off,none⟩∧b<w.heap.size∧NodeC w (spt l i).2 c∧w.rangeAt b (off+i*11) (.int .i64 (spt l i).1::c.toList)) fun i hi=>by
  obtain⟨b,off,c,e,h1,h2,h3⟩:=h.at hi;exact⟨c,b,off,e,h1,h2,h3⟩
 simp only[hf2]at hC⊢;obtain⟨n,hn⟩:=eX l.length;obtain⟨R,hR⟩:=eX ((Ah l x).isSome);rw[←hn]at hC M1 M2 hs2 hl⊢;rw[←hR]at M1 M2⊢;have HC:=Hd hC;have HM1:=Hd M1;have HM2:=Hd M2;have HS2:=Hd hs2;clear hC M1 M2 h hn hR hs hs2 hat hf2 hf;go_enter Tryz.func165,Tryz.ntmps165;go_wp2_with fail
 go_loopg [9,10] n (fun q iv jv wr=>∃i j:Nat,i+q=j∧j≤n∧iv=.int .i64 (i:Nat)∧jv=.int .i64 (j:Nat)∧(∀k,k<i→f k<x)∧(∀k,j≤k→k<n→x≤f k)∧Below w.heap.size w wr)
 case atStart=>exact⟨0,n,by omega,lR,rfl,rfl,fun k hk=>by omega,fun k h1 h2=>by omega,bR⟩
 case round=>
  obtain⟨i,j,hij,hjn,rfl,rfl,hlo,hhi,hb⟩:=hrel;have HIJ:=Hd hij;have HLO:=Hd hlo;have HHI:=Hd hhi;have HB:=Hd hb;clear hij hlo hhi hb
  by_cases hlt:i<j
  ·have hlt':decide (i<j)=true:=decide_eq_true hlt;obtain⟨m,hm⟩:=eX ((i+j)/2);obtain⟨s,hs⟩:=eX (i+j);have e1:(i:Int)+(j:Int)=(s:Int):=(by omega);have e2:IntKind.u64.wrap (s:Int)=(s:Int):=(by rw[IntKind.wrap_u64];omega);have e3:(s:Int)/2=(m:Int):=(by omega);have e4:IntKind.i64.wrap (m:Int)=(m:Int):=(by rw[IntKind.wrap_i64];omega);have hmn:m<n:=(by omega);obtain⟨b,off,rfl,hbl,hnc,hra⟩:=HC.out m hmn;obtain⟨x0,x1,x2,x3,x4,x5,x6,x7,x8,x9,hcr⟩:=hnc.ten;rw[hcr]at hra;clear hcr;obtain⟨y,hy⟩:=eX (f m);rw[←hy]at hra;have HRA:=Hd (Af hra HB.out hbl);have HY:=Hd hy;have HMM:=Hd hm;have HSS:=Hd hs;have HCL:=Hd fun(W:World)=>Nz y x x0 x1 x2 x3 x4 x5 x6 x7 x8 x9 W
   by_cases hyx:y<x
   ·have ec:Mm y x= -1:=(by unfold Mm;rw[if_pos hyx]);rw[ec]at HCL;have HYX:=Hd hyx;clear hy hm hs hra hnc ec hyx hbl;go_wp2_with (refine wpList_load_mid rfl 87 (.tmp 27) rfl b (off+m*11) rfl [.int .i64 y,x0,x1,x2,x3,x4,x5,x6,x7,x8,x9] _ HRA.out Tryz.underlying87 rfl Ce ?_);refine(HCL.out wr).mono ?_;rintro e w' ⟨rfl,hb⟩;have HB2:=Hd (HB.out.trans (hb.mono HB.out.size));clear hb;go_wp2_with fail;go_roundg (j-(m+1));case measure=>have:=HIJ.out;have:=HMM.out;omega
    case rel=>
     refine⟨m+1,j,by have:=HMM.out;omega,hjn,by go_num,rfl,fun k hk=> ?_,HHI.out,HB2.out⟩;have:=HS2.out k m (by omega) hmn;have:=HYX.out;rw[HY.out]at this;omega
   ·obtain⟨c,hc⟩:=eX (Mm y x);have hcn:decide (c<0)=false:=decide_eq_false (by rw[hc];unfold Mm;rw[if_neg hyx];split<;>omega);rw[←hc]at HCL;have HYX:=Hd hyx;clear hy hm hs hra hnc hc hyx hbl;go_wp2_with (refine wpList_load_mid rfl 87 (.tmp 27) rfl b (off+m*11) rfl [.int .i64 y,x0,x1,x2,x3,x4,x5,x6,x7,x8,x9] _ HRA.out Tryz.underlying87 rfl Ce ?_);refine(HCL.out wr).mono ?_;rintro e w' ⟨rfl,hb⟩;have HB2:=Hd (HB.out.trans (hb.mono HB.out.size));clear hb;go_wp2_with fail;go_roundg (m-i);case measure=>have:=HIJ.out;have:=HMM.out;omega
    case rel=>
     refine⟨i,m,by have:=HMM.out;omega,by omega,rfl,rfl,HLO.out,fun k h1 h2=> ?_,HB2.out⟩;have:=HS2.out m k h1 h2;have:=HYX.out;rw[HY.out]at this;omega
  ·have hlt':decide (i<j)=false:=decide_eq_false hlt
   by_cases hin:i<n
   ·have hin':decide (i<n)=true:=decide_eq_true hin;obtain⟨b,off,rfl,hbl,hnc,hra⟩:=HC.out i hin;obtain⟨x0,x1,x2,x3,x4,x5,x6,x7,x8,x9,hcr⟩:=hnc.ten;rw[hcr]at hra;clear hcr;obtain⟨y,hy⟩:=eX (f i);rw[←hy]at hra;have HRA:=Hd (Af hra HB.out hbl);have HY:=Hd hy;have HCL:=Hd fun(W:World)=>Nz y x x0 x1 x2 x3 x4 x5 x6 x7 x8 x9 W;clear hy hra hnc hbl
    by_cases he:y=x
    ·have ec:Mm y x=0:=(by unfold Mm;rw[if_neg (by omega),if_neg (by omega)]);rw[ec]at HCL;have HF:=Hd (HM1.out i hin (by rw[←HY.out];exact he));have HE:=Hd he;clear he ec;go_wp2_with (first|(refine Ca rfl ?_;refine wpList_load_mid rfl 87 (.tmp 43) rfl b (off+i*11) rfl [.int .i64 y,x0,x1,x2,x3,x4,x5,x6,x7,x8,x9] _ HRA.out Tryz.underlying87 rfl Ce ?_)|(refine wpList_load_mid rfl 87 (.tmp 43) rfl b (off+i*11) rfl [.int .i64 y,x0,x1,x2,x3,x4,x5,x6,x7,x8,x9] _ HRA.out Tryz.underlying87 rfl Ce ?_));refine(HCL.out wr).mono ?_;rintro e w' ⟨rfl,hb⟩;have HB2:=Hd (HB.out.trans (hb.mono HB.out.size));clear hb;go_wp2_with fail;go_ret2;exact⟨i,Zfz HF.out,fun _=>⟨hin,by rw[←HY.out];exact HE.out⟩,HB2.out⟩
    ·obtain⟨c,hc⟩:=eX (Mm y x);have hcn:(c==0)=false:=(by rw[beq_eq_false_iff_ne,hc];unfold Mm;split<;>(try split)<;>omega);rw[←hc]at HCL;have HF:=Hd (HM2.out (fun k hk e=>by
      by_cases h1:k<i
      ·have:=HLO.out k h1;omega
      ·by_cases h2:k=i
       ·rw[h2]at e;exact he (HY.out.trans e)
       ·have h3:=HS2.out i k (by omega) hk;have h4:=HHI.out i (by have:=HIJ.out;omega) hin;have:=HY.out
        omega))
     clear he hc;go_wp2_with (first|(refine Ca rfl ?_;refine wpList_load_mid rfl 87 (.tmp 43) rfl b (off+i*11) rfl [.int .i64 y,x0,x1,x2,x3,x4,x5,x6,x7,x8,x9] _ HRA.out Tryz.underlying87 rfl Ce ?_)|(refine wpList_load_mid rfl 87 (.tmp 43) rfl b (off+i*11) rfl [.int .i64 y,x0,x1,x2,x3,x4,x5,x6,x7,x8,x9] _ HRA.out Tryz.underlying87 rfl Ce ?_));refine(HCL.out wr).mono ?_;rintro e w' ⟨rfl,hb⟩;have HB2:=Hd (HB.out.trans (hb.mono HB.out.size));clear hb;go_wp2_with fail;go_ret2;exact⟨i,Zfz HF.out,fun h=>absurd h (by rw[HF.out];decide),HB2.out⟩
   ·have hin':decide (i<n)=false:=decide_eq_false hin;have HF:=Hd (HM2.out (fun k hk e=>by have:=HLO.out k (by omega);omega));go_wp2_with fail;go_ret2;exact⟨i,Zfz HF.out,fun h=>absurd h (by rw[HF.out];decide),HB.out⟩
theorem Zdm (v:Value)(l:List (Int×List Nat))(x:Int)(w:World)(h:StubsR w v l)(hs:(l.map (·.1)).Pairwise (· < ·))(hl:l.length≤1000000):
  Calls Tryz.prog 167 #[v,.int .i64 x,.func (.func 168) #[] #[]] w fun e w'=>∃p:Nat,e=.returned (.tuple #[.int .i64 (p:Nat),.bool (Ap l x).isSome])∧((Ap l x).isSome=true→p<l.length∧(stb l p).1=x)∧Below w.heap.size w w':=by
 obtain⟨oa,oc,rfl,-,-⟩:=h.sl;obtain⟨f,hf⟩:∃f:Nat→Int,f=fun i=>(stb l i).1:=⟨_,rfl⟩;have hat:∀i (hi:i<l.length),f i=(l.map (·.1))[i]'(by simpa using hi):=fun i hi=>(by rw[hf,fX];show(stb l i).1=_;rw[Ht hi]);have hs2:∀i j,i≤j→j<l.length→f i≤f j:=by
  intro i j hij hj
  by_cases e:i=j
  ·rw[e];exact Int.le_refl _
  ·rw[hat i (by omega),hat j hj];exact Int.le_of_lt (List.pairwise_iff_getElem.1 hs i j (by simp;omega) (by simpa using hj) (by omega))
 have M1:=fun(i:Nat) (hi:i<l.length) (e:f i=x)=>(show(Ap l x).isSome=true from Fv.1 (by rw[←e,hat i hi];exact aJ _));have M2:=fun(hno:∀i,i<l.length→f i≠x)=>(show(Ap l x).isSome=false from by
  cases e:(Ap l x).isSome with
  |false=>rfl
  |true=>
   obtain⟨i,hi,e2⟩:=eB (Fv.2 e);exact absurd (by rw[hat i (by simpa using hi)];exact e2) (hno i (by simpa using hi)))
 have hf2:∀p,(stb l p).1=f p:=fun p=>(by rw[hf]);obtain⟨C,hC⟩:=Ci (n:=l.length) (P:=fun i c=>∃b off,oa=some ⟨b,off,none⟩∧b<w.heap.size∧Rd w c (bvs (stb l i).2)∧w.rangeAt b (off+i*2) (.int .i64 (stb l i).1::[c])) fun i hi=>by
  obtain⟨b,off,c,e,h1,h2,h3⟩:=h.at hi;exact⟨c,b,off,e,h1,h2,h3⟩
 simp only[hf2]at hC⊢;obtain⟨n,hn⟩:=eX l.length;obtain⟨R,hR⟩:=eX ((Ap l x).isSome);rw[←hn]at hC M1 M2 hs2 hl⊢;rw[←hR]at M1 M2⊢;have HC:=Hd hC;have HM1:=Hd M1;have HM2:=Hd M2;have HS2:=Hd hs2;clear hC M1 M2 h hn hR hs hs2 hat hf2 hf;go_enter Tryz.func167,Tryz.ntmps167;go_wp2_with fail
 go_loopg [9,10] n (fun q iv jv wr=>∃i j:Nat,i+q=j∧j≤n∧iv=.int .i64 (i:Nat)∧jv=.int .i64 (j:Nat)∧(∀k,k<i→f k<x)∧(∀k,j≤k→k<n→x≤f k)∧Below w.heap.size w wr)
 case atStart=>exact⟨0,n,by omega,lR,rfl,rfl,fun k hk=>by omega,fun k h1 h2=>by omega,bR⟩
 case round=>
  obtain⟨i,j,hij,hjn,rfl,rfl,hlo,hhi,hb⟩:=hrel;have HIJ:=Hd hij;have HLO:=Hd hlo;have HHI:=Hd hhi;have HB:=Hd hb;clear hij hlo hhi hb
  by_cases hlt:i<j
  ·have hlt':decide (i<j)=true:=decide_eq_true hlt;obtain⟨m,hm⟩:=eX ((i+j)/2);obtain⟨s,hs⟩:=eX (i+j);have e1:(i:Int)+(j:Int)=(s:Int):=(by omega);have e2:IntKind.u64.wrap (s:Int)=(s:Int):=(by rw[IntKind.wrap_u64];omega);have e3:(s:Int)/2=(m:Int):=(by omega);have e4:IntKind.i64.wrap (m:Int)=(m:Int):=(by rw[IntKind.wrap_i64];omega);have hmn:m<n:=(by omega);obtain⟨b,off,rfl,hbl,hnc,hra⟩:=HC.out m hmn;obtain⟨u,hu⟩:=eX (C m);rw[←hu]at hra;clear hu;obtain⟨y,hy⟩:=eX (f m);rw[←hy]at hra;have HRA:=Hd (Af hra HB.out hbl);have HY:=Hd hy;have HMM:=Hd hm;have HSS:=Hd hs;have HCL:=Hd fun(W:World)=>Oa y x u W
   by_cases hyx:y<x
   ·have ec:Mm y x= -1:=(by unfold Mm;rw[if_pos hyx]);rw[ec]at HCL;have HYX:=Hd hyx;clear hy hm hs hra hnc ec hyx hbl;go_wp2_with (refine wpList_load_mid rfl 89 (.tmp 27) rfl b (off+m*2) rfl [.int .i64 y,u] _ HRA.out Tryz.underlying89 rfl Cf ?_);refine(HCL.out wr).mono ?_;rintro e w' ⟨rfl,hb⟩;have HB2:=Hd (HB.out.trans (hb.mono HB.out.size));clear hb;go_wp2_with fail;go_roundg (j-(m+1));case measure=>have:=HIJ.out;have:=HMM.out;omega
    case rel=>
     refine⟨m+1,j,by have:=HMM.out;omega,hjn,by go_num,rfl,fun k hk=> ?_,HHI.out,HB2.out⟩;have:=HS2.out k m (by omega) hmn;have:=HYX.out;rw[HY.out]at this;omega
   ·obtain⟨c,hc⟩:=eX (Mm y x);have hcn:decide (c<0)=false:=decide_eq_false (by rw[hc];unfold Mm;rw[if_neg hyx];split<;>omega);rw[←hc]at HCL;have HYX:=Hd hyx;clear hy hm hs hra hnc hc hyx hbl;go_wp2_with (refine wpList_load_mid rfl 89 (.tmp 27) rfl b (off+m*2) rfl [.int .i64 y,u] _ HRA.out Tryz.underlying89 rfl Cf ?_);refine(HCL.out wr).mono ?_;rintro e w' ⟨rfl,hb⟩;have HB2:=Hd (HB.out.trans (hb.mono HB.out.size));clear hb;go_wp2_with fail;go_roundg (m-i);case measure=>have:=HIJ.out;have:=HMM.out;omega
    case rel=>
     refine⟨i,m,by have:=HMM.out;omega,by omega,rfl,rfl,HLO.out,fun k h1 h2=> ?_,HB2.out⟩;have:=HS2.out m k h1 h2;have:=HYX.out;rw[HY.out]at this;omega
  ·have hlt':decide (i<j)=false:=decide_eq_false hlt
   by_cases hin:i<n
   ·have hin':decide (i<n)=true:=decide_eq_true hin;obtain⟨b,off,rfl,hbl,hnc,hra⟩:=HC.out i hin;obtain⟨u,hu⟩:=eX (C i);rw[←hu]at hra;clear hu;obtain⟨y,hy⟩:=eX (f i);rw[←hy]at hra;have HRA:=Hd (Af hra HB.out hbl);have HY:=Hd hy;have HCL:=Hd fun(W:World)=>Oa y x u W;clear hy hra hnc hbl
    by_cases he:y=x
    ·have ec:Mm y x=0:=(by unfold Mm;rw[if_neg (by omega),if_neg (by omega)]);rw[ec]at HCL;have HF:=Hd (HM1.out i hin (by rw[←HY.out];exact he));have HE:=Hd he;clear he ec;go_wp2_with (first|(refine Ca rfl ?_;refine wpList_load_mid rfl 89 (.tmp 43) rfl b (off+i*2) rfl [.int .i64 y,u] _ HRA.out Tryz.underlying89 rfl Cf ?_)|(refine wpList_load_mid rfl 89 (.tmp 43) rfl b (off+i*2) rfl [.int .i64 y,u] _ HRA.out Tryz.underlying89 rfl Cf ?_));refine(HCL.out wr).mono ?_;rintro e w' ⟨rfl,hb⟩;have HB2:=Hd (HB.out.trans (hb.mono HB.out.size));clear hb;go_wp2_with fail;go_ret2;exact⟨i,Zfz HF.out,fun _=>⟨hin,by rw[←HY.out];exact HE.out⟩,HB2.out⟩
    ·obtain⟨c,hc⟩:=eX (Mm y x);have hcn:(c==0)=false:=(by rw[beq_eq_false_iff_ne,hc];unfold Mm;split<;>(try split)<;>omega);rw[←hc]at HCL;have HF:=Hd (HM2.out (fun k hk e=>by
      by_cases h1:k<i
      ·have:=HLO.out k h1;omega
      ·by_cases h2:k=i
       ·rw[h2]at e;exact he (HY.out.trans e)
       ·have h3:=HS2.out i k (by omega) hk;have h4:=HHI.out i (by have:=HIJ.out;omega) hin;have:=HY.out
        omega))
     clear he hc;go_wp2_with (first|(refine Ca rfl ?_;refine wpList_load_mid rfl 89 (.tmp 43) rfl b (off+i*2) rfl [.int .i64 y,u] _ HRA.out Tryz.underlying89 rfl Cf ?_)|(refine wpList_load_mid rfl 89 (.tmp 43) rfl b (off+i*2) rfl [.int .i64 y,u] _ HRA.out Tryz.underlying89 rfl Cf ?_));refine(HCL.out wr).mono ?_;rintro e w' ⟨rfl,hb⟩;have HB2:=Hd (HB.out.trans (hb.mono HB.out.size));clear hb;go_wp2_with fail;go_ret2;exact⟨i,Zfz HF.out,fun h=>absurd h (by rw[HF.out];decide),HB2.out⟩
   ·have hin':decide (i<n)=false:=decide_eq_false hin;have HF:=Hd (HM2.out (fun k hk e=>by have:=HLO.out k (by omega);omega));go_wp2_with fail;go_ret2;exact⟨i,Zfz HF.out,fun h=>absurd h (by rw[HF.out];decide),HB.out⟩
end Go.Proofs.YtfofaiommeckbaaGreat
