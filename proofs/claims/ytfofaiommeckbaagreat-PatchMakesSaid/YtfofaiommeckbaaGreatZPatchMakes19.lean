/- Walks: the reference's Path, Copath; walk.Copath. -/
import Derived.Test.YtfofaiommeckbaaGreatZPatchMakesB
import Derived.Test.YtfofaiommeckbaaGreatZPatchMakes18
set_option linter.unusedVariables false
set_option maxRecDepth 100000
set_option maxHeartbeats 40000000
namespace Go.Proofs.YtfofaiommeckbaaGreat
open Go.RowKit WalkM
theorem Lw (x n:Int)(w:World)(h1: -9223372036854775808≤n)(h2:n≤9223372036854775807):
  Calls Tryz.prog 46 #[.int .i64 x,.int .i64 n] w fun e w'=>∃v,e=.returned v∧Own w' w.heap.size 3 v (nvs (My x n))∧Below w.heap.size w w':=by
 by_cases ho:Lc x n=true
 ·obtain⟨m,d,rfl,rfl,hd,hm⟩:=Kp ho;have D:=fun w=>Ow m d hd hm w;have h17:=Bb (show d+1≤17 by omega);have hl:=(lev_root hm (lev_is (x:=m) (by omega))).1;rw[Ov hd hm];have g0:=Lv m d (d-lev m+1);obtain⟨l,hl'⟩:∃l,l=lev m:=⟨_,rfl⟩;rw[←hl']at D hl g0⊢;obtain⟨k,hk⟩:=eX (d-l);rw[←hk]at D g0⊢;have hk16:k≤16:=(by omega);have hkd:d=l+k:=(by omega);have HKD:=Hd hkd;have HD:=Hd D;have HG:=Hd g0;clear D g0 hk hl hl' ho hm h17 h1 h2 hkd;go_enter Tryz.func46,Tryz.ntmps46;go_wp2_with fail;refine(HD.out _).mono ?_;rintro e w1 ⟨v,rfl,hown,hb⟩;obtain⟨g,cap,rfl,hg,hgl,hn,hmx,hc,-⟩:=hown.out (by omega);have HC:=Hd hc;have HB:=Hd hb;clear hc hown hb;go_wp2_with fail
  go_loopg [6,7] k (fun q out i wr=>∃r:Nat,r+q=k∧i=.int .i64 ((k:Int)-1-r)∧Own wr w1.heap.size 3 out (nvs (ups m l r))∧Below w1.heap.size w1 wr)
  case atStart=>
   refine⟨0,by omega,Gm ?_,Own.nil _ _ _,bR⟩;omega
  case round=>
   obtain⟨r,hr,rfl,hown,hb1⟩:=hrel;have HO:=Hd hown;have HB1:=Hd hb1;have hsz:=hb1.size;clear hown hb1
   by_cases hrk:r<k
   ·obtain⟨j,hj⟩:∃j,k=r+1+j:=⟨k-r-1,by omega⟩;have ej:(k:Int)-1-r=(j:Int):=(by omega);rw[ej];have c0:=HC.out _ _ (HG.out j (by omega));rw[←HB1.out.cell (p:=⟨g,j*3,none⟩) hgl]at c0;rw[show d-j=l+r+1 by have:=HKD.out;omega]at c0;obtain⟨a,ha⟩:=eX (anc m (l+r+1));rw[←ha]at c0;have HA:=Hd ha;have hjk:j<k+1:=(by omega);have EJ:=Hd ej;have HJ:=Hd hj;clear ha ej hj;go_wp2_with (at_builtin;refine An rfl (.tmp 18) (.tmp 24) 48 rfl w1.heap.size 3 _ 8 Cl _ _ rfl (HO.out.alloc _) ⟨wr.heap.size,0,none⟩ (.int .i64 (a:Int)) rfl ?c1 rfl ?c2 ?c3 ?_);case c1=>exact Aq rfl
    case c2=>rw[Ou,Yp];omega
    case c3=>simp;omega
    rintro v' w2 hown1-hb2;have HO1:=Hd hown1;have HB2:=Hd hb2;clear hown1 hb2;go_wp2_with fail;go_roundg (gk-1);case measure=>omega
    case rel=>
     refine⟨r+1,by omega,Gm ?_,?_,?_⟩
     ·have:=HJ.out;omega
     ·rw[Zcd,Zce,←HA.out];exact HO1.out
     ·exact(HB1.out.alloc hsz _).trans HB2.out
   ·obtain rfl:r=k:=(by omega);go_wp2_with fail;go_ret;exact⟨_,rfl,HO.out.mono HB.out.size,HB.out.trans (HB1.out.mono HB.out.size)⟩
 ·have hf:Lc x n=false:=(by rw[←Bool.not_eq_true];exact ho);rw[Yq hf];have HD:=Hd (fun w=>Kq x n w h1 h2 hf);clear hf ho h1 h2;go_enter Tryz.func46,Tryz.ntmps46;go_wp2_with fail;refine(HD.out _).mono ?_;rintro e w1 ⟨rfl,rfl⟩;go_wp2_with fail
  go_loopg [6,7] 0 (fun q out i wr=>i=.int .i64 (-2)∧out=.slice none 0 0∧wr=w)
  case atStart=>exact⟨rfl,rfl,rfl⟩
  case round=>
   obtain⟨rfl,rfl,rfl⟩:=hrel;go_wp2_with fail;go_ret;exact⟨_,rfl,Own.nil _ _ _,bR⟩
def Zcn (x:Nat)(n:Int)(l r:Nat):List Int:=(List.range r).map fun j=>Zdw (anc x (l+j):Nat) n
theorem Ux (x:Nat)(n:Int)(l r:Nat):(Zcn x n l r).length=r:=by simp[Zcn]
theorem Zc (x:Nat)(n:Int)(l r:Nat):Zcn x n l (r+1)=Zcn x n l r++[Zdw (anc x (l+r):Nat) n]:=by
 unfold Zcn;rw[List.range_succ,List.map_append]
 rfl
theorem Kr (k:IntKind)(L:List Int)(x:Int):ivs k (L++[x])=ivs k L++[.int k x]:=by simp[ivs]
theorem Zd (k:IntKind)(L:List Int):(ivs k L).length=L.length:=by simp[ivs]
def Zco (x n:Int):List Int:=if Lc x n=true then Zcn x.toNat n (lev x.toNat) (Nat.log2 n.toNat-lev x.toNat)else []
theorem Tc {x d:Nat}(hd:d≤16)(hx:x+1<2^(d+1)):Zco (x:Int) ((2^d:Nat):Int)=Zcn x ((2^d:Nat):Int) (lev x) (d-lev x):=by
 rw[Zco,if_pos (by rw[Oq hd,decide_eq_true hx]),Int.toNat_natCast,Int.toNat_natCast,Nat.log2_two_pow]
theorem Zcp {x n:Int}(h:Lc x n=false):Zco x n=[]:=by rw[Zco,if_neg (by rw[h];simp)]
theorem Td (x n:Int)(w:World)(h1: -9223372036854775808≤n)(h2:n≤9223372036854775807):
  Calls Tryz.prog 47 #[.int .i64 x,.int .i64 n] w fun e w'=>∃v,e=.returned v∧Own w' w.heap.size 3 v (ivs .i64 (Zco x n))∧Below w.heap.size w w':=by
 by_cases ho:Lc x n=true
 ·obtain⟨m,d,rfl,rfl,hd,hm⟩:=Kp ho;have D:=fun w=>Ow m d hd hm w;have h17:=Bb (show d+1≤17 by omega);have hl:=(lev_root hm (lev_is (x:=m) (by omega))).1;rw[Tc hd hm];have g0:=Lv m d (d-lev m+1);have S:=fun(y:Int) w=>Zcl y ((2^d:Nat):Int) w h1 h2;obtain⟨n,hn⟩:=eX (2^d);rw[←hn]at S D⊢;obtain⟨l,hl'⟩:∃l,l=lev m:=⟨_,rfl⟩;rw[←hl']at D hl g0⊢;obtain⟨k,hk⟩:=eX (d-l);rw[←hk]at D g0⊢;have hk16:k≤16:=(by omega);have hkd:d=l+k:=(by omega);have HKD:=Hd hkd;have HD:=Hd D;have HG:=Hd g0;have HS:=Hd S;clear D g0 hk hl hl' ho hm h17 h1 h2 hkd S hn;go_enter Tryz.func47,Tryz.ntmps47;go_wp2_with fail;refine(HD.out _).mono ?_;rintro e w1 ⟨v,rfl,hown,hb⟩;obtain⟨g,cap,rfl,hg,hgl,hn,hmx,hc,-⟩:=hown.out (by omega);have HC:=Hd hc;have HB:=Hd hb;clear hc hown hb;go_wp2_with fail
  go_loopg [6,7] k (fun q out i wr=>∃r:Nat,r+q=k∧i=.int .i64 ((k:Int)-r)∧Own wr w1.heap.size 3 out (ivs .i64 (Zcn m n l r))∧Below w1.heap.size w1 wr)
  case atStart=>
   refine⟨0,by omega,Gm ?_,Own.nil _ _ _,bR⟩;omega
  case round=>
   obtain⟨r,hr,rfl,hown,hb1⟩:=hrel;have HO:=Hd hown;have HB1:=Hd hb1;have hsz:=hb1.size;clear hown hb1
   by_cases hrk:r<k
   ·obtain⟨j,hj⟩:∃j,k=r+1+j:=⟨k-r-1,by omega⟩;have ej:(k:Int)-r=(j:Int)+1:=(by omega);rw[ej];have c0:=HC.out _ _ (HG.out (j+1) (by omega));rw[←HB1.out.cell (p:=⟨g,(j+1)*3,none⟩) hgl]at c0;rw[show d-(j+1)=l+r by have:=HKD.out;omega]at c0;have hS:=HS.out (anc m (l+r):Nat);obtain⟨a,ha⟩:=eX (anc m (l+r));rw[←ha]at c0 hS;obtain⟨s,hs⟩:=eX (Zdw (a:Int) n);rw[←hs]at hS;have hjk:j+1<k+1:=(by omega);have HS1:=Hd hS;have HA:=Hd ha;have HSS:=Hd hs;have EJ:=Hd ej;have HJ:=Hd hj;clear ha ej hj hS hs;go_wp2_with fail;refine(HS1.out _).mono ?_;rintro e w2 ⟨rfl,hb2⟩;have HB2:=Hd (HB1.out.trans (hb2.mono hsz));have HO2:=Hd (HO.out.below hb2 lR);have hsz2:=HB2.out.size;clear hb2;go_wp2_with (at_builtin;refine An rfl (.tmp 18) (.tmp 26) 48 rfl w1.heap.size 3 _ 8 Cl _ _ rfl (HO2.out.alloc _) ⟨w2.heap.size,0,none⟩ (.int .i64 s) rfl ?c1 rfl ?c2 ?c3 ?_);case c1=>exact Aq rfl
    case c2=>rw[Zd,Ux];omega
    case c3=>simp;omega
    rintro v' w3 hown1-hb3;have HO3:=Hd hown1;have HB3:=Hd hb3;clear hown1 hb3;go_wp2_with fail;go_roundg (gk-1);case measure=>omega
    case rel=>
     refine⟨r+1,by omega,Gm ?_,?_,?_⟩
     ·have:=HJ.out;omega
     ·rw[Zc,Kr,←HA.out,←HSS.out];exact HO3.out
     ·exact(HB2.out.alloc hsz2 _).trans HB3.out
   ·obtain rfl:r=k:=(by omega);go_wp2_with fail;go_ret;exact⟨_,rfl,HO.out.mono HB.out.size,HB.out.trans (HB1.out.mono HB.out.size)⟩
 ·have hf:Lc x n=false:=(by rw[←Bool.not_eq_true];exact ho);rw[Zcp hf];have HD:=Hd (fun w=>Kq x n w h1 h2 hf);clear hf ho h1 h2;go_enter Tryz.func47,Tryz.ntmps47;go_wp2_with fail;refine(HD.out _).mono ?_;rintro e w1 ⟨rfl,rfl⟩;go_wp2_with fail
  go_loopg [6,7] 0 (fun q out i wr=>i=.int .i64 (-1)∧out=.slice none 0 0∧wr=w)
  case atStart=>exact⟨rfl,rfl,rfl⟩
  case round=>
   obtain⟨rfl,rfl,rfl⟩:=hrel;go_wp2_with fail;go_ret;exact⟨_,rfl,Own.nil _ _ _,bR⟩
end Go.Proofs.YtfofaiommeckbaaGreat
