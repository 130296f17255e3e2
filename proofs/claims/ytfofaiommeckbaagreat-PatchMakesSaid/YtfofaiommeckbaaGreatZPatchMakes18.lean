/- Walks: the reference's Children. -/
import Derived.Test.YtfofaiommeckbaaGreatZPatchMakesB
import Derived.Test.YtfofaiommeckbaaGreatZPatchMakes14
import Derived.IntWalk
open Nat renaming pow_succ → aN, lt_or_ge → aB, le_refl → dJ, mod_mod_of_dvd → dK, pow_dvd_pow → dL, mul_comm → aT
open Bool renaming not_eq_true → dA, true_and → dC, false_and → dB
open List renaming getElem?_toArray → bN, getElem?_cons_zero → bO
set_option linter.unusedVariables false
set_option maxRecDepth 100000
set_option maxHeartbeats 40000000
namespace Go.Proofs.YtfofaiommeckbaaGreat
open Go.RowKit WalkM
theorem Zes {x:Nat}(hx:x≤131070)(h:0<lev x):((plo x (lev x):Int)+x-1)/2=Do x∧((x:Int)+1+phi x (lev x))/2=Br x∧plo x (lev x)<phi x (lev x):=by
 have hl:=Hb hx;have hs:=anc_self (lev_is hx);rw[anc_plo]at hs;obtain⟨k,hk⟩:∃k,lev x=k+1:=⟨lev x-1,by omega⟩;have hh:Dr x=((2^k:Nat):Int):=by
  rw[Dr,hl,if_pos (by omega),hk];simp
 have hp:=pow_pos' k;unfold Do Br phi;rw[hh,if_neg (by omega),if_neg (by omega)];rw[hk]at hs⊢;have e1:2^(k+1)=2*2^k:=(by rw[aN];omega);have e2:2^(k+1+1)=4*2^k:=(by rw[aN,e1];omega);rw[e1]at hs;rw[e2];refine⟨?_,?_,?_⟩<;>omega
theorem Lu {x:Int}(h:¬0<Kg x):Do x= -1∧Br x= -1:=by
 have e:Dr x=0:=(by rw[Dr,if_neg h]);unfold Do Br;rw[e];exact⟨rfl,rfl⟩
theorem Fa (x:Int)(w:World):
  Calls Tryz.prog 100 #[.int .i64 x] w fun e w'=>e=.returned (.tuple #[.int .i64 (Do x),.int .i64 (Br x)])∧Below w.heap.size w w':=by
 by_cases hx:0≤x∧x≤131070
 ·obtain⟨m,rfl⟩:∃m:Nat,x=(m:Int):=⟨x.toNat,by omega⟩;have hm:m≤131070:=(by omega);have D:=Ij m hm;have hl16:=lev_le hm;have hph:=phi_le (x:=m) (d:=16) (by omega) hl16
  by_cases hl:0<lev m
  ·have hk:=Zes hm hl;obtain⟨lo,hlo⟩:=eX (plo m (lev m));obtain⟨hi,hhi⟩:=eX (phi m (lev m));rw[←hlo,←hhi]at D hk;rw[←hhi]at hph;obtain⟨k1,k2,k3⟩:=hk;have hc:((lo:Int)==(hi:Int))=false:=(by rw[beq_eq_false_iff_ne];omega);have hhi17:hi≤131070:=(by omega);have hm1:(1:Int)≤(lo:Int)+(m:Int):=by
    rcases Nat.eq_zero_or_pos m with h|h
    ·subst h;exact absurd hl (by decide)
    ·omega
   rw[←k1,←k2];have HD:=Hd D;clear D hl hlo hhi hph k1 k2 hx hl16;go_enter Tryz.func100,Tryz.ntmps100;go_wp2_with fail;refine(HD.out _).mono ?_;rintro e w1 ⟨rfl,hb⟩;have HB:=Hd hb;clear hb;go_wp2_with fail
   go_quiet (fail)
   go_wp2_with fail;go_ret2;exact⟨rfl,Aa (HB.out.alloc (by have:=HB.out.size;omega) _) _⟩
  ·have hlz:=Hb hm;have hk:=Lu (x:=(m:Int)) (by rw[hlz];omega);have e0:phi m (lev m)=plo m (lev m):=(by unfold phi;rw[show lev m=0 by omega];rfl);rw[hk.1,hk.2];obtain⟨lo,hlo⟩:=eX (plo m (lev m));rw[e0,←hlo]at D;rw[e0,←hlo]at hph;have HD:=Hd D;clear D hl hlo hk hx e0 hlz hl16;go_enter Tryz.func100,Tryz.ntmps100;go_wp2_with fail;refine(HD.out _).mono ?_;rintro e w1 ⟨rfl,hb⟩;have HB:=Hd hb;clear hb;go_wp2_with fail;go_ret2;exact⟨rfl,HB.out.alloc (by have:=HB.out.size;omega) _⟩
 ·have hn:Az x=false:=(by rw[Az,decide_eq_false];exact hx);have D:=Ik x hn;have e:Kg x= -1:=(by rw[Kg,if_neg (by rw[hn];simp)]);have hk:=Lu (x:=x) (by rw[e];omega);rw[hk.1,hk.2];have HD:=Hd D;clear D e hn hx hk;go_enter Tryz.func100,Tryz.ntmps100;go_wp2_with fail;refine(HD.out _).mono ?_;rintro e w1 ⟨rfl,hb⟩;have HB:=Hd hb;clear hb;go_wp2_with fail;go_ret2;exact⟨rfl,HB.out.alloc (by have:=HB.out.size;omega) _⟩
theorem Lv (x d k i:Nat)(h:i<k):(Hq x d k)[i*3]? =some (.int .i64 (anc x (d-i):Nat)):=by
 have h:=Hc x d k i 0 h (by omega);rw[Nat.add_zero]at h;exact h
theorem Ta (x n:Int)(w:World)(h1: -9223372036854775808≤n)(h2:n≤9223372036854775807):
  Calls Tryz.prog 153 #[.int .i64 x,.int .i64 n] w fun e w'=>e=.returned (.int .i64 (Ni x n))∧Below w.heap.size w w':=by
 by_cases ho:Lc x n=true
 ·obtain⟨m,d,rfl,rfl,hd,hm⟩:=Kp ho;have D:=fun w=>Ow m d hd hm w;have h17:=Bb (show d+1≤17 by omega);have hl:=(lev_root hm (lev_is (x:=m) (by omega))).1;rw[Ot hd hm,nxt];have g0:=Lv m d (d-lev m+1) (d-lev m-1);obtain⟨l,hl'⟩:∃l,l=lev m:=⟨_,rfl⟩;rw[←hl']at D hl g0⊢;clear h17 hm h1 h2 ho hl'
  by_cases hlt:l<d
  ·rw[if_pos hlt];have g:=g0 (by omega);rw[show d-(d-l-1)=l+1 by omega]at g;obtain⟨k,hk⟩:∃k,d-l=k+1:=⟨d-l-1,by omega⟩;rw[hk]at D g;rw[show k+1-1=k by omega]at g;have hk16:k≤16:=(by omega);obtain⟨a,ha⟩:=eX (anc m (l+1));rw[←ha]at g⊢;have G:=Hd g;have HD:=Hd D;clear D g g0 hlt hk ha hl;go_enter Tryz.func153,Tryz.ntmps153;go_wp2_with fail;refine(HD.out _).mono ?_;rintro e w1 ⟨v,rfl,hown,hb⟩;obtain⟨g,cap,rfl,hg,hgl,hn,hmx,hc,-⟩:=hown.out (by omega);have c0:=hc _ _ G.out;have HB:=Hd hb;clear hc hown hb;go_wp2_with fail;go_ret;exact⟨rfl,HB.out⟩
  ·rw[if_neg hlt];obtain rfl:l=d:=(by omega);have HD:=Hd D;rw[show l-l=0 by omega]at HD;clear D g0 hlt;go_enter Tryz.func153,Tryz.ntmps153;go_wp2_with fail;refine(HD.out _).mono ?_;rintro e w1 ⟨v,rfl,hown,hb⟩;obtain⟨g,cap,rfl,hg,hgl,hn,hmx,hc,-⟩:=hown.out (by omega);have HB:=Hd hb;clear hc hown hb;go_wp2_with fail;go_ret;exact⟨rfl,HB.out⟩
 ·have hf:Lc x n=false:=(by rw[←dA];exact ho);have e:Ni x n= -1:=(by rw[Ni,if_neg (by rw[hf];simp)]);rw[e];have HD:=Hd (fun w=>Kq x n w h1 h2 hf);clear hf ho e h1 h2;go_enter Tryz.func153,Tryz.ntmps153;go_wp2_with fail;refine(HD.out _).mono ?_;rintro e w1 ⟨rfl,rfl⟩;go_wp2_with fail;go_ret;exact⟨rfl,bR⟩
theorem Zck {x n:Int}(h:0≤Ni x n):(x<Ni x n→Do (Ni x n)=x)∧(¬x<Ni x n→Do (Ni x n)≠x∧Br (Ni x n)=x):=by
 obtain⟨ho,hr⟩:=(Zeo x n).2 h;obtain⟨m,d,rfl,rfl,hd,hm⟩:=Kp ho;have h17:=Bb (show d+1≤17 by omega);have hlv:=lev_is (x:=m) (by omega);have hl:=lev_root hm hlv;have hs:=anc_self hlv;rw[Ot hd hm,nxt];have hlt:lev m<d:=by
  rcases aB (lev m) d with h|h
  ·exact h
  ·exfalso;apply hr;have:=hl.2.1 (by omega);have hp:=pow_pos' d;omega
 rw[if_pos hlt];have hh:=halves m (lev m);have hal:=anc_lev m (lev m+1);have hle:=anc_le (x:=m) (d:=d) (j:=lev m+1) (by omega) (by omega);rw[anc_plo]at hs;obtain⟨a,ha⟩:=eX (anc m (lev m+1));rw[←ha]at hh hal hle⊢;have hla:=lev_eq (by omega) hal;have hz:=Hb (x:=a) (by omega);have hp:=pow_pos' (lev m);have e:Dr (a:Int)=((2^lev m:Nat):Int):=by
  rw[Dr,hz,hla,if_pos (by omega)];simp
 unfold Do Br;rw[e,if_neg (by omega),if_neg (by omega)];have he:phi m (lev m)=plo m (lev m)+(2^(lev m+1)-2):=rfl;rw[aN]at he;refine⟨fun h=> ?_,fun h=>⟨?_,?_⟩⟩;all_goals
  rcases hh with⟨k1,k2,k3⟩|⟨k1,k2,k3⟩<;>omega
theorem Zcl (x n:Int)(w:World)(h1: -9223372036854775808≤n)(h2:n≤9223372036854775807):
  Calls Tryz.prog 98 #[.int .i64 x,.int .i64 n] w fun e w'=>e=.returned (.int .i64 (Zdw x n))∧Below w.heap.size w w':=by
 have P:=fun w=>Ta x n w h1 h2;have hk:= @Zck x n;unfold Zdw;obtain⟨p,hp⟩:=eX (Ni x n);rw[←hp]at P hk⊢;have K:=fun w=>Fa p w;have HP:=Hd P;have HK:=Hd K;clear P K hp h1 h2
 by_cases hn:p<0
 ·rw[if_pos hn];clear hk;go_enter Tryz.func98,Tryz.ntmps98;go_wp2_with fail;refine(HP.out _).mono ?_;rintro e w1 ⟨rfl,hb⟩;have HB:=Hd hb;clear hb;go_wp2_with fail;go_ret;exact⟨rfl,HB.out⟩
 ·rw[if_neg hn];have hk:=hk (by omega);obtain⟨l,hl⟩:=eX (Do p);obtain⟨r,hr⟩:=eX (Br p);rw[←hl,←hr]at HK hk⊢
  by_cases hx:x<p
  ·rw[if_pos hx];obtain rfl:=hk.1 hx;clear hk hl hr hx;go_enter Tryz.func98,Tryz.ntmps98;go_wp2_with fail;refine(HP.out _).mono ?_;rintro e w1 ⟨rfl,hb⟩;have HB:=Hd hb;clear hb;go_wp2_with fail;refine(HK.out _).mono ?_;rintro e w2 ⟨rfl,hb⟩;have HB2:=Hd hb;clear hb;go_wp2_with fail;go_ret;exact⟨rfl,HB.out.trans (HB2.out.mono HB.out.size)⟩
  ·rw[if_neg hx];have hc:(l==x)=false:=(by rw[beq_eq_false_iff_ne];exact(hk.2 hx).1);clear hk hl hr hx;go_enter Tryz.func98,Tryz.ntmps98;go_wp2_with fail;refine(HP.out _).mono ?_;rintro e w1 ⟨rfl,hb⟩;have HB:=Hd hb;clear hb;go_wp2_with fail;refine(HK.out _).mono ?_;rintro e w2 ⟨rfl,hb⟩;have HB2:=Hd hb;clear hb;go_wp2_with fail;go_ret;exact⟨rfl,HB.out.trans (HB2.out.mono HB.out.size)⟩
theorem Zcm {y:Nat}(hy:y≤131070):Ql (y:Int)=((2^lev y-1:Nat):Int):=by
 have:=pow_pos' (lev y);have e:(2:Int)^lev y=((2^lev y:Nat):Int):=(by simp);rw[Ql,Hb hy,Int.toNat_natCast,e];omega
theorem Tb {x y:Nat}(hx:x≤131070)(hy:y≤131070):Bl (x:Int) (y:Int)=decide (plo y (lev y)≤x∧x≤phi y (lev y)):=by
 have h1:Az (x:Int)=true:=(by rw[Az,decide_eq_true];omega);have h2:Az (y:Int)=true:=(by rw[Az,decide_eq_true];omega);have hs:=anc_self (lev_is hy);rw[anc_plo]at hs;have he:phi y (lev y)=plo y (lev y)+(2^(lev y+1)-2):=rfl;rw[aN]at he;have hp:=pow_pos' (lev y);rw[Bl,h1,h2,Zcm hy,dC,dC];apply decide_eq_decide.2;constructor
 ·rintro⟨a,b⟩;omega
 ·rintro⟨a,b⟩;omega
theorem Fo (x y:Int)(w:World):
  Calls Tryz.prog 83 #[.int .i64 x,.int .i64 y] w fun e w'=>e=.returned (.bool (Bl x y))∧Below w.heap.size w w':=by
 by_cases hx:Az x=true
 ·have hx':=of_decide_eq_true hx;obtain⟨m,rfl⟩:∃m:Nat,x=(m:Int):=⟨x.toNat,by omega⟩;have hm:m≤131070:=(by omega);have D:=Ij m hm
  by_cases hy:Az y=true
  ·have hy':=of_decide_eq_true hy;obtain⟨q,rfl⟩:∃q:Nat,y=(q:Int):=⟨y.toNat,by omega⟩;have hq:q≤131070:=(by omega);have E:=Ij q hq;rw[Tb hm hq];obtain⟨lo,hlo⟩:=eX (plo q (lev q));obtain⟨hi,hhi⟩:=eX (phi q (lev q));rw[←hlo,←hhi]at E⊢;have HD:=Hd D;have HE:=Hd E;clear D E hlo hhi hx hy hx' hy';have hd:(lo≤m∧m≤hi)∨(lo≤m∧¬m≤hi)∨¬lo≤m:=(by omega);rcases hd with⟨c1,c2⟩|⟨c1,c2⟩|c1
   ·rw[decide_eq_true ⟨c1,c2⟩];have c1':decide ((lo:Int)≤(m:Int))=true:=(by rw[decide_eq_true];omega);have c2':decide ((m:Int)≤(hi:Int))=true:=(by rw[decide_eq_true];omega);go_enter Tryz.func83,Tryz.ntmps83;go_wp2_with fail;refine(HD.out _).mono ?_;rintro e w1 ⟨rfl,hb⟩;have HB:=Hd hb;clear hb;go_wp2_with fail;refine(HE.out _).mono ?_;rintro e w2 ⟨rfl,hb⟩;have hk:=Ss hb;have HB2:=Hd hb;have k0:=cell_of_row _ _ 0 _ _ _ hk;simp only[bN,bO]at k0;have z1:=HB.out.size;have z2:=HB2.out.size;have hz:w1.heap.size<w2.heap.size:=(by simp at z2;omega);clear hb hk z2;go_wp2_with fail;go_ret;refine⟨rfl,?_⟩;exact((HB.out.alloc z1 _).trans (HB2.out.mono (by simp;omega))).alloc (by omega) _
   ·have e:decide (lo≤m∧m≤hi)=false:=(by rw[decide_eq_false];omega);rw[e];clear e;have c1':decide ((lo:Int)≤(m:Int))=true:=(by rw[decide_eq_true];omega);have c2':decide ((m:Int)≤(hi:Int))=false:=(by rw[decide_eq_false];omega);go_enter Tryz.func83,Tryz.ntmps83;go_wp2_with fail;refine(HD.out _).mono ?_;rintro e w1 ⟨rfl,hb⟩;have HB:=Hd hb;clear hb;go_wp2_with fail;refine(HE.out _).mono ?_;rintro e w2 ⟨rfl,hb⟩;have hk:=Ss hb;have HB2:=Hd hb;have k0:=cell_of_row _ _ 0 _ _ _ hk;simp only[bN,bO]at k0;have z1:=HB.out.size;have z2:=HB2.out.size;have hz:w1.heap.size<w2.heap.size:=(by simp at z2;omega);clear hb hk z2;go_wp2_with fail;go_ret;refine⟨rfl,?_⟩;exact((HB.out.alloc z1 _).trans (HB2.out.mono (by simp;omega))).alloc (by omega) _
   ·have e:decide (lo≤m∧m≤hi)=false:=(by rw[decide_eq_false];omega);rw[e];clear e;have c1':decide ((lo:Int)≤(m:Int))=false:=(by rw[decide_eq_false];omega);go_enter Tryz.func83,Tryz.ntmps83;go_wp2_with fail;refine(HD.out _).mono ?_;rintro e w1 ⟨rfl,hb⟩;have HB:=Hd hb;clear hb;go_wp2_with fail;refine(HE.out _).mono ?_;rintro e w2 ⟨rfl,hb⟩;have hk:=Ss hb;have HB2:=Hd hb;have k0:=cell_of_row _ _ 0 _ _ _ hk;simp only[bN,bO]at k0;have z1:=HB.out.size;have z2:=HB2.out.size;have hz:w1.heap.size<w2.heap.size:=(by simp at z2;omega);clear hb hk z2;go_wp2_with fail;go_ret;refine⟨rfl,?_⟩;exact((HB.out.alloc z1 _).trans (HB2.out.mono (by simp;omega))).alloc (by omega) _
  ·have hf:Az y=false:=(by rw[←dA];exact hy);have E:=Ik y hf;have e:Bl m y=false:=(by rw[Bl,hf,Bool.and_false,dB]);rw[e];have HD:=Hd D;have HE:=Hd E;clear D E e hx hy hx' hf;go_enter Tryz.func83,Tryz.ntmps83;go_wp2_with fail;refine(HD.out _).mono ?_;rintro e w1 ⟨rfl,hb⟩;have HB:=Hd hb;clear hb;go_wp2_with fail;refine(HE.out _).mono ?_;rintro e w2 ⟨rfl,hb⟩;have hk:=Ss hb;have HB2:=Hd hb;have k0:=cell_of_row _ _ 0 _ _ _ hk;simp only[bN,bO]at k0;have z1:=HB.out.size;have z2:=HB2.out.size;have hz:w1.heap.size<w2.heap.size:=(by simp at z2;omega);clear hb hk z2;go_wp2_with fail;go_ret;refine⟨rfl,?_⟩;exact((HB.out.alloc z1 _).trans (HB2.out.mono (by simp;omega))).alloc (by omega) _
 ·have hf:Az x=false:=(by rw[←dA];exact hx);have D:=Ik x hf;have e:Bl x y=false:=(by rw[Bl,hf,dB,dB]);rw[e];have HD:=Hd D;clear D e hx hf
  by_cases hy:Az y=true
  ·have hy':=of_decide_eq_true hy;obtain⟨q,rfl⟩:∃q:Nat,y=(q:Int):=⟨y.toNat,by omega⟩;have hq:q≤131070:=(by omega);have E:=Ij q hq;have HE:=Hd E;clear E hy hy';go_enter Tryz.func83,Tryz.ntmps83;go_wp2_with fail;refine(HD.out _).mono ?_;rintro e w1 ⟨rfl,hb⟩;have HB:=Hd hb;clear hb;go_wp2_with fail;refine(HE.out _).mono ?_;rintro e w2 ⟨rfl,hb⟩;have hk:=Ss hb;have HB2:=Hd hb;have k0:=cell_of_row _ _ 0 _ _ _ hk;simp only[bN,bO]at k0;have z1:=HB.out.size;have z2:=HB2.out.size;have hz:w1.heap.size<w2.heap.size:=(by simp at z2;omega);clear hb hk z2;go_wp2_with fail;go_ret;refine⟨rfl,?_⟩;exact((HB.out.alloc z1 _).trans (HB2.out.mono (by simp;omega))).alloc (by omega) _
  ·have hf:Az y=false:=(by rw[←dA];exact hy);have E:=Ik y hf;have HE:=Hd E;clear E hy hf;go_enter Tryz.func83,Tryz.ntmps83;go_wp2_with fail;refine(HD.out _).mono ?_;rintro e w1 ⟨rfl,hb⟩;have HB:=Hd hb;clear hb;go_wp2_with fail;refine(HE.out _).mono ?_;rintro e w2 ⟨rfl,hb⟩;have hk:=Ss hb;have HB2:=Hd hb;have k0:=cell_of_row _ _ 0 _ _ _ hk;simp only[bN,bO]at k0;have z1:=HB.out.size;have z2:=HB2.out.size;have hz:w1.heap.size<w2.heap.size:=(by simp at z2;omega);clear hb hk z2;go_wp2_with fail;go_ret;refine⟨rfl,?_⟩;exact((HB.out.alloc z1 _).trans (HB2.out.mono (by simp;omega))).alloc (by omega) _
theorem Zet {x y d j:Nat}(hd:d≤16)(hx:x+1<2^(d+1))(hy:y+1<2^(d+1))(hj:j≤d):Bl (y:Int) (anc x j:Nat)=decide (lev y≤j∧anc x j=anc y j):=by
 have h17:=Bb (show d+1≤17 by omega);have hle:=anc_le (show x<2^(d+1) by omega) hj;have hal:=anc_lev x j;have hyl:=lev_is (x:=y) (by omega);rw[Tb (by omega) (by omega),lev_eq (by omega) hal];have e1:plo (anc x j) j=plo x j:=(by unfold plo;rw[anc_div (dJ j)]);have e2:phi (anc x j) j=phi x j:=(by unfold phi;rw[e1]);rw[e1,e2];apply decide_eq_decide.2;have hp:=pow_pos' (j+1);have hb:=anc_bounds y j;have hm:=Nat.div_add_mod y (2^(j+1));have hm2:=Nat.mod_lt y hp;constructor
 ·rintro⟨a,b⟩;have hq:y/2^(j+1)=x/2^(j+1):=by
   unfold phi plo at b;unfold plo at a;refine(Nat.div_eq_of_lt_le ?_ ?_)
   ·exact a
   ·rw[Nat.add_mul,Nat.one_mul];have:=pow_pos' j;have e4:2^(j+1)=2*2^j:=(by rw[aN];omega);omega
  refine⟨?_,by unfold anc;rw[hq]⟩;rcases aB j (lev y)with hlt|hge
  ·exfalso;unfold IsLev at hyl;have h1:y%2^(j+1)=2^(j+1)-1:=by
    have h2:y%2^(lev y+1)%2^(j+1)=y%2^(j+1):=dK _ (dL 2 (by omega));rw[hyl,ones_mod (by omega)]at h2;exact h2.symm
   unfold phi plo at b;rw[←hq,aT]at b;have:=pow_pos' j;have e4:2^(j+1)=2*2^j:=(by rw[aN];omega);omega
  ·exact hge
 ·rintro⟨a,b⟩;have hq:x/2^(j+1)=y/2^(j+1):=by
   rw[←anc_div (x:=x) (dJ j),b,anc_div (dJ j)]
  unfold phi plo;rw[hq];refine⟨hb.1,?_⟩;have e4:2^(j+1)=2*2^j:=(by rw[aN];omega);have hpj:=pow_pos' j;have hne:y%2^(j+1)≠2^(j+1)-1:=by
   intro h;unfold IsLev at hyl;have h2:y%2^(j+1)%2^(lev y+1)=y%2^(lev y+1):=dK _ (dL 2 (by omega));rw[h,ones_mod (by omega),hyl,aN]at h2;have:=pow_pos' (lev y);omega
  rw[aT]at hm;omega
end Go.Proofs.YtfofaiommeckbaaGreat
