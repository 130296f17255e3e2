/- Walks: the reference's Children. -/
import Derived.Test.YtfofaiommeckbaaGreatZSliceSoundB
import Derived.Test.YtfofaiommeckbaaGreatZSliceSound12
import Derived.IntWalk
open Nat renaming pow_succ → aP, le_refl → eI, mod_mod_of_dvd → eJ, pow_dvd_pow → eK, mul_comm → aV
open Bool renaming true_and → dK, not_eq_true → bN, false_and → dJ
open List renaming getElem?_toArray → cC, getElem?_cons_zero → cD
set_option linter.unusedVariables false
set_option maxRecDepth 100000
set_option maxHeartbeats 40000000
namespace Go.Proofs.YtfofaiommeckbaaGreat
open Go.RowKit WalkM
theorem Zj7 {x:Nat}(hx:x≤131070)(h:0<lev x):((plo x (lev x):Int)+x-1)/2=Hr x∧((x:Int)+1+phi x (lev x))/2=Em x∧plo x (lev x)<phi x (lev x):=by
 have c:=Ii hx;have a:=anc_self (lev_is hx);rw[anc_plo]at a;obtain⟨k,hk⟩:∃k,lev x=k+1:=⟨lev x-1,by omega⟩;have hh:Et x=((2^k:Nat):Int):=by
  rw[Et,c,if_pos (by omega),hk];simp
 have d:=pow_pos' k;unfold Hr Em phi;rw[hh,if_neg (by omega),if_neg (by omega)];rw[hk]at a⊢;have b:2^(k+1)=2*2^k:=(by rw[aP];omega);have e2:2^(k+1+1)=4*2^k:=(by rw[aP,b];omega);rw[b]at a;rw[e2];refine⟨?_,?_,?_⟩<;>omega
theorem Ne {x:Int}(h:¬0<Lp x):Hr x= -1∧Em x= -1:=by
 have e:Et x=0:=(by rw[Et,if_neg h]);unfold Hr Em;rw[e];exact⟨rfl,rfl⟩
theorem Yn (x:Int)(w:World):
  Calls Tryz.prog 100 #[.int .i64 x] w fun e w'=>e=.returned (.tuple #[.int .i64 (Hr x),.int .i64 (Em x)])∧Below w.heap.size w w':=by
 by_cases hx:0≤x∧x≤131070
 ·obtain⟨m,rfl⟩:∃m:Nat,x=(m:Int):=⟨x.toNat,by omega⟩;have l:m≤131070:=(by omega);have D:=Js m l;have b:=lev_le l;have i:=phi_le (x:=m) (d:=16) (by omega) b
  by_cases hl:0<lev m
  ·have hk:=Zj7 l hl;obtain⟨n,a⟩:=eX (plo m (lev m));obtain⟨u,g⟩:=eX (phi m (lev m));rw[←a,←g]at D hk;rw[←g]at i;obtain⟨s,t,y⟩:=hk;have z:((n:Int)==(u:Int))=false:=(by rw[beq_eq_false_iff_ne];omega);have q:u≤131070:=(by omega);have v:(1:Int)≤(n:Int)+(m:Int):=by
    rcases Nat.eq_zero_or_pos m with h|h
    ·subst h;exact absurd hl (by decide)
    ·omega
   rw[←s,←t];have j:=Hd D;clear D hl a g i s t hx b;go_enter Tryz.func100,Tryz.ntmps100;go_wp2_with fail;refine(j.out _).mono ?_;rintro e r ⟨rfl,c⟩;have f:=Hd c;clear c;go_wp2_with fail
   go_quiet (fail)
   go_wp2_with fail;go_ret2;exact⟨rfl,Ab (f.out.alloc (by have:=f.out.size;omega) _) _⟩
  ·have k:=Ii l;have hk:=Ne (x:=(m:Int)) (by rw[k];omega);have p:phi m (lev m)=plo m (lev m):=(by unfold phi;rw[show lev m=0 by omega];rfl);rw[hk.1,hk.2];obtain⟨n,a⟩:=eX (plo m (lev m));rw[p,←a]at D;rw[p,←a]at i;have j:=Hd D;clear D hl a hk hx p k b;go_enter Tryz.func100,Tryz.ntmps100;go_wp2_with fail;refine(j.out _).mono ?_;rintro e r ⟨rfl,c⟩;have f:=Hd c;clear c;go_wp2_with fail;go_ret2;exact⟨rfl,f.out.alloc (by have:=f.out.size;omega) _⟩
 ·have o:Bf x=false:=(by rw[Bf,decide_eq_false];exact hx);have D:=Jt x o;have e:Lp x= -1:=(by rw[Lp,if_neg (by rw[o];simp)]);have hk:=Ne (x:=x) (by rw[e];omega);rw[hk.1,hk.2];have j:=Hd D;clear D e o hx hk;go_enter Tryz.func100,Tryz.ntmps100;go_wp2_with fail;refine(j.out _).mono ?_;rintro e r ⟨rfl,c⟩;have f:=Hd c;clear c;go_wp2_with fail;go_ret2;exact⟨rfl,f.out.alloc (by have:=f.out.size;omega) _⟩
theorem Zhb {y:Nat}(hy:y≤131070):Sy (y:Int)=((2^lev y-1:Nat):Int):=by
 have:=pow_pos' (lev y);have e:(2:Int)^lev y=((2^lev y:Nat):Int):=(by simp);rw[Sy,Ii hy,Int.toNat_natCast,e];omega
theorem Vs {x y:Nat}(hx:x≤131070)(c:y≤131070):Cc (x:Int) (y:Int)=decide (plo y (lev y)≤x∧x≤phi y (lev y)):=by
 have e:Bf (x:Int)=true:=(by rw[Bf,decide_eq_true];omega);have h2:Bf (y:Int)=true:=(by rw[Bf,decide_eq_true];omega);have f:=anc_self (lev_is c);rw[anc_plo]at f;have d:phi y (lev y)=plo y (lev y)+(2^(lev y+1)-2):=rfl;rw[aP]at d;have g:=pow_pos' (lev y);rw[Cc,e,h2,Zhb c,dK,dK];apply decide_eq_decide.2;constructor
 ·rintro⟨a,b⟩;omega
 ·rintro⟨a,b⟩;omega
theorem Fc (x y:Int)(w:World):
  Calls Tryz.prog 83 #[.int .i64 x,.int .i64 y] w fun e w'=>e=.returned (.bool (Cc x y))∧Below w.heap.size w w':=by
 by_cases hx:Bf x=true
 ·have t:=of_decide_eq_true hx;obtain⟨m,rfl⟩:∃m:Nat,x=(m:Int):=⟨x.toNat,by omega⟩;have B:m≤131070:=(by omega);have D:=Js m B
  by_cases hy:Bf y=true
  ·have o:=of_decide_eq_true hy;obtain⟨q,rfl⟩:∃q:Nat,y=(q:Int):=⟨y.toNat,by omega⟩;have z:q≤131070:=(by omega);have E:=Js q z;rw[Vs B z];obtain⟨n,r⟩:=eX (plo q (lev q));obtain⟨p,u⟩:=eX (phi q (lev q));rw[←r,←u]at E⊢;have l:=Hd D;have k:=Hd E;clear D E r u hx hy t o;have C:(n≤m∧m≤p)∨(n≤m∧¬m≤p)∨¬n≤m:=(by omega);rcases C with⟨c1,c2⟩|⟨c1,c2⟩|c1
   ·rw[decide_eq_true ⟨c1,c2⟩];have s:decide ((n:Int)≤(m:Int))=true:=(by rw[decide_eq_true];omega);have A:decide ((m:Int)≤(p:Int))=true:=(by rw[decide_eq_true];omega);go_enter Tryz.func83,Tryz.ntmps83;go_wp2_with fail;refine(l.out _).mono ?_;rintro e f ⟨rfl,a⟩;have c:=Hd a;clear a;go_wp2_with fail;refine(k.out _).mono ?_;rintro e i ⟨rfl,a⟩;have hk:=Vl a;have b:=Hd a;have g:=cell_of_row _ _ 0 _ _ _ hk;simp only[cC,cD]at g;have h:=c.out.size;have d:=b.out.size;have v:f.heap.size<i.heap.size:=(by simp at d;omega);clear a hk d;go_wp2_with fail;go_ret;refine⟨rfl,?_⟩;exact((c.out.alloc h _).trans (b.out.mono (by simp;omega))).alloc (by omega) _
   ·have e:decide (n≤m∧m≤p)=false:=(by rw[decide_eq_false];omega);rw[e];clear e;have s:decide ((n:Int)≤(m:Int))=true:=(by rw[decide_eq_true];omega);have A:decide ((m:Int)≤(p:Int))=false:=(by rw[decide_eq_false];omega);go_enter Tryz.func83,Tryz.ntmps83;go_wp2_with fail;refine(l.out _).mono ?_;rintro e f ⟨rfl,a⟩;have c:=Hd a;clear a;go_wp2_with fail;refine(k.out _).mono ?_;rintro e i ⟨rfl,a⟩;have hk:=Vl a;have b:=Hd a;have g:=cell_of_row _ _ 0 _ _ _ hk;simp only[cC,cD]at g;have h:=c.out.size;have d:=b.out.size;have v:f.heap.size<i.heap.size:=(by simp at d;omega);clear a hk d;go_wp2_with fail;go_ret;refine⟨rfl,?_⟩;exact((c.out.alloc h _).trans (b.out.mono (by simp;omega))).alloc (by omega) _
   ·have e:decide (n≤m∧m≤p)=false:=(by rw[decide_eq_false];omega);rw[e];clear e;have s:decide ((n:Int)≤(m:Int))=false:=(by rw[decide_eq_false];omega);go_enter Tryz.func83,Tryz.ntmps83;go_wp2_with fail;refine(l.out _).mono ?_;rintro e f ⟨rfl,a⟩;have c:=Hd a;clear a;go_wp2_with fail;refine(k.out _).mono ?_;rintro e i ⟨rfl,a⟩;have hk:=Vl a;have b:=Hd a;have g:=cell_of_row _ _ 0 _ _ _ hk;simp only[cC,cD]at g;have h:=c.out.size;have d:=b.out.size;have v:f.heap.size<i.heap.size:=(by simp at d;omega);clear a hk d;go_wp2_with fail;go_ret;refine⟨rfl,?_⟩;exact((c.out.alloc h _).trans (b.out.mono (by simp;omega))).alloc (by omega) _
  ·have j:Bf y=false:=(by rw[←bN];exact hy);have E:=Jt y j;have e:Cc m y=false:=(by rw[Cc,j,Bool.and_false,dJ]);rw[e];have l:=Hd D;have k:=Hd E;clear D E e hx hy t j;go_enter Tryz.func83,Tryz.ntmps83;go_wp2_with fail;refine(l.out _).mono ?_;rintro e f ⟨rfl,a⟩;have c:=Hd a;clear a;go_wp2_with fail;refine(k.out _).mono ?_;rintro e i ⟨rfl,a⟩;have hk:=Vl a;have b:=Hd a;have g:=cell_of_row _ _ 0 _ _ _ hk;simp only[cC,cD]at g;have h:=c.out.size;have d:=b.out.size;have v:f.heap.size<i.heap.size:=(by simp at d;omega);clear a hk d;go_wp2_with fail;go_ret;refine⟨rfl,?_⟩;exact((c.out.alloc h _).trans (b.out.mono (by simp;omega))).alloc (by omega) _
 ·have j:Bf x=false:=(by rw[←bN];exact hx);have D:=Jt x j;have e:Cc x y=false:=(by rw[Cc,j,dJ,dJ]);rw[e];have l:=Hd D;clear D e hx j
  by_cases hy:Bf y=true
  ·have o:=of_decide_eq_true hy;obtain⟨q,rfl⟩:∃q:Nat,y=(q:Int):=⟨y.toNat,by omega⟩;have z:q≤131070:=(by omega);have E:=Js q z;have k:=Hd E;clear E hy o;go_enter Tryz.func83,Tryz.ntmps83;go_wp2_with fail;refine(l.out _).mono ?_;rintro e f ⟨rfl,a⟩;have c:=Hd a;clear a;go_wp2_with fail;refine(k.out _).mono ?_;rintro e i ⟨rfl,a⟩;have hk:=Vl a;have b:=Hd a;have g:=cell_of_row _ _ 0 _ _ _ hk;simp only[cC,cD]at g;have h:=c.out.size;have d:=b.out.size;have v:f.heap.size<i.heap.size:=(by simp at d;omega);clear a hk d;go_wp2_with fail;go_ret;refine⟨rfl,?_⟩;exact((c.out.alloc h _).trans (b.out.mono (by simp;omega))).alloc (by omega) _
  ·have j:Bf y=false:=(by rw[←bN];exact hy);have E:=Jt y j;have k:=Hd E;clear E hy j;go_enter Tryz.func83,Tryz.ntmps83;go_wp2_with fail;refine(l.out _).mono ?_;rintro e f ⟨rfl,a⟩;have c:=Hd a;clear a;go_wp2_with fail;refine(k.out _).mono ?_;rintro e i ⟨rfl,a⟩;have hk:=Vl a;have b:=Hd a;have g:=cell_of_row _ _ 0 _ _ _ hk;simp only[cC,cD]at g;have h:=c.out.size;have d:=b.out.size;have v:f.heap.size<i.heap.size:=(by simp at d;omega);clear a hk d;go_wp2_with fail;go_ret;refine⟨rfl,?_⟩;exact((c.out.alloc h _).trans (b.out.mono (by simp;omega))).alloc (by omega) _
theorem Vt {x y d j:Nat}(w:d≤16)(hx:x+1<2^(d+1))(v:y+1<2^(d+1))(q:j≤d):Cc (y:Int) (anc x j:Nat)=decide (lev y≤j∧anc x j=anc y j):=by
 have t:=Ba (show d+1≤17 by omega);have l:=anc_le (show x<2^(d+1) by omega) q;have g:=anc_lev x j;have c:=lev_is (x:=y) (by omega);rw[Vs (by omega) (by omega),lev_eq (by omega) g];have k:plo (anc x j) j=plo x j:=(by unfold plo;rw[anc_div (eI j)]);have e2:phi (anc x j) j=phi x j:=(by unfold phi;rw[k]);rw[k,e2];apply decide_eq_decide.2;have s:=pow_pos' (j+1);have n:=anc_bounds y j;have p:=Nat.div_add_mod y (2^(j+1));have u:=Nat.mod_lt y s;constructor
 ·rintro⟨a,b⟩;have e:y/2^(j+1)=x/2^(j+1):=by
   unfold phi plo at b;unfold plo at a;refine(Nat.div_eq_of_lt_le ?_ ?_)
   ·exact a
   ·rw[Nat.add_mul,Nat.one_mul];have:=pow_pos' j;have i:2^(j+1)=2*2^j:=(by rw[aP];omega);omega
  refine⟨?_,by unfold anc;rw[e]⟩;rcases Nat.lt_or_ge j (lev y)with o|f
  ·exfalso;unfold IsLev at c;have z:y%2^(j+1)=2^(j+1)-1:=by
    have h2:y%2^(lev y+1)%2^(j+1)=y%2^(j+1):=eJ _ (eK 2 (by omega));rw[c,ones_mod (by omega)]at h2;exact h2.symm
   unfold phi plo at b;rw[←e,aV]at b;have:=pow_pos' j;have i:2^(j+1)=2*2^j:=(by rw[aP];omega);omega
  ·exact f
 ·rintro⟨a,b⟩;have e:x/2^(j+1)=y/2^(j+1):=by
   rw[←anc_div (x:=x) (eI j),b,anc_div (eI j)]
  unfold phi plo;rw[e];refine⟨n.1,?_⟩;have i:2^(j+1)=2*2^j:=(by rw[aP];omega);have r:=pow_pos' j;have m:y%2^(j+1)≠2^(j+1)-1:=by
   intro h;unfold IsLev at c;have h2:y%2^(j+1)%2^(lev y+1)=y%2^(lev y+1):=eJ _ (eK 2 (by omega));rw[h,ones_mod (by omega),c,aP]at h2;have:=pow_pos' (lev y);omega
  rw[aV]at p;omega
theorem Qx (k:IntKind)(L:List Int)(x:Int):ivs k (L++[x])=ivs k L++[.int k x]:=by simp[ivs]
theorem Zj8 (k:IntKind)(L:List Int):(ivs k L).length=L.length:=by simp[ivs]
end Go.Proofs.YtfofaiommeckbaaGreat
