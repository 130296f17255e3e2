import Derived.Test.YtfofaiommeckbaaGreatZSliceProves12
import Derived.IntWalk
open Go.Value renaming slice → q9, int → rA
open Go.IntKind renaming i64 → rC
open Option renaming none → rF
open Go.Proofs.Tryz
open Nat renaming pow_succ → aN, lt_or_ge → aB, le_refl → eA, mod_mod_of_dvd → eB, pow_dvd_pow → eC, mul_comm → aT
open Bool renaming not_eq_true → bL, true_and → dI, false_and → dH
open Int renaming toNat_natCast → dG
open List renaming getElem?_toArray → bZ, getElem?_cons_zero → cA
set_option linter.unusedVariables false
set_option maxRecDepth 100000
set_option maxHeartbeats 40000000
namespace Go.Proofs.YtfofaiommeckbaaGreat
open Go.RowKit WalkM
theorem Zku {x:Nat}(hx:x≤131070)(h:0<lev x):((plo x (lev x):Int)+x-1)/2=Eb x∧((x:Int)+1+phi x (lev x))/2=Ce x∧plo x (lev x)<phi x (lev x):=by
 have b:=Hp hx;have a:=anc_self (lev_is hx);rw[anc_plo]at a;obtain⟨k,hk⟩:∃k,lev x=k+1:=⟨lev x-1,by omega⟩;have c:Ee x=((2^k:Nat):Int):=by
  rw[Ee,b,if_pos (by omega),hk];simp
 have d:=pow_pos' k;unfold Eb Ce phi;rw[c,if_neg (by omega),if_neg (by omega)];rw[hk]at a⊢;have e1:2^(k+1)=2*2^k:=(by rw[aN];omega);have e2:2^(k+1+1)=4*2^k:=(by rw[aN,e1];omega);rw[e1]at a;rw[e2];refine⟨?_,?_,?_⟩<;>omega
theorem Od {x:Int}(h:¬0<Mp x):Eb x= -1∧Ce x= -1:=by
 have e:Ee x=0:=(by rw[Ee,if_neg h]);unfold Eb Ce;rw[e];exact⟨rfl,rfl⟩
theorem Hr (x:Int)(w:World):
  Calls prog 100 #[rA rC x] w fun e w'=>e=.returned (.tuple #[rA rC (Eb x),rA rC (Ce x)])∧Below w.heap.size w w':=by
 by_cases hx:0≤x∧x≤131070
 ·obtain⟨m,rfl⟩:∃m:Nat,x=(m:Int):=⟨x.toNat,by omega⟩;have l:m≤131070:=(by omega);have D:=Ko m l;have b:=lev_le l;have i:=phi_le (x:=m) (d:=16) (by omega) b
  by_cases hl:0<lev m
  ·have hk:=Zku l hl;obtain⟨p,a⟩:=eX (plo m (lev m));obtain⟨u,g⟩:=eX (phi m (lev m));rw[←a,←g]at D hk;rw[←g]at i;obtain⟨t,r,z⟩:=hk;have y:((p:Int)==(u:Int))=false:=(by rw[beq_eq_false_iff_ne];omega);have n:u≤131070:=(by omega);have v:(1:Int)≤(p:Int)+(m:Int):=by
    rcases Nat.eq_zero_or_pos m with h|h
    ·subst h;exact absurd hl (by decide)
    ·omega
   rw[←t,←r];have j:=Hd D;clear D hl a g i t r hx b;go_enter func100,ntmps100;go_wp2_with fail;refine(j.out _).mono ?_;rintro e s ⟨rfl,f⟩;have c:=Hd f;clear f;go_wp2_with fail
   go_quiet (fail)
   go_wp2_with fail;go_ret2;exact⟨rfl,Ab (c.out.alloc (by have:=c.out.size;omega) _) _⟩
  ·have k:=Hp l;have hk:=Od (x:=(m:Int)) (by rw[k];omega);have o:phi m (lev m)=plo m (lev m):=(by unfold phi;rw[show lev m=0 by omega];rfl);rw[hk.1,hk.2];obtain⟨p,a⟩:=eX (plo m (lev m));rw[o,←a]at D;rw[o,←a]at i;have j:=Hd D;clear D hl a hk hx o k b;go_enter func100,ntmps100;go_wp2_with fail;refine(j.out _).mono ?_;rintro e s ⟨rfl,f⟩;have c:=Hd f;clear f;go_wp2_with fail;go_ret2;exact⟨rfl,c.out.alloc (by have:=c.out.size;omega) _⟩
 ·have q:Bj x=false:=(by rw[Bj,decide_eq_false];exact hx);have D:=Kp x q;have e:Mp x= -1:=(by rw[Mp,if_neg (by rw[q];simp)]);have hk:=Od (x:=x) (by rw[e];omega);rw[hk.1,hk.2];have j:=Hd D;clear D e q hx hk;go_enter func100,ntmps100;go_wp2_with fail;refine(j.out _).mono ?_;rintro e s ⟨rfl,f⟩;have c:=Hd f;clear f;go_wp2_with fail;go_ret2;exact⟨rfl,c.out.alloc (by have:=c.out.size;omega) _⟩
theorem Oe (x d k i:Nat)(h:i<k):(Jp x d k)[i*3]? =some (rA rC (anc x (d-i):Nat)):=by
 have h:=Iv x d k i 0 h (by omega);rw[Nat.add_zero]at h;exact h
theorem Ww (x n:Int)(w:World)(h1: -9223372036854775808≤n)(h2:n≤9223372036854775807):
  Calls prog 153 #[rA rC x,rA rC n] w fun e w'=>e=.returned (rA rC (Lm x n))∧Below w.heap.size w w':=by
 by_cases ho:Li x n=true
 ·obtain⟨m,d,rfl,rfl,z,i⟩:=Nd ho;have D:=fun w=>Rx m d z i w;have s:=Av (show d+1≤17 by omega);have B:=(lev_root i (lev_is (x:=m) (by omega))).1;rw[Nc z i,nxt];have j:=Oe m d (d-lev m+1) (d-lev m-1);obtain⟨l,h⟩:∃l,l=lev m:=⟨_,rfl⟩;rw[←h]at D B j⊢;clear s i h1 h2 ho h
  by_cases hlt:l<d
  ·rw[if_pos hlt];have g:=j (by omega);rw[show d-(d-l-1)=l+1 by omega]at g;obtain⟨k,hk⟩:∃k,d-l=k+1:=⟨d-l-1,by omega⟩;rw[hk]at D g;rw[show k+1-1=k by omega]at g;have A:k≤16:=(by omega);obtain⟨a,y⟩:=eX (anc m (l+1));rw[←y]at g⊢;have G:=Hd g;have c:=Hd D;clear D g j hlt hk y B;go_enter func153,ntmps153;go_wp2_with fail;refine(c.out _).mono ?_;rintro e u ⟨v,rfl,b,f⟩;obtain⟨g,cap,rfl,C,q,E,p,o,-⟩:=b.out (by omega);have F:=o _ _ G.out;have t:=Hd f;clear o b f;go_wp2_with fail;go_ret;exact⟨rfl,t.out⟩
  ·rw[if_neg hlt];obtain rfl:l=d:=(by omega);have c:=Hd D;rw[show l-l=0 by omega]at c;clear D j hlt;go_enter func153,ntmps153;go_wp2_with fail;refine(c.out _).mono ?_;rintro e u ⟨v,rfl,b,f⟩;obtain⟨g,cap,rfl,C,q,E,p,o,-⟩:=b.out (by omega);have t:=Hd f;clear o b f;go_wp2_with fail;go_ret;exact⟨rfl,t.out⟩
 ·have r:Li x n=false:=(by rw[←bL];exact ho);have e:Lm x n= -1:=(by rw[Lm,if_neg (by rw[r];simp)]);rw[e];have c:=Hd (fun w=>Ne x n w h1 h2 r);clear r ho e h1 h2;go_enter func153,ntmps153;go_wp2_with fail;refine(c.out _).mono ?_;rintro e u ⟨rfl,rfl⟩;go_wp2_with fail;go_ret;exact⟨rfl,bR⟩
theorem Zhz {x n:Int}(h:0≤Lm x n):(x<Lm x n→Eb (Lm x n)=x)∧(¬x<Lm x n→Eb (Lm x n)≠x∧Ce (Lm x n)=x):=by
 obtain⟨w,A⟩:=(Zkr x n).2 h;obtain⟨m,d,rfl,rfl,q,k⟩:=Nd w;have y:=Av (show d+1≤17 by omega);have c:=lev_is (x:=m) (by omega);have z:=lev_root k c;have t:=anc_self c;rw[Nc q k,nxt];have i:lev m<d:=by
  rcases aB (lev m) d with h|h
  ·exact h
  ·exfalso;apply A;have:=z.2.1 (by omega);have B:=pow_pos' d;omega
 rw[if_pos i];have l:=halves m (lev m);have b:=anc_lev m (lev m+1);have f:=anc_le (x:=m) (d:=d) (j:=lev m+1) (by omega) (by omega);rw[anc_plo]at t;obtain⟨a,p⟩:=eX (anc m (lev m+1));rw[←p]at l b f⊢;have g:=lev_eq (by omega) b;have u:=Hp (x:=a) (by omega);have B:=pow_pos' (lev m);have e:Ee (a:Int)=((2^lev m:Nat):Int):=by
  rw[Ee,u,g,if_pos (by omega)];simp
 unfold Eb Ce;rw[e,if_neg (by omega),if_neg (by omega)];have s:phi m (lev m)=plo m (lev m)+(2^(lev m+1)-2):=rfl;rw[aN]at s;refine⟨fun h=> ?_,fun h=>⟨?_,?_⟩⟩;all_goals
  rcases l with⟨r,o,v⟩|⟨r,o,v⟩<;>omega
theorem Zh0 (x n:Int)(w:World)(h1: -9223372036854775808≤n)(h2:n≤9223372036854775807):
  Calls prog 98 #[rA rC x,rA rC n] w fun e w'=>e=.returned (rA rC (Zj3 x n))∧Below w.heap.size w w':=by
 have P:=fun w=>Ww x n w h1 h2;have hk:= @Zhz x n;unfold Zj3;obtain⟨p,j⟩:=eX (Lm x n);rw[←j]at P hk⊢;have K:=fun w=>Hr p w;have d:=Hd P;have h:=Hd K;clear P K j h1 h2
 by_cases hn:p<0
 ·rw[if_pos hn];clear hk;go_enter func98,ntmps98;go_wp2_with fail;refine(d.out _).mono ?_;rintro e i ⟨rfl,a⟩;have c:=Hd a;clear a;go_wp2_with fail;go_ret;exact⟨rfl,c.out⟩
 ·rw[if_neg hn];have hk:=hk (by omega);obtain⟨l,f⟩:=eX (Eb p);obtain⟨r,g⟩:=eX (Ce p);rw[←f,←g]at h hk⊢
  by_cases hx:x<p
  ·rw[if_pos hx];obtain rfl:=hk.1 hx;clear hk f g hx;go_enter func98,ntmps98;go_wp2_with fail;refine(d.out _).mono ?_;rintro e i ⟨rfl,a⟩;have c:=Hd a;clear a;go_wp2_with fail;refine(h.out _).mono ?_;rintro e k ⟨rfl,a⟩;have b:=Hd a;clear a;go_wp2_with fail;go_ret;exact⟨rfl,c.out.trans (b.out.mono c.out.size)⟩
  ·rw[if_neg hx];have m:(l==x)=false:=(by rw[beq_eq_false_iff_ne];exact(hk.2 hx).1);clear hk f g hx;go_enter func98,ntmps98;go_wp2_with fail;refine(d.out _).mono ?_;rintro e i ⟨rfl,a⟩;have c:=Hd a;clear a;go_wp2_with fail;refine(h.out _).mono ?_;rintro e k ⟨rfl,a⟩;have b:=Hd a;clear a;go_wp2_with fail;go_ret;exact⟨rfl,c.out.trans (b.out.mono c.out.size)⟩
theorem Zh1 {y:Nat}(hy:y≤131070):Ua (y:Int)=((2^lev y-1:Nat):Int):=by
 have:=pow_pos' (lev y);have e:(2:Int)^lev y=((2^lev y:Nat):Int):=(by simp);rw[Ua,Hp hy,dG,e];omega
theorem Wx {x y:Nat}(hx:x≤131070)(c:y≤131070):Bx (x:Int) (y:Int)=decide (plo y (lev y)≤x∧x≤phi y (lev y)):=by
 have h1:Bj (x:Int)=true:=(by rw[Bj,decide_eq_true];omega);have h2:Bj (y:Int)=true:=(by rw[Bj,decide_eq_true];omega);have d:=anc_self (lev_is c);rw[anc_plo]at d;have e:phi y (lev y)=plo y (lev y)+(2^(lev y+1)-2):=rfl;rw[aN]at e;have f:=pow_pos' (lev y);rw[Bx,h1,h2,Zh1 c,dI,dI];apply decide_eq_decide.2;constructor
 ·rintro⟨a,b⟩;omega
 ·rintro⟨a,b⟩;omega
theorem Ds (x y:Int)(w:World):
  Calls prog 83 #[rA rC x,rA rC y] w fun e w'=>e=.returned (.bool (Bx x y))∧Below w.heap.size w w':=by
 by_cases hx:Bj x=true
 ·have u:=of_decide_eq_true hx;obtain⟨m,rfl⟩:∃m:Nat,x=(m:Int):=⟨x.toNat,by omega⟩;have B:m≤131070:=(by omega);have D:=Ko m B
  by_cases hy:Bj y=true
  ·have o:=of_decide_eq_true hy;obtain⟨q,rfl⟩:∃q:Nat,y=(q:Int):=⟨y.toNat,by omega⟩;have z:q≤131070:=(by omega);have E:=Ko q z;rw[Wx B z];obtain⟨n,v⟩:=eX (plo q (lev q));obtain⟨p,s⟩:=eX (phi q (lev q));rw[←v,←s]at E⊢;have l:=Hd D;have k:=Hd E;clear D E v s hx hy u o;have C:(n≤m∧m≤p)∨(n≤m∧¬m≤p)∨¬n≤m:=(by omega);rcases C with⟨c1,c2⟩|⟨c1,c2⟩|c1
   ·rw[decide_eq_true ⟨c1,c2⟩];have r:decide ((n:Int)≤(m:Int))=true:=(by rw[decide_eq_true];omega);have A:decide ((m:Int)≤(p:Int))=true:=(by rw[decide_eq_true];omega);go_enter func83,ntmps83;go_wp2_with fail;refine(l.out _).mono ?_;rintro e g ⟨rfl,a⟩;have d:=Hd a;clear a;go_wp2_with fail;refine(k.out _).mono ?_;rintro e h ⟨rfl,a⟩;have hk:=Wo a;have b:=Hd a;have f:=cell_of_row _ _ 0 _ _ _ hk;simp only[bZ,cA]at f;have i:=d.out.size;have c:=b.out.size;have t:g.heap.size<h.heap.size:=(by simp at c;omega);clear a hk c;go_wp2_with fail;go_ret;refine⟨rfl,?_⟩;exact((d.out.alloc i _).trans (b.out.mono (by simp;omega))).alloc (by omega) _
   ·have e:decide (n≤m∧m≤p)=false:=(by rw[decide_eq_false];omega);rw[e];clear e;have r:decide ((n:Int)≤(m:Int))=true:=(by rw[decide_eq_true];omega);have A:decide ((m:Int)≤(p:Int))=false:=(by rw[decide_eq_false];omega);go_enter func83,ntmps83;go_wp2_with fail;refine(l.out _).mono ?_;rintro e g ⟨rfl,a⟩;have d:=Hd a;clear a;go_wp2_with fail;refine(k.out _).mono ?_;rintro e h ⟨rfl,a⟩;have hk:=Wo a;have b:=Hd a;have f:=cell_of_row _ _ 0 _ _ _ hk;simp only[bZ,cA]at f;have i:=d.out.size;have c:=b.out.size;have t:g.heap.size<h.heap.size:=(by simp at c;omega);clear a hk c;go_wp2_with fail;go_ret;refine⟨rfl,?_⟩;exact((d.out.alloc i _).trans (b.out.mono (by simp;omega))).alloc (by omega) _
   ·have e:decide (n≤m∧m≤p)=false:=(by rw[decide_eq_false];omega);rw[e];clear e;have r:decide ((n:Int)≤(m:Int))=false:=(by rw[decide_eq_false];omega);go_enter func83,ntmps83;go_wp2_with fail;refine(l.out _).mono ?_;rintro e g ⟨rfl,a⟩;have d:=Hd a;clear a;go_wp2_with fail;refine(k.out _).mono ?_;rintro e h ⟨rfl,a⟩;have hk:=Wo a;have b:=Hd a;have f:=cell_of_row _ _ 0 _ _ _ hk;simp only[bZ,cA]at f;have i:=d.out.size;have c:=b.out.size;have t:g.heap.size<h.heap.size:=(by simp at c;omega);clear a hk c;go_wp2_with fail;go_ret;refine⟨rfl,?_⟩;exact((d.out.alloc i _).trans (b.out.mono (by simp;omega))).alloc (by omega) _
  ·have j:Bj y=false:=(by rw[←bL];exact hy);have E:=Kp y j;have e:Bx m y=false:=(by rw[Bx,j,Bool.and_false,dH]);rw[e];have l:=Hd D;have k:=Hd E;clear D E e hx hy u j;go_enter func83,ntmps83;go_wp2_with fail;refine(l.out _).mono ?_;rintro e g ⟨rfl,a⟩;have d:=Hd a;clear a;go_wp2_with fail;refine(k.out _).mono ?_;rintro e h ⟨rfl,a⟩;have hk:=Wo a;have b:=Hd a;have f:=cell_of_row _ _ 0 _ _ _ hk;simp only[bZ,cA]at f;have i:=d.out.size;have c:=b.out.size;have t:g.heap.size<h.heap.size:=(by simp at c;omega);clear a hk c;go_wp2_with fail;go_ret;refine⟨rfl,?_⟩;exact((d.out.alloc i _).trans (b.out.mono (by simp;omega))).alloc (by omega) _
 ·have j:Bj x=false:=(by rw[←bL];exact hx);have D:=Kp x j;have e:Bx x y=false:=(by rw[Bx,j,dH,dH]);rw[e];have l:=Hd D;clear D e hx j
  by_cases hy:Bj y=true
  ·have o:=of_decide_eq_true hy;obtain⟨q,rfl⟩:∃q:Nat,y=(q:Int):=⟨y.toNat,by omega⟩;have z:q≤131070:=(by omega);have E:=Ko q z;have k:=Hd E;clear E hy o;go_enter func83,ntmps83;go_wp2_with fail;refine(l.out _).mono ?_;rintro e g ⟨rfl,a⟩;have d:=Hd a;clear a;go_wp2_with fail;refine(k.out _).mono ?_;rintro e h ⟨rfl,a⟩;have hk:=Wo a;have b:=Hd a;have f:=cell_of_row _ _ 0 _ _ _ hk;simp only[bZ,cA]at f;have i:=d.out.size;have c:=b.out.size;have t:g.heap.size<h.heap.size:=(by simp at c;omega);clear a hk c;go_wp2_with fail;go_ret;refine⟨rfl,?_⟩;exact((d.out.alloc i _).trans (b.out.mono (by simp;omega))).alloc (by omega) _
  ·have j:Bj y=false:=(by rw[←bL];exact hy);have E:=Kp y j;have k:=Hd E;clear E hy j;go_enter func83,ntmps83;go_wp2_with fail;refine(l.out _).mono ?_;rintro e g ⟨rfl,a⟩;have d:=Hd a;clear a;go_wp2_with fail;refine(k.out _).mono ?_;rintro e h ⟨rfl,a⟩;have hk:=Wo a;have b:=Hd a;have f:=cell_of_row _ _ 0 _ _ _ hk;simp only[bZ,cA]at f;have i:=d.out.size;have c:=b.out.size;have t:g.heap.size<h.heap.size:=(by simp at c;omega);clear a hk c;go_wp2_with fail;go_ret;refine⟨rfl,?_⟩;exact((d.out.alloc i _).trans (b.out.mono (by simp;omega))).alloc (by omega) _
theorem Wy {x y d j:Nat}(v:d≤16)(hx:x+1<2^(d+1))(u:y+1<2^(d+1))(o:j≤d):Bx (y:Int) (anc x j:Nat)=decide (lev y≤j∧anc x j=anc y j):=by
 have r:=Av (show d+1≤17 by omega);have k:=anc_le (show x<2^(d+1) by omega) o;have g:=anc_lev x j;have c:=lev_is (x:=y) (by omega);rw[Wx (by omega) (by omega),lev_eq (by omega) g];have e1:plo (anc x j) j=plo x j:=(by unfold plo;rw[anc_div (eA j)]);have e2:phi (anc x j) j=phi x j:=(by unfold phi;rw[e1]);rw[e1,e2];apply decide_eq_decide.2;have s:=pow_pos' (j+1);have t:=anc_bounds y j;have m:=Nat.div_add_mod y (2^(j+1));have l:=Nat.mod_lt y s;constructor
 ·rintro⟨a,b⟩;have e:y/2^(j+1)=x/2^(j+1):=by
   unfold phi plo at b;unfold plo at a;refine(Nat.div_eq_of_lt_le ?_ ?_)
   ·exact a
   ·rw[Nat.add_mul,Nat.one_mul];have:=pow_pos' j;have i:2^(j+1)=2*2^j:=(by rw[aN];omega);omega
  refine⟨?_,by unfold anc;rw[e]⟩;rcases aB j (lev y)with n|f
  ·exfalso;unfold IsLev at c;have h1:y%2^(j+1)=2^(j+1)-1:=by
    have h2:y%2^(lev y+1)%2^(j+1)=y%2^(j+1):=eB _ (eC 2 (by omega));rw[c,ones_mod (by omega)]at h2;exact h2.symm
   unfold phi plo at b;rw[←e,aT]at b;have:=pow_pos' j;have i:2^(j+1)=2*2^j:=(by rw[aN];omega);omega
  ·exact f
 ·rintro⟨a,b⟩;have e:x/2^(j+1)=y/2^(j+1):=by
   rw[←anc_div (x:=x) (eA j),b,anc_div (eA j)]
  unfold phi plo;rw[e];refine⟨t.1,?_⟩;have i:2^(j+1)=2*2^j:=(by rw[aN];omega);have q:=pow_pos' j;have p:y%2^(j+1)≠2^(j+1)-1:=by
   intro h;unfold IsLev at c;have h2:y%2^(j+1)%2^(lev y+1)=y%2^(lev y+1):=eB _ (eC 2 (by omega));rw[h,ones_mod (by omega),c,aN]at h2;have:=pow_pos' (lev y);omega
  rw[aT]at m;omega
theorem Of (x n:Int)(w:World)(h1: -9223372036854775808≤n)(h2:n≤9223372036854775807):
  Calls prog 46 #[rA rC x,rA rC n] w fun e w'=>∃v,e=.returned v∧Own w' w.heap.size 3 v (nvs (Pi x n))∧Below w.heap.size w w':=by
 by_cases ho:Li x n=true
 ·obtain⟨m,d,rfl,rfl,O,y⟩:=Nd ho;have D:=fun w=>Rx m d O y w;have L:=Av (show d+1≤17 by omega);have S:=(lev_root y (lev_is (x:=m) (by omega))).1;rw[Rw O y];have z:=Oe m d (d-lev m+1);obtain⟨l,u⟩:∃l,l=lev m:=⟨_,rfl⟩;rw[←u]at D S z⊢;obtain⟨k,hk⟩:=eX (d-l);rw[←hk]at D z⊢;have Q:k≤16:=(by omega);have t:d=l+k:=(by omega);have E:=Hd t;have C:=Hd D;have X:=Hd z;clear D z hk S u ho y L h1 h2 t;go_enter func46,ntmps46;go_wp2_with fail;refine(C.out _).mono ?_;rintro e o ⟨v,rfl,b,T⟩;obtain⟨g,cap,rfl,hg,H,hn,U,R,-⟩:=b.out (by omega);have Z:=Hd R;have M:=Hd T;clear R b T;go_wp2_with fail
  go_loopg [6,7] k (fun q out i wr=>∃r:Nat,r+q=k∧i=rA rC ((k:Int)-1-r)∧Own wr o.heap.size 3 out (nvs (ups m l r))∧Below o.heap.size o wr)
  case atStart=>
   refine⟨0,by omega,Hg ?_,Own.nil _ _ _,bR⟩;omega
  case round=>
   obtain⟨r,hr,rfl,b,h⟩:=hrel;have N:=Hd b;have f:=Hd h;have B:=h.size;clear b h
   by_cases hrk:r<k
   ·obtain⟨j,P⟩:∃j,k=r+1+j:=⟨k-r-1,by omega⟩;have A:(k:Int)-1-r=(j:Int):=(by omega);rw[A];have I:=Z.out _ _ (X.out j (by omega));rw[←f.out.cell (p:=⟨g,j*3,rF⟩) H]at I;rw[show d-j=l+r+1 by have:=E.out;omega]at I;obtain⟨a,F⟩:=eX (anc m (l+r+1));rw[←F]at I;have V:=Hd F;have W:j<k+1:=(by omega);have EJ:=Hd A;have Y:=Hd P;clear F A P;go_wp2_with (at_builtin;refine An rfl (.tmp 18) (.tmp 24) 48 rfl o.heap.size 3 _ 8 Cn _ _ rfl (N.out.alloc _) ⟨wr.heap.size,0,rF⟩ (rA rC (a:Int)) rfl ?c1 rfl ?c2 ?c3 ?_);case c1=>exact Ar rfl
    case c2=>rw[Ln,Rv];omega
    case c3=>simp;omega
    rintro v' w2 c-s;have K:=Hd c;have G:=Hd s;clear c s;go_wp2_with fail;go_roundg (gk-1);case measure=>omega
    case rel=>
     refine⟨r+1,by omega,Hg ?_,?_,?_⟩
     ·have:=Y.out;omega
     ·rw[Yz,Za,←V.out];exact K.out
     ·exact(f.out.alloc B _).trans G.out
   ·obtain rfl:r=k:=(by omega);go_wp2_with fail;go_ret;exact⟨_,rfl,N.out.mono M.out.size,M.out.trans (f.out.mono M.out.size)⟩
 ·have J:Li x n=false:=(by rw[←bL];exact ho);rw[Zdf J];have C:=Hd (fun w=>Ne x n w h1 h2 J);clear J ho h1 h2;go_enter func46,ntmps46;go_wp2_with fail;refine(C.out _).mono ?_;rintro e o ⟨rfl,rfl⟩;go_wp2_with fail
  go_loopg [6,7] 0 (fun q out i wr=>i=rA rC (-2)∧out=q9 rF 0 0∧wr=w)
  case atStart=>exact⟨rfl,rfl,rfl⟩
  case round=>
   obtain⟨rfl,rfl,rfl⟩:=hrel;go_wp2_with fail;go_ret;exact⟨_,rfl,Own.nil _ _ _,bR⟩
def Zh2 (x:Nat)(n:Int)(l r:Nat):List Int:=(List.range r).map fun j=>Zj3 (anc x (l+j):Nat) n
theorem Zf (x:Nat)(n:Int)(l r:Nat):(Zh2 x n l r).length=r:=by simp[Zh2]
theorem Zdu (x:Nat)(n:Int)(l r:Nat):Zh2 x n l (r+1)=Zh2 x n l r++[Zj3 (anc x (l+r):Nat) n]:=by
 unfold Zh2;rw[List.range_succ,List.map_append]
 rfl
theorem Ng (k:IntKind)(L:List Int)(x:Int):ivs k (L++[x])=ivs k L++[.int k x]:=by simp[ivs]
theorem Zdv (k:IntKind)(L:List Int):(ivs k L).length=L.length:=by simp[ivs]
def Zh3 (x n:Int):List Int:=if Li x n=true then Zh2 x.toNat n (lev x.toNat) (Nat.log2 n.toNat-lev x.toNat)else []
theorem Wz {x d:Nat}(hd:d≤16)(hx:x+1<2^(d+1)):Zh3 (x:Int) ((2^d:Nat):Int)=Zh2 x ((2^d:Nat):Int) (lev x) (d-lev x):=by
 rw[Zh3,if_pos (by rw[Ru hd,decide_eq_true hx]),dG,dG,Nat.log2_two_pow]
theorem Zh4 {x n:Int}(h:Li x n=false):Zh3 x n=[]:=by rw[Zh3,if_neg (by rw[h];simp)]
theorem Xa (x n:Int)(w:World)(h1: -9223372036854775808≤n)(h2:n≤9223372036854775807):
  Calls prog 47 #[rA rC x,rA rC n] w fun e w'=>∃v,e=.returned v∧Own w' w.heap.size 3 v (ivs .i64 (Zh3 x n))∧Below w.heap.size w w':=by
 by_cases ho:Li x n=true
 ·obtain⟨m,d,rfl,rfl,hd,E⟩:=Nd ho;have D:=fun w=>Rx m d hd E w;have Y:=Av (show d+1≤17 by omega);have hl:=(lev_root E (lev_is (x:=m) (by omega))).1;rw[Wz hd E];have G:=Oe m d (d-lev m+1);have S:=fun(y:Int) w=>Zh0 y ((2^d:Nat):Int) w h1 h2;obtain⟨n,T⟩:=eX (2^d);rw[←T]at S D⊢;obtain⟨l,B⟩:∃l,l=lev m:=⟨_,rfl⟩;rw[←B]at D hl G⊢;obtain⟨k,hk⟩:=eX (d-l);rw[←hk]at D G⊢;have aA:k≤16:=(by omega);have z:d=l+k:=(by omega);have N:=Hd z;have H:=Hd D;have HG:=Hd G;have HS:=Hd S;clear D G hk hl B ho E Y h1 h2 z S T;go_enter func47,ntmps47;go_wp2_with fail;refine(H.out _).mono ?_;rintro e u ⟨v,rfl,b,hb⟩;obtain⟨g,cap,rfl,hg,X,T,aC,hc,-⟩:=b.out (by omega);have HC:=Hd hc;have Q:=Hd hb;clear hc b hb;go_wp2_with fail
  go_loopg [6,7] k (fun q out i wr=>∃r:Nat,r+q=k∧i=rA rC ((k:Int)-r)∧Own wr u.heap.size 3 out (ivs .i64 (Zh2 m n l r))∧Below u.heap.size u wr)
  case atStart=>
   refine⟨0,by omega,Hg ?_,Own.nil _ _ _,bR⟩;omega
  case round=>
   obtain⟨r,hr,rfl,b,f⟩:=hrel;have HO:=Hd b;have h:=Hd f;have M:=f.size;clear b f
   by_cases hrk:r<k
   ·obtain⟨j,Z⟩:∃j,k=r+1+j:=⟨k-r-1,by omega⟩;have L:(k:Int)-r=(j:Int)+1:=(by omega);rw[L];have P:=HC.out _ _ (HG.out (j+1) (by omega));rw[←h.out.cell (p:=⟨g,(j+1)*3,rF⟩) X]at P;rw[show d-(j+1)=l+r by have:=N.out;omega]at P;have F:=HS.out (anc m (l+r):Nat);obtain⟨a,O⟩:=eX (anc m (l+r));rw[←O]at P F;obtain⟨s,U⟩:=eX (Zj3 (a:Int) n);rw[←U]at F;have aB:j+1<k+1:=(by omega);have R:=Hd F;have HA:=Hd O;have W:=Hd U;have EJ:=Hd L;have HJ:=Hd Z;clear O L Z F U;go_wp2_with fail;refine(R.out _).mono ?_;rintro e w2 ⟨rfl,o⟩;have t:=Hd (h.out.trans (o.mono M));have I:=Hd (HO.out.below o lR);have C:=t.out.size;clear o;go_wp2_with (at_builtin;refine An rfl (.tmp 18) (.tmp 26) 48 rfl u.heap.size 3 _ 8 Cn _ _ rfl (I.out.alloc _) ⟨w2.heap.size,0,rF⟩ (rA rC s) rfl ?c1 rfl ?c2 ?c3 ?_);case c1=>exact Ar rfl
    case c2=>rw[Zdv,Zf];omega
    case c3=>simp;omega
    rintro v' w3 c-A;have J:=Hd c;have V:=Hd A;clear c A;go_wp2_with fail;go_roundg (gk-1);case measure=>omega
    case rel=>
     refine⟨r+1,by omega,Hg ?_,?_,?_⟩
     ·have:=HJ.out;omega
     ·rw[Zdu,Ng,←HA.out,←W.out];exact J.out
     ·exact(t.out.alloc C _).trans V.out
   ·obtain rfl:r=k:=(by omega);go_wp2_with fail;go_ret;exact⟨_,rfl,HO.out.mono Q.out.size,Q.out.trans (h.out.mono Q.out.size)⟩
 ·have K:Li x n=false:=(by rw[←bL];exact ho);rw[Zh4 K];have H:=Hd (fun w=>Ne x n w h1 h2 K);clear K ho h1 h2;go_enter func47,ntmps47;go_wp2_with fail;refine(H.out _).mono ?_;rintro e u ⟨rfl,rfl⟩;go_wp2_with fail
  go_loopg [6,7] 0 (fun q out i wr=>i=rA rC (-1)∧out=q9 rF 0 0∧wr=w)
  case atStart=>exact⟨rfl,rfl,rfl⟩
  case round=>
   obtain⟨rfl,rfl,rfl⟩:=hrel;go_wp2_with fail;go_ret;exact⟨_,rfl,Own.nil _ _ _,bR⟩
end Go.Proofs.YtfofaiommeckbaaGreat
