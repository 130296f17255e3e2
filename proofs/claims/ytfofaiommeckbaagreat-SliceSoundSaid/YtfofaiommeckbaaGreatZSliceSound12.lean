/- Walks: walk.Under, walk.Span. -/
import Derived.Test.YtfofaiommeckbaaGreatZSliceSoundB
import Derived.Test.YtfofaiommeckbaaGreatZSliceSound11
import Derived.Test.YtfofaiommeckbaaGreatZSliceSound03
open Int renaming toNat_natCast → dI
open Bool renaming not_eq_true → bN, false_and → dJ, true_and → dK
open Nat renaming pow_succ → aP, sub_zero → dL
set_option linter.unusedVariables false
set_option maxRecDepth 100000
set_option maxHeartbeats 40000000
namespace Go.Proofs.YtfofaiommeckbaaGreat
open Go.RowKit WalkM
def Sy (y:Int):Int:=2^(Lp y).toNat-1
def Cc (x y:Int):Bool:=Bf x&&Bf y&&decide (y-Sy y≤x∧x≤y+Sy y)
theorem Cy (x y:Int)(w:World):
  Calls Tryz.prog 192 #[.int .i64 x,.int .i64 y] w fun e w'=>e=.returned (.bool (Cc x y))∧w=w':=by
 have N:=Lu x
 by_cases hx:Bf x=true
 ·rw[hx]at N;have g:=Hd N;have M:=Lu y;clear N
  by_cases hy:Bf y=true
  ·rw[hy]at M;have i:=Hd M;have e:Cc x y=decide (y-Sy y≤x∧x≤y+Sy y):=(by rw[Cc,hx,hy];rfl);rw[e];have z:=of_decide_eq_true hx;have A:=of_decide_eq_true hy;clear hx hy e M;obtain⟨m,rfl⟩:∃m:Nat,y=(m:Int):=⟨y.toNat,by omega⟩;have n:m≤131070:=(by omega);have L:=Mn (m:Int);have r:Sy (m:Int)=2^(lev m)-1:=(by rw[Sy,Ii n,dI]);rw[r];rw[Ii n]at L;have v:=lev_le n;obtain⟨l,f⟩:∃l,l=lev m:=⟨_,rfl⟩;rw[←f]at L v⊢;have o:=Hd L;have t:=Ba (show l≤16 by omega);have u:=two_pow_pos l;have j:(2:Int)^l=((2^l:Nat):Int):=(by simp);rw[j];have k:=Lv (show l≤17 by omega);rw[j]at k;obtain⟨p,q⟩:=eX (2^l);rw[←q]at t u k j⊢;have C:=Hd k;have B:=Hd j;clear f L r q
   by_cases ha:(m:Int)-((p:Int)-1)≤x
   ·have e:decide ((m:Int)-((p:Int)-1)≤x∧x≤(m:Int)+((p:Int)-1))=decide (x≤(m:Int)+((p:Int)-1)):=by
     by_cases a:x≤(m:Int)+((p:Int)-1)
     ·rw[decide_eq_true ⟨ha,a⟩,decide_eq_true a]
     ·rw[decide_eq_false (fun h=>a h.2),decide_eq_false a]
    rw[e];clear e;obtain⟨b,a⟩:=eX (decide (x≤(m:Int)+((p:Int)-1)));rw[←a];have s:=Hd a;clear a;go_enter Tryz.func192,Tryz.ntmps192;go_wp2_with fail;refine(g.out _).mono ?_;rintro e w' ⟨rfl,rfl⟩;go_wp2_with fail;refine(i.out _).mono ?_;rintro e w' ⟨rfl,rfl⟩;go_wp2_with fail;refine(o.out _).mono ?_;rintro e w' ⟨rfl,rfl⟩;go_wp2_with fail;go_ret;exact⟨Ac s.out.symm,rfl⟩
   ·rw[decide_eq_false (fun h=>ha h.1)];go_enter Tryz.func192,Tryz.ntmps192;go_wp2_with fail;refine(g.out _).mono ?_;rintro e w' ⟨rfl,rfl⟩;go_wp2_with fail;refine(i.out _).mono ?_;rintro e w' ⟨rfl,rfl⟩;go_wp2_with fail;refine(o.out _).mono ?_;rintro e w' ⟨rfl,rfl⟩;go_wp2_with fail;go_ret;exact⟨rfl,rfl⟩
  ·have c:Bf y=false:=(by rw[←bN];exact hy);rw[c]at M;have i:=Hd M;have e:Cc x y=false:=(by rw[Cc,c,Bool.and_false,dJ]);rw[e];clear hx hy c e M;go_enter Tryz.func192,Tryz.ntmps192;go_wp2_with fail;refine(g.out _).mono ?_;rintro e w' ⟨rfl,rfl⟩;go_wp2_with fail;refine(i.out _).mono ?_;rintro e w' ⟨rfl,rfl⟩;go_wp2_with fail;go_ret;exact⟨rfl,rfl⟩
 ·have d:Bf x=false:=(by rw[←bN];exact hx);rw[d]at N;have g:=Hd N;have e:Cc x y=false:=(by rw[Cc,d,dJ,dJ]);rw[e];clear hx d e N;go_enter Tryz.func192,Tryz.ntmps192;go_wp2_with fail;refine(g.out _).mono ?_;rintro e w' ⟨rfl,rfl⟩;go_wp2_with fail;go_ret;exact⟨rfl,rfl⟩
theorem Ye {x d:Nat}(b:d≤16):Uy (x:Int) ((2^d:Nat):Int)=decide (x+1<2^(d+1)):=by
 have a:fits (2^d)=true:=(fits_iff _).2 ⟨d,b,rfl⟩;have c:=pow_pos' d;rw[Uy,dI,a,dK,aP];generalize 2^d=p at*
 by_cases h:x+1<p*2
 ·rw[decide_eq_true h,decide_eq_true];omega
 ·rw[decide_eq_false h,decide_eq_false];omega
def nxt (x d j:Nat):Int:=if j<d then((anc x (j+1):Nat):Int)else-1
theorem Yf {x d:Nat}(c:d≤16)(hx:x+1<2^(d+1)):Zf9 (x:Int) ((2^d:Nat):Int)=nxt x d (lev x):=by
 have b:=Ba (show d+1≤17 by omega);have a:=lev_root hx (lev_is (by omega));have f:=pow_pos' d;unfold Zf9 nxt;rw[Ye c,decide_eq_true hx,dI]
 by_cases h:lev x<d
 ·rw[if_pos h,if_pos];refine⟨rfl,fun e=> ?_⟩;have:x=2^d-1:=(by omega);have:=a.2.2 this;omega
 ·rw[if_neg h,if_neg];rintro⟨_,e⟩;apply e;have:=a.2.1 (by omega);omega
theorem Zgy {x d j:Nat}(hd:d≤16)(hx:x+1<2^(d+1))(hj:j≤d):Zf9 ((anc x j:Nat):Int) ((2^d:Nat):Int)=nxt x d j:=by
 have h17:=Ba (show d+1≤17 by omega);have hle:=anc_le (show x<2^(d+1) by omega) hj;rw[Yf hd hle,lev_eq (by omega) (anc_lev x j)];unfold nxt;rw[anc_anc (by omega)]
def ups (x:Nat):Nat→Nat→List Nat
 |_,0=>[]
 |j,k+1=>anc x (j+1)::ups x (j+1) k
theorem Zcs (x:Nat):∀k j,(ups x j k).length=k:=by
 intro k
 induction k with
 |zero=>intro j;rfl
 |succ k ih=>intro j;simp[ups,ih]
theorem Zgz (x:Nat):∀k j,ups x j (k+1)=ups x j k++[anc x (j+k+1)]:=by
 intro k
 induction k with
 |zero=>intro j;rfl
 |succ k ih=>
  intro j;rw[ups,ih,ups];simp only[List.cons_append];rw[show j+1+k+1=j+(k+1)+1 by omega]
def nvs (L:List Nat):List Value:=ivs .i64 (L.map fun(n:Nat)=>(n:Int))
theorem Zct (L:List Nat):(nvs L).length=L.length:=by simp[nvs,ivs]
theorem Zg0 (L:List Nat)(x:Nat):nvs (L++[x])=nvs L++[.int .i64 (x:Int)]:=by simp[nvs,ivs]
theorem Qu:Elem Tryz.prog 48 3 (.int .i64 0) 8:=⟨Tryz.underlying48,by kernel_rfl,rfl,by omega⟩
theorem Zg1 (x d:Nat)(B:d≤16)(hx:x+1<2^(d+1))(w:World):
  Calls Tryz.prog 269 #[.int .i64 x,.int .i64 ((2^d:Nat):Int)] w fun e w'=>∃v,e=.returned v∧Own w' w.heap.size 3 v (nvs (ups x (lev x) (d-lev x)))∧Below w.heap.size w w':=by
 have A:=Ba (show d+1≤17 by omega);have o:=Ba B;have M:=(lev_root hx (lev_is (by omega))).1;have z:=fun w=>Oy x ((2^d:Nat):Int) w (by omega) (by omega);rw[Yf B hx]at z;have H:∀j,j≤d→∀w,Calls Tryz.prog 288 #[.int .i64 (anc x j:Nat),.int .i64 ((2^d:Nat):Int)] w fun e w'=>e=.returned (.int .i64 (nxt x d j))∧∃k,w'=w.drewN k:=by
  intro j L w;have:=Oy (anc x j:Nat) ((2^d:Nat):Int) w (by omega) (by omega);rw[Zgy B hx L]at this;exact this
 have g:=Hd z;have m:=Hd H;obtain⟨l,h⟩:∃l,l=lev x:=⟨_,rfl⟩;rw[←h]at g M⊢;obtain⟨n,q⟩:=eX (2^d);have O:=Hd hx;have P:=Hd q;have F:n≤65536:=(by rw[q];exact o);rw[←q]at g m⊢;clear z H h hx q A o;go_enter Tryz.func269,Tryz.ntmps269;go_wp2_with fail;refine(g.out _).mono ?_;rintro e w' ⟨rfl,k,rfl⟩;go_wp2_with fail
 go_loopg [0,5] (d-l) (fun k y r wr=>∃i:Nat,i+k=d-l∧y=.int .i64 (nxt x d (l+i))∧Own wr w.heap.size 3 r (nvs (ups x l i))∧Below w.heap.size w wr)
 case atStart=>exact⟨0,by omega,rfl,Own.nil _ _ _,Ab bR _⟩
 case round=>
  obtain⟨i,R,rfl,f,b⟩:=hrel;have I:=Hd f;have G:=Hd b;have E:=b.size;clear f b
  by_cases hlt:l+i<d
  ·rw[nxt,if_pos hlt];have C:=m.out (l+i+1) (by omega);obtain⟨a,D⟩:=eX (anc x (l+i+1));rw[←D]at C⊢;have K:=Hd D;have J:=Hd C;clear D C;go_wp2_with (at_builtin;refine Dj rfl (.tmp 14) (.tmp 16) 48 rfl w.heap.size 3 _ 8 Qu _ _ rfl (I.out.alloc _) ⟨wr.heap.size,0,none⟩ (.int .i64 (a:Int)) rfl ?c1 rfl ?c2 ?c3 ?_);case c1=>exact Bz rfl
   case c2=>rw[Zct,Zcs];omega
   case c3=>simp;omega
   rintro v' N c u p;clear u;have s:=Hd c;have t:=Hd p;clear c p;go_wp2_with fail;refine(J.out _).mono ?_;rintro e w' ⟨rfl,Q,rfl⟩;go_wp2_with fail;go_roundg (gk-1);case measure=>omega
   case rel=>
    refine⟨i+1,by omega,by rw[Nat.add_assoc],?_,?_⟩
    ·rw[Zgz,Zg0,←K.out];exact s.out.drewN _
    ·exact Ab ((G.out.alloc E _).trans t.out) _
  ·rw[nxt,if_neg hlt];obtain rfl:i=d-l:=(by omega);go_wp2_with fail;go_ret;exact⟨_,rfl,I.out,G.out⟩
def Zj2 (x n:Int):List Nat:=if Uy x n=true then ups x.toNat (lev x.toNat) (Nat.log2 n.toNat-lev x.toNat)else []
theorem Yg {x d:Nat}(hd:d≤16)(hx:x+1<2^(d+1)):Zj2 (x:Int) ((2^d:Nat):Int)=ups x (lev x) (d-lev x):=by
 rw[Zj2,if_pos (by rw[Ye hd,decide_eq_true hx]),dI,dI,Nat.log2_two_pow]
theorem Sz (n:Int)(w:World):
  Calls Tryz.prog 69 #[.int .i64 n] w fun e w'=>e=.returned (.bool (fits n.toNat))∧w=w':=by
 go_enter Tryz.func69,Tryz.ntmps69;go_wp2_with fail
 go_loopg [3] 17 (fun k i wr=>∃d:Nat,d+k=17∧i=.int .i64 ((2^d:Nat):Int)∧(∀e,e<d→n≠((2^e:Nat):Int))∧wr=w)
 case atStart=>exact⟨0,rfl,rfl,fun e h=>absurd h (by omega),rfl⟩
 case round=>
  obtain⟨d,v,rfl,c,rfl⟩:=hrel;have f:=Hd c;clear c
  by_cases h17:d=17
  ·subst h17;have g:fits n.toNat=false:=by
    rw[←bN];intro h;obtain⟨e,s,h⟩:=(fits_iff _).1 h;have j:=pow_pos' e;exact f.out e (by omega) (by omega)
   have o:=Hd g;clear g;have q:((2^17:Nat):Int)=131072:=(by decide);rw[q];go_wp2_with fail;go_ret;exact⟨Ac o.out.symm,rfl⟩
  ·have a:d≤16:=(by omega);have l:=Ba a;have b:2^(d+1)=2*2^d:=(by rw[aP];omega);obtain⟨p,j⟩:=eX (2^d);have t:=Hd b;have m:=Hd j;rw[←j]at l⊢;clear b j h17
   by_cases hn:n=(p:Int)
   ·subst hn;have g:fits (p:Int).toNat=true:=(by rw[dI,m.out];exact(fits_iff _).2 ⟨d,a,rfl⟩);have o:=Hd g;clear g;go_wp2_with fail;go_ret;exact⟨Ac o.out.symm,rfl⟩
   ·have u:((p:Int)==n)=false:=(by rw[beq_eq_false_iff_ne];omega);have r:=Hd hn;clear hn;go_wp2_with fail;go_roundg (gk-1);case measure=>omega
    case rel=>
     refine⟨d+1,by omega,by rw[t.out,←m.out];go_num,?_,rfl⟩;intro e s
     by_cases h:e=d
     ·subst h;rw[←m.out];exact r.out
     ·exact f.out e (by omega)
def Zau (x j:Nat):List Value:=[.int .i64 (anc x j:Nat),.int .i64 (plo x j:Nat),.int .i64 (phi x j:Nat)]
def Jr (x d:Nat):Nat→List Value
 |0=>[]
 |k+1=>Jr x d k++Zau x (d-k)
theorem Kq (x d:Nat):∀k,(Jr x d k).length=k*3:=by
 intro k
 induction k with
 |zero=>rfl
 |succ k ih=>rw[Jr,List.length_append,ih];simp[Zau];omega
theorem Kr (x d:Nat):∀k i c,i<k→c<3→(Jr x d k)[i*3+c]? =(Zau x (d-i))[c]? :=by
 intro k
 induction k with
 |zero=>intro i c h;omega
 |succ k ih=>
  intro i c b a;rw[Jr]
  by_cases h:i<k
  ·rw[List.getElem?_append_left (by rw[Kq];omega)];exact ih i c h a
  ·obtain rfl:i=k:=(by omega);rw[List.getElem?_append_right (by rw[Kq];omega),Kq]
   congr 1
   omega
theorem Zjf:ElemK Tryz.prog 131 134 (.agg #[.int .i64 0,.int .i64 0,.int .i64 0]) 3 24:=⟨Tryz.underlying131,by kernel_rfl,rfl,by omega,by omega⟩
theorem Zj3 (x d:Nat)(hd:d≤16)(hx:x+1<2^(d+1))(w:World):
  Calls Tryz.prog 97 #[.int .i64 x,.int .i64 ((2^d:Nat):Int)] w fun e w'=>∃v,e=.returned v∧OwnK w' w.heap.size 134 3 v (d-lev x+1) (Jr x d (d-lev x+1))∧Below w.heap.size w w':=by
 have K:=Ba (show d+1≤17 by omega);have T:=Ba hd;have f:=lev_is (x:=x) (by omega);have hl:=(lev_root hx f).1;have F:=fun w=>Sz ((2^d:Nat):Int) w;rw[dI,(fits_iff _).2 ⟨d,hd,rfl⟩]at F;have HF:=Hd F;have c:=anc_self f;have y:∀j,j≠lev x→anc x j≠x:=fun j S=>anc_ne fun h=>S (lev_unique h f);have he:2^(d+1)=2*2^d:=(by rw[aP];omega);have r1:=plo_root (show x<2^(d+1) by omega);have N:=phi_root (show x<2^(d+1) by omega);have r:∀j,j≤d→phi x j+2≤2^(d+1):=fun j S=>phi_le (by omega) S;obtain⟨l,J⟩:∃l,l=lev x:=⟨_,rfl⟩;rw[←J]at hl c y⊢;obtain⟨n,hn⟩:=eX (2^d);rw[he]at hx N r K;rw[←hn]at HF T hx N r K⊢;have A:=Hd c;have P:=Hd y;have R1:=Hd r1;have R2:=Hd N;have X:=Hd r;have aB:phi x d≤131070:=(by omega);clear F c y r1 N r he f J hn;go_enter Tryz.func97,Tryz.ntmps97;go_wp2_with fail;refine(HF.out _).mono ?_;rintro e w' ⟨rfl,rfl⟩;go_wp2_with fail
 go_loopg [5,6,7] (d-l) (fun k E hi v wr=>∃i:Nat,i+k=d-l∧E=.int .i64 (plo x (d-i):Nat)∧hi=.int .i64 (phi x (d-i):Nat)∧OwnK wr w.heap.size 134 3 v i (Jr x d i)∧Below w.heap.size w wr)
 case atStart=>
  refine⟨0,by omega,?_,?_,OwnK.nil _ _ _ _,bR⟩
  ·rw[dL,R1.out];rfl
  ·rw[dL,R2.out];exact Ml (by omega)
 case round=>
  obtain⟨i,hi,rfl,rfl,s,p⟩:=hrel;have HO:=Hd s;have HB:=Hd p;have I:=p.size;clear s p;have U:=X.out (d-i) (by omega);have W:=mid_eq x (d-i);have Q:plo x (d-i)≤phi x (d-i):=(by unfold phi;omega);obtain⟨E,o⟩:=eX (plo x (d-i));obtain⟨z,g⟩:∃a,a=phi x (d-i):=⟨_,rfl⟩;obtain⟨a,Z⟩:=eX (anc x (d-i));rw[←o,←g]at Q;rw[←g]at U;rw[←o,←g,←Z]at W;rw[←o,←g];have aC:((E:Int)+(z:Int))/2=(a:Int):=(by rw[←W];omega);have aD:a≤131070:=(by omega);have t:=Hd o;have D:=Hd g;have H:=Hd Z;clear W o g Z
  by_cases hxa:x=a
  ·subst hxa;have G:d-i=l:=by
    rcases Nat.decEq (d-i) l with h|h
    ·exact absurd H.out.symm (P.out _ h)
    ·exact h
   have R:=Hd G;clear G;go_wp2_with (at_builtin;refine Lb rfl (.tmp 30) (.tmp 35) 131 rfl w.heap.size 134 _ 3 24 Zjf _ i _ rfl (HO.out.alloc _) wr.heap.size [.int .i64 (x:Nat),.int .i64 (E:Nat),.int .i64 (z:Nat)] rfl rfl ?c1 ?c2 ?c3 ?c4 ?_);case c1=>exact Sh rfl
   case c2=>intro u L;simp at L;rcases L with rfl|rfl|rfl<;>rfl
   case c3=>omega
   case c4=>simp;omega
   rintro v' w1 b q;have m:=(HB.out.alloc I _).trans q;have B:=Hd b;have C:=Hd m;clear b q m;go_wp2_with fail;go_ret;refine⟨_,rfl,?_,C.out⟩;have O:i=d-l:=(by have:=R.out;omega);have h:=B.out;rw[O]at h;rw[Jr];have e2:d-(d-l)=d-i:=(by rw[O]);rw[e2,Zau,←H.out,←t.out,←D.out];exact h
  ·have aA:i<d-l:=by
    rcases Nat.lt_or_ge i (d-l)with h|h
    ·exact h
    ·exfalso;have O:d-i=l:=(by omega);apply hxa;rw[H.out,O];exact A.out.symm
   have M:=Hd hxa;have hc:((a:Int)==(x:Int))=false:=(by rw[beq_eq_false_iff_ne];omega);have hh:=halves x (d-(i+1));rw[show d-(i+1)+1=d-i by omega,←H.out,←D.out,←t.out]at hh;have HH:=Hd hh;clear hxa hh
   by_cases hxl:x<a
   all_goals
    go_wp2_with (at_builtin;refine Lb rfl (.tmp 30) (.tmp 35) 131 rfl w.heap.size 134 _ 3 24 Zjf _ i _ rfl (HO.out.alloc _) wr.heap.size [.int .i64 (a:Nat),.int .i64 (E:Nat),.int .i64 (z:Nat)] rfl rfl ?c1 ?c2 ?c3 ?c4 ?_);case c1=>exact Sh rfl
    case c2=>intro u L;simp at L;rcases L with rfl|rfl|rfl<;>rfl
    case c3=>omega
    case c4=>simp;omega
    rintro v' w1 b q;have m:=(HB.out.alloc I _).trans q;have B:=Hd b;have C:=Hd m;clear b q m;go_wp2_with fail;go_roundg (gk-1);case measure=>omega
    case rel=>
     refine⟨i+1,by omega,?_,?_,?_,C.out⟩
     ·refine Ml ?_;have Y:=M.out;rcases HH.out with⟨V,h2,h3⟩|⟨V,h2,h3⟩<;>omega
     ·refine Ml ?_;have Y:=M.out;rcases HH.out with⟨V,h2,h3⟩|⟨V,h2,h3⟩<;>omega
     ·rw[Jr,Zau,←H.out,←t.out,←D.out];exact B.out
theorem Zg2 (x n:Int)(w:World)(f: -9223372036854775808≤n)(h2:n≤9223372036854775807)(b:Uy x n=false):
  Calls Tryz.prog 97 #[.int .i64 x,.int .i64 n] w fun e w'=>e=.returned (.slice none 0 0)∧w=w':=by
 have F:=fun w=>Sz n w
 by_cases hf:fits n.toNat=true
 ·have j:=Gg hf;rw[hf]at F;have c:=Hd F;rw[Uy,hf,dK]at b;have d:=of_decide_eq_false b;have i:1≤n:=(by omega);have g:n≤65536:=(by omega);have k:x<0∨(0≤x∧2*n-2<x):=(by omega);clear F hf j f h2 b d;rcases k with h|⟨h,l⟩
  all_goals
   go_enter Tryz.func97,Tryz.ntmps97;go_wp2_with fail;refine(c.out _).mono ?_;rintro e w' ⟨rfl,rfl⟩;go_wp2_with fail;go_ret;exact⟨rfl,rfl⟩
 ·have a:fits n.toNat=false:=(by rw[←bN];exact hf);rw[a]at F;have c:=Hd F;clear F hf a f h2 b;go_enter Tryz.func97,Tryz.ntmps97;go_wp2_with fail;refine(c.out _).mono ?_;rintro e w' ⟨rfl,rfl⟩;go_wp2_with fail;go_ret;exact⟨rfl,rfl⟩
theorem Vl {w w':World} {cs:Array Value} {e:TypeId}(hb:Below (w.alloc (.cells cs e)).heap.size (w.alloc (.cells cs e)) w'):w'.heap[w.heap.size]? =some (.cells cs e (0,0)):=
 (hb.block _ (by simp)).trans (heap_alloc_new w _)
theorem Zj4 (x d:Nat)(K:d≤16)(hx:x+1<2^(d+1))(w:World):
  Calls Tryz.prog 142 #[.int .i64 x,.int .i64 ((2^d:Nat):Int)] w fun e w'=>e=.returned (.tuple #[.agg #[.int .i64 x,.int .i64 (plo x (lev x):Nat),.int .i64 (phi x (lev x):Nat)],.bool true])∧Below w.heap.size w w':=by
 have D:=fun w=>Zj3 x d K hx w;have r:=Ba (show d+1≤17 by omega);have b:=lev_is (x:=x) (by omega);have c:=anc_self b;have M:=(lev_root hx b).1;have n:=Kr x d (d-lev x+1) (d-lev x) 0 (by omega) (by omega);have i:=Kr x d (d-lev x+1) (d-lev x) 1 (by omega) (by omega);have g2:=Kr x d (d-lev x+1) (d-lev x) 2 (by omega) (by omega);have A:d-(d-lev x)=lev x:=(by omega);rw[A,Zau,c]at n i g2;obtain⟨m,u⟩:=eX (d-lev x);have s:m≤16:=(by omega);rw[←u]at D n i g2;obtain⟨y,j⟩:=eX (plo x (lev x));obtain⟨z,k⟩:=eX (phi x (lev x));rw[←j,←k]at n i g2⊢;have E:=Hd n;have B:=Hd i;have H:=Hd g2;have G:=Hd D;clear D n i g2 u j k A M c b r hx;go_enter Tryz.func142,Tryz.ntmps142;go_wp2_with fail;refine(G.out _).mono ?_;rintro e w' ⟨v,rfl,f,a⟩;obtain⟨g,cap,rfl,N,I,O,C,o,-⟩:=f.out (by omega);have J:=o _ _ E.out;have c1:=o _ _ B.out;have c2:=o _ _ H.out;rw[Nat.add_zero]at J;have t:=Vl a;have L:Hid (Blk w' w.heap.size 134 _):=Hd t;have F:=Hd a;clear o f a t;go_wp2_with (refine Aa rfl 134 (.tmp 4) (.tmp 19) rfl w.heap.size #[.int .i64 x,.int .i64 y,.int .i64 z] rfl rfl _ _ L.out (by kernel_rfl) rfl rfl ?_);rintro P h l- -;have p:=Hd h;have q:=Hd (l _ lR);clear h l;go_wp2_with fail;refine bodyPost_ret (v:=.tuple #[.agg #[.int .i64 x,.int .i64 y,.int .i64 z],.bool true]) (Ad Tryz.results142 _ _ w.heap.size _ _ _ rfl p.out Tryz.underlying134 rfl (by kernel_rfl)) rfl ⟨rfl,?_⟩;exact((bR.alloc lR _).trans (F.out.mono (by simp))).trans q.out
theorem Zg3 (x n:Int)(w:World)(a: -9223372036854775808≤n)(h2:n≤9223372036854775807)(b:Uy x n=false):
  Calls Tryz.prog 142 #[.int .i64 x,.int .i64 n] w fun e w'=>e=.returned (.tuple #[.agg #[.int .i64 0,.int .i64 0,.int .i64 0],.bool false])∧Below w.heap.size w w':=by
 have D:=fun w=>Zg2 x n w a h2 b;have c:=Hd D;clear D a h2 b;go_enter Tryz.func142,Tryz.ntmps142;go_wp2_with fail;refine(c.out _).mono ?_;rintro e w' ⟨rfl,rfl⟩;go_wp2_with fail;refine bodyPost_ret (v:=.tuple #[.agg #[.int .i64 0,.int .i64 0,.int .i64 0],.bool false]) (Ad Tryz.results142 _ _ w.heap.size _ _ _ rfl (Blk.new _ _ _) Tryz.underlying134 rfl (by kernel_rfl)) rfl ⟨rfl,?_⟩;exact bR.alloc lR _
theorem Zcu (x:Int):Uy x 65536=Bf x:=by
 have h:fits (65536:Int).toNat=true:=(by decide);unfold Uy Bf;rw[h,dK]
 rfl
theorem Js (x:Nat)(hx:x≤131070)(w:World):
  Calls Tryz.prog 142 #[.int .i64 x,.int .i64 65536] w fun e w'=>e=.returned (.tuple #[.agg #[.int .i64 x,.int .i64 (plo x (lev x):Nat),.int .i64 (phi x (lev x):Nat)],.bool true])∧Below w.heap.size w w':=by
 have h:=Zj4 x 16 (by omega) (by omega) w;have e:((2^16:Nat):Int)=65536:=(by decide);rw[e]at h;exact h
theorem Jt (x:Int)(hx:Bf x=false)(w:World):
  Calls Tryz.prog 142 #[.int .i64 x,.int .i64 65536] w fun e w'=>e=.returned (.tuple #[.agg #[.int .i64 0,.int .i64 0,.int .i64 0],.bool false])∧Below w.heap.size w w':=
 Zg3 x 65536 w (by omega) (by omega) (by rw[Zcu];exact hx)
end Go.Proofs.YtfofaiommeckbaaGreat
