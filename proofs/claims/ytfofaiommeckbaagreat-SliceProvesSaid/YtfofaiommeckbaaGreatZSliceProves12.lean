import Derived.Test.YtfofaiommeckbaaGreatZSliceProves11
import Derived.Test.YtfofaiommeckbaaGreatZSliceProves03
open Go.Value renaming slice → q9, int → rA
open Go.IntKind renaming i64 → rC
open Option renaming none → rF
open Go.Proofs.Tryz
open Int renaming toNat_natCast → dG
open Bool renaming not_eq_true → bL, false_and → dH, true_and → dI
open Nat renaming pow_succ → aN, sub_zero → dJ
set_option linter.unusedVariables false
set_option maxRecDepth 100000
set_option maxHeartbeats 40000000
namespace Go.Proofs.YtfofaiommeckbaaGreat
open Go.RowKit WalkM
def Ua (y:Int):Int:=2^(Mp y).toNat-1
def Bx (x y:Int):Bool:=Bj x&&Bj y&&decide (y-Ua y≤x∧x≤y+Ua y)
theorem Db (x y:Int)(w:World):
  Calls prog 192 #[rA rC x,rA rC y] w fun e w'=>e=.returned (.bool (Bx x y))∧w=w':=by
 have N:=Mv x
 by_cases hx:Bj x=true
 ·rw[hx]at N;have f:=Hd N;have M:=Mv y;clear N
  by_cases hy:Bj y=true
  ·rw[hy]at M;have i:=Hd M;have e:Bx x y=decide (y-Ua y≤x∧x≤y+Ua y):=(by rw[Bx,hx,hy];rfl);rw[e];have B:=of_decide_eq_true hx;have C:=of_decide_eq_true hy;clear hx hy e M;obtain⟨m,rfl⟩:∃m:Nat,y=(m:Int):=⟨y.toNat,by omega⟩;have k:m≤131070:=(by omega);have L:=Nt (m:Int);have r:Ua (m:Int)=2^(lev m)-1:=(by rw[Ua,Hp k,dG]);rw[r];rw[Hp k]at L;have v:=lev_le k;obtain⟨l,g⟩:∃l,l=lev m:=⟨_,rfl⟩;rw[←g]at L v⊢;have o:=Hd L;have s:=Av (show l≤16 by omega);have t:=two_pow_pos l;have j:(2:Int)^l=((2^l:Nat):Int):=(by simp);rw[j];have n:=Mw (show l≤17 by omega);rw[j]at n;obtain⟨p,q⟩:=eX (2^l);rw[←q]at s t n j⊢;have A:=Hd n;have z:=Hd j;clear g L r q
   by_cases ha:(m:Int)-((p:Int)-1)≤x
   ·have e:decide ((m:Int)-((p:Int)-1)≤x∧x≤(m:Int)+((p:Int)-1))=decide (x≤(m:Int)+((p:Int)-1)):=by
     by_cases a:x≤(m:Int)+((p:Int)-1)
     ·rw[decide_eq_true ⟨ha,a⟩,decide_eq_true a]
     ·rw[decide_eq_false (fun h=>a h.2),decide_eq_false a]
    rw[e];clear e;obtain⟨b,a⟩:=eX (decide (x≤(m:Int)+((p:Int)-1)));rw[←a];have u:=Hd a;clear a;go_enter func192,ntmps192;go_wp2_with fail;refine(f.out _).mono ?_;rintro e w' ⟨rfl,rfl⟩;go_wp2_with fail;refine(i.out _).mono ?_;rintro e w' ⟨rfl,rfl⟩;go_wp2_with fail;refine(o.out _).mono ?_;rintro e w' ⟨rfl,rfl⟩;go_wp2_with fail;go_ret;exact⟨Ae u.out.symm,rfl⟩
   ·rw[decide_eq_false (fun h=>ha h.1)];go_enter func192,ntmps192;go_wp2_with fail;refine(f.out _).mono ?_;rintro e w' ⟨rfl,rfl⟩;go_wp2_with fail;refine(i.out _).mono ?_;rintro e w' ⟨rfl,rfl⟩;go_wp2_with fail;refine(o.out _).mono ?_;rintro e w' ⟨rfl,rfl⟩;go_wp2_with fail;go_ret;exact⟨rfl,rfl⟩
  ·have c:Bj y=false:=(by rw[←bL];exact hy);rw[c]at M;have i:=Hd M;have e:Bx x y=false:=(by rw[Bx,c,Bool.and_false,dH]);rw[e];clear hx hy c e M;go_enter func192,ntmps192;go_wp2_with fail;refine(f.out _).mono ?_;rintro e w' ⟨rfl,rfl⟩;go_wp2_with fail;refine(i.out _).mono ?_;rintro e w' ⟨rfl,rfl⟩;go_wp2_with fail;go_ret;exact⟨rfl,rfl⟩
 ·have d:Bj x=false:=(by rw[←bL];exact hx);rw[d]at N;have f:=Hd N;have e:Bx x y=false:=(by rw[Bx,d,dH,dH]);rw[e];clear hx d e N;go_enter func192,ntmps192;go_wp2_with fail;refine(f.out _).mono ?_;rintro e w' ⟨rfl,rfl⟩;go_wp2_with fail;go_ret;exact⟨rfl,rfl⟩
theorem Ru {x d:Nat}(a:d≤16):Li (x:Int) ((2^d:Nat):Int)=decide (x+1<2^(d+1)):=by
 have b:fits (2^d)=true:=(fits_iff _).2 ⟨d,a,rfl⟩;have c:=pow_pos' d;rw[Li,dG,b,dI,aN];generalize 2^d=p at*
 by_cases h:x+1<p*2
 ·rw[decide_eq_true h,decide_eq_true];omega
 ·rw[decide_eq_false h,decide_eq_false];omega
def nxt (x d j:Nat):Int:=if j<d then((anc x (j+1):Nat):Int)else-1
theorem Nc {x d:Nat}(b:d≤16)(hx:x+1<2^(d+1)):Lm (x:Int) ((2^d:Nat):Int)=nxt x d (lev x):=by
 have c:=Av (show d+1≤17 by omega);have a:=lev_root hx (lev_is (by omega));have f:=pow_pos' d;unfold Lm nxt;rw[Ru b,decide_eq_true hx,dG]
 by_cases h:lev x<d
 ·rw[if_pos h,if_pos];refine⟨rfl,fun e=> ?_⟩;have:x=2^d-1:=(by omega);have:=a.2.2 this;omega
 ·rw[if_neg h,if_neg];rintro⟨_,e⟩;apply e;have:=a.2.1 (by omega);omega
theorem Yy {x d j:Nat}(hd:d≤16)(hx:x+1<2^(d+1))(hj:j≤d):Lm ((anc x j:Nat):Int) ((2^d:Nat):Int)=nxt x d j:=by
 have h17:=Av (show d+1≤17 by omega);have hle:=anc_le (show x<2^(d+1) by omega) hj;rw[Nc hd hle,lev_eq (by omega) (anc_lev x j)];unfold nxt;rw[anc_anc (by omega)]
def ups (x:Nat):Nat→Nat→List Nat
 |_,0=>[]
 |j,k+1=>anc x (j+1)::ups x (j+1) k
theorem Rv (x:Nat):∀k j,(ups x j k).length=k:=by
 intro k
 induction k with
 |zero=>intro j;rfl
 |succ k ih=>intro j;simp[ups,ih]
theorem Yz (x:Nat):∀k j,ups x j (k+1)=ups x j k++[anc x (j+k+1)]:=by
 intro k
 induction k with
 |zero=>intro j;rfl
 |succ k ih=>
  intro j;rw[ups,ih,ups];simp only[List.cons_append];rw[show j+1+k+1=j+(k+1)+1 by omega]
def nvs (L:List Nat):List Value:=ivs .i64 (L.map fun(n:Nat)=>(n:Int))
theorem Ln (L:List Nat):(nvs L).length=L.length:=by simp[nvs,ivs]
theorem Za (L:List Nat)(x:Nat):nvs (L++[x])=nvs L++[rA rC (x:Int)]:=by simp[nvs,ivs]
theorem Cn:Elem prog 48 3 (rA rC 0) 8:=⟨underlying48,by kernel_rfl,rfl,by omega⟩
theorem Zhn (x d:Nat)(u:d≤16)(hx:x+1<2^(d+1))(w:World):
  Calls prog 269 #[rA rC x,rA rC ((2^d:Nat):Int)] w fun e w'=>∃v,e=.returned v∧Own w' w.heap.size 3 v (nvs (ups x (lev x) (d-lev x)))∧Below w.heap.size w w':=by
 have D:=Av (show d+1≤17 by omega);have m:=Av u;have M:=(lev_root hx (lev_is (by omega))).1;have E:=fun w=>Px x ((2^d:Nat):Int) w (by omega) (by omega);rw[Nc u hx]at E;have H:∀j,j≤d→∀w,Calls prog 288 #[rA rC (anc x j:Nat),rA rC ((2^d:Nat):Int)] w fun e w'=>e=.returned (rA rC (nxt x d j))∧∃k,w'=w.drewN k:=by
  intro j L w;have:=Px (anc x j:Nat) ((2^d:Nat):Int) w (by omega) (by omega);rw[Yy u hx L]at this;exact this
 have g:=Hd E;have h:=Hd H;obtain⟨l,p⟩:∃l,l=lev x:=⟨_,rfl⟩;rw[←p]at g M⊢;obtain⟨n,q⟩:=eX (2^d);have S:=Hd hx;have O:=Hd q;have G:n≤65536:=(by rw[q];exact m);rw[←q]at g h⊢;clear E H p hx q D m;go_enter func269,ntmps269;go_wp2_with fail;refine(g.out _).mono ?_;rintro e w' ⟨rfl,k,rfl⟩;go_wp2_with fail
 go_loopg [0,5] (d-l) (fun k y r wr=>∃i:Nat,i+k=d-l∧y=rA rC (nxt x d (l+i))∧Own wr w.heap.size 3 r (nvs (ups x l i))∧Below w.heap.size w wr)
 case atStart=>exact⟨0,by omega,rfl,Own.nil _ _ _,Ab bR _⟩
 case round=>
  obtain⟨i,R,rfl,f,b⟩:=hrel;have F:=Hd f;have I:=Hd b;have s:=b.size;clear f b
  by_cases hlt:l+i<d
  ·rw[nxt,if_pos hlt];have z:=h.out (l+i+1) (by omega);obtain⟨a,t⟩:=eX (anc x (l+i+1));rw[←t]at z⊢;have J:=Hd t;have K:=Hd z;clear t z;go_wp2_with (at_builtin;refine An rfl (.tmp 14) (.tmp 16) 48 rfl w.heap.size 3 _ 8 Cn _ _ rfl (F.out.alloc _) ⟨wr.heap.size,0,rF⟩ (rA rC (a:Int)) rfl ?c1 rfl ?c2 ?c3 ?_);case c1=>exact Ar rfl
   case c2=>rw[Ln,Rv];omega
   case c3=>simp;omega
   rintro Q P c C o;clear C;have A:=Hd c;have B:=Hd o;clear c o;go_wp2_with fail;refine(K.out _).mono ?_;rintro e w' ⟨rfl,N,rfl⟩;go_wp2_with fail;go_roundg (gk-1);case measure=>omega
   case rel=>
    refine⟨i+1,by omega,by rw[Nat.add_assoc],?_,?_⟩
    ·rw[Yz,Za,←J.out];exact A.out.drewN _
    ·exact Ab ((I.out.alloc s _).trans B.out) _
  ·rw[nxt,if_neg hlt];obtain rfl:i=d-l:=(by omega);go_wp2_with fail;go_ret;exact⟨_,rfl,F.out,I.out⟩
theorem Nd {x n:Int}(h:Li x n=true):∃m d:Nat,x=(m:Int)∧n=((2^d:Nat):Int)∧d≤16∧m+1<2^(d+1):=by
 have hb:=Zde h;unfold Li at h;rw[Bool.and_eq_true]at h;obtain⟨d,hd,e⟩:=(fits_iff _).1 h.1;refine⟨x.toNat,d,by omega,by omega,hd,?_⟩;rw[aN];omega
def Pi (x n:Int):List Nat:=if Li x n=true then ups x.toNat (lev x.toNat) (Nat.log2 n.toNat-lev x.toNat)else []
theorem Rw {x d:Nat}(hd:d≤16)(hx:x+1<2^(d+1)):Pi (x:Int) ((2^d:Nat):Int)=ups x (lev x) (d-lev x):=by
 rw[Pi,if_pos (by rw[Ru hd,decide_eq_true hx]),dG,dG,Nat.log2_two_pow]
theorem Zdf {x n:Int}(h:Li x n=false):Pi x n=[]:=by rw[Pi,if_neg (by rw[h];simp)]
theorem Ub (n:Int)(w:World):
  Calls prog 69 #[rA rC n] w fun e w'=>e=.returned (.bool (fits n.toNat))∧w=w':=by
 go_enter func69,ntmps69;go_wp2_with fail
 go_loopg [3] 17 (fun k i wr=>∃d:Nat,d+k=17∧i=rA rC ((2^d:Nat):Int)∧(∀e,e<d→n≠((2^e:Nat):Int))∧wr=w)
 case atStart=>exact⟨0,rfl,rfl,fun e h=>absurd h (by omega),rfl⟩
 case round=>
  obtain⟨d,u,rfl,c,rfl⟩:=hrel;have g:=Hd c;clear c
  by_cases h17:d=17
  ·subst h17;have f:fits n.toNat=false:=by
    rw[←bL];intro h;obtain⟨e,t,h⟩:=(fits_iff _).1 h;have j:=pow_pos' e;exact g.out e (by omega) (by omega)
   have l:=Hd f;clear f;have r:((2^17:Nat):Int)=131072:=(by decide);rw[r];go_wp2_with fail;go_ret;exact⟨Ae l.out.symm,rfl⟩
  ·have a:d≤16:=(by omega);have m:=Av a;have b:2^(d+1)=2*2^d:=(by rw[aN];omega);obtain⟨p,j⟩:=eX (2^d);have s:=Hd b;have o:=Hd j;rw[←j]at m⊢;clear b j h17
   by_cases hn:n=(p:Int)
   ·subst hn;have f:fits (p:Int).toNat=true:=(by rw[dG,o.out];exact(fits_iff _).2 ⟨d,a,rfl⟩);have l:=Hd f;clear f;go_wp2_with fail;go_ret;exact⟨Ae l.out.symm,rfl⟩
   ·have v:((p:Int)==n)=false:=(by rw[beq_eq_false_iff_ne];omega);have q:=Hd hn;clear hn;go_wp2_with fail;go_roundg (gk-1);case measure=>omega
    case rel=>
     refine⟨d+1,by omega,by rw[s.out,←o.out];go_num,?_,rfl⟩;intro e t
     by_cases h:e=d
     ·subst h;rw[←o.out];exact q.out
     ·exact g.out e (by omega)
def Zbg (x j:Nat):List Value:=[rA rC (anc x j:Nat),rA rC (plo x j:Nat),rA rC (phi x j:Nat)]
def Jp (x d:Nat):Nat→List Value
 |0=>[]
 |k+1=>Jp x d k++Zbg x (d-k)
theorem Lo (x d:Nat):∀k,(Jp x d k).length=k*3:=by
 intro k
 induction k with
 |zero=>rfl
 |succ k ih=>rw[Jp,List.length_append,ih];simp[Zbg];omega
theorem Iv (x d:Nat):∀k i c,i<k→c<3→(Jp x d k)[i*3+c]? =(Zbg x (d-i))[c]? :=by
 intro k
 induction k with
 |zero=>intro i c h;omega
 |succ k ih=>
  intro i c b a;rw[Jp]
  by_cases h:i<k
  ·rw[List.getElem?_append_left (by rw[Lo];omega)];exact ih i c h a
  ·obtain rfl:i=k:=(by omega);rw[List.getElem?_append_right (by rw[Lo];omega),Lo]
   congr 1
   omega
theorem Zj4:ElemK prog 131 134 (.agg #[rA rC 0,rA rC 0,rA rC 0]) 3 24:=⟨underlying131,by kernel_rfl,rfl,by omega,by omega⟩
theorem Rx (x d:Nat)(hd:d≤16)(hx:x+1<2^(d+1))(w:World):
  Calls prog 97 #[rA rC x,rA rC ((2^d:Nat):Int)] w fun e w'=>∃v,e=.returned v∧OwnK w' w.heap.size 134 3 v (d-lev x+1) (Jp x d (d-lev x+1))∧Below w.heap.size w w':=by
 have M:=Av (show d+1≤17 by omega);have T:=Av hd;have f:=lev_is (x:=x) (by omega);have hl:=(lev_root hx f).1;have F:=fun w=>Ub ((2^d:Nat):Int) w;rw[dG,(fits_iff _).2 ⟨d,hd,rfl⟩]at F;have HF:=Hd F;have c:=anc_self f;have t:∀j,j≠lev x→anc x j≠x:=fun j O=>anc_ne fun h=>O (lev_unique h f);have he:2^(d+1)=2*2^d:=(by rw[aN];omega);have r1:=plo_root (show x<2^(d+1) by omega);have N:=phi_root (show x<2^(d+1) by omega);have r:∀j,j≤d→phi x j+2≤2^(d+1):=fun j O=>phi_le (by omega) O;obtain⟨l,K⟩:∃l,l=lev x:=⟨_,rfl⟩;rw[←K]at hl c t⊢;obtain⟨n,hn⟩:=eX (2^d);rw[he]at hx N r M;rw[←hn]at HF T hx N r M⊢;have B:=Hd c;have Y:=Hd t;have R1:=Hd r1;have R2:=Hd N;have V:=Hd r;have aA:phi x d≤131070:=(by omega);clear F c t r1 N r he f K hn;go_enter func97,ntmps97;go_wp2_with fail;refine(HF.out _).mono ?_;rintro e w' ⟨rfl,rfl⟩;go_wp2_with fail
 go_loopg [5,6,7] (d-l) (fun k I hi v wr=>∃i:Nat,i+k=d-l∧I=rA rC (plo x (d-i):Nat)∧hi=rA rC (phi x (d-i):Nat)∧OwnK wr w.heap.size 134 3 v i (Jp x d i)∧Below w.heap.size w wr)
 case atStart=>
  refine⟨0,by omega,?_,?_,OwnK.nil _ _ _ _,bR⟩
  ·rw[dJ,R1.out];rfl
  ·rw[dJ,R2.out];exact Hg (by omega)
 case round=>
  obtain⟨i,hi,rfl,rfl,s,p⟩:=hrel;have HO:=Hd s;have HB:=Hd p;have G:=p.size;clear s p;have P:=V.out (d-i) (by omega);have W:=mid_eq x (d-i);have R:plo x (d-i)≤phi x (d-i):=(by unfold phi;omega);obtain⟨I,o⟩:=eX (plo x (d-i));obtain⟨y,g⟩:∃a,a=phi x (d-i):=⟨_,rfl⟩;obtain⟨a,Q⟩:=eX (anc x (d-i));rw[←o,←g]at R;rw[←g]at P;rw[←o,←g,←Q]at W;rw[←o,←g];have aB:((I:Int)+(y:Int))/2=(a:Int):=(by rw[←W];omega);have aC:a≤131070:=(by omega);have C:=Hd o;have z:=Hd g;have L:=Hd Q;clear W o g Q
  by_cases hxa:x=a
  ·subst hxa;have H:d-i=l:=by
    rcases Nat.decEq (d-i) l with h|h
    ·exact absurd L.out.symm (Y.out _ h)
    ·exact h
   have U:=Hd H;clear H;go_wp2_with (at_builtin;refine Mc rfl (.tmp 30) (.tmp 35) 131 rfl w.heap.size 134 _ 3 24 Zj4 _ i _ rfl (HO.out.alloc _) wr.heap.size [rA rC (x:Nat),rA rC (I:Nat),rA rC (y:Nat)] rfl rfl ?c1 ?c2 ?c3 ?c4 ?_);case c1=>exact Tj rfl
   case c2=>intro u J;simp at J;rcases J with rfl|rfl|rfl<;>rfl
   case c3=>omega
   case c4=>simp;omega
   rintro v' w1 b m;have q:=(HB.out.alloc G _).trans m;have A:=Hd b;have D:=Hd q;clear b m q;go_wp2_with fail;go_ret;refine⟨_,rfl,?_,D.out⟩;have e1:i=d-l:=(by have:=U.out;omega);have h:=A.out;rw[e1]at h;rw[Jp];have e2:d-(d-l)=d-i:=(by rw[e1]);rw[e2,Zbg,←L.out,←C.out,←z.out];exact h
  ·have Z:i<d-l:=by
    rcases Nat.lt_or_ge i (d-l)with h|h
    ·exact h
    ·exfalso;have e1:d-i=l:=(by omega);apply hxa;rw[L.out,e1];exact B.out.symm
   have E:=Hd hxa;have hc:((a:Int)==(x:Int))=false:=(by rw[beq_eq_false_iff_ne];omega);have S:=halves x (d-(i+1));rw[show d-(i+1)+1=d-i by omega,←L.out,←z.out,←C.out]at S;have HH:=Hd S;clear hxa S
   by_cases hxl:x<a
   all_goals
    go_wp2_with (at_builtin;refine Mc rfl (.tmp 30) (.tmp 35) 131 rfl w.heap.size 134 _ 3 24 Zj4 _ i _ rfl (HO.out.alloc _) wr.heap.size [rA rC (a:Nat),rA rC (I:Nat),rA rC (y:Nat)] rfl rfl ?c1 ?c2 ?c3 ?c4 ?_);case c1=>exact Tj rfl
    case c2=>intro u J;simp at J;rcases J with rfl|rfl|rfl<;>rfl
    case c3=>omega
    case c4=>simp;omega
    rintro v' w1 b m;have q:=(HB.out.alloc G _).trans m;have A:=Hd b;have D:=Hd q;clear b m q;go_wp2_with fail;go_roundg (gk-1);case measure=>omega
    case rel=>
     refine⟨i+1,by omega,?_,?_,?_,D.out⟩
     ·refine Hg ?_;have X:=E.out;rcases HH.out with⟨h1,h2,h3⟩|⟨h1,h2,h3⟩<;>omega
     ·refine Hg ?_;have X:=E.out;rcases HH.out with⟨h1,h2,h3⟩|⟨h1,h2,h3⟩<;>omega
     ·rw[Jp,Zbg,←L.out,←C.out,←z.out];exact A.out
theorem Ne (x n:Int)(w:World)(h1: -9223372036854775808≤n)(h2:n≤9223372036854775807)(b:Li x n=false):
  Calls prog 97 #[rA rC x,rA rC n] w fun e w'=>e=.returned (q9 rF 0 0)∧w=w':=by
 have F:=fun w=>Ub n w
 by_cases hf:fits n.toNat=true
 ·have i:=Gl hf;rw[hf]at F;have c:=Hd F;rw[Li,hf,dI]at b;have d:=of_decide_eq_false b;have j:1≤n:=(by omega);have g:n≤65536:=(by omega);have f:x<0∨(0≤x∧2*n-2<x):=(by omega);clear F hf i h1 h2 b d;rcases f with h|⟨h,k⟩
  all_goals
   go_enter func97,ntmps97;go_wp2_with fail;refine(c.out _).mono ?_;rintro e w' ⟨rfl,rfl⟩;go_wp2_with fail;go_ret;exact⟨rfl,rfl⟩
 ·have a:fits n.toNat=false:=(by rw[←bL];exact hf);rw[a]at F;have c:=Hd F;clear F hf a h1 h2 b;go_enter func97,ntmps97;go_wp2_with fail;refine(c.out _).mono ?_;rintro e w' ⟨rfl,rfl⟩;go_wp2_with fail;go_ret;exact⟨rfl,rfl⟩
theorem Wo {w w':World} {cs:Array Value} {e:TypeId}(hb:Below (w.alloc (.cells cs e)).heap.size (w.alloc (.cells cs e)) w'):w'.heap[w.heap.size]? =some (.cells cs e (0,0)):=
 (hb.block _ (by simp)).trans (heap_alloc_new w _)
theorem Zks (x d:Nat)(C:d≤16)(hx:x+1<2^(d+1))(w:World):
  Calls prog 142 #[rA rC x,rA rC ((2^d:Nat):Int)] w fun e w'=>e=.returned (.tuple #[.agg #[rA rC x,rA rC (plo x (lev x):Nat),rA rC (phi x (lev x):Nat)],.bool true])∧Below w.heap.size w w':=by
 have D:=fun w=>Rx x d C hx w;have r:=Av (show d+1≤17 by omega);have a:=lev_is (x:=x) (by omega);have b:=anc_self a;have J:=(lev_root hx a).1;have j:=Iv x d (d-lev x+1) (d-lev x) 0 (by omega) (by omega);have k:=Iv x d (d-lev x+1) (d-lev x) 1 (by omega) (by omega);have g2:=Iv x d (d-lev x+1) (d-lev x) 2 (by omega) (by omega);have e1:d-(d-lev x)=lev x:=(by omega);rw[e1,Zbg,b]at j k g2;obtain⟨m,t⟩:=eX (d-lev x);have s:m≤16:=(by omega);rw[←t]at D j k g2;obtain⟨u,l⟩:=eX (plo x (lev x));obtain⟨y,i⟩:=eX (phi x (lev x));rw[←l,←i]at j k g2⊢;have F:=Hd j;have K:=Hd k;have E:=Hd g2;have A:=Hd D;clear D j k g2 t l i e1 J b a r hx;go_enter func142,ntmps142;go_wp2_with fail;refine(A.out _).mono ?_;rintro e w' ⟨v,rfl,f,c⟩;obtain⟨g,cap,rfl,O,H,M,B,o,-⟩:=f.out (by omega);have G:=o _ _ F.out;have c1:=o _ _ K.out;have c2:=o _ _ E.out;rw[Nat.add_zero]at G;have z:=Wo c;have L:Hid (Blk w' w.heap.size 134 _):=Hd z;have I:=Hd c;clear o f c z;go_wp2_with (refine Aa rfl 134 (.tmp 4) (.tmp 19) rfl w.heap.size #[rA rC x,rA rC u,rA rC y] rfl rfl _ _ L.out (by kernel_rfl) rfl rfl ?_);rintro N h n- -;have p:=Hd h;have q:=Hd (n _ lR);clear h n;go_wp2_with fail;refine bodyPost_ret (v:=.tuple #[.agg #[rA rC x,rA rC u,rA rC y],.bool true]) (Ad results142 _ _ w.heap.size _ _ _ rfl p.out underlying134 rfl (by kernel_rfl)) rfl ⟨rfl,?_⟩;exact((bR.alloc lR _).trans (I.out.mono (by simp))).trans q.out
theorem Zho (x n:Int)(w:World)(h1: -9223372036854775808≤n)(h2:n≤9223372036854775807)(a:Li x n=false):
  Calls prog 142 #[rA rC x,rA rC n] w fun e w'=>e=.returned (.tuple #[.agg #[rA rC 0,rA rC 0,rA rC 0],.bool false])∧Below w.heap.size w w':=by
 have D:=fun w=>Ne x n w h1 h2 a;have b:=Hd D;clear D h1 h2 a;go_enter func142,ntmps142;go_wp2_with fail;refine(b.out _).mono ?_;rintro e w' ⟨rfl,rfl⟩;go_wp2_with fail;refine bodyPost_ret (v:=.tuple #[.agg #[rA rC 0,rA rC 0,rA rC 0],.bool false]) (Ad results142 _ _ w.heap.size _ _ _ rfl (Blk.new _ _ _) underlying134 rfl (by kernel_rfl)) rfl ⟨rfl,?_⟩;exact bR.alloc lR _
theorem Zdg (x:Int):Li x 65536=Bj x:=by
 have h:fits (65536:Int).toNat=true:=(by decide);unfold Li Bj;rw[h,dI]
 rfl
theorem Ko (x:Nat)(hx:x≤131070)(w:World):
  Calls prog 142 #[rA rC x,rA rC 65536] w fun e w'=>e=.returned (.tuple #[.agg #[rA rC x,rA rC (plo x (lev x):Nat),rA rC (phi x (lev x):Nat)],.bool true])∧Below w.heap.size w w':=by
 have h:=Zks x 16 (by omega) (by omega) w;have e:((2^16:Nat):Int)=65536:=(by decide);rw[e]at h;exact h
theorem Kp (x:Int)(hx:Bj x=false)(w:World):
  Calls prog 142 #[rA rC x,rA rC 65536] w fun e w'=>e=.returned (.tuple #[.agg #[rA rC 0,rA rC 0,rA rC 0],.bool false])∧Below w.heap.size w w':=
 Zho x 65536 w (by omega) (by omega) (by rw[Zdg];exact hx)
end Go.Proofs.YtfofaiommeckbaaGreat
