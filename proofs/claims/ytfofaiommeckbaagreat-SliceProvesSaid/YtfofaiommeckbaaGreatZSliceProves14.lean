import Derived.Test.YtfofaiommeckbaaGreatZSliceProves13
open Go.Value renaming slice → q9, int → rA, pointer → rB
open Go.IntKind renaming i64 → rC, u8 → rD
open Option renaming none → rF
open Go.Proofs.Tryz
open List renaming getD_eq_getElem?_getD → aH, getElem?_eq_getElem → aI, getElem_mem → aJ, getElem_of_mem → dK, any_eq_true → cG
set_option linter.unusedVariables false
set_option maxRecDepth 100000
set_option maxHeartbeats 40000000
namespace Go.Proofs.YtfofaiommeckbaaGreat
open Go.RowKit WalkM
theorem Znd {v:Value} {a b:Bool}(h:a=b):Ending.returned (.tuple #[v,.bool b])=.returned (.tuple #[v,.bool a]):=by rw[h]
theorem Zhp (x:Int)(w:World):Calls prog 206 #[rA rC x] w fun e w'=>e=.returned (.bool false)∧w'=w:=by
 have h:(x !=x)=false:=(by rw[bne_eq_false_iff_eq]);go_enter func206,ntmps206;go_wp2_with fail;go_ret;exact⟨rfl,rfl⟩
theorem Zhq (x:Int)(w:World):Calls prog 289 #[rA rC x] w fun e w'=>e=.returned (.bool false)∧w'=w:=by
 have h:(x !=x)=false:=(by rw[bne_eq_false_iff_eq]);go_enter func289,ntmps289;go_wp2_with fail;go_ret;exact⟨rfl,rfl⟩
theorem Zdk (x y:Int)(w:World):Calls prog 263 #[rA rC x,rA rC y] w fun e w'=>e=.returned (.bool (decide (x<y)))∧w'=w:=by
 obtain⟨b,a⟩:∃b,decide (x<y)=b:=⟨_,rfl⟩;rw[a];go_enter func263,ntmps263;go_wp2_with fail;refine(Zhp x w).mono ?_;rintro e w' ⟨rfl,rfl⟩;go_wp2_with fail;go_ret;exact⟨rfl,rfl⟩
def Zmj (L:List Int):Prop:=∀i j,i<j→j<L.length→L.getD i 0<L.getD j 0
theorem Wt (v:Value)(L:List Int)(x:Int)(w:World)(h:Rd w v (ivs .i64 L))(H:Zmj L)(hl:L.length≤1000000):
  Calls prog 270 #[v,rA rC x] w fun e w'=>∃p:Nat,e=.returned (.tuple #[rA rC (p:Nat),.bool (decide (x∈L))])∧p≤L.length∧(∀k,k<p→L.getD k 0<x)∧(∀k,p≤k→k<L.length→x≤L.getD k 0)∧w'=w:=by
 have hv:∃a c,v=.slice a L.length c:=(by obtain⟨a,c,e,h1,h2,_⟩:=h;exact⟨a,c,by rw[e];simp[ivs]⟩);obtain⟨a,c,rfl⟩:=hv;have G:=fun(i:Nat) (C:i<L.length)=>h.at3 (u:=rA rC (L.getD i 0)) (r:=i) (by simp[ivs,aH,C]);have z:∀i j,i≤j→j<L.length→L.getD i 0≤L.getD j 0:=by
  intro i j D hj
  by_cases e:i=j
  ·rw[e];exact Int.le_refl _
  ·exact Int.le_of_lt (H i j (by omega) hj)
 have U:=fun(i:Nat) (C:i<L.length) (e:L.getD i 0=x)=>(show decide (x∈L)=true from decide_eq_true (by
  rw[aH,aI C]at e;have:L[i]=x:=e;rw[←this];exact aJ C))
 have T:=fun(V:∀i,i<L.length→L.getD i 0≠x)=>(show decide (x∈L)=false from decide_eq_false (fun O=>by
  obtain⟨i,C,e⟩:=dK O;exact V i C (by rw[aH,aI C];exact e)))
 obtain⟨n,hn⟩:=eX L.length;obtain⟨R,hR⟩:=eX (decide (x∈L));rw[←hn]at G U T z hl;simp only[←hn];rw[←hR]at U T⊢;have HG:=Hd G;have X:=Hd U;have M:=Hd T;have B:=Hd z;clear G U T h hn hR H z;go_enter func270,ntmps270;go_wp2_with fail
 go_loopg [7,8] n (fun q iv jv wr=>∃i j:Nat,i+q=j∧j≤n∧iv=rA rC (i:Nat)∧jv=rA rC (j:Nat)∧(∀k,k<i→L.getD k 0<x)∧(∀k,j≤k→k<n→x≤L.getD k 0)∧wr=w)
 case atStart=>exact⟨0,n,by omega,lR,rfl,rfl,fun k hk=>by omega,fun k h1 h2=>by omega,rfl⟩
 case round=>
  obtain⟨i,j,D,Z,rfl,rfl,Q,P,rfl⟩:=hrel;have g:=Hd D;have f:=Hd Q;have l:=Hd P;clear D Q P
  by_cases hlt:i<j
  ·have N:decide (i<j)=true:=decide_eq_true hlt;obtain⟨m,O⟩:=eX ((i+j)/2);obtain⟨s,H⟩:=eX (i+j);have e1:(i:Int)+(j:Int)=(s:Int):=(by omega);have e2:IntKind.u64.wrap (s:Int)=(s:Int):=(by rw[IntKind.wrap_u64];omega);have e3:(s:Int)/2=(m:Int):=(by omega);have e4:IntKind.i64.wrap (m:Int)=(m:Int):=(by rw[IntKind.wrap_i64];omega);have K:m<n:=(by omega);obtain⟨b,Y,rfl,W,d⟩:=HG.out m K;obtain⟨y,t⟩:=eX (L.getD m 0);rw[←t]at d;have F:=Hd t;have o:=Hd O;have aA:=Hd H;have I:=Zdk y x wr
   by_cases hyx:y<x
   ·rw[decide_eq_true hyx]at I;have A:=Hd I;have E:=Hd hyx;clear t O H I hyx;go_wp2_with fail;refine(A.out).mono ?_;rintro e w' ⟨rfl,rfl⟩;go_wp2_with fail;go_roundg (j-(m+1));case measure=>have:=g.out;have:=o.out;omega
    case rel=>
     refine⟨m+1,j,by have:=o.out;omega,Z,by go_num,rfl,fun k hk=> ?_,l.out,rfl⟩;have:=B.out k m (by omega) K;have:=E.out;rw[F.out]at this;omega
   ·rw[decide_eq_false hyx]at I;have A:=Hd I;have E:=Hd hyx;clear t O H I hyx;go_wp2_with fail;refine(A.out).mono ?_;rintro e w' ⟨rfl,rfl⟩;go_wp2_with fail;go_roundg (m-i);case measure=>have:=g.out;have:=o.out;omega
    case rel=>
     refine⟨i,m,by have:=o.out;omega,by omega,rfl,rfl,f.out,fun k h1 h2=> ?_,rfl⟩;have:=B.out m k h1 h2;have:=E.out;rw[F.out]at this;omega
  ·have N:decide (i<j)=false:=decide_eq_false hlt
   by_cases hin:i<n
   ·have S:decide (i<n)=true:=decide_eq_true hin;obtain⟨b,Y,rfl,W,d⟩:=HG.out i hin;obtain⟨y,t⟩:=eX (L.getD i 0);rw[←t]at d;have F:=Hd t;clear t
    by_cases he:y=x
    ·have hq:(y==x)=true:=(by rw[beq_iff_eq];exact he);have J:=Hd (X.out i hin (by rw[←F.out];exact he));clear he;go_wp2_with fail;go_ret2;exact⟨i,Znd J.out,by have:=g.out;omega,f.out,fun k h1 h2=>l.out k (by omega) h2,rfl⟩
    ·have hq:(y==x)=false:=(by rw[beq_eq_false_iff_ne];exact he);have J:=Hd (M.out (fun k hk e=>by
      by_cases h1:k<i
      ·have:=f.out k h1;omega
      ·by_cases h2:k=i
       ·rw[h2]at e;exact he (F.out.trans e)
       ·have h3:=B.out i k (by omega) hk;have h4:=l.out i (by omega) hin;have:=F.out
        omega))
     clear he;have N1:=Hd (Zhq y wr);go_wp2_with fail;refine(N1.out).mono ?_;rintro e w' ⟨rfl,rfl⟩;go_wp2_with fail;go_ret2;exact⟨i,Znd J.out,by have:=g.out;omega,f.out,fun k h1 h2=>l.out k (by omega) h2,rfl⟩
   ·have S:decide (i<n)=false:=decide_eq_false hin;have J:=Hd (M.out (fun k hk e=>by have:=f.out k (by omega);omega));go_wp2_with fail;go_ret2;exact⟨i,Znd J.out,by have:=g.out;omega,f.out,fun k h1 h2=>l.out k (by omega) h2,rfl⟩
def Kc (L:List Int)(x:Int):Bool:=L.any fun u=>Bx (2*u) x
theorem Zc {L:List Int} {p:Int→Bool} {i:Nat}(hi:i<L.length)(h:p (L.getD i 0)=true):L.any p=true:=by
 rw[cG];refine⟨L.getD i 0,?_,h⟩;rw[aH,aI hi];exact aJ hi
theorem Zdl {L:List Int} {p:Int→Bool}(h:∀i,i<L.length→p (L.getD i 0)=false):L.any p=false:=by
 rw[List.any_eq_false];intro u hu;obtain⟨i,hi,rfl⟩:=dK hu;have:=h i hi;rw[aH,aI hi]at this;show¬p L[i]=true;have e:p L[i]=false:=this;rw[e];simp
theorem Zhr (u x:Int)(g:Nat)(w:World)(hx:w.cell? ⟨g,0,rF⟩=some (rA rC x))(d:0≤u∧u<1000000):
  Calls prog 230 #[rA rC u,rB (some ⟨g,0,rF⟩)] w fun e w'=>e=.returned (.bool (Bx (2*u) x))∧w'=w:=by
 have a:=Hd (Db (2*u) x w);obtain⟨b,c⟩:=eX (Bx (2*u) x);rw[←c]at a⊢;clear c;have f:wrap64 (2*u)=2*u:=(by unfold wrap64;omega);go_enter func230,ntmps230;go_wp2_with fail;refine a.out.mono ?_;rintro e w' ⟨rfl,rfl⟩;go_wp2_with fail;go_ret;exact⟨rfl,rfl⟩
theorem Zhs (v:Value)(L:List Int)(x:Int)(g:Nat)(w:World)(h:Rd w v (ivs .i64 L))(hx:w.cell? ⟨g,0,rF⟩=some (rA rC x))(T:∀u∈L,0≤u∧u<1000000)(hl:L.length≤1000000):
  Calls prog 256 #[v,.func (.func 230) #[] #[rB (some ⟨g,0,rF⟩)]] w fun e w'=>w'=w∧∃r:Int,e=.returned (rA rC r)∧decide (r≥0)=L.any (fun u=>(Bx (2*u) x)):=by
 obtain⟨a,E,rfl⟩:∃a E,v=.slice a L.length E:=(by obtain⟨a,E,e,_⟩:=h;rw[show(ivs .i64 L).length=L.length by simp[ivs]]at e;exact⟨a,E,e⟩);have G:=fun(r:Nat) (l:r<L.length)=>h.at3 (u:=rA rC (L.getD r 0)) (r:=r) (by simp[ivs,aH,l]);have z:=fun(r:Nat) (l:r<L.length)=>Zhr (L.getD r 0) x g w hx (T _ (by rw[aH,aI l];exact aJ l));have c:=fun(i:Nat) (I:i<L.length) (h:(fun u=>(Bx (2*u) x)) (L.getD i 0)=true)=>Zc (p:=fun u=>(Bx (2*u) x)) I h;have m:=fun(h:∀i,i<L.length→(fun u=>(Bx (2*u) x)) (L.getD i 0)=false)=>Zdl (p:=fun u=>(Bx (2*u) x)) h;obtain⟨U,Q⟩:∃U:Nat→Int,U=fun r=>L.getD r 0:=⟨_,rfl⟩;have A:∀r,L.getD r 0=U r:=fun r=>(by rw[Q]);simp only[A]at G z c m;obtain⟨F,o⟩:∃f:Int→Bool,f=fun u=>(Bx (2*u) x):=⟨_,rfl⟩;have d:∀u:Int,(Bx (2*u) x)=F u:=fun u=>(by rw[o]);obtain⟨R,S⟩:=eX (L.any (fun u=>(Bx (2*u) x)));rw[←S]at c m⊢;simp only[d]at z c m;obtain⟨k,y⟩:=eX L.length;rw[←y]at G z hl c m⊢;have M:=Hd G;have H:=Hd z;have B:=Hd c;have K:=Hd m;clear G z c m y h hx Q A T o d S;go_enter func256,ntmps256;go_wp2_with fail
 go_loopg [8] k (fun q iv wr=>∃r:Nat,r+q=k∧iv=rA rC (r:Nat)∧(∀i,i<r→F (U i)=false)∧wr=w)
 case atStart=>exact⟨0,by omega,rfl,fun i I=>by omega,rfl⟩
 case round=>
  obtain⟨r,l,rfl,C,rfl⟩:=hrel;have N:=Hd l;have P:=Hd C;clear l C
  by_cases hlt:r<k
  ·have s:decide (r<k)=true:=decide_eq_true hlt;obtain⟨b,aA,rfl,X,Z⟩:=M.out r hlt;have D:=H.out r hlt;obtain⟨u,J⟩:=eX (U r);rw[←J]at Z D;obtain⟨O,j⟩:=eX (F u);rw[←j]at D;have t:=Hd D;have n:=Hd (show F (U r)=O by rw[j,J]);clear D j J;cases O with
   |true=>
    have W:=Hd (B.out r hlt n.out);go_wp2_with fail;refine(t.out).mono ?_;rintro e Y ⟨rfl,rfl⟩;go_wp2_with fail;go_ret;exact⟨rfl,_,rfl,by rw[W.out];simp⟩
   |false=>
    go_wp2_with fail;refine(t.out).mono ?_;rintro e Y ⟨rfl,rfl⟩;go_wp2_with fail;go_roundg (gk-1);case measure=>have:=N.out;omega
    case rel=>
     refine⟨r+1,by have:=N.out;omega,by go_num,fun i I=> ?_,rfl⟩
     by_cases e:i=r
     ·rw[e];exact n.out
     ·exact P.out i (by omega)
  ·obtain rfl:r=k:=(by have:=N.out;omega);have s:decide (r<r)=false:=decide_eq_false hlt;have V:=Hd (K.out P.out);go_wp2_with fail;go_ret;exact⟨rfl,_,rfl,by rw[V.out];simp⟩
theorem Zht (v:Value)(L:List Int)(x:Int)(g:Nat)(w:World)(h:Rd w v (ivs .i64 L))(hx:w.cell? ⟨g,0,rF⟩=some (rA rC x))(j:∀u∈L,0≤u∧u<1000000)(l:L.length≤1000000):
  Calls prog 220 #[v,.func (.func 230) #[] #[rB (some ⟨g,0,rF⟩)]] w fun e w'=>e=.returned (.bool (L.any fun u=>(Bx (2*u) x)))∧w'=w:=by
 have i:=Hd (Zhs v L x g w h hx j l);obtain⟨R,f⟩:=eX (L.any (fun u=>(Bx (2*u) x)));rw[←f]at i⊢;obtain⟨a,n,d,rfl⟩:∃a n d,v=.slice a n d:=(by obtain⟨a,d,e,_⟩:=h;exact⟨_,_,_,e⟩);clear h hx j f;go_enter func220,ntmps220;go_wp2_with fail;refine i.out.mono ?_;rintro e w' ⟨rfl,r,rfl,b⟩
 by_cases hp:0≤r
 ·have k:decide (0≤r)=true:=decide_eq_true hp;have c:=Hd b;clear b;go_wp2_with fail;go_ret;exact⟨by rw[←c.out];simpa using hp,rfl⟩
 ·have k:decide (0≤r)=false:=decide_eq_false hp;have c:=Hd b;clear b;go_wp2_with fail;go_ret;exact⟨by rw[←c.out];simpa using hp,rfl⟩
theorem Zdm (u x:Int)(g:Nat)(w:World)(hx:w.cell? ⟨g,0,rF⟩=some (rA rC x))(d:0≤u∧u<1000000):
  Calls prog 221 #[rA rC u,rB (some ⟨g,0,rF⟩)] w fun e w'=>e=.returned (.bool (!Bx (2*u) x))∧w'=w:=by
 have a:=Hd (Db (2*u) x w);obtain⟨b,c⟩:=eX (Bx (2*u) x);rw[←c]at a⊢;clear c;have f:wrap64 (2*u)=2*u:=(by unfold wrap64;omega);go_enter func221,ntmps221;go_wp2_with fail;refine a.out.mono ?_;rintro e w' ⟨rfl,rfl⟩;go_wp2_with fail;go_ret;exact⟨rfl,rfl⟩
theorem Zdn (v:Value)(L:List Int)(x:Int)(g:Nat)(w:World)(h:Rd w v (ivs .i64 L))(hx:w.cell? ⟨g,0,rF⟩=some (rA rC x))(T:∀u∈L,0≤u∧u<1000000)(hl:L.length≤1000000):
  Calls prog 256 #[v,.func (.func 221) #[] #[rB (some ⟨g,0,rF⟩)]] w fun e w'=>w'=w∧∃r:Int,e=.returned (rA rC r)∧decide (r≥0)=L.any (fun u=>(!Bx (2*u) x)):=by
 obtain⟨a,E,rfl⟩:∃a E,v=.slice a L.length E:=(by obtain⟨a,E,e,_⟩:=h;rw[show(ivs .i64 L).length=L.length by simp[ivs]]at e;exact⟨a,E,e⟩);have G:=fun(r:Nat) (l:r<L.length)=>h.at3 (u:=rA rC (L.getD r 0)) (r:=r) (by simp[ivs,aH,l]);have z:=fun(r:Nat) (l:r<L.length)=>Zdm (L.getD r 0) x g w hx (T _ (by rw[aH,aI l];exact aJ l));have c:=fun(i:Nat) (I:i<L.length) (h:(fun u=>(!Bx (2*u) x)) (L.getD i 0)=true)=>Zc (p:=fun u=>(!Bx (2*u) x)) I h;have m:=fun(h:∀i,i<L.length→(fun u=>(!Bx (2*u) x)) (L.getD i 0)=false)=>Zdl (p:=fun u=>(!Bx (2*u) x)) h;obtain⟨U,Q⟩:∃U:Nat→Int,U=fun r=>L.getD r 0:=⟨_,rfl⟩;have A:∀r,L.getD r 0=U r:=fun r=>(by rw[Q]);simp only[A]at G z c m;obtain⟨F,o⟩:∃f:Int→Bool,f=fun u=>(!Bx (2*u) x):=⟨_,rfl⟩;have d:∀u:Int,(!Bx (2*u) x)=F u:=fun u=>(by rw[o]);obtain⟨R,S⟩:=eX (L.any (fun u=>(!Bx (2*u) x)));rw[←S]at c m⊢;simp only[d]at z c m;obtain⟨k,y⟩:=eX L.length;rw[←y]at G z hl c m⊢;have M:=Hd G;have H:=Hd z;have B:=Hd c;have K:=Hd m;clear G z c m y h hx Q A T o d S;go_enter func256,ntmps256;go_wp2_with fail
 go_loopg [8] k (fun q iv wr=>∃r:Nat,r+q=k∧iv=rA rC (r:Nat)∧(∀i,i<r→F (U i)=false)∧wr=w)
 case atStart=>exact⟨0,by omega,rfl,fun i I=>by omega,rfl⟩
 case round=>
  obtain⟨r,l,rfl,C,rfl⟩:=hrel;have N:=Hd l;have P:=Hd C;clear l C
  by_cases hlt:r<k
  ·have s:decide (r<k)=true:=decide_eq_true hlt;obtain⟨b,aA,rfl,X,Z⟩:=M.out r hlt;have D:=H.out r hlt;obtain⟨u,J⟩:=eX (U r);rw[←J]at Z D;obtain⟨O,j⟩:=eX (F u);rw[←j]at D;have t:=Hd D;have n:=Hd (show F (U r)=O by rw[j,J]);clear D j J;cases O with
   |true=>
    have W:=Hd (B.out r hlt n.out);go_wp2_with fail;refine(t.out).mono ?_;rintro e Y ⟨rfl,rfl⟩;go_wp2_with fail;go_ret;exact⟨rfl,_,rfl,by rw[W.out];simp⟩
   |false=>
    go_wp2_with fail;refine(t.out).mono ?_;rintro e Y ⟨rfl,rfl⟩;go_wp2_with fail;go_roundg (gk-1);case measure=>have:=N.out;omega
    case rel=>
     refine⟨r+1,by have:=N.out;omega,by go_num,fun i I=> ?_,rfl⟩
     by_cases e:i=r
     ·rw[e];exact n.out
     ·exact P.out i (by omega)
  ·obtain rfl:r=k:=(by have:=N.out;omega);have s:decide (r<r)=false:=decide_eq_false hlt;have V:=Hd (K.out P.out);go_wp2_with fail;go_ret;exact⟨rfl,_,rfl,by rw[V.out];simp⟩
theorem Zdo (v:Value)(L:List Int)(x:Int)(g:Nat)(w:World)(h:Rd w v (ivs .i64 L))(hx:w.cell? ⟨g,0,rF⟩=some (rA rC x))(j:∀u∈L,0≤u∧u<1000000)(l:L.length≤1000000):
  Calls prog 220 #[v,.func (.func 221) #[] #[rB (some ⟨g,0,rF⟩)]] w fun e w'=>e=.returned (.bool (L.any fun u=>(!Bx (2*u) x)))∧w'=w:=by
 have i:=Hd (Zdn v L x g w h hx j l);obtain⟨R,f⟩:=eX (L.any (fun u=>(!Bx (2*u) x)));rw[←f]at i⊢;obtain⟨a,n,d,rfl⟩:∃a n d,v=.slice a n d:=(by obtain⟨a,d,e,_⟩:=h;exact⟨_,_,_,e⟩);clear h hx j f;go_enter func220,ntmps220;go_wp2_with fail;refine i.out.mono ?_;rintro e w' ⟨rfl,r,rfl,b⟩
 by_cases hp:0≤r
 ·have k:decide (0≤r)=true:=decide_eq_true hp;have c:=Hd b;clear b;go_wp2_with fail;go_ret;exact⟨by rw[←c.out];simpa using hp,rfl⟩
 ·have k:decide (0≤r)=false:=decide_eq_false hp;have c:=Hd b;clear b;go_wp2_with fail;go_ret;exact⟨by rw[←c.out];simpa using hp,rfl⟩
theorem Hq (v:Value)(L:List Int)(x:Int)(w:World)(h:Rd w v (ivs .i64 L))(g:∀u∈L,0≤u∧u<1000000)(j:L.length≤1000000):
  Calls prog 193 #[v,rA rC x] w fun e w'=>e=.returned (.bool (Kc L x))∧Below w.heap.size w w':=by
 have c:=(Below.refl w.heap.size w).alloc lR (.cells #[rA rC x] 3);have f:=Hd (Zht v L x w.heap.size (w.alloc (.cells #[rA rC x] 3)) (h.below c lR) (Ar rfl) g j);have i:=Hd c;obtain⟨R,b⟩:=eX (Kc L x);unfold Kc at b;rw[←b]at f;show Calls prog 193 #[v,rA rC x] w fun e w'=>e=.returned (.bool (Kc L x))∧Below w.heap.size w w';unfold Kc;rw[←b];obtain⟨a,n,d,rfl⟩:∃a n d,v=.slice a n d:=(by obtain⟨a,d,e,_⟩:=h;exact⟨_,_,_,e⟩);clear h g b c;go_enter func193,ntmps193;go_wp2_with fail;refine f.out.mono ?_;rintro e w' ⟨rfl,rfl⟩;go_wp2_with fail;go_ret;exact⟨rfl,i.out⟩
theorem Oc (d:NodeD)(c:Array Value)(w:World)(h:NodeC w d c)(hk:NodeOk d)(b:Cd d=true)(r:Bool)(a:At d=r):
  Calls prog 108 #[.agg c] w fun e w'=>Below w.heap.size w w'∧∃v,e=.returned (.tuple #[v,rA rD (if r=true then 0 else 3)])∧Own w' w.heap.size 5 v (bvs (if r=true then Bm d else [])):=by
 subst a;cases a:At d with
 |true=>
  have:=Ty d c w h hk b a;unfold Ey at this;rw[a]at this;exact this
 |false=>
  have:=Pv d c w h b a;unfold Ey at this;rw[a]at this;exact this
def Dw (x:Nat):Nat:=if x%2=1 then 1 else 2
def Bh (t:List NodeD):Bool:=(List.range t.length).all fun x=>decide ((nd t x).kind≠Dw x)&&At (nd t x)
theorem Fo (t:List NodeD):Bh t=true↔∀x,x<t.length→(nd t x).kind≠Dw x∧At (nd t x)=true:=by
 unfold Bh;rw[List.all_eq_true];constructor
 ·intro h x hx;have:=h x (List.mem_range.2 hx);rw[Bool.and_eq_true,decide_eq_true_iff]at this;exact this
 ·intro h x hx;rw[Bool.and_eq_true,decide_eq_true_iff];exact h x (List.mem_range.1 hx)
theorem Py {t:List NodeD} {x:Nat}(hx:x<t.length)(h:(nd t x).kind=Dw x∨At (nd t x)=false):Bh t=false:=by
 cases hp:Bh t with
 |false=>rfl
 |true=>
  have:=(Fo t).1 hp x hx;rcases h with h|h
  ·exact absurd h this.1
  ·rw[this.2]at h;cases h
theorem Gu {x:Nat}(h:x%2=1):Dw x=1:=by unfold Dw;rw[if_pos h]
theorem Eg {x:Nat}(h:x%2=0):Dw x=2:=by unfold Dw;rw[if_neg (by omega)]
theorem Zbi (v:Value)(t:List NodeD)(w:World)(h:TreeR w v t)(hs:Zcq t=true)(aB:TreeOk t):
  Calls prog 226 #[v] w fun e w'=>e=.returned (.bool (Bh t))∧Below w.heap.size w w':=by
 obtain⟨a,c,rfl,hc,aY⟩:=h.sl;have NB:=fun(i:Nat) (cs:Array Value) (W:World) (r:Bool) (hr:At (nd t i)=r) (hw:NodeC W (nd t i) cs)=>Oc (nd t i) cs W hw (aB.nd i) (Zdh hs i) r hr;have GN:=fun(W:World) (hw:Below w.heap.size w W) (i:Nat) (hi:i<t.length)=>(h.below hw lR).node hi;have S1:=fun(h:∀i,i<t.length→(nd t i).kind≠Dw i∧At (nd t i)=true)=>(Fo t).2 h;have S2:=fun(i:Nat) (hi:i<t.length) (h:(nd t i).kind=Dw i∨At (nd t i)=false)=>Py hi h;have K:=fun(i:Nat)=>(aB.nd i).kind;obtain⟨n,hn⟩:=eX t.length;rw[←hn]at GN S1 S2 hc⊢;obtain⟨R,hR⟩:=eX (Bh t);rw[←hR]at S1 S2⊢;have T:=Hd NB;have aT:=Hd GN;have aS:=Hd S1;have S:=Hd S2;have HK:=Hd K;clear NB GN S1 S2 K h hn hR hs aB;go_enter func226,ntmps226;go_wp2_with fail
 go_loopg [10] n (fun q iv wr=>∃r:Nat,r+q=n∧iv=rA rC (r:Nat)∧(∀i,i<r→(nd t i).kind≠Dw i∧At (nd t i)=true)∧Below w.heap.size w wr)
 case atStart=>exact⟨0,by omega,rfl,fun i hi=>by omega,bR⟩
 case round=>
  obtain⟨r,hr,rfl,aQ,hb⟩:=hrel;have HR:=Hd hr;have HM:=Hd aQ;have HB:=Hd hb;clear hr aQ hb
  by_cases hlt:r<n
  ·have aD:decide (r<n)=true:=decide_eq_true hlt;obtain⟨b,p,cs,rfl,a0,aC,aH⟩:=aT.out wr HB.out r hlt;obtain⟨D,hD⟩:=eX (nd t r);have aJ:=HK.out r;have aL:=Hd aC;rw[←hD]at aC aJ;obtain⟨M,c1,A,c2,F,c3,J,c4,N,c5,P,e1,H,e2,Q,e3,V,h1,h2,h3,h4,h5,h6,h7,h8⟩:=aC;obtain⟨j,y⟩:∃k,k=D.kind:=⟨_,rfl⟩;rw[←y]at V aJ;have U:=Hd (show j=(nd t r).kind by rw[y,hD]);have u:=Hd aH;have aU:=Hd V;have aX:=HB.out.size;obtain⟨B,aK⟩:=eX D.leaf.box.length;obtain⟨E,aF⟩:=eX D.leaf.sign.length;obtain⟨G,aN⟩:=eX D.leaf.ident.length;obtain⟨C,aP⟩:=eX D.leaf.par.length;obtain⟨L,aI⟩:=eX D.leaf.sig.length;obtain⟨O,aM⟩:=eX D.par.box.length;obtain⟨z,aO⟩:=eX D.par.hash.length;obtain⟨I,aE⟩:=eX D.par.late.length;obtain⟨s,X⟩:=eX D.leaf.source;rw[←aK,←aF,←aN,←aP,←aI,←aM,←aO,←aE,←X]at V;subst V;clear h1 h2 h3 h4 h5 h6 h7 h8 aH aU aK aF aN aP aI aM aO aE X y hD;obtain⟨m,hm⟩:=eX (r%2);have aW:(r:Int)%2=(m:Int):=(by omega);have aZ:Int.tmod (r:Int) 2=(m:Int):=(by rw[Int.tmod_eq_emod_of_nonneg (by omega)];omega);have aR:m=0∨m=1:=(by omega);have aG:=Hd hm;clear hm;rcases aR with rfl|rfl
   ·have x:=Hd (Eg aG.out.symm);have f:=Hd (HB.out.alloc HB.out.size (.cells #[rA rD (j:Nat),q9 M B c1,q9 A E c2,q9 F G c3,rA rD (s:Nat),q9 J C c4,q9 N L c5,q9 P O e1,q9 H z e2,q9 Q I e3] 52))
    by_cases hk:j=2
    ·have hq:((j:Int)==2)=true:=(by rw[beq_iff_eq];omega);have Y:=Hd (S.out r hlt (.inl (by rw[←U.out,x.out,hk])));clear hk;go_wp2_with (refine wpList_load_mid rfl 52 (.tmp 13) rfl b (p+r*10) rfl [rA rD (j:Nat),q9 M B c1,q9 A E c2,q9 F G c3,rA rD (s:Nat),q9 J C c4,q9 N L c5,q9 P O e1,q9 H z e2,q9 Q I e3] _ u.out underlying52 rfl Ak ?_);go_ret;exact⟨Et Y.out,f.out⟩
    ·have hq:((j:Int)==2)=false:=(by rw[beq_eq_false_iff_ne];omega);have aV:(j:Int)≠2:=(by omega);have Z:=Hd (show(nd t r).kind≠Dw r by rw[←U.out,x.out];exact hk);have l:=Hd (aL.out.below ((Below.refl wr.heap.size wr).alloc lR (.cells #[rA rD (j:Nat),q9 M B c1,q9 A E c2,q9 F G c3,rA rD (s:Nat),q9 J C c4,q9 N L c5,q9 P O e1,q9 H z e2,q9 Q I e3] 52)) lR);cases hrb:At (nd t r)with
     |true=>
      have aA:=Hd hrb;have N1:=Hd (T.out r _ _ true hrb l.out);clear hrb hk;go_wp2_with (refine wpList_load_mid rfl 52 (.tmp 13) rfl b (p+r*10) rfl [rA rD (j:Nat),q9 M B c1,q9 A E c2,q9 F G c3,rA rD (s:Nat),q9 J C c4,q9 N L c5,q9 P O e1,q9 H z e2,q9 Q I e3] _ u.out underlying52 rfl Ak ?_);refine(N1.out).mono ?_;rintro e w2 ⟨g,v,rfl,d⟩;have o:=Hd (f.out.trans (g.mono f.out.size));obtain⟨y1,y2,y3,rfl⟩:=Dg d;clear g d;go_wp2_with fail;go_roundg (gk-1);case measure=>have:=HR.out;omega
      case rel=>
       refine⟨r+1,by have:=HR.out;omega,by go_num,fun i hi=> ?_,o.out⟩
       by_cases e:i=r
       ·rw[e];exact⟨Z.out,aA.out⟩
       ·exact HM.out i (by omega)
     |false=>
      have Y:=Hd (S.out r hlt (.inr hrb));have N1:=Hd (T.out r _ _ false hrb l.out);clear hrb hk;go_wp2_with (refine wpList_load_mid rfl 52 (.tmp 13) rfl b (p+r*10) rfl [rA rD (j:Nat),q9 M B c1,q9 A E c2,q9 F G c3,rA rD (s:Nat),q9 J C c4,q9 N L c5,q9 P O e1,q9 H z e2,q9 Q I e3] _ u.out underlying52 rfl Ak ?_);refine(N1.out).mono ?_;rintro e w2 ⟨g,v,rfl,d⟩;have o:=Hd (f.out.trans (g.mono f.out.size));obtain⟨y1,y2,y3,rfl⟩:=Dg d;clear g d;go_wp2_with fail;go_ret;exact⟨Et Y.out,o.out⟩
   ·have x:=Hd (Gu aG.out.symm);have f:=Hd (HB.out.alloc HB.out.size (.cells #[rA rD (j:Nat),q9 M B c1,q9 A E c2,q9 F G c3,rA rD (s:Nat),q9 J C c4,q9 N L c5,q9 P O e1,q9 H z e2,q9 Q I e3] 52))
    by_cases hk:j=1
    ·have hq:((j:Int)==1)=true:=(by rw[beq_iff_eq];omega);have Y:=Hd (S.out r hlt (.inl (by rw[←U.out,x.out,hk])));clear hk;go_wp2_with (refine wpList_load_mid rfl 52 (.tmp 13) rfl b (p+r*10) rfl [rA rD (j:Nat),q9 M B c1,q9 A E c2,q9 F G c3,rA rD (s:Nat),q9 J C c4,q9 N L c5,q9 P O e1,q9 H z e2,q9 Q I e3] _ u.out underlying52 rfl Ak ?_);go_ret;exact⟨Et Y.out,f.out⟩
    ·have hq:((j:Int)==1)=false:=(by rw[beq_eq_false_iff_ne];omega);have aV:(j:Int)≠1:=(by omega);have Z:=Hd (show(nd t r).kind≠Dw r by rw[←U.out,x.out];exact hk);have l:=Hd (aL.out.below ((Below.refl wr.heap.size wr).alloc lR (.cells #[rA rD (j:Nat),q9 M B c1,q9 A E c2,q9 F G c3,rA rD (s:Nat),q9 J C c4,q9 N L c5,q9 P O e1,q9 H z e2,q9 Q I e3] 52)) lR);cases hrb:At (nd t r)with
     |true=>
      have aA:=Hd hrb;have N1:=Hd (T.out r _ _ true hrb l.out);clear hrb hk;go_wp2_with (refine wpList_load_mid rfl 52 (.tmp 13) rfl b (p+r*10) rfl [rA rD (j:Nat),q9 M B c1,q9 A E c2,q9 F G c3,rA rD (s:Nat),q9 J C c4,q9 N L c5,q9 P O e1,q9 H z e2,q9 Q I e3] _ u.out underlying52 rfl Ak ?_);refine(N1.out).mono ?_;rintro e w2 ⟨g,v,rfl,d⟩;have o:=Hd (f.out.trans (g.mono f.out.size));obtain⟨y1,y2,y3,rfl⟩:=Dg d;clear g d;go_wp2_with fail;go_roundg (gk-1);case measure=>have:=HR.out;omega
      case rel=>
       refine⟨r+1,by have:=HR.out;omega,by go_num,fun i hi=> ?_,o.out⟩
       by_cases e:i=r
       ·rw[e];exact⟨Z.out,aA.out⟩
       ·exact HM.out i (by omega)
     |false=>
      have Y:=Hd (S.out r hlt (.inr hrb));have N1:=Hd (T.out r _ _ false hrb l.out);clear hrb hk;go_wp2_with (refine wpList_load_mid rfl 52 (.tmp 13) rfl b (p+r*10) rfl [rA rD (j:Nat),q9 M B c1,q9 A E c2,q9 F G c3,rA rD (s:Nat),q9 J C c4,q9 N L c5,q9 P O e1,q9 H z e2,q9 Q I e3] _ u.out underlying52 rfl Ak ?_);refine(N1.out).mono ?_;rintro e w2 ⟨g,v,rfl,d⟩;have o:=Hd (f.out.trans (g.mono f.out.size));obtain⟨y1,y2,y3,rfl⟩:=Dg d;clear g d;go_wp2_with fail;go_ret;exact⟨Et Y.out,o.out⟩
  ·obtain rfl:r=n:=(by have:=HR.out;omega);have aD:decide (r<r)=false:=decide_eq_false hlt;go_wp2_with fail;go_ret;exact⟨Et (aS.out HM.out),HB.out⟩
def Gv (t:List NodeD):Bool:=t.any fun d=>d.kind==1
theorem Zdp {t:List NodeD} {i:Nat}(hi:i<t.length)(h:(nd t i).kind=1):Gv t=true:=by
 unfold Gv;rw[cG];refine⟨t[i],aJ hi,?_⟩;rw[nd,aH,aI hi]at h;rw[beq_iff_eq];exact h
theorem Zhu {t:List NodeD}(h:∀i,i<t.length→(nd t i).kind≠1):Gv t=false:=by
 cases hs:Gv t with
 |false=>rfl
 |true=>
  unfold Gv at hs;rw[cG]at hs;obtain⟨d,hd,hk⟩:=hs;obtain⟨i,hi,rfl⟩:=dK hd;have:=h i hi;rw[nd,aH,aI hi]at this;exact absurd (beq_iff_eq.1 hk) this
theorem Zdq (d:NodeD)(c:Array Value)(w:World)(h:NodeC w d c)(hk:d.kind<256):
  Calls prog 268 #[.agg c] w fun e w'=>e=.returned (.bool (d.kind==1))∧Below w.heap.size w w':=by
 obtain⟨m,c1,g,c2,i,c3,j,c4,n,c5,l,e1,p,e2,o,e3,rfl,_⟩:=h;obtain⟨k,a⟩:∃k,k=d.kind:=⟨_,rfl⟩;rw[←a]at hk⊢;have e:((k:Int)==1)=(k==1):=by
  by_cases h:k=1
  ·subst h;rfl
  ·rw[beq_eq_false_iff_ne.2 h,beq_eq_false_iff_ne];omega
 obtain⟨b,f⟩:=eX ((k==1));rw[←f]at e⊢;clear f a;go_enter func268,ntmps268;go_wp2_with fail;go_ret;exact⟨rfl,bR.alloc lR _⟩
theorem Wu (v:Value)(t:List NodeD)(w:World)(h:TreeR w v t)(s:TreeOk t):
  Calls prog 287 #[v,.func (.func 268) #[] #[]] w fun e w'=>∃r:Int,e=.returned (rA rC r)∧decide (r≥0)=Gv t∧Below w.heap.size w w':=by
 obtain⟨a,c,rfl,T,U⟩:=h.sl;have M:=fun(i:Nat) (cs:Array Value) (W:World) (E:NodeC W (nd t i) cs)=>Zdq (nd t i) cs W E (s.nd i).kind;have G:=fun(W:World) (E:Below w.heap.size w W) (i:Nat) (y:i<t.length)=>(h.below E lR).node y;have A:=fun(i:Nat) (y:i<t.length) (h:(nd t i).kind=1)=>Zdp y h;have B:=fun(h:∀i,i<t.length→(nd t i).kind≠1)=>Zhu h;obtain⟨n,P⟩:=eX t.length;obtain⟨R,L⟩:=eX (Gv t);rw[←P]at G A B T⊢;rw[←L]at A B⊢;have H:=Hd M;have D:=Hd G;have I:=Hd A;have F:=Hd B;clear M G A B h P L s;go_enter func287,ntmps287;go_wp2_with fail
 go_loopg [8] n (fun q iv wr=>∃r:Nat,r+q=n∧iv=rA rC (r:Nat)∧(∀i,i<r→(nd t i).kind≠1)∧Below w.heap.size w wr)
 case atStart=>exact⟨0,by omega,rfl,fun i y=>by omega,bR⟩
 case round=>
  obtain⟨r,N,rfl,z,O⟩:=hrel;have J:=Hd N;have K:=Hd z;have m:=Hd O;clear N z O
  by_cases hlt:r<n
  ·have p:decide (r<n)=true:=decide_eq_true hlt;obtain⟨b,u,cs,rfl,Q,f,k⟩:=D.out wr m.out r hlt;have o:=Hd k;have x:=Hd f.size;have l:=H.out r cs wr f;cases hk:((nd t r).kind==1)with
   |true=>
    rw[hk]at l;have g:=Hd l;have C:=Hd (I.out r hlt (beq_iff_eq.1 hk));clear l hk k f;go_wp2_with (refine wpList_load_mid rfl 52 (.tmp 14) rfl b (u+r*10) rfl cs.toList _ o.out underlying52 rfl (by rw[Array.length_toList,x.out];exact Ak) ?_);refine(g.out).mono ?_;rintro e S ⟨rfl,d⟩;have j:=Hd (m.out.trans (d.mono m.out.size));clear d;go_wp2_with fail;go_ret;exact⟨(r:Nat),rfl,by rw[C.out,decide_eq_true_iff];omega,j.out⟩
   |false=>
    rw[hk]at l;have g:=Hd l;have C:=Hd (beq_eq_false_iff_ne.1 hk);clear l hk k f;go_wp2_with (refine wpList_load_mid rfl 52 (.tmp 14) rfl b (u+r*10) rfl cs.toList _ o.out underlying52 rfl (by rw[Array.length_toList,x.out];exact Ak) ?_);refine(g.out).mono ?_;rintro e S ⟨rfl,d⟩;have j:=Hd (m.out.trans (d.mono m.out.size));clear d;go_wp2_with fail;go_roundg (gk-1);case measure=>have:=J.out;omega
    case rel=>
     refine⟨r+1,by have:=J.out;omega,by go_num,fun i y=> ?_,j.out⟩
     by_cases e:i=r
     ·rw[e];exact C.out
     ·exact K.out i (by omega)
  ·obtain rfl:r=n:=(by have:=J.out;omega);have p:decide (r<r)=false:=decide_eq_false hlt;go_wp2_with fail;go_ret;exact⟨-1,rfl,by rw[F.out K.out];rfl,m.out⟩
theorem Uc (v:Value)(t:List NodeD)(w:World)(h:TreeR w v t)(d:TreeOk t):
  Calls prog 227 #[v] w fun e w'=>e=.returned (.bool (Gv t))∧Below w.heap.size w w':=by
 have m:=Wu v t w h d;have CF:Calls prog 267 #[v,.func (.func 268) #[] #[]] w fun e w'=>e=.returned (.bool (Gv t))∧Below w.heap.size w w':=by
  obtain⟨a,c,rfl,l,g⟩:=h.sl;have b:=Hd m;obtain⟨R,i⟩:=eX (Gv t);rw[←i]at b⊢;obtain⟨n,k⟩:=eX t.length;rw[←k]at b⊢;clear m h i k l g d;go_enter func267,ntmps267;go_wp2_with fail;refine(b.out).mono ?_;rintro e q ⟨r,rfl,p,j⟩;have o:=Hd j;have s:=Hd p;clear j p;go_wp2_with fail;go_ret;exact⟨Et s.out.symm,o.out⟩
 obtain⟨a,c,rfl,l,g⟩:=h.sl;have f:=Hd CF;obtain⟨R,i⟩:=eX (Gv t);rw[←i]at f⊢;obtain⟨n,k⟩:=eX t.length;rw[←k]at f⊢;clear m CF h i k l g d;go_enter func227,ntmps227;go_wp2_with fail;refine(f.out).mono ?_;rintro e q ⟨rfl,j⟩;have o:=Hd j;clear j;go_wp2_with fail;go_ret;exact⟨rfl,o.out⟩
end Go.Proofs.YtfofaiommeckbaaGreat
