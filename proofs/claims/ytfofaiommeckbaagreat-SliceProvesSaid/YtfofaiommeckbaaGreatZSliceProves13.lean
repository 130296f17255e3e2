import Derived.Test.YtfofaiommeckbaaGreatZSliceProves10
import Derived.Test.YtfofaiommeckbaaGreatZSliceProves12
import Derived.Deep.MidRow
open Go.Value renaming slice → q9, int → rA
open Option renaming none → rF
open Go.Proofs.Tryz
open List renaming getD_eq_getElem?_getD → aH, getElem?_eq_getElem → aI, getElem_mem → aJ, getElem?_eq_none → aK, getElem_of_mem → dK
open Bool renaming and_eq_true → cJ
set_option linter.unusedVariables false
set_option maxRecDepth 100000
set_option maxHeartbeats 40000000
namespace Go.Proofs.YtfofaiommeckbaaGreat
open Go.RowKit
theorem Et {a b:Bool}(h:a=b):Ending.returned (.bool b)=.returned (.bool a):=by rw[h]
theorem Zmi {k:IntKind} {a b:Int}(h:a=b):Ending.returned (.int k b)=.returned (.int k a):=by rw[h]
def nd (t:List NodeD)(i:Nat):NodeD:=t.getD i Aq
def TreeR (w:World)(v:Value)(t:List NodeD):Prop:=
 ∃a cap,v=.slice a t.length cap∧t.length≤cap∧cap≤maxLen∧∀i,i<t.length→∃b off c,a=some ⟨b,off,rF⟩∧b<w.heap.size∧NodeC w (nd t i) c∧w.rangeAt b (off+i*10) c.toList
theorem Ao {w w':World} {B b o:Nat} {cs:List Value}(h:w.rangeAt b o cs)(hb:Below B w w')(hB:b<B):w'.rangeAt b o cs:=by
 intro j u hu;exact(hb.cell (p:=⟨b,o+j,rF⟩) hB).trans (h j u hu)
theorem TreeR.below {w w':World} {B:Nat} {v:Value} {t:List NodeD}(h:TreeR w v t)(f:Below B w w')(g:w.heap.size≤B):TreeR w' v t:=by
 obtain⟨a,cap,e,h1,h2,h3⟩:=h;refine⟨a,cap,e,h1,h2,fun i j=> ?_⟩;obtain⟨b,d,c,e,k,m,l⟩:=h3 i j;exact⟨b,d,c,e,Nat.lt_of_lt_of_le k f.size,m.below f g,Ao l f (by omega)⟩
theorem TreeR.nil (w:World):TreeR w (q9 rF 0 0) []:=⟨none,0,rfl,lR,Nat.zero_le _,fun i hi=>absurd hi (by simp)⟩
theorem TreeR.sl {w:World} {v:Value} {t:List NodeD}(h:TreeR w v t):∃a c,v=.slice a t.length c∧t.length≤c∧c≤9223372036854775807:=by
 obtain⟨a,cap,e,h1,h2,_⟩:=h;unfold maxLen at h2;exact⟨a,cap,e,h1,h2⟩
theorem TreeR.node {w:World} {a:Option Addr} {n c:Nat} {t:List NodeD}(h:TreeR w (q9 a n c) t) {i:Nat}(d:i<n):∃b off cs,a=some ⟨b,off,rF⟩∧b<w.heap.size∧NodeC w (nd t i) cs∧w.rangeAt b (off+i*10) cs.toList:=by
 obtain⟨f,cap,e,h1,h2,h3⟩:=h;simp only[Value.slice.injEq]at e;obtain⟨rfl,rfl,rfl⟩:=e;exact h3 i d
theorem NodeC.size {w:World} {d:NodeD} {c:Array Value}(h:NodeC w d c):c.size=10:=by
 obtain⟨a1,c1,a2,c2,a3,c3,a4,c4,a5,c5,b1,e1,b2,e2,b3,e3,rfl,_⟩:=h;rfl
theorem NodeC.kind {w:World} {d:NodeD} {c:Array Value}(h:NodeC w d c):c.toList[0]? =some (rA .u8 (d.kind:Nat)):=by
 obtain⟨a1,c1,a2,c2,a3,c3,a4,c4,a5,c5,b1,e1,b2,e2,b3,e3,rfl,_⟩:=h;rfl
theorem NodeC.late {w:World} {d:NodeD} {c:Array Value}(h:NodeC w d c):∃b e,c.toList[9]? =some (.slice b d.par.late.length e)∧Rd w (.slice b d.par.late.length e) (ivs .i64 d.par.late):=by
 obtain⟨a1,c1,a2,c2,a3,c3,a4,c4,a5,c5,b1,e1,b2,e2,b3,e3,rfl,h1,h2,h3,h4,h5,h6,h7,h8⟩:=h;exact⟨b3,e3,rfl,h8⟩
theorem NodeC.one {w:World} {d:NodeD} {c:Array Value}(h:NodeC w d c):c.all (·.oneCell')=true:=by
 obtain⟨a1,c1,a2,c2,a3,c3,a4,c4,a5,c5,b1,e1,b2,e2,b3,e3,rfl,h1,h2,h3,h4,h5,h6,h7,h8⟩:=h;rw[←Array.all_toList];rfl
def TreeOk (t:List NodeD):Prop:=∀d∈t,NodeOk d
theorem TreeOk.nd {t:List NodeD}(h:TreeOk t)(i:Nat):NodeOk (nd t i):=by
 unfold Go.Proofs.YtfofaiommeckbaaGreat.nd;rw[aH]
 by_cases hi:i<t.length
 ·rw[aI hi];exact h _ (aJ hi)
 ·rw[aK (by omega)];exact Gt
def Bc (t:List NodeD):Bool:=decide (t.length≤40)&&t.all exB
theorem Bg {t:List NodeD}(h:Bc t=true):t.length≤40:=by
 rw[Bc,cJ]at h;exact of_decide_eq_true h.1
theorem Ob:Cd Aq=true:=by decide
theorem Zj5:exB Aq=true:=by decide
theorem Ie {t:List NodeD}(h:Bc t=true)(i:Nat):exB (nd t i)=true:=by
 rw[Bc,cJ]at h;unfold Go.Proofs.YtfofaiommeckbaaGreat.nd;rw[aH]
 by_cases hi:i<t.length
 ·rw[aI hi];exact List.all_eq_true.1 h.2 _ (aJ hi)
 ·rw[aK (by omega)];exact Zj5
theorem Cq {t:List NodeD}(h:Bc t=true)(i:Nat):Cd (nd t i)=true:=Tp (Ie h i)
def Zcq (t:List NodeD):Bool:=decide (t.length≤63)&&t.all exB
theorem Nf {t:List NodeD}(h:Zcq t=true):t.length≤63:=by
 rw[Zcq,cJ]at h;exact of_decide_eq_true h.1
theorem Lp {t:List NodeD}(h:Bc t=true):Zcq t=true:=by
 rw[Bc,cJ]at h;rw[Zcq,cJ];exact⟨decide_eq_true (by have:=of_decide_eq_true h.1;omega),h.2⟩
theorem Wp {t:List NodeD}(h:Zcq t=true)(i:Nat):exB (nd t i)=true:=by
 rw[Zcq,cJ]at h;unfold Go.Proofs.YtfofaiommeckbaaGreat.nd;rw[aH]
 by_cases hi:i<t.length
 ·rw[aI hi];exact List.all_eq_true.1 h.2 _ (aJ hi)
 ·rw[aK (by omega)];exact Zj5
theorem Zdh {t:List NodeD}(h:Zcq t=true)(i:Nat):Cd (nd t i)=true:=Tp (Wp h i)
theorem Zdi {t:List NodeD}(hl:t.length≤40)(h:∀i,i<t.length→exB (nd t i)=true):Bc t=true:=by
 rw[Bc,cJ];refine⟨decide_eq_true hl,List.all_eq_true.2 fun d hd=> ?_⟩;obtain⟨i,hi,rfl⟩:=dK hd;have:=h i hi;rw[nd,aH,aI hi]at this;exact this
theorem Zdj {t:List NodeD} {i:Nat}(hi:i<t.length)(h:exB (nd t i)=false):Bc t=false:=by
 cases hs:Bc t with
 |false=>rfl
 |true=>rw[Ie hs]at h;cases h
theorem Ak:(prog.info? 52).map (·.size)=some 10:=by kernel_rfl
theorem Wq (d:NodeD)(c:Array Value)(w:World)(h:NodeC w d c):
  Calls prog 57 #[.agg c] w fun e w'=>e=.returned (.bool (exB d))∧Below w.heap.size w w':=by
 obtain⟨i,c1,a,c2,b,c3,f,c4,j,c5,g,e1,l,e2,k,e3,rfl,h1,h2,h3,o,n,m,p,q⟩:=h;exact Zdc i a b f j g l k d.kind d.leaf.source _ _ _ _ _ _ _ _ c1 c2 c3 c4 c5 e1 e2 e3 w
theorem Zbh (v:Value)(t:List NodeD)(w:World)(h:TreeR w v t):
  Calls prog 30 #[v] w fun e w'=>e=.returned (.bool (Bc t))∧Below w.heap.size w w':=by
 obtain⟨a,c,rfl,V,X⟩:=h.sl;have O:=fun(i:Nat) (cs:Array Value) (W:World) (F:NodeC W (nd t i) cs)=>Wq (nd t i) cs W F;have I:=fun(W:World) (F:Below w.heap.size w W) (i:Nat) (y:i<t.length)=>(h.below F lR).node y;have E:=fun(J:t.length≤40) (h:∀i,i<t.length→exB (nd t i)=true)=>Zdi J h;have G:=fun(i:Nat) (y:i<t.length) (h:exB (nd t i)=false)=>Zdj y h;have H:=fun(J:¬t.length≤40)=>(show Bc t=false by rw[Bc,decide_eq_false J,Bool.false_and]);obtain⟨n,M⟩:=eX t.length;rw[←M]at I E G H V⊢;have z:=Hd O;have D:=Hd I;have B:=Hd E;have p:=Hd G;have u:=Hd H;obtain⟨R,N⟩:=eX (Bc t);rw[←N]at B p u⊢;clear O I E G H h M N
 by_cases h40:n≤40
 ·go_enter func30,ntmps30;go_wp2_with fail
  go_loopg [3] n (fun q iv wr=>∃r:Nat,r+q=n∧iv=rA .i64 (r:Nat)∧(∀i,i<r→exB (nd t i)=true)∧Below w.heap.size w wr)
  case atStart=>exact⟨0,by omega,rfl,fun i y=>by omega,bR⟩
  case round=>
   obtain⟨r,Q,rfl,A,S⟩:=hrel;have K:=Hd Q;have L:=Hd A;have l:=Hd S;clear Q A S
   by_cases hlt:r<n
   ·have o:decide (r<n)=true:=decide_eq_true hlt;have P:decide ((r:Int)<(n:Int))=true:=(by rw[decide_eq_true_iff];omega);obtain⟨b,s,cs,rfl,T,g,k⟩:=D.out wr l.out r hlt;have m:=Hd k;have C:=Hd g;have x:=Hd g.size;cases hsb:exB (nd t r)with
    |true=>
     have d:=Hd hsb;clear hsb k g;go_wp2_with (refine wpList_load_mid rfl 52 (.tmp 15) rfl b (s+r*10) rfl cs.toList _ m.out underlying52 rfl (by rw[Array.length_toList,x.out];exact Ak) ?_);refine(z.out r cs wr C.out).mono ?_;rintro e U ⟨rfl,f⟩;have j:=Hd (l.out.trans (f.mono l.out.size));clear f;rw[d.out];go_wp2_with fail;go_roundg (gk-1);case measure=>have:=K.out;omega
     case rel=>
      refine⟨r+1,by have:=K.out;omega,by go_num,fun i y=> ?_,j.out⟩
      by_cases e:i=r
      ·rw[e];exact d.out
      ·exact L.out i (by omega)
    |false=>
     have d:=Hd hsb;clear hsb k g;go_wp2_with (refine wpList_load_mid rfl 52 (.tmp 15) rfl b (s+r*10) rfl cs.toList _ m.out underlying52 rfl (by rw[Array.length_toList,x.out];exact Ak) ?_);refine(z.out r cs wr C.out).mono ?_;rintro e U ⟨rfl,f⟩;have j:=Hd (l.out.trans (f.mono l.out.size));clear f;rw[d.out];go_wp2_with fail;go_ret;exact⟨Et (p.out r hlt d.out),j.out⟩
   ·obtain rfl:r=n:=(by have:=K.out;omega);have o:decide (r<r)=false:=decide_eq_false hlt;go_wp2_with fail;go_ret;exact⟨Et (B.out h40 L.out),l.out⟩
 ·have Y:40<n:=(by omega);clear h40;go_enter func30,ntmps30;go_wp2_with fail;go_ret;exact⟨Et (u.out (by omega)),bR⟩
open WalkM
theorem Dg {w:World} {B:Nat} {e:TypeId} {v:Value} {xs:List Value}(h:Own w B e v xs):∃a n c,v=.slice a n c:=by
 obtain⟨a,c,e,_⟩:=h.rd;exact⟨a,_,c,e⟩
theorem Rd.at3 {w:World} {a:Option Addr} {n cap r:Nat} {xs:List Value} {u:Value}(h:Rd w (q9 a n cap) xs)(d:xs[r]? =some u):∃b c,a=some ⟨b,c,rF⟩∧b<w.heap.size∧w.cell? ⟨b,c+r,rF⟩=some u:=by
 rcases h.lt with h0|⟨b,c,cap',e1,e2⟩
 ·subst h0;simp at d
 ·obtain⟨j,k,e,_,_,h3⟩:=h;rcases h3 with⟨h0,_⟩|⟨i,off',f,g⟩
  ·subst h0;simp at d
  ·simp only[Value.slice.injEq]at e e1;obtain⟨rfl,_,_⟩:=e;obtain⟨rfl,_,_⟩:=e1;simp only[Option.some.injEq,Addr.mk.injEq,and_true]at f;obtain⟨rfl,rfl⟩:=f;exact⟨b,c,rfl,e2,g r u d⟩
def Ap (n:Nat):Nat:=if n%2=1∧fits ((n+1)/2)=true then(n+1)/2 else 0
theorem Dc {n:Nat}(h:Ap n≠0):∃d,d≤16∧Ap n=2^d∧n+1=2*2^d:=by
 unfold Ap at h⊢
 by_cases hc:n%2=1∧fits ((n+1)/2)=true
 ·rw[if_pos hc]at h⊢;obtain⟨d,hd,e⟩:=(fits_iff _).1 hc.2;exact⟨d,hd,e,by rw[←e];omega⟩
 ·rw[if_neg hc]at h;exact absurd rfl h
theorem Jv {n d:Nat}(hd:d≤16)(h:n+1=2*2^d):Ap n=2^d:=by
 have e:(n+1)/2=2^d:=(by omega);unfold Ap;rw[if_pos ⟨by omega,by rw[e];exact(fits_iff _).2 ⟨d,hd,rfl⟩⟩,e]
theorem Jw (a:Option Addr)(n c:Nat)(w:World)(q:n≤1000000):
  Calls prog 225 #[q9 a n c] w fun e w'=>e=.returned (rA .i64 (Ap n:Nat))∧w'=w:=by
 obtain⟨m,l⟩:=eX ((n+1)/2);have F:=Kg (m:Int) w (by omega) (by omega);rw[Int.toNat_natCast]at F;have e1:((n:Int)+1)/2=(m:Int):=(by omega);have e2:Int.tdiv ((n:Int)+1) 2=(m:Int):=(by rw[Int.tdiv_eq_ediv_of_nonneg (by omega)];omega);obtain⟨r,o⟩:=eX (n%2);have e3:(n:Int)%2=(r:Int):=(by omega);have p:Int.tmod (n:Int) 2=(r:Int):=(by rw[Int.tmod_eq_emod_of_nonneg (by omega)];omega);have k:r=0∨r=1:=(by omega);obtain⟨L,i⟩:=eX (Ap n);have g:L=if r=1∧fits m=true then m else 0:=(by rw[i,Ap,←l,←o]);rw[←i];have h:=Hd F;have j:=Hd g;clear F i g l o;rcases k with rfl|rfl
 ·go_enter func225,ntmps225;go_wp2_with fail;go_ret;exact⟨Zmi (by rw[j.out,if_neg (by omega)];rfl),rfl⟩
 ·cases hf:fits m with
  |true=>
   have f:=Hd hf;have b:=h.out;rw[hf]at b;have d:=Hd b;clear hf h b;go_enter func225,ntmps225;go_wp2_with fail;refine(d.out).mono ?_;rintro e w' ⟨rfl,rfl⟩;go_wp2_with fail;go_ret;exact⟨Zmi (by rw[j.out,if_pos ⟨by trivial,f.out⟩]),rfl⟩
  |false=>
   have f:=Hd hf;have b:=h.out;rw[hf]at b;have d:=Hd b;clear hf h b;go_enter func225,ntmps225;go_wp2_with fail;refine(d.out).mono ?_;rintro e w' ⟨rfl,rfl⟩;go_wp2_with fail;go_ret;exact⟨Zmi (by rw[j.out,if_neg (by rw[f.out];simp)];rfl),rfl⟩
theorem Wr {n:Nat}(h:∀d,d≤16→n+1≠2*2^d):Ap n=0:=by
 by_cases h0:Ap n=0
 ·exact h0
 ·obtain⟨d,hd,_,e⟩:=Dc h0;exact absurd e (h d hd)
theorem Ws (a:Option Addr)(n c:Nat)(w:World)(B:n≤1000000):
  Calls prog 81 #[q9 a n c] w fun e w'=>e=.returned (rA .i64 (Ap n:Nat))∧w'=w:=by
 have r:=fun(d:Nat) (f:d≤16) (h:n+1=2*2^d)=>Jv f h;have s:=fun(h:∀d,d<17→n+1≠2*2^d)=>Wr (n:=n) fun d f=>h d (by omega);obtain⟨L,u⟩:=eX (Ap n);rw[←u]at r s⊢;have x:=Hd r;have y:=Hd s;clear r s u;go_enter func81,ntmps81;go_wp2_with fail
 go_loopg [3] 17 (fun q iv wr=>∃d m:Nat,d+q=17∧m=2^d∧iv=rA .i64 (m:Nat)∧(∀k,k<d→n+1≠2*2^k)∧wr=w)
 case atStart=>exact⟨0,1,rfl,rfl,rfl,fun k hk=>by omega,rfl⟩
 case round=>
  obtain⟨d,m,f,g,rfl,b,rfl⟩:=hrel;have t:=Hd f;have j:=Hd g;have i:=Hd b;have v:0<m:=by rw[g];exact pow_pos' d
  by_cases hlt:d<17
  ·have o:m≤65536:=(by rw[g];exact Nat.le_trans (Nat.pow_le_pow_right (by omega) (show d≤16 by omega)) (by decide));have l:decide ((m:Int)≤65536)=true:=(by rw[decide_eq_true_iff];omega);clear f g b
   by_cases he:n+1=2*m
   ·have A:(2*(m:Int)-1==(n:Int))=true:=(by rw[beq_iff_eq];omega);have z:2*(m:Int)-1=(n:Int):=(by omega);have p:=Hd he;clear he;go_wp2_with fail;go_ret;exact⟨Zmi (by rw[x.out d (by omega) (by rw[p.out,j.out]),j.out]),rfl⟩
   ·have A:(2*(m:Int)-1==(n:Int))=false:=(by rw[beq_eq_false_iff_ne];omega);have p:=Hd he;clear he;go_wp2_with fail;go_roundg (gk-1);case measure=>have:=t.out;omega
    case rel=>
     refine⟨d+1,2*m,by have:=t.out;omega,by rw[j.out,Nat.pow_succ];omega,by go_num,fun k hk=> ?_,rfl⟩
     by_cases e:k=d
     ·rw[e,←j.out];exact p.out
     ·exact i.out k (by omega)
  ·obtain rfl:d=17:=(by omega);have o:m=131072:=(by rw[g]);have l:decide ((m:Int)≤65536)=false:=(by rw[decide_eq_false_iff_not];omega);clear f g b;go_wp2_with fail;go_ret;exact⟨Zmi (by rw[y.out i.out];rfl),rfl⟩
theorem Zb (v:Value)(L:List Int)(x:Int)(w:World)(h:Rd w v (ivs .i64 L)):
  Calls prog 84 #[v,rA .i64 x] w fun e w'=>e=.returned (.bool (decide (x∈L)))∧w'=w:=by
 have O:∃a c,v=.slice a L.length c∧c≤maxLen∧L.length≤c:=(by obtain⟨a,c,e,h1,h2,_⟩:=h;exact⟨a,c,by rw[e];simp[ivs],h2,by simpa [ivs]using h1⟩);obtain⟨a,c,rfl,l,B⟩:=O;have G:=fun(i:Nat) (f:i<L.length)=>h.at3 (u:=rA .i64 (L.getD i 0)) (r:=i) (by simp[ivs,aH,f]);have p:=fun(i:Nat) (f:i<L.length) (e:L.getD i 0=x)=>(show decide (x∈L)=true from decide_eq_true (by
  rw[aH,aI f]at e;have:L[i]=x:=e;rw[←this];exact aJ f))
 have o:=fun(d:∀i,i<L.length→L.getD i 0≠x)=>(show decide (x∈L)=false from decide_eq_false (fun K=>by
  obtain⟨i,f,e⟩:=dK K;exact d i f (by rw[aH,aI f];exact e)))
 obtain⟨n,H⟩:=eX L.length;obtain⟨R,E⟩:=eX (decide (x∈L));rw[←H]at G p o B⊢;rw[←E]at p o⊢;have J:n≤9223372036854775807:=(by unfold maxLen at l;omega);have N:=Hd G;have A:=Hd p;have t:=Hd o;clear G p o h H E l;go_enter func84,ntmps84;go_wp2_with fail
 go_loopg [5] n (fun q iv wr=>∃r:Nat,r+q=n∧iv=rA .i64 (r:Nat)∧(∀i,i<r→L.getD i 0≠x)∧wr=w)
 case atStart=>exact⟨0,by omega,rfl,fun k hk=>by omega,rfl⟩
 case round=>
  obtain⟨r,F,rfl,d,rfl⟩:=hrel;have C:=Hd F;have m:=Hd d;clear F d
  by_cases hlt:r<n
  ·have j:decide (r<n)=true:=decide_eq_true hlt;obtain⟨b,M,rfl,I,g⟩:=N.out r hlt;obtain⟨y,s⟩:=eX (L.getD r 0);rw[←s]at g;have D:=Hd s;clear s
   by_cases he:y=x
   ·have P:(y==x)=true:=(by rw[beq_iff_eq];exact he);have z:=Hd he;clear he;go_wp2_with fail;go_ret;exact⟨Et (A.out r hlt (by rw[←D.out];exact z.out)),rfl⟩
   ·have P:(y==x)=false:=(by rw[beq_eq_false_iff_ne];exact he);have z:=Hd he;clear he;go_wp2_with fail;go_roundg (gk-1);case measure=>have:=C.out;omega
    case rel=>
     refine⟨r+1,by have:=C.out;omega,by go_num,fun i f=> ?_,rfl⟩
     by_cases e:i=r
     ·rw[e,←D.out];exact z.out
     ·exact m.out i (by omega)
  ·obtain rfl:r=n:=(by have:=C.out;omega);have j:decide (r<r)=false:=decide_eq_false hlt;go_wp2_with fail;go_ret;exact⟨Et (t.out m.out),rfl⟩
end Go.Proofs.YtfofaiommeckbaaGreat
