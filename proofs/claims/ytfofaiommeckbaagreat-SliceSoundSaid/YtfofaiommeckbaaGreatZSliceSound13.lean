/- Trees as data: a slice of nodes as it reads; how many leaves; walks of what looks at a tree's size. -/
import Derived.Test.YtfofaiommeckbaaGreatZSliceSoundB
import Derived.Test.YtfofaiommeckbaaGreatZSliceSound10
import Derived.Test.YtfofaiommeckbaaGreatZSliceSound12
import Derived.Deep.MidRow
open List renaming getD_eq_getElem?_getD → aJ, getElem?_eq_getElem → aK, getElem_mem → aL, getElem?_eq_none → aM, getElem_of_mem → dM
open Bool renaming and_eq_true → cL
open Int renaming tmod → dN, tmod_eq_emod_of_nonneg → dO
set_option linter.unusedVariables false
set_option maxRecDepth 100000
set_option maxHeartbeats 40000000
namespace Go.Proofs.YtfofaiommeckbaaGreat
open Go.RowKit
theorem Dh {a b:Bool}(h:a=b):Ending.returned (.bool b)=.returned (.bool a):=by rw[h]
theorem Zlm {k:IntKind} {a b:Int}(h:a=b):Ending.returned (.int k b)=.returned (.int k a):=by rw[h]
def nd (t:List NodeD)(i:Nat):NodeD:=t.getD i An
def TreeR (w:World)(v:Value)(t:List NodeD):Prop:=
 ∃a cap,v=.slice a t.length cap∧t.length≤cap∧cap≤maxLen∧∀i,i<t.length→∃b off c,a=some ⟨b,off,none⟩∧b<w.heap.size∧NodeC w (nd t i) c∧w.rangeAt b (off+i*10) c.toList
theorem Am {w w':World} {B b o:Nat} {cs:List Value}(h:w.rangeAt b o cs)(hb:Below B w w')(hB:b<B):w'.rangeAt b o cs:=by
 intro j u hu;exact(hb.cell (p:=⟨b,o+j,none⟩) hB).trans (h j u hu)
theorem TreeR.below {w w':World} {B:Nat} {v:Value} {t:List NodeD}(h:TreeR w v t)(d:Below B w w')(j:w.heap.size≤B):TreeR w' v t:=by
 obtain⟨a,cap,e,l,h2,h3⟩:=h;refine⟨a,cap,e,l,h2,fun i m=> ?_⟩;obtain⟨b,f,c,e,n,k,g⟩:=h3 i m;exact⟨b,f,c,e,Nat.lt_of_lt_of_le n d.size,k.below d j,Am g d (by omega)⟩
theorem TreeR.nil (w:World):TreeR w (.slice none 0 0) []:=⟨none,0,rfl,lR,Nat.zero_le _,fun i hi=>absurd hi (by simp)⟩
theorem TreeR.sl {w:World} {v:Value} {t:List NodeD}(h:TreeR w v t):∃a c,v=.slice a t.length c∧t.length≤c∧c≤9223372036854775807:=by
 obtain⟨a,cap,e,h1,h2,_⟩:=h;unfold maxLen at h2;exact⟨a,cap,e,h1,h2⟩
theorem TreeR.node {w:World} {a:Option Addr} {n c:Nat} {t:List NodeD}(h:TreeR w (.slice a n c) t) {i:Nat}(d:i<n):∃b off cs,a=some ⟨b,off,none⟩∧b<w.heap.size∧NodeC w (nd t i) cs∧w.rangeAt b (off+i*10) cs.toList:=by
 obtain⟨g,cap,e,f,h2,h3⟩:=h;simp only[Value.slice.injEq]at e;obtain⟨rfl,rfl,rfl⟩:=e;exact h3 i d
theorem NodeC.size {w:World} {d:NodeD} {c:Array Value}(h:NodeC w d c):c.size=10:=by
 obtain⟨a1,c1,a2,c2,a3,c3,a4,c4,a5,c5,b1,e1,b2,e2,b3,e3,rfl,_⟩:=h;rfl
theorem NodeC.kind {w:World} {d:NodeD} {c:Array Value}(h:NodeC w d c):c.toList[0]? =some (.int .u8 (d.kind:Nat)):=by
 obtain⟨a1,c1,a2,c2,a3,c3,a4,c4,a5,c5,b1,e1,b2,e2,b3,e3,rfl,_⟩:=h;rfl
theorem NodeC.late {w:World} {d:NodeD} {c:Array Value}(h:NodeC w d c):∃b e,c.toList[9]? =some (.slice b d.par.late.length e)∧Rd w (.slice b d.par.late.length e) (ivs .i64 d.par.late):=by
 obtain⟨a1,c1,a2,c2,a3,c3,a4,c4,a5,c5,b1,e1,b2,e2,b3,e3,rfl,h1,h2,h3,h4,h5,h6,h7,h8⟩:=h;exact⟨b3,e3,rfl,h8⟩
theorem NodeC.one {w:World} {d:NodeD} {c:Array Value}(h:NodeC w d c):c.all (·.oneCell')=true:=by
 obtain⟨a1,c1,a2,c2,a3,c3,a4,c4,a5,c5,b1,e1,b2,e2,b3,e3,rfl,h1,h2,h3,h4,h5,h6,h7,h8⟩:=h;rw[←Array.all_toList];rfl
def TreeOk (t:List NodeD):Prop:=∀d∈t,NodeOk d
theorem TreeOk.nd {t:List NodeD}(h:TreeOk t)(i:Nat):NodeOk (nd t i):=by
 unfold Go.Proofs.YtfofaiommeckbaaGreat.nd;rw[aJ]
 by_cases hi:i<t.length
 ·rw[aK hi];exact h _ (aL hi)
 ·rw[aM (by omega)];exact Gm
def Bg (t:List NodeD):Bool:=decide (t.length≤40)&&t.all exB
theorem Bo {t:List NodeD}(h:Bg t=true):t.length≤40:=by
 rw[Bg,cL]at h;exact of_decide_eq_true h.1
theorem Mx:Bm An=true:=by decide
theorem Zjg:exB An=true:=by decide
theorem Ju {t:List NodeD}(h:Bg t=true)(i:Nat):exB (nd t i)=true:=by
 rw[Bg,cL]at h;unfold Go.Proofs.YtfofaiommeckbaaGreat.nd;rw[aJ]
 by_cases hi:i<t.length
 ·rw[aK hi];exact List.all_eq_true.1 h.2 _ (aL hi)
 ·rw[aM (by omega)];exact Zjg
theorem Cf {t:List NodeD}(h:Bg t=true)(i:Nat):Bm (nd t i)=true:=Sm (Ju h i)
def Zcv (t:List NodeD):Bool:=decide (t.length≤63)&&t.all exB
theorem Qv {t:List NodeD}(h:Zcv t=true):t.length≤63:=by
 rw[Zcv,cL]at h;exact of_decide_eq_true h.1
theorem Oz {t:List NodeD}(h:Bg t=true):Zcv t=true:=by
 rw[Bg,cL]at h;rw[Zcv,cL];exact⟨decide_eq_true (by have:=of_decide_eq_true h.1;omega),h.2⟩
theorem Vm {t:List NodeD}(h:Zcv t=true)(i:Nat):exB (nd t i)=true:=by
 rw[Zcv,cL]at h;unfold Go.Proofs.YtfofaiommeckbaaGreat.nd;rw[aJ]
 by_cases hi:i<t.length
 ·rw[aK hi];exact List.all_eq_true.1 h.2 _ (aL hi)
 ·rw[aM (by omega)];exact Zjg
theorem Zcw {t:List NodeD}(h:Zcv t=true)(i:Nat):Bm (nd t i)=true:=Sm (Vm h i)
theorem Zcx {t:List NodeD}(hl:t.length≤40)(h:∀i,i<t.length→exB (nd t i)=true):Bg t=true:=by
 rw[Bg,cL];refine⟨decide_eq_true hl,List.all_eq_true.2 fun d hd=> ?_⟩;obtain⟨i,hi,rfl⟩:=dM hd;have:=h i hi;rw[nd,aJ,aK hi]at this;exact this
theorem Zcy {t:List NodeD} {i:Nat}(hi:i<t.length)(h:exB (nd t i)=false):Bg t=false:=by
 cases hs:Bg t with
 |false=>rfl
 |true=>rw[Ju hs]at h;cases h
theorem Ak:(Tryz.prog.info? 52).map (·.size)=some 10:=by kernel_rfl
theorem Vn (d:NodeD)(c:Array Value)(w:World)(h:NodeC w d c):
  Calls Tryz.prog 57 #[.agg c] w fun e w'=>e=.returned (.bool (exB d))∧Below w.heap.size w w':=by
 obtain⟨a,c1,k,c2,i,c3,g,c4,b,c5,m,l,f,e2,j,e3,rfl,s,h2,h3,n,o,q,p,r⟩:=h;exact Zcp a k i g b m f j d.kind d.leaf.source _ _ _ _ _ _ _ _ c1 c2 c3 c4 c5 l e2 e3 w
theorem Zav (v:Value)(t:List NodeD)(w:World)(h:TreeR w v t):
  Calls Tryz.prog 30 #[v] w fun e w'=>e=.returned (.bool (Bg t))∧Below w.heap.size w w':=by
 obtain⟨a,c,rfl,V,U⟩:=h.sl;have N:=fun(i:Nat) (cs:Array Value) (W:World) (F:NodeC W (nd t i) cs)=>Vn (nd t i) cs W F;have H:=fun(W:World) (F:Below w.heap.size w W) (i:Nat) (A:i<t.length)=>(h.below F lR).node A;have G:=fun(K:t.length≤40) (h:∀i,i<t.length→exB (nd t i)=true)=>Zcx K h;have E:=fun(i:Nat) (A:i<t.length) (h:exB (nd t i)=false)=>Zcy A h;have J:=fun(K:¬t.length≤40)=>(show Bg t=false by rw[Bg,decide_eq_false K,Bool.false_and]);obtain⟨n,P⟩:=eX t.length;rw[←P]at H G E J V⊢;have B:=Hd N;have D:=Hd H;have C:=Hd G;have z:=Hd E;have u:=Hd J;obtain⟨R,Q⟩:=eX (Bg t);rw[←Q]at C z u⊢;clear N H G E J h P Q
 by_cases h40:n≤40
 ·go_enter Tryz.func30,Tryz.ntmps30;go_wp2_with fail
  go_loopg [3] n (fun q iv wr=>∃r:Nat,r+q=n∧iv=.int .i64 (r:Nat)∧(∀i,i<r→exB (nd t i)=true)∧Below w.heap.size w wr)
  case atStart=>exact⟨0,by omega,rfl,fun i A=>by omega,bR⟩
  case round=>
   obtain⟨r,L,rfl,o,M⟩:=hrel;have I:=Hd L;have O:=Hd o;have l:=Hd M;clear L o M
   by_cases hlt:r<n
   ·have x:decide (r<n)=true:=decide_eq_true hlt;have S:decide ((r:Int)<(n:Int))=true:=(by rw[decide_eq_true_iff];omega);obtain⟨b,y,cs,rfl,X,g,k⟩:=D.out wr l.out r hlt;have p:=Hd k;have s:=Hd g;have m:=Hd g.size;cases hsb:exB (nd t r)with
    |true=>
     have d:=Hd hsb;clear hsb k g;go_wp2_with (refine wpList_load_mid rfl 52 (.tmp 15) rfl b (y+r*10) rfl cs.toList _ p.out Tryz.underlying52 rfl (by rw[Array.length_toList,m.out];exact Ak) ?_);refine(B.out r cs wr s.out).mono ?_;rintro e Y ⟨rfl,f⟩;have j:=Hd (l.out.trans (f.mono l.out.size));clear f;rw[d.out];go_wp2_with fail;go_roundg (gk-1);case measure=>have:=I.out;omega
     case rel=>
      refine⟨r+1,by have:=I.out;omega,by go_num,fun i A=> ?_,j.out⟩
      by_cases e:i=r
      ·rw[e];exact d.out
      ·exact O.out i (by omega)
    |false=>
     have d:=Hd hsb;clear hsb k g;go_wp2_with (refine wpList_load_mid rfl 52 (.tmp 15) rfl b (y+r*10) rfl cs.toList _ p.out Tryz.underlying52 rfl (by rw[Array.length_toList,m.out];exact Ak) ?_);refine(B.out r cs wr s.out).mono ?_;rintro e Y ⟨rfl,f⟩;have j:=Hd (l.out.trans (f.mono l.out.size));clear f;rw[d.out];go_wp2_with fail;go_ret;exact⟨Dh (z.out r hlt d.out),j.out⟩
   ·obtain rfl:r=n:=(by have:=I.out;omega);have x:decide (r<r)=false:=decide_eq_false hlt;go_wp2_with fail;go_ret;exact⟨Dh (C.out h40 O.out),l.out⟩
 ·have T:40<n:=(by omega);clear h40;go_enter Tryz.func30,Tryz.ntmps30;go_wp2_with fail;go_ret;exact⟨Dh (u.out (by omega)),bR⟩
open WalkM
theorem Ey {w:World} {B:Nat} {e:TypeId} {v:Value} {xs:List Value}(h:Own w B e v xs):∃a n c,v=.slice a n c:=by
 obtain⟨a,c,e,_⟩:=h.rd;exact⟨a,_,c,e⟩
theorem Rd.at3 {w:World} {a:Option Addr} {n cap r:Nat} {xs:List Value} {u:Value}(h:Rd w (.slice a n cap) xs)(f:xs[r]? =some u):∃b c,a=some ⟨b,c,none⟩∧b<w.heap.size∧w.cell? ⟨b,c+r,none⟩=some u:=by
 rcases h.lt with d|⟨b,c,cap',i,e2⟩
 ·subst d;simp at f
 ·obtain⟨l,m,e,_,_,h3⟩:=h;rcases h3 with⟨d,_⟩|⟨k,off',g,j⟩
  ·subst d;simp at f
  ·simp only[Value.slice.injEq]at e i;obtain⟨rfl,_,_⟩:=e;obtain⟨rfl,_,_⟩:=i;simp only[Option.some.injEq,Addr.mk.injEq,and_true]at g;obtain⟨rfl,rfl⟩:=g;exact⟨b,c,rfl,e2,j r u f⟩
def Ap (n:Nat):Nat:=if n%2=1∧fits ((n+1)/2)=true then(n+1)/2 else 0
theorem Cl {n:Nat}(h:Ap n≠0):∃d,d≤16∧Ap n=2^d∧n+1=2*2^d:=by
 unfold Ap at h⊢
 by_cases hc:n%2=1∧fits ((n+1)/2)=true
 ·rw[if_pos hc]at h⊢;obtain⟨d,hd,e⟩:=(fits_iff _).1 hc.2;exact⟨d,hd,e,by rw[←e];omega⟩
 ·rw[if_neg hc]at h;exact absurd rfl h
theorem Jd {n d:Nat}(hd:d≤16)(h:n+1=2*2^d):Ap n=2^d:=by
 have e:(n+1)/2=2^d:=(by omega);unfold Ap;rw[if_pos ⟨by omega,by rw[e];exact(fits_iff _).2 ⟨d,hd,rfl⟩⟩,e]
theorem Je (a:Option Addr)(n c:Nat)(w:World)(q:n≤1000000):
  Calls Tryz.prog 225 #[.slice a n c] w fun e w'=>e=.returned (.int .i64 (Ap n:Nat))∧w'=w:=by
 obtain⟨m,o⟩:=eX ((n+1)/2);have F:=Jl (m:Int) w (by omega) (by omega);rw[Int.toNat_natCast]at F;have s:((n:Int)+1)/2=(m:Int):=(by omega);have e2:Int.tdiv ((n:Int)+1) 2=(m:Int):=(by rw[Int.tdiv_eq_ediv_of_nonneg (by omega)];omega);obtain⟨r,l⟩:=eX (n%2);have e3:(n:Int)%2=(r:Int):=(by omega);have p:dN (n:Int) 2=(r:Int):=(by rw[dO (by omega)];omega);have k:r=0∨r=1:=(by omega);obtain⟨L,j⟩:=eX (Ap n);have g:L=if r=1∧fits m=true then m else 0:=(by rw[j,Ap,←o,←l]);rw[←j];have h:=Hd F;have i:=Hd g;clear F j g o l;rcases k with rfl|rfl
 ·go_enter Tryz.func225,Tryz.ntmps225;go_wp2_with fail;go_ret;exact⟨Zlm (by rw[i.out,if_neg (by omega)];rfl),rfl⟩
 ·cases hf:fits m with
  |true=>
   have f:=Hd hf;have b:=h.out;rw[hf]at b;have d:=Hd b;clear hf h b;go_enter Tryz.func225,Tryz.ntmps225;go_wp2_with fail;refine(d.out).mono ?_;rintro e w' ⟨rfl,rfl⟩;go_wp2_with fail;go_ret;exact⟨Zlm (by rw[i.out,if_pos ⟨by trivial,f.out⟩]),rfl⟩
  |false=>
   have f:=Hd hf;have b:=h.out;rw[hf]at b;have d:=Hd b;clear hf h b;go_enter Tryz.func225,Tryz.ntmps225;go_wp2_with fail;refine(d.out).mono ?_;rintro e w' ⟨rfl,rfl⟩;go_wp2_with fail;go_ret;exact⟨Zlm (by rw[i.out,if_neg (by rw[f.out];simp)];rfl),rfl⟩
theorem Vo {n:Nat}(h:∀d,d≤16→n+1≠2*2^d):Ap n=0:=by
 by_cases h0:Ap n=0
 ·exact h0
 ·obtain⟨d,hd,_,e⟩:=Cl h0;exact absurd e (h d hd)
theorem Vp (a:Option Addr)(n c:Nat)(w:World)(B:n≤1000000):
  Calls Tryz.prog 81 #[.slice a n c] w fun e w'=>e=.returned (.int .i64 (Ap n:Nat))∧w'=w:=by
 have o:=fun(d:Nat) (g:d≤16) (h:n+1=2*2^d)=>Jd g h;have p:=fun(h:∀d,d<17→n+1≠2*2^d)=>Vo (n:=n) fun d g=>h d (by omega);obtain⟨L,u⟩:=eX (Ap n);rw[←u]at o p⊢;have v:=Hd o;have A:=Hd p;clear o p u;go_enter Tryz.func81,Tryz.ntmps81;go_wp2_with fail
 go_loopg [3] 17 (fun q iv wr=>∃d m:Nat,d+q=17∧m=2^d∧iv=.int .i64 (m:Nat)∧(∀k,k<d→n+1≠2*2^k)∧wr=w)
 case atStart=>exact⟨0,1,rfl,rfl,rfl,fun k hk=>by omega,rfl⟩
 case round=>
  obtain⟨d,m,g,f,rfl,b,rfl⟩:=hrel;have t:=Hd g;have j:=Hd f;have i:=Hd b;have y:0<m:=by rw[f];exact pow_pos' d
  by_cases hlt:d<17
  ·have s:m≤65536:=(by rw[f];exact Nat.le_trans (Nat.pow_le_pow_right (by omega) (show d≤16 by omega)) (by decide));have l:decide ((m:Int)≤65536)=true:=(by rw[decide_eq_true_iff];omega);clear g f b
   by_cases he:n+1=2*m
   ·have x:(2*(m:Int)-1==(n:Int))=true:=(by rw[beq_iff_eq];omega);have z:2*(m:Int)-1=(n:Int):=(by omega);have r:=Hd he;clear he;go_wp2_with fail;go_ret;exact⟨Zlm (by rw[v.out d (by omega) (by rw[r.out,j.out]),j.out]),rfl⟩
   ·have x:(2*(m:Int)-1==(n:Int))=false:=(by rw[beq_eq_false_iff_ne];omega);have r:=Hd he;clear he;go_wp2_with fail;go_roundg (gk-1);case measure=>have:=t.out;omega
    case rel=>
     refine⟨d+1,2*m,by have:=t.out;omega,by rw[j.out,Nat.pow_succ];omega,by go_num,fun k hk=> ?_,rfl⟩
     by_cases e:k=d
     ·rw[e,←j.out];exact r.out
     ·exact i.out k (by omega)
  ·obtain rfl:d=17:=(by omega);have s:m=131072:=(by rw[f]);have l:decide ((m:Int)≤65536)=false:=(by rw[decide_eq_false_iff_not];omega);clear g f b;go_wp2_with fail;go_ret;exact⟨Zlm (by rw[A.out i.out];rfl),rfl⟩
theorem Zg4 (v:Value)(L:List Int)(x:Int)(w:World)(h:Rd w v (ivs .i64 L)):
  Calls Tryz.prog 84 #[v,.int .i64 x] w fun e w'=>e=.returned (.bool (decide (x∈L)))∧w'=w:=by
 have K:∃a c,v=.slice a L.length c∧c≤maxLen∧L.length≤c:=(by obtain⟨a,c,e,Q,h2,_⟩:=h;exact⟨a,c,by rw[e];simp[ivs],h2,by simpa [ivs]using Q⟩);obtain⟨a,c,rfl,m,B⟩:=K;have G:=fun(i:Nat) (f:i<L.length)=>h.at3 (u:=.int .i64 (L.getD i 0)) (r:=i) (by simp[ivs,aJ,f]);have o:=fun(i:Nat) (f:i<L.length) (e:L.getD i 0=x)=>(show decide (x∈L)=true from decide_eq_true (by
  rw[aJ,aK f]at e;have:L[i]=x:=e;rw[←this];exact aL f))
 have p:=fun(d:∀i,i<L.length→L.getD i 0≠x)=>(show decide (x∈L)=false from decide_eq_false (fun J=>by
  obtain⟨i,f,e⟩:=dM J;exact d i f (by rw[aJ,aK f];exact e)))
 obtain⟨n,F⟩:=eX L.length;obtain⟨R,H⟩:=eX (decide (x∈L));rw[←F]at G o p B⊢;rw[←H]at o p⊢;have I:n≤9223372036854775807:=(by unfold maxLen at m;omega);have P:=Hd G;have C:=Hd o;have A:=Hd p;clear G o p h F H m;go_enter Tryz.func84,Tryz.ntmps84;go_wp2_with fail
 go_loopg [5] n (fun q iv wr=>∃r:Nat,r+q=n∧iv=.int .i64 (r:Nat)∧(∀i,i<r→L.getD i 0≠x)∧wr=w)
 case atStart=>exact⟨0,by omega,rfl,fun k hk=>by omega,rfl⟩
 case round=>
  obtain⟨r,D,rfl,d,rfl⟩:=hrel;have s:=Hd D;have l:=Hd d;clear D d
  by_cases hlt:r<n
  ·have j:decide (r<n)=true:=decide_eq_true hlt;obtain⟨b,M,rfl,N,g⟩:=P.out r hlt;obtain⟨y,z⟩:=eX (L.getD r 0);rw[←z]at g;have E:=Hd z;clear z
   by_cases he:y=x
   ·have O:(y==x)=true:=(by rw[beq_iff_eq];exact he);have t:=Hd he;clear he;go_wp2_with fail;go_ret;exact⟨Dh (C.out r hlt (by rw[←E.out];exact t.out)),rfl⟩
   ·have O:(y==x)=false:=(by rw[beq_eq_false_iff_ne];exact he);have t:=Hd he;clear he;go_wp2_with fail;go_roundg (gk-1);case measure=>have:=s.out;omega
    case rel=>
     refine⟨r+1,by have:=s.out;omega,by go_num,fun i f=> ?_,rfl⟩
     by_cases e:i=r
     ·rw[e,←E.out];exact t.out
     ·exact l.out i (by omega)
  ·obtain rfl:r=n:=(by have:=s.out;omega);have j:decide (r<r)=false:=decide_eq_false hlt;go_wp2_with fail;go_ret;exact⟨Dh (A.out l.out),rfl⟩
theorem Zms {v:Value} {a b:Bool}(h:a=b):Ending.returned (.tuple #[v,.bool b])=.returned (.tuple #[v,.bool a]):=by rw[h]
theorem Zg5 (x:Int)(w:World):Calls Tryz.prog 206 #[.int .i64 x] w fun e w'=>e=.returned (.bool false)∧w'=w:=by
 have h:(x !=x)=false:=(by rw[bne_eq_false_iff_eq]);go_enter Tryz.func206,Tryz.ntmps206;go_wp2_with fail;go_ret;exact⟨rfl,rfl⟩
theorem Zg6 (x:Int)(w:World):Calls Tryz.prog 289 #[.int .i64 x] w fun e w'=>e=.returned (.bool false)∧w'=w:=by
 have h:(x !=x)=false:=(by rw[bne_eq_false_iff_eq]);go_enter Tryz.func289,Tryz.ntmps289;go_wp2_with fail;go_ret;exact⟨rfl,rfl⟩
theorem Zcz (x y:Int)(w:World):Calls Tryz.prog 263 #[.int .i64 x,.int .i64 y] w fun e w'=>e=.returned (.bool (decide (x<y)))∧w'=w:=by
 obtain⟨b,a⟩:∃b,decide (x<y)=b:=⟨_,rfl⟩;rw[a];go_enter Tryz.func263,Tryz.ntmps263;go_wp2_with fail;refine(Zg5 x w).mono ?_;rintro e w' ⟨rfl,rfl⟩;go_wp2_with fail;go_ret;exact⟨rfl,rfl⟩
def Zln (L:List Int):Prop:=∀i j,i<j→j<L.length→L.getD i 0<L.getD j 0
theorem Vq (v:Value)(L:List Int)(x:Int)(w:World)(h:Rd w v (ivs .i64 L))(J:Zln L)(hl:L.length≤1000000):
  Calls Tryz.prog 270 #[v,.int .i64 x] w fun e w'=>∃p:Nat,e=.returned (.tuple #[.int .i64 (p:Nat),.bool (decide (x∈L))])∧p≤L.length∧(∀k,k<p→L.getD k 0<x)∧(∀k,p≤k→k<L.length→x≤L.getD k 0)∧w'=w:=by
 have hv:∃a c,v=.slice a L.length c:=(by obtain⟨a,c,e,z,h2,_⟩:=h;exact⟨a,c,by rw[e];simp[ivs]⟩);obtain⟨a,c,rfl⟩:=hv;have G:=fun(i:Nat) (C:i<L.length)=>h.at3 (u:=.int .i64 (L.getD i 0)) (r:=i) (by simp[ivs,aJ,C]);have D:∀i j,i≤j→j<L.length→L.getD i 0≤L.getD j 0:=by
  intro i j F hj
  by_cases e:i=j
  ·rw[e];exact Int.le_refl _
  ·exact Int.le_of_lt (J i j (by omega) hj)
 have U:=fun(i:Nat) (C:i<L.length) (e:L.getD i 0=x)=>(show decide (x∈L)=true from decide_eq_true (by
  rw[aJ,aK C]at e;have:L[i]=x:=e;rw[←this];exact aL C))
 have V:=fun(W:∀i,i<L.length→L.getD i 0≠x)=>(show decide (x∈L)=false from decide_eq_false (fun K=>by
  obtain⟨i,C,e⟩:=dM K;exact W i C (by rw[aJ,aK C];exact e)))
 obtain⟨n,Z⟩:=eX L.length;obtain⟨R,hR⟩:=eX (decide (x∈L));rw[←Z]at G U V D hl;simp only[←Z];rw[←hR]at U V⊢;have HG:=Hd G;have aA:=Hd U;have T:=Hd V;have B:=Hd D;clear G U V h Z hR J D;go_enter Tryz.func270,Tryz.ntmps270;go_wp2_with fail
 go_loopg [7,8] n (fun q iv jv wr=>∃i j:Nat,i+q=j∧j≤n∧iv=.int .i64 (i:Nat)∧jv=.int .i64 (j:Nat)∧(∀k,k<i→L.getD k 0<x)∧(∀k,j≤k→k<n→x≤L.getD k 0)∧wr=w)
 case atStart=>exact⟨0,n,by omega,lR,rfl,rfl,fun k hk=>by omega,fun k z h2=>by omega,rfl⟩
 case round=>
  obtain⟨i,j,F,aB,rfl,rfl,M,P,rfl⟩:=hrel;have l:=Hd F;have f:=Hd M;have g:=Hd P;clear F M P
  by_cases hlt:i<j
  ·have N:decide (i<j)=true:=decide_eq_true hlt;obtain⟨m,K⟩:=eX ((i+j)/2);obtain⟨s,J⟩:=eX (i+j);have e1:(i:Int)+(j:Int)=(s:Int):=(by omega);have e2:IntKind.u64.wrap (s:Int)=(s:Int):=(by rw[IntKind.wrap_u64];omega);have e3:(s:Int)/2=(m:Int):=(by omega);have e4:IntKind.i64.wrap (m:Int)=(m:Int):=(by rw[IntKind.wrap_i64];omega);have Q:m<n:=(by omega);obtain⟨b,X,rfl,Y,d⟩:=HG.out m Q;obtain⟨y,t⟩:=eX (L.getD m 0);rw[←t]at d;have I:=Hd t;have o:=Hd K;have aC:=Hd J;have H:=Zcz y x wr
   by_cases hyx:y<x
   ·rw[decide_eq_true hyx]at H;have A:=Hd H;have E:=Hd hyx;clear t K J H hyx;go_wp2_with fail;refine(A.out).mono ?_;rintro e w' ⟨rfl,rfl⟩;go_wp2_with fail;go_roundg (j-(m+1));case measure=>have:=l.out;have:=o.out;omega
    case rel=>
     refine⟨m+1,j,by have:=o.out;omega,aB,by go_num,rfl,fun k hk=> ?_,g.out,rfl⟩;have:=B.out k m (by omega) Q;have:=E.out;rw[I.out]at this;omega
   ·rw[decide_eq_false hyx]at H;have A:=Hd H;have E:=Hd hyx;clear t K J H hyx;go_wp2_with fail;refine(A.out).mono ?_;rintro e w' ⟨rfl,rfl⟩;go_wp2_with fail;go_roundg (m-i);case measure=>have:=l.out;have:=o.out;omega
    case rel=>
     refine⟨i,m,by have:=o.out;omega,by omega,rfl,rfl,f.out,fun k z h2=> ?_,rfl⟩;have:=B.out m k z h2;have:=E.out;rw[I.out]at this;omega
  ·have N:decide (i<j)=false:=decide_eq_false hlt
   by_cases hin:i<n
   ·have S:decide (i<n)=true:=decide_eq_true hin;obtain⟨b,X,rfl,Y,d⟩:=HG.out i hin;obtain⟨y,t⟩:=eX (L.getD i 0);rw[←t]at d;have I:=Hd t;clear t
    by_cases he:y=x
    ·have hq:(y==x)=true:=(by rw[beq_iff_eq];exact he);have O:=Hd (aA.out i hin (by rw[←I.out];exact he));clear he;go_wp2_with fail;go_ret2;exact⟨i,Zms O.out,by have:=l.out;omega,f.out,fun k z h2=>g.out k (by omega) h2,rfl⟩
    ·have hq:(y==x)=false:=(by rw[beq_eq_false_iff_ne];exact he);have O:=Hd (T.out (fun k hk e=>by
      by_cases z:k<i
      ·have:=f.out k z;omega
      ·by_cases h2:k=i
       ·rw[h2]at e;exact he (I.out.trans e)
       ·have h3:=B.out i k (by omega) hk;have h4:=g.out i (by omega) hin;have:=I.out
        omega))
     clear he;have N1:=Hd (Zg6 y wr);go_wp2_with fail;refine(N1.out).mono ?_;rintro e w' ⟨rfl,rfl⟩;go_wp2_with fail;go_ret2;exact⟨i,Zms O.out,by have:=l.out;omega,f.out,fun k z h2=>g.out k (by omega) h2,rfl⟩
   ·have S:decide (i<n)=false:=decide_eq_false hin;have O:=Hd (T.out (fun k hk e=>by have:=f.out k (by omega);omega));go_wp2_with fail;go_ret2;exact⟨i,Zms O.out,by have:=l.out;omega,f.out,fun k z h2=>g.out k (by omega) h2,rfl⟩
theorem My (d:NodeD)(c:Array Value)(w:World)(h:NodeC w d c)(hk:NodeOk d)(b:Bm d=true)(r:Bool)(a:Ao d=r):
  Calls Tryz.prog 108 #[.agg c] w fun e w'=>Below w.heap.size w w'∧∃v,e=.returned (.tuple #[v,.int .u8 (if r=true then 0 else 3)])∧Own w' w.heap.size 5 v (bvs (if r=true then Bc d else [])):=by
 subst a;cases a:Ao d with
 |true=>
  have:=Sw d c w h hk b a;unfold Eu at this;rw[a]at this;exact this
 |false=>
  have:=Ox d c w h b a;unfold Eu at this;rw[a]at this;exact this
def Eb (x:Nat):Nat:=if x%2=1 then 1 else 2
def Be (t:List NodeD):Bool:=(List.range t.length).all fun x=>decide ((nd t x).kind≠Eb x)&&Ao (nd t x)
theorem Fk (t:List NodeD):Be t=true↔∀x,x<t.length→(nd t x).kind≠Eb x∧Ao (nd t x)=true:=by
 unfold Be;rw[List.all_eq_true];constructor
 ·intro h x hx;have:=h x (List.mem_range.2 hx);rw[cL,decide_eq_true_iff]at this;exact this
 ·intro h x hx;rw[cL,decide_eq_true_iff];exact h x (List.mem_range.1 hx)
theorem Pa {t:List NodeD} {x:Nat}(hx:x<t.length)(h:(nd t x).kind=Eb x∨Ao (nd t x)=false):Be t=false:=by
 cases hp:Be t with
 |false=>rfl
 |true=>
  have:=(Fk t).1 hp x hx;rcases h with h|h
  ·exact absurd h this.1
  ·rw[this.2]at h;cases h
theorem Gn {x:Nat}(h:x%2=1):Eb x=1:=by unfold Eb;rw[if_pos h]
theorem Ef {x:Nat}(h:x%2=0):Eb x=2:=by unfold Eb;rw[if_neg (by omega)]
theorem Zaw (v:Value)(t:List NodeD)(w:World)(h:TreeR w v t)(hs:Zcv t=true)(aA:TreeOk t):
  Calls Tryz.prog 226 #[v] w fun e w'=>e=.returned (.bool (Be t))∧Below w.heap.size w w':=by
 obtain⟨a,c,rfl,hc,aY⟩:=h.sl;have NB:=fun(i:Nat) (cs:Array Value) (W:World) (r:Bool) (hr:Ao (nd t i)=r) (hw:NodeC W (nd t i) cs)=>My (nd t i) cs W hw (aA.nd i) (Zcw hs i) r hr;have GN:=fun(W:World) (hw:Below w.heap.size w W) (i:Nat) (hi:i<t.length)=>(h.below hw lR).node hi;have S1:=fun(h:∀i,i<t.length→(nd t i).kind≠Eb i∧Ao (nd t i)=true)=>(Fk t).2 h;have S2:=fun(i:Nat) (hi:i<t.length) (h:(nd t i).kind=Eb i∨Ao (nd t i)=false)=>Pa hi h;have K:=fun(i:Nat)=>(aA.nd i).kind;obtain⟨n,hn⟩:=eX t.length;rw[←hn]at GN S1 S2 hc⊢;obtain⟨R,hR⟩:=eX (Be t);rw[←hR]at S1 S2⊢;have X:=Hd NB;have aV:=Hd GN;have aS:=Hd S1;have T:=Hd S2;have HK:=Hd K;clear NB GN S1 S2 K h hn hR hs aA;go_enter Tryz.func226,Tryz.ntmps226;go_wp2_with fail
 go_loopg [10] n (fun q iv wr=>∃r:Nat,r+q=n∧iv=.int .i64 (r:Nat)∧(∀i,i<r→(nd t i).kind≠Eb i∧Ao (nd t i)=true)∧Below w.heap.size w wr)
 case atStart=>exact⟨0,by omega,rfl,fun i hi=>by omega,bR⟩
 case round=>
  obtain⟨r,hr,rfl,aI,hb⟩:=hrel;have HR:=Hd hr;have HM:=Hd aI;have HB:=Hd hb;clear hr aI hb
  by_cases hlt:r<n
  ·have aF:decide (r<n)=true:=decide_eq_true hlt;obtain⟨b,u,cs,rfl,aZ,Z,aH⟩:=aV.out wr HB.out r hlt;obtain⟨D,hD⟩:=eX (nd t r);have aP:=HK.out r;have aE:=Hd Z;rw[←hD]at Z aP;obtain⟨A,c1,S,c2,N,c3,G,c4,Q,c5,J,I,B,e2,C,e3,U,h1,h2,h3,h4,h5,h6,h7,h8⟩:=Z;obtain⟨j,x⟩:∃k,k=D.kind:=⟨_,rfl⟩;rw[←x]at U aP;have V:=Hd (show j=(nd t r).kind by rw[x,hD]);have p:=Hd aH;have aR:=Hd U;have aX:=HB.out.size;obtain⟨H,aG⟩:=eX D.leaf.box.length;obtain⟨L,aQ⟩:=eX D.leaf.sign.length;obtain⟨O,aN⟩:=eX D.leaf.ident.length;obtain⟨E,aD⟩:=eX D.leaf.par.length;obtain⟨M,aL⟩:=eX D.leaf.sig.length;obtain⟨z,aK⟩:=eX D.par.box.length;obtain⟨F,aJ⟩:=eX D.par.hash.length;obtain⟨P,aO⟩:=eX D.par.late.length;obtain⟨s,Y⟩:=eX D.leaf.source;rw[←aG,←aQ,←aN,←aD,←aL,←aK,←aJ,←aO,←Y]at U;subst U;clear h1 h2 h3 h4 h5 h6 h7 h8 aH aR aG aQ aN aD aL aK aJ aO Y x hD;obtain⟨m,hm⟩:=eX (r%2);have aW:(r:Int)%2=(m:Int):=(by omega);have a0:dN (r:Int) 2=(m:Int):=(by rw[dO (by omega)];omega);have aT:m=0∨m=1:=(by omega);have aM:=Hd hm;clear hm;rcases aT with rfl|rfl
   ·have y:=Hd (Ef aM.out.symm);have g:=Hd (HB.out.alloc HB.out.size (.cells #[.int .u8 (j:Nat),.slice A H c1,.slice S L c2,.slice N O c3,.int .u8 (s:Nat),.slice G E c4,.slice Q M c5,.slice J z I,.slice B F e2,.slice C P e3] 52))
    by_cases hk:j=2
    ·have hq:((j:Int)==2)=true:=(by rw[beq_iff_eq];omega);have HF:=Hd (T.out r hlt (.inl (by rw[←V.out,y.out,hk])));clear hk;go_wp2_with (refine wpList_load_mid rfl 52 (.tmp 13) rfl b (u+r*10) rfl [.int .u8 (j:Nat),.slice A H c1,.slice S L c2,.slice N O c3,.int .u8 (s:Nat),.slice G E c4,.slice Q M c5,.slice J z I,.slice B F e2,.slice C P e3] _ p.out Tryz.underlying52 rfl Ak ?_);go_ret;exact⟨Dh HF.out,g.out⟩
    ·have hq:((j:Int)==2)=false:=(by rw[beq_eq_false_iff_ne];omega);have aU:(j:Int)≠2:=(by omega);have aC:=Hd (show(nd t r).kind≠Eb r by rw[←V.out,y.out];exact hk);have l:=Hd (aE.out.below ((Below.refl wr.heap.size wr).alloc lR (.cells #[.int .u8 (j:Nat),.slice A H c1,.slice S L c2,.slice N O c3,.int .u8 (s:Nat),.slice G E c4,.slice Q M c5,.slice J z I,.slice B F e2,.slice C P e3] 52)) lR);cases hrb:Ao (nd t r)with
     |true=>
      have aB:=Hd hrb;have N1:=Hd (X.out r _ _ true hrb l.out);clear hrb hk;go_wp2_with (refine wpList_load_mid rfl 52 (.tmp 13) rfl b (u+r*10) rfl [.int .u8 (j:Nat),.slice A H c1,.slice S L c2,.slice N O c3,.int .u8 (s:Nat),.slice G E c4,.slice Q M c5,.slice J z I,.slice B F e2,.slice C P e3] _ p.out Tryz.underlying52 rfl Ak ?_);refine(N1.out).mono ?_;rintro e w2 ⟨f,v,rfl,d⟩;have o:=Hd (g.out.trans (f.mono g.out.size));obtain⟨y1,y2,y3,rfl⟩:=Ey d;clear f d;go_wp2_with fail;go_roundg (gk-1);case measure=>have:=HR.out;omega
      case rel=>
       refine⟨r+1,by have:=HR.out;omega,by go_num,fun i hi=> ?_,o.out⟩
       by_cases e:i=r
       ·rw[e];exact⟨aC.out,aB.out⟩
       ·exact HM.out i (by omega)
     |false=>
      have HF:=Hd (T.out r hlt (.inr hrb));have N1:=Hd (X.out r _ _ false hrb l.out);clear hrb hk;go_wp2_with (refine wpList_load_mid rfl 52 (.tmp 13) rfl b (u+r*10) rfl [.int .u8 (j:Nat),.slice A H c1,.slice S L c2,.slice N O c3,.int .u8 (s:Nat),.slice G E c4,.slice Q M c5,.slice J z I,.slice B F e2,.slice C P e3] _ p.out Tryz.underlying52 rfl Ak ?_);refine(N1.out).mono ?_;rintro e w2 ⟨f,v,rfl,d⟩;have o:=Hd (g.out.trans (f.mono g.out.size));obtain⟨y1,y2,y3,rfl⟩:=Ey d;clear f d;go_wp2_with fail;go_ret;exact⟨Dh HF.out,o.out⟩
   ·have y:=Hd (Gn aM.out.symm);have g:=Hd (HB.out.alloc HB.out.size (.cells #[.int .u8 (j:Nat),.slice A H c1,.slice S L c2,.slice N O c3,.int .u8 (s:Nat),.slice G E c4,.slice Q M c5,.slice J z I,.slice B F e2,.slice C P e3] 52))
    by_cases hk:j=1
    ·have hq:((j:Int)==1)=true:=(by rw[beq_iff_eq];omega);have HF:=Hd (T.out r hlt (.inl (by rw[←V.out,y.out,hk])));clear hk;go_wp2_with (refine wpList_load_mid rfl 52 (.tmp 13) rfl b (u+r*10) rfl [.int .u8 (j:Nat),.slice A H c1,.slice S L c2,.slice N O c3,.int .u8 (s:Nat),.slice G E c4,.slice Q M c5,.slice J z I,.slice B F e2,.slice C P e3] _ p.out Tryz.underlying52 rfl Ak ?_);go_ret;exact⟨Dh HF.out,g.out⟩
    ·have hq:((j:Int)==1)=false:=(by rw[beq_eq_false_iff_ne];omega);have aU:(j:Int)≠1:=(by omega);have aC:=Hd (show(nd t r).kind≠Eb r by rw[←V.out,y.out];exact hk);have l:=Hd (aE.out.below ((Below.refl wr.heap.size wr).alloc lR (.cells #[.int .u8 (j:Nat),.slice A H c1,.slice S L c2,.slice N O c3,.int .u8 (s:Nat),.slice G E c4,.slice Q M c5,.slice J z I,.slice B F e2,.slice C P e3] 52)) lR);cases hrb:Ao (nd t r)with
     |true=>
      have aB:=Hd hrb;have N1:=Hd (X.out r _ _ true hrb l.out);clear hrb hk;go_wp2_with (refine wpList_load_mid rfl 52 (.tmp 13) rfl b (u+r*10) rfl [.int .u8 (j:Nat),.slice A H c1,.slice S L c2,.slice N O c3,.int .u8 (s:Nat),.slice G E c4,.slice Q M c5,.slice J z I,.slice B F e2,.slice C P e3] _ p.out Tryz.underlying52 rfl Ak ?_);refine(N1.out).mono ?_;rintro e w2 ⟨f,v,rfl,d⟩;have o:=Hd (g.out.trans (f.mono g.out.size));obtain⟨y1,y2,y3,rfl⟩:=Ey d;clear f d;go_wp2_with fail;go_roundg (gk-1);case measure=>have:=HR.out;omega
      case rel=>
       refine⟨r+1,by have:=HR.out;omega,by go_num,fun i hi=> ?_,o.out⟩
       by_cases e:i=r
       ·rw[e];exact⟨aC.out,aB.out⟩
       ·exact HM.out i (by omega)
     |false=>
      have HF:=Hd (T.out r hlt (.inr hrb));have N1:=Hd (X.out r _ _ false hrb l.out);clear hrb hk;go_wp2_with (refine wpList_load_mid rfl 52 (.tmp 13) rfl b (u+r*10) rfl [.int .u8 (j:Nat),.slice A H c1,.slice S L c2,.slice N O c3,.int .u8 (s:Nat),.slice G E c4,.slice Q M c5,.slice J z I,.slice B F e2,.slice C P e3] _ p.out Tryz.underlying52 rfl Ak ?_);refine(N1.out).mono ?_;rintro e w2 ⟨f,v,rfl,d⟩;have o:=Hd (g.out.trans (f.mono g.out.size));obtain⟨y1,y2,y3,rfl⟩:=Ey d;clear f d;go_wp2_with fail;go_ret;exact⟨Dh HF.out,o.out⟩
  ·obtain rfl:r=n:=(by have:=HR.out;omega);have aF:decide (r<r)=false:=decide_eq_false hlt;go_wp2_with fail;go_ret;exact⟨Dh (aS.out HM.out),HB.out⟩
end Go.Proofs.YtfofaiommeckbaaGreat
