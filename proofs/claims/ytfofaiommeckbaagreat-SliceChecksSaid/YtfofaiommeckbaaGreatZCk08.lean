import Derived.Test.YtfofaiommeckbaaGreatZCk07
import Derived.Deep.MidRow
import Derived.IntWalk
open Go.Obj renaming cells -> rJ
open Go.Ending renaming returned -> rK
open Go.Value renaming slice -> rC, int -> rD, pointer -> rE
open Go.IntKind renaming i64 -> rF, u8 -> rG
open Option renaming none -> rI
open Go.Proofs.Tryz
open List renaming getD_eq_getElem?_getD -> aS, getElem?_eq_getElem -> bB, getElem_mem -> bC, getElem?_eq_none -> aQ, getElem_of_mem -> dW, any_eq_true -> aR, range -> aN, all_eq_true -> dX, getElem?_toArray -> cR, getElem?_cons_zero -> cS, mem_range -> dY, length_drop -> dZ, mem_map -> eA, mem_filter -> aO
open Bool renaming and_eq_true -> aT, not_eq_true -> cX, true_and -> dL, and_false -> eB, false_and -> dP
open Int renaming toNat_natCast -> cV, tmod -> eC, tmod_eq_emod_of_nonneg -> eD
open Nat renaming pow_succ -> bF, eq_zero_or_pos -> eE, lt_or_ge -> aB, le_refl -> eG, div_add_mod -> bM, mod_mod_of_dvd -> eH, pow_dvd_pow -> eI, mul_comm -> bL, pos_of_ne_zero -> bH, mul_left_comm -> bW, mul_assoc -> bY, mul_add_mod -> eJ, mod_eq_of_lt -> bK
set_option linter.unusedVariables false
set_option maxRecDepth 100000
set_option maxHeartbeats 40000000
namespace Go.Proofs.YtfofaiommeckbaaGreat
open Go.RowKit
theorem Do {a b:Bool}(h:a=b):Ending.returned (.bool b)=rK (.bool a):=by rw[h]
theorem Zm3 {k:IntKind} {a b:Int}(h:a=b):Ending.returned (.int k b)=rK (.int k a):=by rw[h]
def nd (t:List NodeD)(i:Nat):NodeD:=t.getD i Am
def TreeR (w:World)(v:Value)(t:List NodeD):Prop:=
 ∃a cap,v=.slice a t.length cap/\t.length<=cap/\cap<=maxLen/\∀i,i<t.length->∃b off c,a=some ⟨b,off,rI⟩/\b<w.heap.size/\NodeC w (nd t i) c/\w.rangeAt b (off+i*10) c.toList
theorem Aj {w w':World} {B b o:Nat} {cs:List Value}(h:w.rangeAt b o cs)(hb:Below B w w')(hB:b<B):w'.rangeAt b o cs:=by
 intro j u hu;exact(hb.cell (p:=⟨b,o+j,rI⟩) hB).trans (h j u hu)
theorem TreeR.below {w w':World} {B:Nat} {v:Value} {t:List NodeD}(h:TreeR w v t)(d:Below B w w')(g:w.heap.size<=B):TreeR w' v t:=by
 obtain⟨a,cap,e,h1,h2,h3⟩:=h;refine⟨a,cap,e,h1,h2,fun i j=> ?_⟩;obtain⟨b,f,c,e,k,l,m⟩:=h3 i j;exact⟨b,f,c,e,Nat.lt_of_lt_of_le k d.size,l.below d g,Aj m d (by omega)⟩
theorem TreeR.sl {w:World} {v:Value} {t:List NodeD}(h:TreeR w v t):∃a c,v=.slice a t.length c/\t.length<=c/\c<=9223372036854775807:=by
 obtain⟨a,cap,e,h1,h2,_⟩:=h;unfold maxLen at h2;exact⟨a,cap,e,h1,h2⟩
theorem TreeR.node {w:World} {a:Option Addr} {n c:Nat} {t:List NodeD}(h:TreeR w (rC a n c) t) {i:Nat}(d:i<n):∃b off cs,a=some ⟨b,off,rI⟩/\b<w.heap.size/\NodeC w (nd t i) cs/\w.rangeAt b (off+i*10) cs.toList:=by
 obtain⟨f,cap,e,h1,h2,h3⟩:=h;simp only[Value.slice.injEq]at e;obtain⟨rfl,rfl,rfl⟩:=e;exact h3 i d
theorem NodeC.size {w:World} {d:NodeD} {c:Array Value}(h:NodeC w d c):c.size=10:=by
 obtain⟨a1,c1,a2,c2,a3,c3,a4,c4,a5,c5,b1,e1,b2,e2,b3,e3,rfl,_⟩:=h;rfl
theorem NodeC.kind {w:World} {d:NodeD} {c:Array Value}(h:NodeC w d c):c.toList[0]? =some (rD rG (d.kind:Nat)):=by
 obtain⟨a1,c1,a2,c2,a3,c3,a4,c4,a5,c5,b1,e1,b2,e2,b3,e3,rfl,_⟩:=h;rfl
theorem NodeC.late {w:World} {d:NodeD} {c:Array Value}(h:NodeC w d c):∃b e,c.toList[9]? =some (.slice b d.par.late.length e)/\Rd w (.slice b d.par.late.length e) (ivs .i64 d.par.late):=by
 obtain⟨a1,c1,a2,c2,a3,c3,a4,c4,a5,c5,b1,e1,b2,e2,b3,e3,rfl,h1,h2,h3,h4,h5,h6,h7,h8⟩:=h;exact⟨b3,e3,rfl,h8⟩
theorem NodeC.one {w:World} {d:NodeD} {c:Array Value}(h:NodeC w d c):c.all (·.oneCell')=true:=by
 obtain⟨a1,c1,a2,c2,a3,c3,a4,c4,a5,c5,b1,e1,b2,e2,b3,e3,rfl,h1,h2,h3,h4,h5,h6,h7,h8⟩:=h;rw[<-Array.all_toList];rfl
def TreeOk (t:List NodeD):Prop:=∀d∈t,NodeOk d
theorem TreeOk.nd {t:List NodeD}(h:TreeOk t)(i:Nat):NodeOk (nd t i):=by
 unfold Go.Proofs.YtfofaiommeckbaaGreat.nd;rw[aS]
 by_cases hi:i<t.length
 ·rw[bB hi];exact h _ (bC hi)
 ·rw[aQ (by omega)];exact Kf
def El (t:List NodeD):Bool:=decide (t.length<=40)&&t.all exB
theorem Fv {t:List NodeD}(h:El t=true):t.length<=40:=by
 rw[El,aT]at h;exact oD h.1
theorem Zjg:exB Am=true:=by decide
theorem Zcu {t:List NodeD}(h:El t=true)(i:Nat):exB (nd t i)=true:=by
 rw[El,aT]at h;unfold Go.Proofs.YtfofaiommeckbaaGreat.nd;rw[aS]
 by_cases hi:i<t.length
 ·rw[bB hi];exact List.all_eq_true.1 h.2 _ (bC hi)
 ·rw[aQ (by omega)];exact Zjg
theorem Ed {t:List NodeD}(h:El t=true)(i:Nat):Cj (nd t i)=true:=Tm (Zcu h i)
def Zcv (t:List NodeD):Bool:=decide (t.length<=63)&&t.all exB
theorem Rq {t:List NodeD}(h:Zcv t=true):t.length<=63:=by
 rw[Zcv,aT]at h;exact oD h.1
theorem Pv {t:List NodeD}(h:El t=true):Zcv t=true:=by
 rw[El,aT]at h;rw[Zcv,aT];exact⟨dT (by have:=oD h.1;omega),h.2⟩
theorem Wc {t:List NodeD}(h:Zcv t=true)(i:Nat):exB (nd t i)=true:=by
 rw[Zcv,aT]at h;unfold Go.Proofs.YtfofaiommeckbaaGreat.nd;rw[aS]
 by_cases hi:i<t.length
 ·rw[bB hi];exact List.all_eq_true.1 h.2 _ (bC hi)
 ·rw[aQ (by omega)];exact Zjg
theorem Zcw {t:List NodeD}(h:Zcv t=true)(i:Nat):Cj (nd t i)=true:=Tm (Wc h i)
theorem Bc:(prog.info? 52).map (·.size)=some 10:=by kernel_rfl
open WalkM
theorem Cx {w:World} {B:Nat} {e:TypeId} {v:Value} {xs:List Value}(h:Own w B e v xs):∃a n c,v=.slice a n c:=by
 obtain⟨a,c,e,_⟩:=h.rd;exact⟨a,_,c,e⟩
theorem Rd.at3 {w:World} {a:Option Addr} {n cap r:Nat} {xs:List Value} {u:Value}(h:Rd w (rC a n cap) xs)(d:xs[r]? =some u):∃b c,a=some ⟨b,c,rI⟩/\b<w.heap.size/\w.cell? ⟨b,c+r,rI⟩=some u:=by
 rcases h.lt with h0|⟨b,c,cap',e1,e2⟩
 ·subst h0;simp at d
 ·obtain⟨i,k,e,_,_,h3⟩:=h;rcases h3 with⟨h0,_⟩|⟨j,off',f,g⟩
  ·subst h0;simp at d
  ·simp only[Value.slice.injEq]at e e1;obtain⟨rfl,_,_⟩:=e;obtain⟨rfl,_,_⟩:=e1;simp only[Option.some.injEq,Addr.mk.injEq,and_true]at f;obtain⟨rfl,rfl⟩:=f;exact⟨b,c,rfl,e2,g r u d⟩
def Be (n:Nat):Nat:=if n%2=1/\fits ((n+1)/2)=true then(n+1)/2 else 0
theorem Jf {n:Nat}(h:Be n≠0):∃d,d<=16/\Be n=2^d/\n+1=2*2^d:=by
 unfold Be at h|-
 by_cases hc:n%2=1/\fits ((n+1)/2)=true
 ·rw[iP hc]at h|-;obtain⟨d,hd,e⟩:=(fits_iff _).1 hc.2;exact⟨d,hd,e,by rw[<-e];omega⟩
 ·rw[iN hc]at h;exact absurd rfl h
theorem Nv {n d:Nat}(hd:d<=16)(h:n+1=2*2^d):Be n=2^d:=by
 have e:(n+1)/2=2^d:=(by omega);unfold Be;rw[iP ⟨by omega,by rw[e];exact(fits_iff _).2 ⟨d,hd,rfl⟩⟩,e]
theorem Jg (a:Option Addr)(n c:Nat)(w:World)(q:n<=1000000):
  Calls prog 225 #[rC a n c] w fun e w'=>e=rK (rD rF (Be n:Nat))/\w'=w:=by
 obtain⟨m,l⟩:=eX ((n+1)/2);have F:=Jw (m:Int) w (by omega) (by omega);rw[cV]at F;have e1:((n:Int)+1)/2=(m:Int):=(by omega);have e2:Int.tdiv ((n:Int)+1) 2=(m:Int):=(by rw[Int.tdiv_eq_ediv_of_nonneg (by omega)];omega);obtain⟨r,o⟩:=eX (n%2);have e3:(n:Int)%2=(r:Int):=(by omega);have p:eC (n:Int) 2=(r:Int):=(by rw[eD (by omega)];omega);have k:r=0\/r=1:=(by omega);obtain⟨L,j⟩:=eX (Be n);have g:L=if r=1/\fits m=true then m else 0:=(by rw[j,Be,<-l,<-o]);rw[<-j];have h:=Hd F;have i:=Hd g;clear F j g l o;rcases k with rfl|rfl
 ·go_in;go_wp2_with fail;go_ret;exact⟨Zm3 (by rw[i.out,iN (by omega)];rfl),rfl⟩
 ·cases hf:fits m with
  |true=>
   have f:=Hd hf;have b:=h.out;rw[hf]at b;have d:=Hd b;clear hf h b;go_in;go_wp2_with fail;refine(d.out).mono ?_;rintro e w' ⟨rfl,rfl⟩;go_wp2_with fail;go_ret;exact⟨Zm3 (by rw[i.out,iP ⟨by trivial,f.out⟩]),rfl⟩
  |false=>
   have f:=Hd hf;have b:=h.out;rw[hf]at b;have d:=Hd b;clear hf h b;go_in;go_wp2_with fail;refine(d.out).mono ?_;rintro e w' ⟨rfl,rfl⟩;go_wp2_with fail;go_ret;exact⟨Zm3 (by rw[i.out,iN (by rw[f.out];simp)];rfl),rfl⟩
theorem Zm4 {v:Value} {a b:Bool}(h:a=b):Ending.returned (.tuple #[v,.bool b])=rK (.tuple #[v,.bool a]):=by rw[h]
theorem Zg4 (x:Int)(w:World):Calls prog 206 #[rD rF x] w fun e w'=>e=rK (.bool false)/\w'=w:=by
 have h:(x !=x)=false:=(by rw[bne_eq_false_iff_eq]);go_in;go_wp2_with fail;go_ret;exact⟨rfl,rfl⟩
theorem Zg5 (x:Int)(w:World):Calls prog 289 #[rD rF x] w fun e w'=>e=rK (.bool false)/\w'=w:=by
 have h:(x !=x)=false:=(by rw[bne_eq_false_iff_eq]);go_in;go_wp2_with fail;go_ret;exact⟨rfl,rfl⟩
theorem Zcx (x y:Int)(w:World):Calls prog 263 #[rD rF x,rD rF y] w fun e w'=>e=rK (.bool (decide (x<y)))/\w'=w:=by
 obtain⟨b,a⟩:∃b,decide (x<y)=b:=⟨_,rfl⟩;rw[a];go_in;go_wp2_with fail;refine(Zg4 x w).mono ?_;rintro e w' ⟨rfl,rfl⟩;go_wp2_with fail;go_ret;exact⟨rfl,rfl⟩
def Zlw (L:List Int):Prop:=∀i j,i<j->j<L.length->L.getD i 0<L.getD j 0
theorem Wd (v:Value)(L:List Int)(x:Int)(w:World)(h:Rd w v (ivs .i64 L))(I:Zlw L)(hl:L.length<=1000000):
  Calls prog 270 #[v,rD rF x] w fun e w'=>∃p:Nat,e=rK (.tuple #[rD rF (p:Nat),.bool (decide (x∈L))])/\p<=L.length/\(∀k,k<p->L.getD k 0<x)/\(∀k,p<=k->k<L.length->x<=L.getD k 0)/\w'=w:=by
 have hv:∃a c,v=.slice a L.length c:=(by obtain⟨a,c,e,h1,h2,_⟩:=h;exact⟨a,c,by rw[e];simp[ivs]⟩);obtain⟨a,c,rfl⟩:=hv;have G:=fun(i:Nat) (C:i<L.length)=>h.at3 (u:=rD rF (L.getD i 0)) (r:=i) (by simp[ivs,aS,C]);have E:∀i j,i<=j->j<L.length->L.getD i 0<=L.getD j 0:=by
  intro i j D hj
  by_cases e:i=j
  ·rw[e];exact Int.le_refl _
  ·exact Int.le_of_lt (I i j (by omega) hj)
 have T:=fun(i:Nat) (C:i<L.length) (e:L.getD i 0=x)=>(show decide (x∈L)=true from dT (by
  rw[aS,bB C]at e;have:L[i]=x:=e;rw[<-this];exact bC C))
 have U:=fun(Z:∀i,i<L.length->L.getD i 0≠x)=>(show decide (x∈L)=false from dF (fun Q=>by
  obtain⟨i,C,e⟩:=dW Q;exact Z i C (by rw[aS,bB C];exact e)))
 obtain⟨n,Y⟩:=eX L.length;obtain⟨R,hR⟩:=eX (decide (x∈L));rw[<-Y]at G T U E hl;simp only[<-Y];rw[<-hR]at T U|-;have HG:=Hd G;have V:=Hd T;have K:=Hd U;have A:=Hd E;clear G T U h Y hR I E;go_in;go_wp2_with fail
 go_loopg [7,8] n (fun q iv jv wr=>∃i j:Nat,i+q=j/\j<=n/\iv=rD rF (i:Nat)/\jv=rD rF (j:Nat)/\(∀k,k<i->L.getD k 0<x)/\(∀k,j<=k->k<n->x<=L.getD k 0)/\wr=w)
 case atStart=>exact⟨0,n,by omega,lR,rfl,rfl,fun k hk=>by omega,fun k h1 h2=>by omega,rfl⟩
 case round=>
  obtain⟨i,j,D,X,rfl,rfl,O,M,rfl⟩:=hrel;have l:=Hd D;have f:=Hd O;have g:=Hd M;clear D O M
  by_cases hlt:i<j
  ·have P:decide (i<j)=true:=dT hlt;obtain⟨m,Q⟩:=eX ((i+j)/2);obtain⟨s,I⟩:=eX (i+j);have e1:(i:Int)+(j:Int)=(s:Int):=(by omega);have e2:IntKind.u64.wrap (s:Int)=(s:Int):=(by rw[IntKind.wrap_u64];omega);have e3:(s:Int)/2=(m:Int):=(by omega);have e4:IntKind.i64.wrap (m:Int)=(m:Int):=(by rw[IntKind.wrap_i64];omega);have S:m<n:=(by omega);obtain⟨b,aA,rfl,W,d⟩:=HG.out m S;obtain⟨y,t⟩:=eX (L.getD m 0);rw[<-t]at d;have H:=Hd t;have o:=Hd Q;have aB:=Hd I;have F:=Zcx y x wr
   by_cases hyx:y<x
   ·rw[dT hyx]at F;have z:=Hd F;have B:=Hd hyx;clear t Q I F hyx;go_wp2_with fail;refine(z.out).mono ?_;rintro e w' ⟨rfl,rfl⟩;go_wp2_with fail;go_roundg (j-(m+1));case measure=>have:=l.out;have:=o.out;omega
    case rel=>
     refine⟨m+1,j,by have:=o.out;omega,X,by go_num,rfl,fun k hk=> ?_,g.out,rfl⟩;have:=A.out k m (by omega) S;have:=B.out;rw[H.out]at this;omega
   ·rw[dF hyx]at F;have z:=Hd F;have B:=Hd hyx;clear t Q I F hyx;go_wp2_with fail;refine(z.out).mono ?_;rintro e w' ⟨rfl,rfl⟩;go_wp2_with fail;go_roundg (m-i);case measure=>have:=l.out;have:=o.out;omega
    case rel=>
     refine⟨i,m,by have:=o.out;omega,by omega,rfl,rfl,f.out,fun k h1 h2=> ?_,rfl⟩;have:=A.out m k h1 h2;have:=B.out;rw[H.out]at this;omega
  ·have P:decide (i<j)=false:=dF hlt
   by_cases hin:i<n
   ·have N:decide (i<n)=true:=dT hin;obtain⟨b,aA,rfl,W,d⟩:=HG.out i hin;obtain⟨y,t⟩:=eX (L.getD i 0);rw[<-t]at d;have H:=Hd t;clear t
    by_cases he:y=x
    ·have hq:(y==x)=true:=(by rw[beq_iff_eq];exact he);have J:=Hd (V.out i hin (by rw[<-H.out];exact he));clear he;go_wp2_with fail;go_ret2;exact⟨i,Zm4 J.out,by have:=l.out;omega,f.out,fun k h1 h2=>g.out k (by omega) h2,rfl⟩
    ·have hq:(y==x)=false:=(by rw[qN];exact he);have J:=Hd (K.out (fun k hk e=>by
      by_cases h1:k<i
      ·have:=f.out k h1;omega
      ·by_cases h2:k=i
       ·rw[h2]at e;exact he (H.out.trans e)
       ·have h3:=A.out i k (by omega) hk;have h4:=g.out i (by omega) hin;have:=H.out
        omega))
     clear he;have N1:=Hd (Zg5 y wr);go_wp2_with fail;refine(N1.out).mono ?_;rintro e w' ⟨rfl,rfl⟩;go_wp2_with fail;go_ret2;exact⟨i,Zm4 J.out,by have:=l.out;omega,f.out,fun k h1 h2=>g.out k (by omega) h2,rfl⟩
   ·have N:decide (i<n)=false:=dF hin;have J:=Hd (K.out (fun k hk e=>by have:=f.out k (by omega);omega));go_wp2_with fail;go_ret2;exact⟨i,Zm4 J.out,by have:=l.out;omega,f.out,fun k h1 h2=>g.out k (by omega) h2,rfl⟩
def Kg (L:List Int)(x:Int):Bool:=L.any fun u=>Bv (2*u) x
theorem Yj {L:List Int} {p:Int->Bool} {i:Nat}(hi:i<L.length)(h:p (L.getD i 0)=true):L.any p=true:=by
 rw[aR];refine⟨L.getD i 0,?_,h⟩;rw[aS,bB hi];exact bC hi
theorem Zcy {L:List Int} {p:Int->Bool}(h:∀i,i<L.length->p (L.getD i 0)=false):L.any p=false:=by
 rw[List.any_eq_false];intro u hu;obtain⟨i,hi,rfl⟩:=dW hu;have:=h i hi;rw[aS,bB hi]at this;show¬p L[i]=true;have e:p L[i]=false:=this;rw[e];simp
theorem Zg6 (u x:Int)(g:Nat)(w:World)(hx:w.cell? ⟨g,0,rI⟩=some (rD rF x))(d:0<=u/\u<1000000):
  Calls prog 230 #[rD rF u,rE (some ⟨g,0,rI⟩)] w fun e w'=>e=rK (.bool (Bv (2*u) x))/\w'=w:=by
 have a:=Hd (Cs (2*u) x w);obtain⟨b,c⟩:=eX (Bv (2*u) x);rw[<-c]at a|-;clear c;have f:wrap64 (2*u)=2*u:=(by unfold wrap64;omega);go_in;go_wp2_with fail;refine a.out.mono ?_;rintro e w' ⟨rfl,rfl⟩;go_wp2_with fail;go_ret;exact⟨rfl,rfl⟩
theorem Zg7 (v:Value)(L:List Int)(x:Int)(g:Nat)(w:World)(h:Rd w v (ivs .i64 L))(hx:w.cell? ⟨g,0,rI⟩=some (rD rF x))(Q:∀u∈L,0<=u/\u<1000000)(Z:L.length<=1000000):
  Calls prog 256 #[v,.func (.func 230) #[] #[rE (some ⟨g,0,rI⟩)]] w fun e w'=>w'=w/\∃r:Int,e=rK (rD rF r)/\decide (r>=0)=L.any (fun u=>(Bv (2*u) x)):=by
 obtain⟨a,G,rfl⟩:∃a G,v=.slice a L.length G:=(by obtain⟨a,G,e,_⟩:=h;rw[show(ivs .i64 L).length=L.length by simp[ivs]]at e;exact⟨a,G,e⟩);have D:=fun(r:Nat) (l:r<L.length)=>h.at3 (u:=rD rF (L.getD r 0)) (r:=r) (by simp[ivs,aS,l]);have n:=fun(r:Nat) (l:r<L.length)=>Zg6 (L.getD r 0) x g w hx (Q _ (by rw[aS,bB l];exact bC l));have c:=fun(i:Nat) (M:i<L.length) (h:(fun u=>(Bv (2*u) x)) (L.getD i 0)=true)=>Yj (p:=fun u=>(Bv (2*u) x)) M h;have m:=fun(h:∀i,i<L.length->(fun u=>(Bv (2*u) x)) (L.getD i 0)=false)=>Zcy (p:=fun u=>(Bv (2*u) x)) h;obtain⟨U,T⟩:∃U:Nat->Int,U=fun r=>L.getD r 0:=⟨_,rfl⟩;have z:∀r,L.getD r 0=U r:=fun r=>(by rw[T]);simp only[z]at D n c m;obtain⟨F,y⟩:∃f:Int->Bool,f=fun u=>(Bv (2*u) x):=⟨_,rfl⟩;have d:∀u:Int,(Bv (2*u) x)=F u:=fun u=>(by rw[y]);obtain⟨R,S⟩:=eX (L.any (fun u=>(Bv (2*u) x)));rw[<-S]at c m|-;simp only[d]at n c m;obtain⟨k,A⟩:=eX L.length;rw[<-A]at D n Z c m|-;have H:=Hd D;have I:=Hd n;have t:=Hd c;have J:=Hd m;clear D n c m A h hx T z Q y d S;go_in;go_wp2_with fail
 go_loopg [8] k (fun q iv wr=>∃r:Nat,r+q=k/\iv=rD rF (r:Nat)/\(∀i,i<r->F (U i)=false)/\wr=w)
 case atStart=>exact⟨0,by omega,rfl,fun i M=>by omega,rfl⟩
 case round=>
  obtain⟨r,l,rfl,C,rfl⟩:=hrel;have K:=Hd l;have O:=Hd C;clear l C
  by_cases hlt:r<k
  ·have B:decide (r<k)=true:=dT hlt;obtain⟨b,aA,rfl,Y,X⟩:=H.out r hlt;have E:=I.out r hlt;obtain⟨u,N⟩:=eX (U r);rw[<-N]at X E;obtain⟨P,j⟩:=eX (F u);rw[<-j]at E;have o:=Hd E;have s:=Hd (show F (U r)=P by rw[j,N]);clear E j N;cases P with
   |true=>
    have W:=Hd (t.out r hlt s.out);go_wp2_with fail;refine(o.out).mono ?_;rintro e w2 ⟨rfl,rfl⟩;go_wp2_with fail;go_ret;exact⟨rfl,_,rfl,by rw[W.out];simp⟩
   |false=>
    go_wp2_with fail;refine(o.out).mono ?_;rintro e w2 ⟨rfl,rfl⟩;go_wp2_with fail;go_roundg (gk-1);case measure=>have:=K.out;omega
    case rel=>
     refine⟨r+1,by have:=K.out;omega,by go_num,fun i M=> ?_,rfl⟩
     by_cases e:i=r
     ·rw[e];exact s.out
     ·exact O.out i (by omega)
  ·obtain rfl:r=k:=(by have:=K.out;omega);have B:decide (r<r)=false:=dF hlt;have V:=Hd (J.out O.out);go_wp2_with fail;go_ret;exact⟨rfl,_,rfl,by rw[V.out];simp⟩
theorem Zg8 (v:Value)(L:List Int)(x:Int)(g:Nat)(w:World)(h:Rd w v (ivs .i64 L))(hx:w.cell? ⟨g,0,rI⟩=some (rD rF x))(i:∀u∈L,0<=u/\u<1000000)(l:L.length<=1000000):
  Calls prog 220 #[v,.func (.func 230) #[] #[rE (some ⟨g,0,rI⟩)]] w fun e w'=>e=rK (.bool (L.any fun u=>(Bv (2*u) x)))/\w'=w:=by
 have f:=Hd (Zg7 v L x g w h hx i l);obtain⟨R,j⟩:=eX (L.any (fun u=>(Bv (2*u) x)));rw[<-j]at f|-;obtain⟨a,n,d,rfl⟩:∃a n d,v=.slice a n d:=(by obtain⟨a,d,e,_⟩:=h;exact⟨_,_,_,e⟩);clear h hx i j;go_in;go_wp2_with fail;refine f.out.mono ?_;rintro e w' ⟨rfl,r,rfl,b⟩
 by_cases hp:0<=r
 ·have k:decide (0<=r)=true:=dT hp;have c:=Hd b;clear b;go_wp2_with fail;go_ret;exact⟨by rw[<-c.out];simpa using hp,rfl⟩
 ·have k:decide (0<=r)=false:=dF hp;have c:=Hd b;clear b;go_wp2_with fail;go_ret;exact⟨by rw[<-c.out];simpa using hp,rfl⟩
theorem Zcz (u x:Int)(g:Nat)(w:World)(hx:w.cell? ⟨g,0,rI⟩=some (rD rF x))(d:0<=u/\u<1000000):
  Calls prog 221 #[rD rF u,rE (some ⟨g,0,rI⟩)] w fun e w'=>e=rK (.bool (!Bv (2*u) x))/\w'=w:=by
 have a:=Hd (Cs (2*u) x w);obtain⟨b,c⟩:=eX (Bv (2*u) x);rw[<-c]at a|-;clear c;have f:wrap64 (2*u)=2*u:=(by unfold wrap64;omega);go_in;go_wp2_with fail;refine a.out.mono ?_;rintro e w' ⟨rfl,rfl⟩;go_wp2_with fail;go_ret;exact⟨rfl,rfl⟩
theorem Zc0 (v:Value)(L:List Int)(x:Int)(g:Nat)(w:World)(h:Rd w v (ivs .i64 L))(hx:w.cell? ⟨g,0,rI⟩=some (rD rF x))(Q:∀u∈L,0<=u/\u<1000000)(Z:L.length<=1000000):
  Calls prog 256 #[v,.func (.func 221) #[] #[rE (some ⟨g,0,rI⟩)]] w fun e w'=>w'=w/\∃r:Int,e=rK (rD rF r)/\decide (r>=0)=L.any (fun u=>(!Bv (2*u) x)):=by
 obtain⟨a,G,rfl⟩:∃a G,v=.slice a L.length G:=(by obtain⟨a,G,e,_⟩:=h;rw[show(ivs .i64 L).length=L.length by simp[ivs]]at e;exact⟨a,G,e⟩);have D:=fun(r:Nat) (l:r<L.length)=>h.at3 (u:=rD rF (L.getD r 0)) (r:=r) (by simp[ivs,aS,l]);have n:=fun(r:Nat) (l:r<L.length)=>Zcz (L.getD r 0) x g w hx (Q _ (by rw[aS,bB l];exact bC l));have c:=fun(i:Nat) (M:i<L.length) (h:(fun u=>(!Bv (2*u) x)) (L.getD i 0)=true)=>Yj (p:=fun u=>(!Bv (2*u) x)) M h;have m:=fun(h:∀i,i<L.length->(fun u=>(!Bv (2*u) x)) (L.getD i 0)=false)=>Zcy (p:=fun u=>(!Bv (2*u) x)) h;obtain⟨U,T⟩:∃U:Nat->Int,U=fun r=>L.getD r 0:=⟨_,rfl⟩;have z:∀r,L.getD r 0=U r:=fun r=>(by rw[T]);simp only[z]at D n c m;obtain⟨F,y⟩:∃f:Int->Bool,f=fun u=>(!Bv (2*u) x):=⟨_,rfl⟩;have d:∀u:Int,(!Bv (2*u) x)=F u:=fun u=>(by rw[y]);obtain⟨R,S⟩:=eX (L.any (fun u=>(!Bv (2*u) x)));rw[<-S]at c m|-;simp only[d]at n c m;obtain⟨k,A⟩:=eX L.length;rw[<-A]at D n Z c m|-;have H:=Hd D;have I:=Hd n;have t:=Hd c;have J:=Hd m;clear D n c m A h hx T z Q y d S;go_in;go_wp2_with fail
 go_loopg [8] k (fun q iv wr=>∃r:Nat,r+q=k/\iv=rD rF (r:Nat)/\(∀i,i<r->F (U i)=false)/\wr=w)
 case atStart=>exact⟨0,by omega,rfl,fun i M=>by omega,rfl⟩
 case round=>
  obtain⟨r,l,rfl,C,rfl⟩:=hrel;have K:=Hd l;have O:=Hd C;clear l C
  by_cases hlt:r<k
  ·have B:decide (r<k)=true:=dT hlt;obtain⟨b,aA,rfl,Y,X⟩:=H.out r hlt;have E:=I.out r hlt;obtain⟨u,N⟩:=eX (U r);rw[<-N]at X E;obtain⟨P,j⟩:=eX (F u);rw[<-j]at E;have o:=Hd E;have s:=Hd (show F (U r)=P by rw[j,N]);clear E j N;cases P with
   |true=>
    have W:=Hd (t.out r hlt s.out);go_wp2_with fail;refine(o.out).mono ?_;rintro e w2 ⟨rfl,rfl⟩;go_wp2_with fail;go_ret;exact⟨rfl,_,rfl,by rw[W.out];simp⟩
   |false=>
    go_wp2_with fail;refine(o.out).mono ?_;rintro e w2 ⟨rfl,rfl⟩;go_wp2_with fail;go_roundg (gk-1);case measure=>have:=K.out;omega
    case rel=>
     refine⟨r+1,by have:=K.out;omega,by go_num,fun i M=> ?_,rfl⟩
     by_cases e:i=r
     ·rw[e];exact s.out
     ·exact O.out i (by omega)
  ·obtain rfl:r=k:=(by have:=K.out;omega);have B:decide (r<r)=false:=dF hlt;have V:=Hd (J.out O.out);go_wp2_with fail;go_ret;exact⟨rfl,_,rfl,by rw[V.out];simp⟩
theorem Zc1 (v:Value)(L:List Int)(x:Int)(g:Nat)(w:World)(h:Rd w v (ivs .i64 L))(hx:w.cell? ⟨g,0,rI⟩=some (rD rF x))(i:∀u∈L,0<=u/\u<1000000)(l:L.length<=1000000):
  Calls prog 220 #[v,.func (.func 221) #[] #[rE (some ⟨g,0,rI⟩)]] w fun e w'=>e=rK (.bool (L.any fun u=>(!Bv (2*u) x)))/\w'=w:=by
 have f:=Hd (Zc0 v L x g w h hx i l);obtain⟨R,j⟩:=eX (L.any (fun u=>(!Bv (2*u) x)));rw[<-j]at f|-;obtain⟨a,n,d,rfl⟩:∃a n d,v=.slice a n d:=(by obtain⟨a,d,e,_⟩:=h;exact⟨_,_,_,e⟩);clear h hx i j;go_in;go_wp2_with fail;refine f.out.mono ?_;rintro e w' ⟨rfl,r,rfl,b⟩
 by_cases hp:0<=r
 ·have k:decide (0<=r)=true:=dT hp;have c:=Hd b;clear b;go_wp2_with fail;go_ret;exact⟨by rw[<-c.out];simpa using hp,rfl⟩
 ·have k:decide (0<=r)=false:=dF hp;have c:=Hd b;clear b;go_wp2_with fail;go_ret;exact⟨by rw[<-c.out];simpa using hp,rfl⟩
theorem Gr (v:Value)(L:List Int)(x:Int)(w:World)(h:Rd w v (ivs .i64 L))(g:∀u∈L,0<=u/\u<1000000)(j:L.length<=1000000):
  Calls prog 193 #[v,rD rF x] w fun e w'=>e=rK (.bool (Kg L x))/\Below w.heap.size w w':=by
 have d:=(Below.refl w.heap.size w).alloc lR (rJ #[rD rF x] 3);have f:=Hd (Zg8 v L x w.heap.size (w.alloc (rJ #[rD rF x] 3)) (h.below d lR) (Aq rfl) g j);have i:=Hd d;obtain⟨R,b⟩:=eX (Kg L x);unfold Kg at b;rw[<-b]at f;show Calls prog 193 #[v,rD rF x] w fun e w'=>e=rK (.bool (Kg L x))/\Below w.heap.size w w';unfold Kg;rw[<-b];obtain⟨a,n,c,rfl⟩:∃a n c,v=.slice a n c:=(by obtain⟨a,c,e,_⟩:=h;exact⟨_,_,_,e⟩);clear h g b d;go_in;go_wp2_with fail;refine f.out.mono ?_;rintro e w' ⟨rfl,rfl⟩;go_wp2_with fail;go_ret;exact⟨rfl,i.out⟩
theorem Nw (d:NodeD)(c:Array Value)(w:World)(h:NodeC w d c)(hk:NodeOk d)(b:Cj d=true)(r:Bool)(a:At d=r):
  Calls prog 108 #[.agg c] w fun e w'=>Below w.heap.size w w'/\∃v,e=rK (.tuple #[v,rD rG (if r=true then 0 else 3)])/\Own w' w.heap.size 5 v (bvs (if r=true then Bz d else [])):=by
 subst a;cases a:At d with
 |true=>
  have:=Tp d c w h hk b a;unfold Et at this;rw[a]at this;exact this
 |false=>
  have:=Pt d c w h b a;unfold Et at this;rw[a]at this;exact this
def Fw (x:Nat):Nat:=if x%2=1 then 1 else 2
def Ci (t:List NodeD):Bool:=(aN t.length).all fun x=>decide ((nd t x).kind≠Fw x)&&At (nd t x)
theorem Jh (t:List NodeD):Ci t=true↔∀x,x<t.length->(nd t x).kind≠Fw x/\At (nd t x)=true:=by
 unfold Ci;rw[dX];constructor
 ·intro h x hx;have:=h x (List.mem_range.2 hx);rw[aT,dI]at this;exact this
 ·intro h x hx;rw[aT,dI];exact h x (List.mem_range.1 hx)
theorem Zay {t:List NodeD} {x:Nat}(hx:x<t.length)(h:(nd t x).kind=Fw x\/At (nd t x)=false):Ci t=false:=by
 cases hp:Ci t with
 |false=>rfl
 |true=>
  have:=(Jh t).1 hp x hx;rcases h with h|h
  ·exact absurd h this.1
  ·rw[this.2]at h;cases h
theorem Lf {x:Nat}(h:x%2=1):Fw x=1:=by unfold Fw;rw[iP h]
theorem Ji {x:Nat}(h:x%2=0):Fw x=2:=by unfold Fw;rw[iN (by omega)]
theorem Zaz (v:Value)(t:List NodeD)(w:World)(h:TreeR w v t)(hs:Zcv t=true)(aC:TreeOk t):
  Calls prog 226 #[v] w fun e w'=>e=rK (.bool (Ci t))/\Below w.heap.size w w':=by
 obtain⟨a,c,rfl,hc,aZ⟩:=h.sl;have NB:=fun(i:Nat) (cs:Array Value) (W:World) (r:Bool) (hr:At (nd t i)=r) (hw:NodeC W (nd t i) cs)=>Nw (nd t i) cs W hw (aC.nd i) (Zcw hs i) r hr;have GN:=fun(W:World) (hw:Below w.heap.size w W) (i:Nat) (hi:i<t.length)=>(h.below hw lR).node hi;have S1:=fun(h:∀i,i<t.length->(nd t i).kind≠Fw i/\At (nd t i)=true)=>(Jh t).2 h;have S2:=fun(i:Nat) (hi:i<t.length) (h:(nd t i).kind=Fw i\/At (nd t i)=false)=>Zay hi h;have K:=fun(i:Nat)=>(aC.nd i).kind;obtain⟨n,hn⟩:=eX t.length;rw[<-hn]at GN S1 S2 hc|-;obtain⟨R,hR⟩:=eX (Ci t);rw[<-hR]at S1 S2|-;have S:=Hd NB;have aS:=Hd GN;have aT:=Hd S1;have T:=Hd S2;have HK:=Hd K;clear NB GN S1 S2 K h hn hR hs aC;go_in;go_wp2_with fail
 go_loopg [10] n (fun q iv wr=>∃r:Nat,r+q=n/\iv=rD rF (r:Nat)/\(∀i,i<r->(nd t i).kind≠Fw i/\At (nd t i)=true)/\Below w.heap.size w wr)
 case atStart=>exact⟨0,by omega,rfl,fun i hi=>by omega,bR⟩
 case round=>
  obtain⟨r,hr,rfl,aQ,hb⟩:=hrel;have HR:=Hd hr;have HM:=Hd aQ;have X:=Hd hb;clear hr aQ hb
  by_cases hlt:r<n
  ·have aO:decide (r<n)=true:=dT hlt;obtain⟨b,u,cs,rfl,aY,aB,aP⟩:=aS.out wr X.out r hlt;obtain⟨D,hD⟩:=eX (nd t r);have aF:=HK.out r;have aE:=Hd aB;rw[<-hD]at aB aF;obtain⟨z,c1,A,c2,B,c3,C,c4,E,c5,b1,e1,F,e2,G,e3,U,h1,h2,h3,h4,h5,h6,h7,h8⟩:=aB;obtain⟨j,y⟩:∃k,k=D.kind:=⟨_,rfl⟩;rw[<-y]at U aF;have Q:=Hd (show j=(nd t r).kind by rw[y,hD]);have p:=Hd aP;have aR:=Hd U;have a0:=X.out.size;obtain⟨H,aG⟩:=eX D.leaf.box.length;obtain⟨I,aH⟩:=eX D.leaf.sign.length;obtain⟨J,aI⟩:=eX D.leaf.ident.length;obtain⟨L,aJ⟩:=eX D.leaf.par.length;obtain⟨M,aK⟩:=eX D.leaf.sig.length;obtain⟨N,aL⟩:=eX D.par.box.length;obtain⟨O,aM⟩:=eX D.par.hash.length;obtain⟨P,aN⟩:=eX D.par.late.length;obtain⟨s,V⟩:=eX D.leaf.source;rw[<-aG,<-aH,<-aI,<-aJ,<-aK,<-aL,<-aM,<-aN,<-V]at U;subst U;clear h1 h2 h3 h4 h5 h6 h7 h8 aP aR aG aH aI aJ aK aL aM aN V y hD;obtain⟨m,hm⟩:=eX (r%2);have aW:(r:Int)%2=(m:Int):=(by omega);have aX:eC (r:Int) 2=(m:Int):=(by rw[eD (by omega)];omega);have aU:m=0\/m=1:=(by omega);have aD:=Hd hm;clear hm;rcases aU with rfl|rfl
   ·have x:=Hd (Ji aD.out.symm);have f:=Hd (X.out.alloc X.out.size (rJ #[rD rG (j:Nat),rC z H c1,rC A I c2,rC B J c3,rD rG (s:Nat),rC C L c4,rC E M c5,rC b1 N e1,rC F O e2,rC G P e3] 52))
    by_cases hk:j=2
    ·have hq:((j:Int)==2)=true:=(by rw[beq_iff_eq];omega);have Y:=Hd (T.out r hlt (.inl (by rw[<-Q.out,x.out,hk])));clear hk;go_wp2_with (refine wpList_load_mid rfl 52 (.tmp 13) rfl b (u+r*10) rfl [rD rG (j:Nat),rC z H c1,rC A I c2,rC B J c3,rD rG (s:Nat),rC C L c4,rC E M c5,rC b1 N e1,rC F O e2,rC G P e3] _ p.out underlying52 rfl Bc ?_);go_ret;exact⟨Do Y.out,f.out⟩
    ·have hq:((j:Int)==2)=false:=(by rw[qN];omega);have aV:(j:Int)≠2:=(by omega);have Z:=Hd (show(nd t r).kind≠Fw r by rw[<-Q.out,x.out];exact hk);have l:=Hd (aE.out.below ((Below.refl wr.heap.size wr).alloc lR (rJ #[rD rG (j:Nat),rC z H c1,rC A I c2,rC B J c3,rD rG (s:Nat),rC C L c4,rC E M c5,rC b1 N e1,rC F O e2,rC G P e3] 52)) lR);cases hrb:At (nd t r)with
     |true=>
      have aA:=Hd hrb;have N1:=Hd (S.out r _ _ true hrb l.out);clear hrb hk;go_wp2_with (refine wpList_load_mid rfl 52 (.tmp 13) rfl b (u+r*10) rfl [rD rG (j:Nat),rC z H c1,rC A I c2,rC B J c3,rD rG (s:Nat),rC C L c4,rC E M c5,rC b1 N e1,rC F O e2,rC G P e3] _ p.out underlying52 rfl Bc ?_);refine(N1.out).mono ?_;rintro e w2 ⟨g,v,rfl,d⟩;have o:=Hd (f.out.trans (g.mono f.out.size));obtain⟨y1,y2,y3,rfl⟩:=Cx d;clear g d;go_wp2_with fail;go_roundg (gk-1);case measure=>have:=HR.out;omega
      case rel=>
       refine⟨r+1,by have:=HR.out;omega,by go_num,fun i hi=> ?_,o.out⟩
       by_cases e:i=r
       ·rw[e];exact⟨Z.out,aA.out⟩
       ·exact HM.out i (by omega)
     |false=>
      have Y:=Hd (T.out r hlt (.inr hrb));have N1:=Hd (S.out r _ _ false hrb l.out);clear hrb hk;go_wp2_with (refine wpList_load_mid rfl 52 (.tmp 13) rfl b (u+r*10) rfl [rD rG (j:Nat),rC z H c1,rC A I c2,rC B J c3,rD rG (s:Nat),rC C L c4,rC E M c5,rC b1 N e1,rC F O e2,rC G P e3] _ p.out underlying52 rfl Bc ?_);refine(N1.out).mono ?_;rintro e w2 ⟨g,v,rfl,d⟩;have o:=Hd (f.out.trans (g.mono f.out.size));obtain⟨y1,y2,y3,rfl⟩:=Cx d;clear g d;go_wp2_with fail;go_ret;exact⟨Do Y.out,o.out⟩
   ·have x:=Hd (Lf aD.out.symm);have f:=Hd (X.out.alloc X.out.size (rJ #[rD rG (j:Nat),rC z H c1,rC A I c2,rC B J c3,rD rG (s:Nat),rC C L c4,rC E M c5,rC b1 N e1,rC F O e2,rC G P e3] 52))
    by_cases hk:j=1
    ·have hq:((j:Int)==1)=true:=(by rw[beq_iff_eq];omega);have Y:=Hd (T.out r hlt (.inl (by rw[<-Q.out,x.out,hk])));clear hk;go_wp2_with (refine wpList_load_mid rfl 52 (.tmp 13) rfl b (u+r*10) rfl [rD rG (j:Nat),rC z H c1,rC A I c2,rC B J c3,rD rG (s:Nat),rC C L c4,rC E M c5,rC b1 N e1,rC F O e2,rC G P e3] _ p.out underlying52 rfl Bc ?_);go_ret;exact⟨Do Y.out,f.out⟩
    ·have hq:((j:Int)==1)=false:=(by rw[qN];omega);have aV:(j:Int)≠1:=(by omega);have Z:=Hd (show(nd t r).kind≠Fw r by rw[<-Q.out,x.out];exact hk);have l:=Hd (aE.out.below ((Below.refl wr.heap.size wr).alloc lR (rJ #[rD rG (j:Nat),rC z H c1,rC A I c2,rC B J c3,rD rG (s:Nat),rC C L c4,rC E M c5,rC b1 N e1,rC F O e2,rC G P e3] 52)) lR);cases hrb:At (nd t r)with
     |true=>
      have aA:=Hd hrb;have N1:=Hd (S.out r _ _ true hrb l.out);clear hrb hk;go_wp2_with (refine wpList_load_mid rfl 52 (.tmp 13) rfl b (u+r*10) rfl [rD rG (j:Nat),rC z H c1,rC A I c2,rC B J c3,rD rG (s:Nat),rC C L c4,rC E M c5,rC b1 N e1,rC F O e2,rC G P e3] _ p.out underlying52 rfl Bc ?_);refine(N1.out).mono ?_;rintro e w2 ⟨g,v,rfl,d⟩;have o:=Hd (f.out.trans (g.mono f.out.size));obtain⟨y1,y2,y3,rfl⟩:=Cx d;clear g d;go_wp2_with fail;go_roundg (gk-1);case measure=>have:=HR.out;omega
      case rel=>
       refine⟨r+1,by have:=HR.out;omega,by go_num,fun i hi=> ?_,o.out⟩
       by_cases e:i=r
       ·rw[e];exact⟨Z.out,aA.out⟩
       ·exact HM.out i (by omega)
     |false=>
      have Y:=Hd (T.out r hlt (.inr hrb));have N1:=Hd (S.out r _ _ false hrb l.out);clear hrb hk;go_wp2_with (refine wpList_load_mid rfl 52 (.tmp 13) rfl b (u+r*10) rfl [rD rG (j:Nat),rC z H c1,rC A I c2,rC B J c3,rD rG (s:Nat),rC C L c4,rC E M c5,rC b1 N e1,rC F O e2,rC G P e3] _ p.out underlying52 rfl Bc ?_);refine(N1.out).mono ?_;rintro e w2 ⟨g,v,rfl,d⟩;have o:=Hd (f.out.trans (g.mono f.out.size));obtain⟨y1,y2,y3,rfl⟩:=Cx d;clear g d;go_wp2_with fail;go_ret;exact⟨Do Y.out,o.out⟩
  ·obtain rfl:r=n:=(by have:=HR.out;omega);have aO:decide (r<r)=false:=dF hlt;go_wp2_with fail;go_ret;exact⟨Do (aT.out HM.out),X.out⟩
theorem Zkc {x:Nat}(hx:x<=131070)(h:0<lev x):((plo x (lev x):Int)+x-1)/2=Dt x/\((x:Int)+1+phi x (lev x))/2=Cb x/\plo x (lev x)<phi x (lev x):=by
 have c:=Gn hx;have a:=anc_self (lev_is hx);rw[anc_plo]at a;obtain⟨k,hk⟩:∃k,lev x=k+1:=⟨lev x-1,by omega⟩;have b:Dw x=((2^k:Nat):Int):=by
  rw[Dw,c,iP (by omega),hk];simp
 have d:=pow_pos' k;unfold Dt Cb phi;rw[b,iN (by omega),iN (by omega)];rw[hk]at a|-;have e1:2^(k+1)=2*2^k:=(by rw[bF];omega);have e2:2^(k+1+1)=4*2^k:=(by rw[bF,e1];omega);rw[e1]at a;rw[e2];refine⟨?_,?_,?_⟩<;>omega
theorem Nx {x:Int}(h:¬0<Mh x):Dt x= -1/\Cb x= -1:=by
 have e:Dw x=0:=(by rw[Dw,iN h]);unfold Dt Cb;rw[e];exact⟨rfl,rfl⟩
theorem Gs (x:Int)(w:World):
  Calls prog 100 #[rD rF x] w fun e w'=>e=rK (.tuple #[rD rF (Dt x),rD rF (Cb x)])/\Below w.heap.size w w':=by
 by_cases hx:0<=x/\x<=131070
 ·obtain⟨m,rfl⟩:∃m:Nat,x=(m:Int):=⟨x.toNat,by omega⟩;have l:m<=131070:=(by omega);have D:=Kd m l;have b:=lev_le l;have i:=phi_le (x:=m) (d:=16) (by omega) b
  by_cases hl:0<lev m
  ·have hk:=Zkc l hl;obtain⟨q,a⟩:=eX (plo m (lev m));obtain⟨r,g⟩:=eX (phi m (lev m));rw[<-a,<-g]at D hk;rw[<-g]at i;obtain⟨s,t,z⟩:=hk;have y:((q:Int)==(r:Int))=false:=(by rw[qN];omega);have o:r<=131070:=(by omega);have v:(1:Int)<=(q:Int)+(m:Int):=by
    rcases eE m with h|h
    ·subst h;exact absurd hl (by decide)
    ·omega
   rw[<-s,<-t];have j:=Hd D;clear D hl a g i s t hx b;go_in;go_wp2_with fail;refine(j.out _).mono ?_;rintro e u ⟨rfl,f⟩;have c:=Hd f;clear f;go_wp2_with fail
   go_quiet (fail)
   go_wp2_with fail;go_ret2;exact⟨rfl,Ab (c.out.alloc (by have:=c.out.size;omega) _) _⟩
  ·have k:=Gn l;have hk:=Nx (x:=(m:Int)) (by rw[k];omega);have n:phi m (lev m)=plo m (lev m):=(by unfold phi;rw[show lev m=0 by omega];rfl);rw[hk.1,hk.2];obtain⟨q,a⟩:=eX (plo m (lev m));rw[n,<-a]at D;rw[n,<-a]at i;have j:=Hd D;clear D hl a hk hx n k b;go_in;go_wp2_with fail;refine(j.out _).mono ?_;rintro e u ⟨rfl,f⟩;have c:=Hd f;clear f;go_wp2_with fail;go_ret2;exact⟨rfl,c.out.alloc (by have:=c.out.size;omega) _⟩
 ·have p:Bk x=false:=(by rw[Bk,dF];exact hx);have D:=Ke x p;have e:Mh x= -1:=(by rw[Mh,iN (by rw[p];simp)]);have hk:=Nx (x:=x) (by rw[e];omega);rw[hk.1,hk.2];have j:=Hd D;clear D e p hx hk;go_in;go_wp2_with fail;refine(j.out _).mono ?_;rintro e u ⟨rfl,f⟩;have c:=Hd f;clear f;go_wp2_with fail;go_ret2;exact⟨rfl,c.out.alloc (by have:=c.out.size;omega) _⟩
theorem Ny (x d k i:Nat)(h:i<k):(Ix x d k)[i*3]? =some (rD rF (anc x (d-i):Nat)):=by
 have h:=Ie x d k i 0 h (by omega);rw[Nat.add_zero]at h;exact h
theorem We (x n:Int)(w:World)(h1: -9223372036854775808<=n)(h2:n<=9223372036854775807):
  Calls prog 153 #[rD rF x,rD rF n] w fun e w'=>e=rK (rD rF (La x n))/\Below w.heap.size w w':=by
 by_cases ho:Kw x n=true
 ·obtain⟨m,d,rfl,rfl,y,o⟩:=Mu ho;have D:=fun w=>Rm m d y o w;have q:=As (show d+1<=17 by omega);have A:=(lev_root o (lev_is (x:=m) (by omega))).1;rw[Mt y o,nxt];have i:=Ny m d (d-lev m+1) (d-lev m-1);obtain⟨l,h⟩:∃l,l=lev m:=⟨_,rfl⟩;rw[<-h]at D A i|-;clear q o h1 h2 ho h
  by_cases hlt:l<d
  ·rw[iP hlt];have g:=i (by omega);rw[show d-(d-l-1)=l+1 by omega]at g;obtain⟨k,hk⟩:∃k,d-l=k+1:=⟨d-l-1,by omega⟩;rw[hk]at D g;rw[show k+1-1=k by omega]at g;have z:k<=16:=(by omega);obtain⟨a,u⟩:=eX (anc m (l+1));rw[<-u]at g|-;have G:=Hd g;have c:=Hd D;clear D g i hlt hk u A;go_in;go_wp2_with fail;refine(c.out _).mono ?_;rintro e B ⟨v,rfl,b,f⟩;obtain⟨g,cap,rfl,C,s,E,t,j,-⟩:=b.out (by omega);have F:=j _ _ G.out;have p:=Hd f;clear j b f;go_wp2_with fail;go_ret;exact⟨rfl,p.out⟩
  ·rw[iN hlt];obtain rfl:l=d:=(by omega);have c:=Hd D;rw[show l-l=0 by omega]at c;clear D i hlt;go_in;go_wp2_with fail;refine(c.out _).mono ?_;rintro e B ⟨v,rfl,b,f⟩;obtain⟨g,cap,rfl,C,s,E,t,j,-⟩:=b.out (by omega);have p:=Hd f;clear j b f;go_wp2_with fail;go_ret;exact⟨rfl,p.out⟩
 ·have r:Kw x n=false:=(by rw[<-cX];exact ho);have e:La x n= -1:=(by rw[La,iN (by rw[r];simp)]);rw[e];have c:=Hd (fun w=>Mv x n w h1 h2 r);clear r ho e h1 h2;go_in;go_wp2_with fail;refine(c.out _).mono ?_;rintro e B ⟨rfl,rfl⟩;go_wp2_with fail;go_ret;exact⟨rfl,bR⟩
theorem Zg9 {x n:Int}(h:0<=La x n):(x<La x n->Dt (La x n)=x)/\(¬x<La x n->Dt (La x n)≠x/\Cb (La x n)=x):=by
 obtain⟨t,v⟩:=(Zj8 x n).2 h;obtain⟨m,d,rfl,rfl,q,l⟩:=Mu t;have o:=As (show d+1<=17 by omega);have c:=lev_is (x:=m) (by omega);have s:=lev_root l c;have w:=anc_self c;rw[Mt q l,nxt];have i:lev m<d:=by
  rcases aB (lev m) d with h|h
  ·exact h
  ·exfalso;apply v;have:=s.2.1 (by omega);have u:=pow_pos' d;omega
 rw[iP i];have k:=halves m (lev m);have b:=anc_lev m (lev m+1);have g:=anc_le (x:=m) (d:=d) (j:=lev m+1) (by omega) (by omega);rw[anc_plo]at w;obtain⟨a,p⟩:=eX (anc m (lev m+1));rw[<-p]at k b g|-;have f:=lev_eq (by omega) b;have y:=Gn (x:=a) (by omega);have u:=pow_pos' (lev m);have e:Dw (a:Int)=((2^lev m:Nat):Int):=by
  rw[Dw,y,f,iP (by omega)];simp
 unfold Dt Cb;rw[e,iN (by omega),iN (by omega)];have r:phi m (lev m)=plo m (lev m)+(2^(lev m+1)-2):=rfl;rw[bF]at r;refine⟨fun h=> ?_,fun h=>⟨?_,?_⟩⟩;all_goals
  rcases k with⟨z,A,B⟩|⟨z,A,B⟩<;>omega
theorem Zha (x n:Int)(w:World)(h1: -9223372036854775808<=n)(h2:n<=9223372036854775807):
  Calls prog 98 #[rD rF x,rD rF n] w fun e w'=>e=rK (rD rF (Zjd x n))/\Below w.heap.size w w':=by
 have P:=fun w=>We x n w h1 h2;have hk:= @Zg9 x n;unfold Zjd;obtain⟨p,i⟩:=eX (La x n);rw[<-i]at P hk|-;have K:=fun w=>Gs p w;have f:=Hd P;have d:=Hd K;clear P K i h1 h2
 by_cases hn:p<0
 ·rw[iP hn];clear hk;go_in;go_wp2_with fail;refine(f.out _).mono ?_;rintro e j ⟨rfl,a⟩;have b:=Hd a;clear a;go_wp2_with fail;go_ret;exact⟨rfl,b.out⟩
 ·rw[iN hn];have hk:=hk (by omega);obtain⟨l,g⟩:=eX (Dt p);obtain⟨r,h⟩:=eX (Cb p);rw[<-g,<-h]at d hk|-
  by_cases hx:x<p
  ·rw[iP hx];obtain rfl:=hk.1 hx;clear hk g h hx;go_in;go_wp2_with fail;refine(f.out _).mono ?_;rintro e j ⟨rfl,a⟩;have b:=Hd a;clear a;go_wp2_with fail;refine(d.out _).mono ?_;rintro e k ⟨rfl,a⟩;have c:=Hd a;clear a;go_wp2_with fail;go_ret;exact⟨rfl,b.out.trans (c.out.mono b.out.size)⟩
  ·rw[iN hx];have m:(l==x)=false:=(by rw[qN];exact(hk.2 hx).1);clear hk g h hx;go_in;go_wp2_with fail;refine(f.out _).mono ?_;rintro e j ⟨rfl,a⟩;have b:=Hd a;clear a;go_wp2_with fail;refine(d.out _).mono ?_;rintro e k ⟨rfl,a⟩;have c:=Hd a;clear a;go_wp2_with fail;go_ret;exact⟨rfl,b.out.trans (c.out.mono b.out.size)⟩
theorem Zhb {y:Nat}(hy:y<=131070):Tq (y:Int)=((2^lev y-1:Nat):Int):=by
 have:=pow_pos' (lev y);have e:(2:Int)^lev y=((2^lev y:Nat):Int):=(by simp);rw[Tq,Gn hy,cV,e];omega
theorem Wf {x y:Nat}(hx:x<=131070)(c:y<=131070):Bv (x:Int) (y:Int)=decide (plo y (lev y)<=x/\x<=phi y (lev y)):=by
 have h1:Bk (x:Int)=true:=(by rw[Bk,dT];omega);have h2:Bk (y:Int)=true:=(by rw[Bk,dT];omega);have e:=anc_self (lev_is c);rw[anc_plo]at e;have d:phi y (lev y)=plo y (lev y)+(2^(lev y+1)-2):=rfl;rw[bF]at d;have f:=pow_pos' (lev y);rw[Bv,h1,h2,Zhb c,dL,dL];apply decide_eq_decide.2;constructor
 ·rintro⟨a,b⟩;omega
 ·rintro⟨a,b⟩;omega
theorem If (x y:Int)(w:World):
  Calls prog 83 #[rD rF x,rD rF y] w fun e w'=>e=rK (.bool (Bv x y))/\Below w.heap.size w w':=by
 by_cases hx:Bk x=true
 ·have u:=oD hx;obtain⟨m,rfl⟩:∃m:Nat,x=(m:Int):=⟨x.toNat,by omega⟩;have B:m<=131070:=(by omega);have D:=Kd m B
  by_cases hy:Bk y=true
  ·have o:=oD hy;obtain⟨q,rfl⟩:∃q:Nat,y=(q:Int):=⟨y.toNat,by omega⟩;have z:q<=131070:=(by omega);have E:=Kd q z;rw[Wf B z];obtain⟨n,t⟩:=eX (plo q (lev q));obtain⟨p,s⟩:=eX (phi q (lev q));rw[<-t,<-s]at E|-;have l:=Hd D;have k:=Hd E;clear D E t s hx hy u o;have C:(n<=m/\m<=p)\/(n<=m/\¬m<=p)\/¬n<=m:=(by omega);rcases C with⟨c1,c2⟩|⟨c1,c2⟩|c1
   ·rw[dT ⟨c1,c2⟩];have r:decide ((n:Int)<=(m:Int))=true:=(by rw[dT];omega);have A:decide ((m:Int)<=(p:Int))=true:=(by rw[dT];omega);go_in;go_wp2_with fail;refine(l.out _).mono ?_;rintro e g ⟨rfl,a⟩;have c:=Hd a;clear a;go_wp2_with fail;refine(k.out _).mono ?_;rintro e h ⟨rfl,a⟩;have hk:=Vy a;have b:=Hd a;have f:=cell_of_row _ _ 0 _ _ _ hk;simp only[cR,cS]at f;have i:=c.out.size;have d:=b.out.size;have v:g.heap.size<h.heap.size:=(by simp at d;omega);clear a hk d;go_wp2_with fail;go_ret;refine⟨rfl,?_⟩;exact((c.out.alloc i _).trans (b.out.mono (by simp;omega))).alloc (by omega) _
   ·have e:decide (n<=m/\m<=p)=false:=(by rw[dF];omega);rw[e];clear e;have r:decide ((n:Int)<=(m:Int))=true:=(by rw[dT];omega);have A:decide ((m:Int)<=(p:Int))=false:=(by rw[dF];omega);go_in;go_wp2_with fail;refine(l.out _).mono ?_;rintro e g ⟨rfl,a⟩;have c:=Hd a;clear a;go_wp2_with fail;refine(k.out _).mono ?_;rintro e h ⟨rfl,a⟩;have hk:=Vy a;have b:=Hd a;have f:=cell_of_row _ _ 0 _ _ _ hk;simp only[cR,cS]at f;have i:=c.out.size;have d:=b.out.size;have v:g.heap.size<h.heap.size:=(by simp at d;omega);clear a hk d;go_wp2_with fail;go_ret;refine⟨rfl,?_⟩;exact((c.out.alloc i _).trans (b.out.mono (by simp;omega))).alloc (by omega) _
   ·have e:decide (n<=m/\m<=p)=false:=(by rw[dF];omega);rw[e];clear e;have r:decide ((n:Int)<=(m:Int))=false:=(by rw[dF];omega);go_in;go_wp2_with fail;refine(l.out _).mono ?_;rintro e g ⟨rfl,a⟩;have c:=Hd a;clear a;go_wp2_with fail;refine(k.out _).mono ?_;rintro e h ⟨rfl,a⟩;have hk:=Vy a;have b:=Hd a;have f:=cell_of_row _ _ 0 _ _ _ hk;simp only[cR,cS]at f;have i:=c.out.size;have d:=b.out.size;have v:g.heap.size<h.heap.size:=(by simp at d;omega);clear a hk d;go_wp2_with fail;go_ret;refine⟨rfl,?_⟩;exact((c.out.alloc i _).trans (b.out.mono (by simp;omega))).alloc (by omega) _
  ·have j:Bk y=false:=(by rw[<-cX];exact hy);have E:=Ke y j;have e:Bv m y=false:=(by rw[Bv,j,eB,dP]);rw[e];have l:=Hd D;have k:=Hd E;clear D E e hx hy u j;go_in;go_wp2_with fail;refine(l.out _).mono ?_;rintro e g ⟨rfl,a⟩;have c:=Hd a;clear a;go_wp2_with fail;refine(k.out _).mono ?_;rintro e h ⟨rfl,a⟩;have hk:=Vy a;have b:=Hd a;have f:=cell_of_row _ _ 0 _ _ _ hk;simp only[cR,cS]at f;have i:=c.out.size;have d:=b.out.size;have v:g.heap.size<h.heap.size:=(by simp at d;omega);clear a hk d;go_wp2_with fail;go_ret;refine⟨rfl,?_⟩;exact((c.out.alloc i _).trans (b.out.mono (by simp;omega))).alloc (by omega) _
 ·have j:Bk x=false:=(by rw[<-cX];exact hx);have D:=Ke x j;have e:Bv x y=false:=(by rw[Bv,j,dP,dP]);rw[e];have l:=Hd D;clear D e hx j
  by_cases hy:Bk y=true
  ·have o:=oD hy;obtain⟨q,rfl⟩:∃q:Nat,y=(q:Int):=⟨y.toNat,by omega⟩;have z:q<=131070:=(by omega);have E:=Kd q z;have k:=Hd E;clear E hy o;go_in;go_wp2_with fail;refine(l.out _).mono ?_;rintro e g ⟨rfl,a⟩;have c:=Hd a;clear a;go_wp2_with fail;refine(k.out _).mono ?_;rintro e h ⟨rfl,a⟩;have hk:=Vy a;have b:=Hd a;have f:=cell_of_row _ _ 0 _ _ _ hk;simp only[cR,cS]at f;have i:=c.out.size;have d:=b.out.size;have v:g.heap.size<h.heap.size:=(by simp at d;omega);clear a hk d;go_wp2_with fail;go_ret;refine⟨rfl,?_⟩;exact((c.out.alloc i _).trans (b.out.mono (by simp;omega))).alloc (by omega) _
  ·have j:Bk y=false:=(by rw[<-cX];exact hy);have E:=Ke y j;have k:=Hd E;clear E hy j;go_in;go_wp2_with fail;refine(l.out _).mono ?_;rintro e g ⟨rfl,a⟩;have c:=Hd a;clear a;go_wp2_with fail;refine(k.out _).mono ?_;rintro e h ⟨rfl,a⟩;have hk:=Vy a;have b:=Hd a;have f:=cell_of_row _ _ 0 _ _ _ hk;simp only[cR,cS]at f;have i:=c.out.size;have d:=b.out.size;have v:g.heap.size<h.heap.size:=(by simp at d;omega);clear a hk d;go_wp2_with fail;go_ret;refine⟨rfl,?_⟩;exact((c.out.alloc i _).trans (b.out.mono (by simp;omega))).alloc (by omega) _
theorem Wg {x y d j:Nat}(u:d<=16)(hx:x+1<2^(d+1))(v:y+1<2^(d+1))(m:j<=d):Bv (y:Int) (anc x j:Nat)=decide (lev y<=j/\anc x j=anc y j):=by
 have k:=As (show d+1<=17 by omega);have n:=anc_le (show x<2^(d+1) by omega) m;have f:=anc_lev x j;have c:=lev_is (x:=y) (by omega);rw[Wf (by omega) (by omega),lev_eq (by omega) f];have e1:plo (anc x j) j=plo x j:=(by unfold plo;rw[anc_div (eG j)]);have e2:phi (anc x j) j=phi x j:=(by unfold phi;rw[e1]);rw[e1,e2];apply decide_eq_decide.2;have s:=pow_pos' (j+1);have l:=anc_bounds y j;have p:=bM y (2^(j+1));have q:=Nat.mod_lt y s;constructor
 ·rintro⟨a,b⟩;have e:y/2^(j+1)=x/2^(j+1):=by
   unfold phi plo at b;unfold plo at a;refine(Nat.div_eq_of_lt_le ?_ ?_)
   ·exact a
   ·rw[Nat.add_mul,Nat.one_mul];have:=pow_pos' j;have i:2^(j+1)=2*2^j:=(by rw[bF];omega);omega
  refine⟨?_,by unfold anc;rw[e]⟩;rcases aB j (lev y)with o|g
  ·exfalso;unfold IsLev at c;have h1:y%2^(j+1)=2^(j+1)-1:=by
    have h2:y%2^(lev y+1)%2^(j+1)=y%2^(j+1):=eH _ (eI 2 (by omega));rw[c,ones_mod (by omega)]at h2;exact h2.symm
   unfold phi plo at b;rw[<-e,bL]at b;have:=pow_pos' j;have i:2^(j+1)=2*2^j:=(by rw[bF];omega);omega
  ·exact g
 ·rintro⟨a,b⟩;have e:x/2^(j+1)=y/2^(j+1):=by
   rw[<-anc_div (x:=x) (eG j),b,anc_div (eG j)]
  unfold phi plo;rw[e];refine⟨l.1,?_⟩;have i:2^(j+1)=2*2^j:=(by rw[bF];omega);have t:=pow_pos' j;have r:y%2^(j+1)≠2^(j+1)-1:=by
   intro h;unfold IsLev at c;have h2:y%2^(j+1)%2^(lev y+1)=y%2^(lev y+1):=eH _ (eI 2 (by omega));rw[h,ones_mod (by omega),c,bF]at h2;have:=pow_pos' (lev y);omega
  rw[bL]at p;omega
def Mk (t:List NodeD)(x:Nat)(u:Int):Prop:=
 u<(Be t.length:Int)/\Bv (2*u) (x:Int)=true/\(nd t (2*u).toNat).kind≠0/\∀y,y<t.length->(nd t y).kind=2->Bv (2*u) (y:Int)=true->Bv (y:Int) (x:Int)=true->u∈(nd t y).par.late
def Zc2 (t:List NodeD)(x:Nat)(u:Int):Bool:=
 decide (u<(Be t.length:Int))&&(Bv (2*u) (x:Int)&&(decide ((nd t (2*u).toNat).kind≠0)&&(aN t.length).all fun y=> !(decide ((nd t y).kind=2)&&(Bv (2*u) (y:Int)&&Bv (y:Int) (x:Int)))||decide (u∈(nd t y).par.late)))
theorem Pw (t:List NodeD)(x:Nat)(u:Int):Zc2 t x u=true↔Mk t x u:=by
 unfold Zc2 Mk;simp only[aT,dI,dX,dY,Bool.or_eq_true,Bool.not_eq_true',Bool.and_eq_false_imp];constructor
 ·rintro⟨h1,h2,h3,a⟩;refine⟨h1,h2,h3,fun y b c d e=> ?_⟩;rcases a y b with h|h
  ·have:=h c d;rw[e]at this;cases this
  ·exact h
 ·rintro⟨h1,h2,h3,a⟩;refine⟨h1,h2,h3,fun y b=> ?_⟩
  by_cases hm:u∈(nd t y).par.late
  ·exact .inr hm
  ·refine .inl fun c d=> ?_;cases e:Bv (y:Int) (x:Int)with
   |false=>rfl
   |true=>exact absurd (a y b c d e) hm
def Em (t:List NodeD)(x:Nat):Bool:=(nd t x).par.late.all (Zc2 t x)
theorem Za0 {t:List NodeD} {x:Nat}(h:∀u∈(nd t x).par.late,Mk t x u):Em t x=true:=List.all_eq_true.2 fun u hu=>(Pw t x u).2 (h u hu)
theorem Px {t:List NodeD} {x:Nat}(h:Em t x=true):∀u∈(nd t x).par.late,Mk t x u:=fun u hu=>(Pw t x u).1 (List.all_eq_true.1 h u hu)
theorem Zc3 {t:List NodeD} {x:Nat} {u:Int}(hu:u∈(nd t x).par.late)(h:¬Mk t x u):Em t x=false:=by
 cases hb:Em t x with
 |false=>rfl
 |true=>exact absurd (Px hb u hu) h
theorem Py {d:NodeD}(h:At d=true):d.kind=0\/d.kind=1\/d.kind=2:=by
 unfold At at h
 by_cases h0:d.kind=0
 ·exact .inl h0
 ·by_cases h1:d.kind=1
  ·exact .inr (.inl h1)
  ·by_cases h2:d.kind=2
   ·exact .inr (.inr h2)
   ·simp only[h0,h1,h2,if_false]at h;cases h
theorem Lv {d:NodeD}(h:At d=true)(hk:d.kind≠2):d.par.late=[]:=by
 unfold At at h;have a:npB d.par.box.length d.par.hash.length d.par.late.length=true->d.par.late=[]:=by
  intro h;have:=oD h;exact List.eq_nil_of_length_eq_zero (by omega)
 rcases Py (d:=d) (by unfold At;exact h)with h0|h1|h2
 ·simp only[h0,if_true,aT]at h;exact a h.2
 ·simp only[h1,if_true,Nat.one_ne_zero,if_false,aT]at h;exact a h.2
 ·exact absurd h2 hk
theorem Cy {d:NodeD}(h:At d=true):Lb d.par.late=true:=by
 by_cases hk:d.kind=2
 ·have a:(nlB d.leaf.box.length d.leaf.sign.length d.leaf.ident.length d.leaf.source d.leaf.par.length d.leaf.sig.length&&rpB d.par.box.length d.par.hash.length d.par.late)=true:=by
   have h2:=h;unfold At at h2;rw[hk]at h2;exact h2
  rw[aT]at a;have h2:=a.2;unfold rpB at h2;rw[aT]at h2;exact h2.1
 ·rw[Lv h hk];rfl
theorem Za1 {L:List Int}(h:Lb L=true):Zlw L:=by
 have hp:=(Hn L).1 h;intro i j hij hj
 induction j with
 |zero=>omega
 |succ j ih=>
  have h1:=(hp (j+1) hj).1;unfold Hm at h1;rw[iN (by omega),Nat.add_sub_cancel]at h1
  by_cases e:i=j
  ·rw[e];exact h1
  ·have:=ih (by omega) (by omega);omega
theorem Ig {q:Nat}(h:q%2=0)(hq:q<=131070):lev q=0:=lev_eq hq (by unfold IsLev;simp;omega)
theorem Zc4 {q:Nat}(h:q%2=1)(hq:q<=131070):1<=lev q:=by
 rcases eE (lev q)with h0|h0
 ·have:=lev_is hq;rw[h0]at this;unfold IsLev at this;simp at this;omega
 ·exact h0
theorem Zkd (x:Nat) {j:Nat}(h:1<=j):anc x j%2=1:=by
 have h1:2^(j+1)%2=0:=(by rw[bF];omega);have h2:2^j%2=0:=by
  obtain⟨k,rfl⟩:∃k,j=k+1:=⟨j-1,by omega⟩;rw[bF];omega
 have h3:=pow_pos' j;unfold anc;rw[Nat.add_mod,Nat.mul_mod,h1,Nat.mul_zero,Nat.zero_mod,Nat.zero_add,Nat.mod_mod];omega
theorem Kh {q x d:Nat}(c:d<=16)(h:q+1<2^(d+1))(hx:x+1<2^(d+1))(f:q%2=0):Bv (q:Int) (x:Int)=decide (x=anc q (lev x)):=by
 have b:=As (show d+1<=17 by omega);have a:x<=131070:=(by omega);have g:=(lev_root hx (lev_is a)).1;have e:=Wg c hx h g;rw[anc_self (lev_is a)]at e;rw[e,Ig f (by omega)]
 congr 1
 simp
theorem Fx {t:List NodeD}(hp:Ci t=true) {x:Nat}(hx:x<t.length):(nd t x).kind≠Fw x/\At (nd t x)=true:=(Jh t).1 hp x hx
theorem Pz {t:List NodeD}(hp:Ci t=true) {x:Nat}(hx:x<t.length)(hk:(nd t x).kind=2):x%2=1:=by
 rcases Nat.mod_two_eq_zero_or_one x with h|h
 ·have:=(Fx hp hx).1;rw[Ji h]at this;exact absurd hk this
 ·exact h
theorem Za2 {t:List NodeD}(hp:Ci t=true) {x:Nat}(hx:x<t.length)(ho:x%2=1)(hk:(nd t x).kind≠0):(nd t x).kind=2:=by
 obtain⟨h1,h2⟩:=Fx hp hx;rw[Lf ho]at h1;rcases Py h2 with h|h|h
 ·exact absurd h hk
 ·exact absurd h h1
 ·exact h
theorem Nz {t:List NodeD}(b:Ci t=true) {x:Nat}(hx:x<t.length) {u:Int}(a:u∈(nd t x).par.late):(nd t x).kind=2/\∃m:Nat,u=(m:Int)/\m<65536:=by
 obtain⟨_,h2⟩:=Fx b hx;refine⟨?_,?_⟩
 ·by_cases hk:(nd t x).kind=2
  ·exact hk
  ·rw[Lv h2 hk]at a;cases a
 ·obtain⟨h0,h1⟩:=Fo (Cy h2) u a;exact⟨u.toNat,by omega,by omega⟩
theorem Zke {t:List NodeD} {d m x:Nat}(j:d<=16)(D:t.length+1=2*2^d)(u:Ci t=true)(hx:x<t.length)(E:2*m<t.length)(B:(m:Int)∈(nd t x).par.late)(a:Bv ((2*m:Nat):Int) (x:Int)=true):
  (∀i,1<=i->i<lev x->(nd t (anc (2*m) i)).kind≠0->(m:Int)∈(nd t (anc (2*m) i)).par.late)↔(∀y,y<t.length->(nd t y).kind=2->Bv ((2*m:Nat):Int) (y:Int)=true->Bv (y:Int) (x:Int)=true->(m:Int)∈(nd t y).par.late):=by
 have z:=As (show d+1<=17 by omega);have e2:2^(d+1)=2*2^d:=(by rw[bF];omega);have l:x+1<2^(d+1):=(by omega);have b:2*m+1<2^(d+1):=(by omega);have q:x<=131070:=(by omega);have k:=(lev_root l (lev_is q)).1;rw[Kh j b l (by omega),dI]at a;constructor
 ·intro h y C hk s v;have c:y+1<2^(d+1):=(by omega);have f:y<=131070:=(by omega);have r:=Pz u C hk;have p:=Zc4 r f;rw[Kh j b c (by omega),dI]at s;have e:=Wg (x:=2*m) j b c k;rw[<-a]at e;rw[e,dI]at v;obtain⟨F,w⟩:=v
  by_cases hle:lev y=lev x
  ·rw[<-hle,anc_self (lev_is f)]at w;rw[<-w];exact B
  ·have:=h (lev y) p (by omega) (by rw[<-s,hk];omega);rw[<-s]at this;exact this
 ·intro h i o A hk;have c:=anc_le (show 2*m<2^(d+1) by omega) (show i<=d by omega);have f:anc (2*m) i<=131070:=(by omega);have n:anc (2*m) i<t.length:=(by omega);have g:lev (anc (2*m) i)=i:=lev_eq f (anc_lev _ _);refine h _ n (Za2 u n (Zkd _ o) hk) ?_ ?_
  ·rw[Kh j b c (by omega),dI,g]
  ·have e:=Wg (x:=2*m) j b c k;rw[<-a]at e;rw[e,dI,g];refine⟨by omega,?_⟩;rw[anc_anc (by omega),<-a]
theorem Zc5 {t:List NodeD} {d m x:Nat}(a:d<=16)(b:t.length+1=2*2^d):Mk t x (m:Int)↔m<2^d/\Bv ((2*m:Nat):Int) (x:Int)=true/\(nd t (2*m)).kind≠0/\∀y,y<t.length->(nd t y).kind=2->Bv ((2*m:Nat):Int) (y:Int)=true->Bv (y:Int) (x:Int)=true->(m:Int)∈(nd t y).par.late:=by
 unfold Mk;rw[Nv a b,show(2:Int)*(m:Int)=((2*m:Nat):Int) by omega,cV,Int.ofNat_lt]
theorem Zlx (x:Nat):∀k j i,i<k->(ups x j k)[i]? =some (anc x (j+i+1)):=by
 intro k
 induction k with
 |zero=>intro j i h;omega
 |succ k ih=>
  intro j i h;rw[ups];cases i with
  |zero=>simp
  |succ i=>rw[List.getElem?_cons_succ,ih (j+1) i (by omega)];congr 2;omega
theorem TreeR.at {w:World} {a:Option Addr} {n c:Nat} {t:List NodeD}(h:TreeR w (rC a n c) t) {i:Nat}(k:i<n):∃b d l e,a=some ⟨b,d,rI⟩/\b<w.heap.size/\w.cell? ⟨b,d+i*10,rI⟩=some (rD rG ((nd t i).kind:Nat))/\w.cell? ⟨b,d+i*10+9,rI⟩=some (.slice l (nd t i).par.late.length e)/\Rd w (.slice l (nd t i).par.late.length e) (ivs .i64 (nd t i).par.late):=by
 obtain⟨b,d,cs,e1,e2,f,g⟩:=h.node k;obtain⟨l,e,e3,j⟩:=f.late;exact⟨b,d,l,e,e1,e2,g 0 _ f.kind,g 9 _ e3,j⟩
theorem Zhc (v:Value)(t:List NodeD)(x d:Nat)(w:World)(h:TreeR w v t)(hs:Zcv t=true)(J:Ci t=true)(hd:d<=16)(hl:t.length+1=2*2^d)(hx:x<t.length):
  Calls prog 228 #[v,rD rF (x:Nat)] w fun e w'=>e=rK (.bool (Em t x))/\Below w.heap.size w w':=by
 obtain⟨a,c,rfl,hc,cB⟩:=h.sl;have a5:=Rq hs;have bY:=As (show d+1<=17 by omega);have aG:2^(d+1)=2*2^d:=(by rw[bF];omega);obtain⟨L,hL⟩:=eX ((nd t x).par.late);have LV:=fun(W:World)=>Jg a t.length c W (by omega);rw[Nv hd hl]at LV;have GA:=fun(W:World) (K:Below w.heap.size w W) (i:Nat) (hi:i<t.length)=>(h.below K lR).at hi;have UN:=fun(q:Nat) (W:World)=>Cs (q:Int) (x:Int) W;have PA:=fun(q:Nat) (T:q+1<2^(d+1)) (he:q%2=0) (W:World)=>(show Calls prog 269 #[rD rF (q:Nat),rD rF ((2^d:Nat):Int)] W fun e w'=>∃v,e=rK v/\Own w' W.heap.size 3 v (nvs (ups q 0 d))/\Below W.heap.size W w' from by
  have:=Zgv q d hd T W;rw[Ig he (by omega)]at this;exact this)
 have BS:=fun(i:Nat) (hi:i<t.length) (u:Int) (lv:Value) (W:World) (g:Rd W lv (ivs .i64 (nd t i).par.late))=>Wd lv (nd t i).par.late u W g (Za1 (Cy (Fx J hi).2)) (by
  have:=oD (Wc hs i)
  omega)
 have H:=fun(s:∀r,r<L.length->Mk t x (L.getD r 0))=>Za0 (t:=t) (x:=x) (fun u hu=>by
  rw[<-hL]at hu;obtain⟨r,g,rfl⟩:=dW hu;have:=s r g
  rwa [aS,bB g]at this)
 have C:=fun(r:Nat) (g:r<L.length)=>(show L.getD r 0∈(nd t x).par.late by rw[aS,bB g,<-hL];exact bC g);have NO:=fun(r:Nat) (g:r<L.length) (s:¬Mk t x (L.getD r 0))=>Zc3 (C r g) s;have aD:=fun(r:Nat) (g:r<L.length)=>Nz J hx (C r g);have LP:=fun(m:Nat)=>Zc5 (m:=m) (x:=x) hd hl;have aE:=fun(m:Nat) (hm:2*m<t.length) (hu:(m:Int)∈(nd t x).par.late) (bG:Bv ((2*m:Nat):Int) (x:Int)=true)=>Zke hd hl J hx hm hu bG;have UL:=fun(q:Nat) (T:q+1<2^(d+1)) (he:q%2=0)=>Kh hd T (show x+1<2^(d+1) by omega) he;have LX:=(lev_root (show x+1<2^(d+1) by omega) (lev_is (x:=x) (by omega))).1;have aW:=fun(hk:(nd t x).kind=2)=>Zc4 (Pz J hx hk) (by omega);have V:=fun(q j:Nat) (T:q<2^(d+1)) (hj:j<=d)=>anc_le T hj;obtain⟨N,hN⟩:=eX (2^d);rw[<-hN]at LV PA LP hl aG;obtain⟨n,hn⟩:=eX t.length;rw[<-hn]at LV GA BS aE hl hx hc a5|-;rw[<-hn]at LP;rw[aG]at PA UL V;have a4:L.length<=60:=(by have:=oD (Wc hs x);rw[hL];omega);obtain⟨k0,D⟩:=eX L.length;rw[<-D]at a4;rw[<-D]at H C NO aD;have GX:=fun(W:World) (K:Below w.heap.size w W)=>GA W K x hx;rw[<-hL,<-D]at GX;obtain⟨R,hR⟩:=eX (Em t x);rw[<-hR]at H NO|-;have bO:=Hd LV;have aN:=Hd GA;have bK:=Hd GX;have aU:=Hd UN;have bS:=Hd PA;have bJ:=Hd BS;have aV:=Hd H;have aR:=Hd C;have bQ:=Hd NO;have aT:=Hd aD;have y:=Hd LP;have Q:=Hd aE;have bU:=Hd UL;have bP:=Hd LX;have aQ:=Hd aW;have aL:=Hd V;have HD:=Hd hd;have b5:=Hd hL;have b6:=Hd hl;have bL:=Hd D;have b8:2*N=n+1:=(by omega);clear LV GA GX UN PA BS H C NO aD LP aE UL LX aW V hL hl hn hR h hs J hd bY aG hN D;obtain⟨b,bH,l,e,rfl,b9,ck,cl,bE⟩:=bK.out w bR;have AT:=fun(r:Nat) (g:r<k0)=>bE.at3 (u:=rD rF (L.getD r 0)) (r:=r) (by have:=bL.out;simp[ivs,aS,show r<L.length by omega]);have bI:=Hd AT;clear AT bE;go_in;go_wp2_with fail;refine(bO.out w).mono ?_;rintro e' w' ⟨rfl,rfl⟩;go_wp2_with fail
 go_loopg [21] k0 (fun q iv wr=>∃r:Nat,r+q=k0/\iv=rD rF (r:Nat)/\(∀i,i<r->Mk t x (L.getD i 0))/\Below w'.heap.size w' wr)
 case atStart=>exact⟨0,by omega,rfl,fun i hi=>by omega,bR⟩
 case round=>
  obtain⟨r,g,rfl,S,hb⟩:=hrel;have HR:=Hd g;have M:=Hd S;have O:=Hd hb;clear g S hb
  by_cases hlt:r<k0
  ·have a7:decide (r<k0)=true:=dT hlt;obtain⟨bl,ol,e1,aY,cu⟩:=bI.out r hlt;subst e1;obtain⟨a3,m,hm,b4⟩:=aT.out r hlt;rw[hm]at cu;have b7:=(O.out.cell (p:=⟨bl,ol+r,rI⟩) aY).trans cu;have HM:=Hd hm;have bM:=Hd a3;clear cu hm a3;have G:=Hd (fun(s:¬Mk t x (m:Int))=>bQ.out r hlt (by rw[HM.out];exact s));obtain⟨q,T⟩:=eX (2*m);have cE:2*(m:Int)=(q:Int):=(by omega);have f:=Hd T;clear T
   by_cases c1:N<=m
   ·have g1:decide (N<=m)=true:=dT c1;have Z:=Hd (G.out (fun s=>by have:=((y.out m).1 s).1;omega));go_wp2_with fail;go_ret;exact⟨Do Z.out,O.out⟩
   ·have g1:decide (N<=m)=false:=dF c1;have b0:q<n:=(by have:=f.out;omega);cases hun:Bv (q:Int) (x:Int)with
    |false=>
     have Z:=Hd (G.out (fun s=>by
      have:=((y.out m).1 s).2.1;rw[<-f.out,hun]at this;cases this))
     have U1:=aU.out q wr;rw[hun]at U1;have F:=Hd U1;clear U1 hun;go_wp2_with fail;refine(F.out).mono ?_;rintro e' w2 ⟨rfl,rfl⟩;go_wp2_with fail;go_ret;exact⟨Do Z.out,O.out⟩
    |true=>
     have U1:=aU.out q wr;rw[hun]at U1;have F:=Hd U1;have o:=Hd hun;clear U1 hun;obtain⟨b',off',l2,e2,eb,_,I,_,_⟩:=aN.out wr O.out q b0;simp only[Option.some.injEq,Addr.mk.injEq,and_true]at eb;obtain⟨rfl,rfl⟩:=eb
     by_cases c3:(nd t q).kind=0
     ·have Z:=Hd (G.out (fun s=>by
       have:=((y.out m).1 s).2.2.1;rw[<-f.out]at this;exact this c3))
      rw[c3]at I;have b2:wr.cell? ⟨b,bH+q*10,rI⟩=some (rD rG 0):=I;clear c3 I;go_wp2_with fail;refine(F.out).mono ?_;rintro e' w2 ⟨rfl,rfl⟩;go_wp2_with fail;go_ret;exact⟨Do Z.out,O.out⟩
     ·obtain⟨kq,aJ⟩:=eX ((nd t q).kind);rw[<-aJ]at I c3;have g3:((kq:Int)==0)=false:=(by rw[qN];omega);have bN:=Hd aJ;have bD:q+1<2*N:=(by omega);have bV:=Hd (bS.out q bD (by have:=f.out;omega) wr);clear aJ;go_wp2_with fail;refine(F.out).mono ?_;rintro e' w2 ⟨rfl,rfl⟩;go_wp2_with fail;refine(bV.out).mono ?_;rintro e' w2 ⟨pv,rfl,E,aX⟩;have Y:=Hd (O.out.trans (aX.mono O.out.size));have a9:(nvs (ups q 0 d)).length=d:=(by rw[Ld,Rk]);obtain⟨pa,pc,bX⟩:∃a c,pv=.slice a d c:=(by obtain⟨a,c,e,_⟩:=E.rd;exact⟨a,c,by rw[e,a9]⟩);subst bX;have PT:=fun(k:Nat) (hk:k<d)=>E.rd.at3 (u:=rD rF (anc q (k+1):Nat)) (r:=k) (by simp[nvs,ivs,Zlx q d 0 k hk]);have bT:=Hd PT;have aC:=Hd (show x=anc q (lev x) by
       have:=bU.out q bD (by have:=f.out;omega);rw[o.out]at this;exact oD this.symm)
      have P:=Hd (aQ.out bM.out);have z:=Hd (show(m:Int)∈(nd t x).par.late by rw[<-HM.out];exact aR.out r hlt);have cC:=HD.out;clear E aX PT a9;go_wp2_with fail;obtain⟨g1,rfl⟩:=eX gk;obtain⟨w1,rfl⟩:=eX wr
      go_loopg [49] d (fun q2 iv wv=>∃k:Nat,k+q2=d/\iv=rD rF (k:Nat)/\(∀i,1<=i->i<=k->anc q i≠x/\((nd t (anc q i)).kind≠0->(m:Int)∈(nd t (anc q i)).par.late))/\wv=w2)
      case atStart=>exact⟨0,by omega,rfl,fun i h1 h2=>by omega,rfl⟩
      case round=>
       obtain⟨k,hk,rfl,U,rfl⟩:=hrel;have HK:=Hd hk;have B:=Hd U;clear hk U
       by_cases hkd:k<d
       ·have b3:decide (k<d)=true:=dT hkd;obtain⟨bp,op,e1,cA,cp⟩:=bT.out k hkd;subst e1;obtain⟨p,J⟩:=eX (anc q (k+1));rw[<-J]at cp;have HP:=Hd J;clear J
        by_cases hpx:p=x
        ·have g4:((p:Int)==(x:Int))=true:=(by rw[beq_iff_eq];omega);have A:=Hd hpx;have aM:=Hd (show Mk t x (m:Int)from(y.out m).2 ⟨by omega,by rw[<-f.out];exact o.out,by rw[<-f.out,<-bN.out];exact c3,by
          have K:=Q.out m (by have:=f.out;omega) z.out (by rw[<-f.out];exact o.out);rw[<-f.out]at K;have cD:lev x=k+1:=by
           have h1:=aC.out;have h2:=HP.out;rw[A.out]at h2;have a1:=anc_lev q (k+1);rw[<-h2]at a1;have a2:=anc_lev q (lev x);rw[<-h1]at a2;exact lev_unique a2 a1
          rw[<-f.out];refine K.1 fun i h1 h2=> ?_;exact(B.out i h1 (by omega)).2⟩)
         clear hpx;go_wp2_with fail;go_roundg (g1-1);case measure=>have:=HR.out;omega
         case rel=>
          refine⟨r+1,by have:=HR.out;omega,by go_num,fun i hi=> ?_,Y.out⟩
          by_cases e:i=r
          ·rw[e,HM.out];exact aM.out
          ·exact M.out i (by omega)
        ·have g4:((p:Int)==(x:Int))=false:=(by rw[qN];omega);have A:=Hd hpx;have bA:p<n:=by
          have:=aL.out q (k+1) (by omega) (by omega);rw[<-HP.out]at this;omega
         obtain⟨b',off',l3,e3,eb,_,aF,bW,aK⟩:=aN.out wr (Y.out) p bA;simp only[Option.some.injEq,Addr.mk.injEq,and_true]at eb;obtain⟨rfl,rfl⟩:=eb;have B1:=bJ.out p bA (m:Int) _ wr aK;obtain⟨kp,aI⟩:=eX ((nd t p).kind);rw[<-aI]at aF;have aP:=Hd aI;obtain⟨lp,a6⟩:=eX ((nd t p).par.late.length);rw[<-a6]at bW aK B1;obtain⟨is,aH⟩:=eX (decide ((m:Int)∈(nd t p).par.late));rw[<-aH]at B1;have aO:=Hd aH;have X:=Hd B1;clear aI a6 aH B1 aK hpx
         by_cases k0':kp=0
         ·have aA:=Hd k0';have b1:wr.cell? ⟨b,bH+p*10,rI⟩=some (rD rG 0):=(by rw[aF,k0'];rfl);clear k0' aF;go_wp2_with fail;refine(X.out).mono ?_;rintro e' w3 ⟨pos,rfl,_,_,_,rfl⟩;go_wp2_with fail;go_roundg (gk-1);case measure=>have:=HK.out;omega
          case rel=>
           refine⟨k+1,by have:=HK.out;omega,by go_num,fun i h1 h2=> ?_,rfl⟩
           by_cases e:i=k+1
           ·rw[e,<-HP.out];exact⟨A.out,fun bZ=>absurd (aP.out.symm.trans aA.out) bZ⟩
           ·exact B.out i h1 (by omega)
         ·have aA:=Hd k0';have g5:((kp:Int) !=0)=true:=by
           have:((kp:Int)==0)=false:=(by rw[qN];omega);rw[bne,this];rfl
          have g6:((kp:Int)==0)=false:=(by rw[qN];omega);cases is with
          |true=>
           clear k0';go_wp2_with fail;refine(X.out).mono ?_;rintro e' w3 ⟨pos,rfl,_,_,_,rfl⟩;go_wp2_with fail;go_roundg (gk-1);case measure=>have:=HK.out;omega
           case rel=>
            refine⟨k+1,by have:=HK.out;omega,by go_num,fun i h1 h2=> ?_,rfl⟩
            by_cases e:i=k+1
            ·rw[e,<-HP.out];exact⟨A.out,fun _=>oD aO.out.symm⟩
            ·exact B.out i h1 (by omega)
          |false=>
           have Z:=Hd (G.out (fun s=>by
            have K:=Q.out m (by have:=f.out;omega) z.out (by rw[<-f.out];exact o.out);rw[<-f.out]at K;have aZ:=((y.out m).1 s).2.2.2;rw[<-f.out]at aZ;have a8:k+1<lev x:=by
             have h1:=aC.out;have h3:=P.out;rcases aB (k+1) (lev x)with h|h
             ·exact h
             ·exfalso
              by_cases e:lev x=k+1
              ·rw[e,<-HP.out]at h1;exact A.out h1.symm
              ·exact(B.out (lev x) h3 (by omega)).1 h1.symm
            have a0:=K.2 aZ (k+1) (by omega) a8 (by rw[<-HP.out,<-aP.out];exact aA.out);rw[<-HP.out]at a0;exact absurd a0 (of_decide_eq_false aO.out.symm)))
           clear k0';go_wp2_with fail;refine(X.out).mono ?_;rintro e' w3 ⟨pos,rfl,_,_,_,rfl⟩;go_wp2_with fail;go_ret;exact⟨Do Z.out,Y.out⟩
       ·exfalso;have h1:=aC.out;have h2:=bP.out;have h3:=P.out;exact(B.out (lev x) h3 (by have:=HK.out;omega)).1 h1.symm
  ·obtain rfl:r=k0:=(by have:=HR.out;omega);have a7:decide (r<r)=false:=dF hlt;go_wp2_with fail;go_ret;exact⟨Do (aV.out M.out),O.out⟩
def Gt (t:List NodeD):Bool:=t.any fun d=>d.kind==1
theorem Zc6 {t:List NodeD} {i:Nat}(hi:i<t.length)(h:(nd t i).kind=1):Gt t=true:=by
 unfold Gt;rw[aR];refine⟨t[i],bC hi,?_⟩;rw[nd,aS,bB hi]at h;rw[beq_iff_eq];exact h
theorem Zhd {t:List NodeD}(h:∀i,i<t.length->(nd t i).kind≠1):Gt t=false:=by
 cases hs:Gt t with
 |false=>rfl
 |true=>
  unfold Gt at hs;rw[aR]at hs;obtain⟨d,hd,hk⟩:=hs;obtain⟨i,hi,rfl⟩:=dW hd;have:=h i hi;rw[nd,aS,bB hi]at this;exact absurd (beq_iff_eq.1 hk) this
theorem Zc7 (d:NodeD)(c:Array Value)(w:World)(h:NodeC w d c)(hk:d.kind<256):
  Calls prog 268 #[.agg c] w fun e w'=>e=rK (.bool (d.kind==1))/\Below w.heap.size w w':=by
 obtain⟨g,c1,i,c2,j,c3,l,c4,m,c5,b1,e1,n,e2,o,e3,rfl,_⟩:=h;obtain⟨k,a⟩:∃k,k=d.kind:=⟨_,rfl⟩;rw[<-a]at hk|-;have e:((k:Int)==1)=(k==1):=by
  by_cases h:k=1
  ·subst h;rfl
  ·rw[qN.2 h,qN];omega
 obtain⟨b,f⟩:=eX ((k==1));rw[<-f]at e|-;clear f a;go_in;go_wp2_with fail;go_ret;exact⟨rfl,bR.alloc lR _⟩
theorem Wh (v:Value)(t:List NodeD)(w:World)(h:TreeR w v t)(x:TreeOk t):
  Calls prog 287 #[v,.func (.func 268) #[] #[]] w fun e w'=>∃r:Int,e=rK (rD rF r)/\decide (r>=0)=Gt t/\Below w.heap.size w w':=by
 obtain⟨a,c,rfl,S,T⟩:=h.sl;have L:=fun(i:Nat) (cs:Array Value) (W:World) (J:NodeC W (nd t i) cs)=>Zc7 (nd t i) cs W J (x.nd i).kind;have C:=fun(W:World) (J:Below w.heap.size w W) (i:Nat) (s:i<t.length)=>(h.below J lR).node s;have A:=fun(i:Nat) (s:i<t.length) (h:(nd t i).kind=1)=>Zc6 s h;have B:=fun(h:∀i,i<t.length->(nd t i).kind≠1)=>Zhd h;obtain⟨n,O⟩:=eX t.length;obtain⟨R,M⟩:=eX (Gt t);rw[<-O]at C A B S|-;rw[<-M]at A B|-;have I:=Hd L;have E:=Hd C;have G:=Hd A;have H:=Hd B;clear L C A B h O M x;go_in;go_wp2_with fail
 go_loopg [8] n (fun q iv wr=>∃r:Nat,r+q=n/\iv=rD rF (r:Nat)/\(∀i,i<r->(nd t i).kind≠1)/\Below w.heap.size w wr)
 case atStart=>exact⟨0,by omega,rfl,fun i s=>by omega,bR⟩
 case round=>
  obtain⟨r,P,rfl,y,N⟩:=hrel;have F:=Hd P;have K:=Hd y;have m:=Hd N;clear P y N
  by_cases hlt:r<n
  ·have u:decide (r<n)=true:=dT hlt;obtain⟨b,z,cs,rfl,Q,f,k⟩:=E.out wr m.out r hlt;have o:=Hd k;have p:=Hd f.size;have l:=I.out r cs wr f;cases hk:((nd t r).kind==1)with
   |true=>
    rw[hk]at l;have j:=Hd l;have D:=Hd (G.out r hlt (beq_iff_eq.1 hk));clear l hk k f;go_wp2_with (refine wpList_load_mid rfl 52 (.tmp 14) rfl b (z+r*10) rfl cs.toList _ o.out underlying52 rfl (by rw[Array.length_toList,p.out];exact Bc) ?_);refine(j.out).mono ?_;rintro e U ⟨rfl,d⟩;have g:=Hd (m.out.trans (d.mono m.out.size));clear d;go_wp2_with fail;go_ret;exact⟨(r:Nat),rfl,by rw[D.out,dI];omega,g.out⟩
   |false=>
    rw[hk]at l;have j:=Hd l;have D:=Hd (qN.1 hk);clear l hk k f;go_wp2_with (refine wpList_load_mid rfl 52 (.tmp 14) rfl b (z+r*10) rfl cs.toList _ o.out underlying52 rfl (by rw[Array.length_toList,p.out];exact Bc) ?_);refine(j.out).mono ?_;rintro e U ⟨rfl,d⟩;have g:=Hd (m.out.trans (d.mono m.out.size));clear d;go_wp2_with fail;go_roundg (gk-1);case measure=>have:=F.out;omega
    case rel=>
     refine⟨r+1,by have:=F.out;omega,by go_num,fun i s=> ?_,g.out⟩
     by_cases e:i=r
     ·rw[e];exact D.out
     ·exact K.out i (by omega)
  ·obtain rfl:r=n:=(by have:=F.out;omega);have u:decide (r<r)=false:=dF hlt;go_wp2_with fail;go_ret;exact⟨-1,rfl,by rw[H.out K.out];rfl,m.out⟩
theorem Tu (v:Value)(t:List NodeD)(w:World)(h:TreeR w v t)(g:TreeOk t):
  Calls prog 227 #[v] w fun e w'=>e=rK (.bool (Gt t))/\Below w.heap.size w w':=by
 have m:=Wh v t w h g;have CF:Calls prog 267 #[v,.func (.func 268) #[] #[]] w fun e w'=>e=rK (.bool (Gt t))/\Below w.heap.size w w':=by
  obtain⟨a,c,rfl,o,f⟩:=h.sl;have d:=Hd m;obtain⟨R,i⟩:=eX (Gt t);rw[<-i]at d|-;obtain⟨n,k⟩:=eX t.length;rw[<-k]at d|-;clear m h i k o f g;go_in;go_wp2_with fail;refine(d.out).mono ?_;rintro e s ⟨r,rfl,p,j⟩;have l:=Hd j;have q:=Hd p;clear j p;go_wp2_with fail;go_ret;exact⟨Do q.out.symm,l.out⟩
 obtain⟨a,c,rfl,o,f⟩:=h.sl;have b:=Hd CF;obtain⟨R,i⟩:=eX (Gt t);rw[<-i]at b|-;obtain⟨n,k⟩:=eX t.length;rw[<-k]at b|-;clear m CF h i k o f g;go_in;go_wp2_with fail;refine(b.out).mono ?_;rintro e s ⟨rfl,j⟩;have l:=Hd j;clear j;go_wp2_with fail;go_ret;exact⟨rfl,l.out⟩
def Zhe (t:List NodeD):Bool:=if Be t.length=1 then Gt t else Gt (t.drop (Be t.length))
def Oa (t:List NodeD):Bool:=(aN t.length).all (Em t)
def Fy (t:List NodeD):Bool:=decide (Be t.length≠0)&&(Ci t&&(Zhe t&&Oa t))
theorem Za3 {t:List NodeD}(h:∀x,x<t.length->Em t x=true):Oa t=true:=List.all_eq_true.2 fun x hx=>h x (List.mem_range.1 hx)
theorem Qa {t:List NodeD}(h:Oa t=true):∀x,x<t.length->Em t x=true:=fun x hx=>List.all_eq_true.1 h x (List.mem_range.2 hx)
theorem Zc8 {t:List NodeD} {x:Nat}(hx:x<t.length)(h:Em t x=false):Oa t=false:=by
 cases hb:Oa t with
 |false=>rfl
 |true=>rw[Qa hb x hx]at h;cases h
theorem Zkf (t:List NodeD)(k i:Nat):nd (t.drop k) i=nd t (k+i):=by
 unfold nd;rw[aS,List.getElem?_drop,aS]
theorem TreeR.drop {w:World} {b a n c:Nat} {t:List NodeD}(h:TreeR w (rC (some ⟨b,a,rI⟩) n c) t)(k:Nat)(hk:k<=n) {g n' f:Nat}(o:g=a+k*10)(d:n'=n-k)(j:f=c-k):TreeR w (rC (some ⟨b,g,rI⟩) n' f) (t.drop k):=by
 obtain⟨q,cap,e,h1,h2,h3⟩:=h;simp only[Value.slice.injEq]at e;obtain⟨rfl,rfl,rfl⟩:=e;subst o d j;refine⟨_,_,by rw[dZ],by rw[dZ];omega,by omega,fun i l=> ?_⟩;rw[dZ]at l;obtain⟨r,off',cs,e,m,d,p⟩:=h3 (k+i) (by omega);simp only[Option.some.injEq,Addr.mk.injEq,and_true]at e;obtain⟨rfl,rfl⟩:=e;refine⟨b,a+k*10,cs,rfl,m,by rw[Zkf];exact d,?_⟩;rw[show a+k*10+i*10=a+(k+i)*10 by omega];exact p
theorem Qb (v:Value)(t:List NodeD)(w:World)(h:TreeR w v t)(V:Zcv t=true)(F:TreeOk t):
  Calls prog 188 #[v] w fun e w'=>e=rK (.bool (Fy t))/\Below w.heap.size w w':=by
 obtain⟨a,c,rfl,hc,aJ⟩:=h.sl;have K:=Rq V;have G:=fun(W:World)=>Jg a t.length c W (by omega);have M:=fun(W:World) (U:Below w.heap.size w W)=>Zaz (.slice a t.length c) t W (h.below U lR) V F;have SM:=fun(W:World) (U:Below w.heap.size w W)=>Tu (.slice a t.length c) t W (h.below U lR) F;obtain⟨R,hR⟩:=eX (Fy t);have j:R=(decide (Be t.length≠0)&&(Ci t&&(Zhe t&&Oa t))):=(by rw[hR,Fy]);rw[<-hR]
 by_cases h0:Be t.length=0
 ·rw[h0]at G;have l:=Hd (show R=false by rw[j,h0];rfl);obtain⟨n,P⟩:=eX t.length;rw[<-P]at G|-;have o:=Hd G;clear G M SM j hR h0 h V F P hc K;go_in;go_wp2_with fail;refine(o.out w).mono ?_;rintro e w' ⟨rfl,rfl⟩;go_wp2_with fail;go_ret;exact⟨Do l.out,bR⟩
 ·obtain⟨d,hd,hN,hl⟩:=Jf h0;rw[dT h0,dL]at j;cases hp:Ci t with
  |false=>
   rw[hp]at M j;have l:=Hd (show R=false by rw[j,dP]);obtain⟨N,J⟩:=eX (Be t.length);rw[<-J]at G h0;obtain⟨n,P⟩:=eX t.length;rw[<-P]at G M|-;have hq:((N:Int)==0)=false:=(by rw[qN];omega);have o:=Hd G;have D:=Hd (M w bR);clear G M SM j hR h0 h V F P hc K hl hN J;go_in;go_wp2_with fail;refine(o.out w).mono ?_;rintro e w' ⟨rfl,rfl⟩;go_wp2_with fail;refine(D.out).mono ?_;rintro e H ⟨rfl,f⟩;have g:=Hd f;clear f;go_wp2_with fail;go_ret;exact⟨Do l.out,g.out⟩
  |true=>
   rw[hp]at M j;rw[dL]at j;have LT:=fun(x:Nat) (hx:x<t.length) (W:World) (U:Below w.heap.size w W)=>Zhc (.slice a t.length c) t x d W (h.below U lR) V hp hd hl hx;have L1:=fun(hh:∀x,x<t.length->Em t x=true)=>Za3 hh;have L2:=fun(x:Nat) (hx:x<t.length) (hh:Em t x=false)=>Zc8 hx hh;have aN:t.length≠0:=(by have:=pow_pos' d;omega);obtain⟨b,aG,aI,rfl,_,_,_⟩:=h.node (i:=0) (by omega);have aD:Be t.length<=t.length:=(by rw[hN];have:=pow_pos' d;omega);have SD:=fun(W:World) (U:Below w.heap.size w W)=>Tu (rC (some ⟨b,aG+Be t.length*10,rI⟩) (t.length-Be t.length) (c-Be t.length)) (t.drop (Be t.length)) W ((h.below U lR).drop _ aD rfl rfl rfl) (fun d hd=>F d (List.mem_of_mem_drop hd));have O:Zhe t=if Be t.length=1 then Gt t else Gt (t.drop (Be t.length)):=rfl;have aE:2*Be t.length=t.length+1:=(by rw[hN];omega);obtain⟨N,J⟩:=eX (Be t.length);rw[<-J]at G h0 SD O aE;obtain⟨n,P⟩:=eX t.length;rw[<-P]at G M SM LT L1 L2 SD aE hc K|-;obtain⟨sb,Q⟩:∃b,b=Zhe t:=⟨_,rfl⟩;rw[<-Q]at j O;obtain⟨lb,aF⟩:=eX (Oa t);rw[<-aF]at j L1 L2;have hq:((N:Int)==0)=false:=(by rw[qN];omega);have o:=Hd G;have D:=Hd (M w bR);have aC:=Hd SM;have aB:=Hd SD;have Z:=Hd LT;have X:=Hd L1;have Y:=Hd L2;have E:=Hd j;have aA:=Hd O;have aO:n<=c:=hc;clear G M SM SD LT L1 L2 j O hR h V F P hl hN J Q aF hp hd aD hc
   by_cases hN1:N=1
   ·have I:=Hd (show sb=Gt t by rw[aA.out,iP hN1]);subst hN1;cases hsm:Gt t with
    |false=>
     have B:=Hd hsm;have l:=Hd (show R=false by rw[E.out,I.out,hsm,dP]);clear hsm;go_in;go_wp2_with fail;refine(o.out w).mono ?_;rintro e w' ⟨rfl,rfl⟩;go_wp2_with fail;refine(D.out).mono ?_;rintro e H ⟨rfl,f⟩;have g:=Hd f;have s:=aC.out H f;rw[B.out]at s;have z:=Hd s;clear f s;go_wp2_with fail;refine(z.out).mono ?_;rintro e w4 ⟨rfl,f⟩;have y:=Hd (g.out.trans (f.mono g.out.size));clear f;go_wp2_with fail;go_ret;exact⟨Do l.out,y.out⟩
    |true=>
     have B:=Hd hsm;have T:=Hd (show sb=true by rw[I.out,hsm]);clear hsm;go_in;go_wp2_with fail;refine(o.out w).mono ?_;rintro e w' ⟨rfl,rfl⟩;go_wp2_with fail;refine(D.out).mono ?_;rintro e H ⟨rfl,f⟩;have g:=Hd f;have s:=aC.out H f;rw[B.out]at s;have z:=Hd s;clear f s;go_wp2_with fail;refine(z.out).mono ?_;rintro e w4 ⟨rfl,f⟩;have y:=Hd (g.out.trans (f.mono g.out.size));clear f;go_wp2_with fail
     go_loopg [36] n (fun q iv wr=>∃r:Nat,r+q=n/\iv=rD rF (r:Nat)/\(∀i,i<r->Em t i=true)/\Below w'.heap.size w' wr)
     case atStart=>exact⟨0,by omega,rfl,fun i hi=>by omega,y.out⟩
     case round=>
      obtain⟨r,hr,rfl,p,f⟩:=hrel;have S:=Hd hr;have m:=Hd p;have g:=Hd f;clear hr p f
      by_cases hlt:r<n
      ·have L:decide (r<n)=true:=dT hlt;have C:=Z.out r hlt wr g.out;cases hk:Em t r with
       |true=>
        rw[hk]at C;have A:=Hd C;have l:=Hd hk;clear C hk;go_wp2_with fail;refine(A.out).mono ?_;rintro e H ⟨rfl,k⟩;have u:=Hd (g.out.trans (k.mono g.out.size));clear k;go_wp2_with fail;go_roundg (gk-1);case measure=>have:=S.out;omega
        case rel=>
         refine⟨r+1,by have:=S.out;omega,by go_num,fun i hi=> ?_,u.out⟩
         by_cases e:i=r
         ·rw[e];exact l.out
         ·exact m.out i (by omega)
       |false=>
        rw[hk]at C;have A:=Hd C;have l:=Hd (show R=false by rw[E.out,Y.out r hlt hk,eB]);clear C hk;go_wp2_with fail;refine(A.out).mono ?_;rintro e H ⟨rfl,k⟩;have u:=Hd (g.out.trans (k.mono g.out.size));clear k;go_wp2_with fail;go_ret;exact⟨Do l.out,u.out⟩
      ·obtain rfl:r=n:=(by have:=S.out;omega);have L:decide (r<r)=false:=dF hlt;have l:=Hd (show R=true by rw[E.out,X.out m.out,T.out];rfl);go_wp2_with fail;go_ret;exact⟨Do l.out,g.out⟩
   ·have I:=Hd (show sb=Gt (t.drop N) by rw[aA.out,iN hN1]);have aP:((N:Int)==1)=false:=(by rw[qN];omega);have aL:decide ((N:Int)>1)=true:=(by rw[dI];omega);have aM:decide ((1:Int)<(N:Int))=true:=(by rw[dI];omega);have aH:N<=n:=(by omega);have aK:c≠N:=(by omega);cases hsm:Gt (t.drop N)with
    |false=>
     have B:=Hd hsm;have l:=Hd (show R=false by rw[E.out,I.out,hsm,dP]);clear hsm;go_in;go_wp2_with fail;refine(o.out w).mono ?_;rintro e w' ⟨rfl,rfl⟩;go_wp2_with fail;refine(D.out).mono ?_;rintro e H ⟨rfl,f⟩;have g:=Hd f;have s:=aB.out H f;rw[B.out]at s;have z:=Hd s;clear f s;go_wp2_with fail;refine(z.out).mono ?_;rintro e w4 ⟨rfl,f⟩;have y:=Hd (g.out.trans (f.mono g.out.size));clear f;go_wp2_with fail;go_ret;exact⟨Do l.out,y.out⟩
    |true=>
     have B:=Hd hsm;have T:=Hd (show sb=true by rw[I.out,hsm]);clear hsm;go_in;go_wp2_with fail;refine(o.out w).mono ?_;rintro e w' ⟨rfl,rfl⟩;go_wp2_with fail;refine(D.out).mono ?_;rintro e H ⟨rfl,f⟩;have g:=Hd f;have s:=aB.out H f;rw[B.out]at s;have z:=Hd s;clear f s;go_wp2_with fail;refine(z.out).mono ?_;rintro e w4 ⟨rfl,f⟩;have y:=Hd (g.out.trans (f.mono g.out.size));clear f;go_wp2_with fail
     go_loopg [36] n (fun q iv wr=>∃r:Nat,r+q=n/\iv=rD rF (r:Nat)/\(∀i,i<r->Em t i=true)/\Below w'.heap.size w' wr)
     case atStart=>exact⟨0,by omega,rfl,fun i hi=>by omega,y.out⟩
     case round=>
      obtain⟨r,hr,rfl,p,f⟩:=hrel;have S:=Hd hr;have m:=Hd p;have g:=Hd f;clear hr p f
      by_cases hlt:r<n
      ·have L:decide (r<n)=true:=dT hlt;have C:=Z.out r hlt wr g.out;cases hk:Em t r with
       |true=>
        rw[hk]at C;have A:=Hd C;have l:=Hd hk;clear C hk;go_wp2_with fail;refine(A.out).mono ?_;rintro e H ⟨rfl,k⟩;have u:=Hd (g.out.trans (k.mono g.out.size));clear k;go_wp2_with fail;go_roundg (gk-1);case measure=>have:=S.out;omega
        case rel=>
         refine⟨r+1,by have:=S.out;omega,by go_num,fun i hi=> ?_,u.out⟩
         by_cases e:i=r
         ·rw[e];exact l.out
         ·exact m.out i (by omega)
       |false=>
        rw[hk]at C;have A:=Hd C;have l:=Hd (show R=false by rw[E.out,Y.out r hlt hk,eB]);clear C hk;go_wp2_with fail;refine(A.out).mono ?_;rintro e H ⟨rfl,k⟩;have u:=Hd (g.out.trans (k.mono g.out.size));clear k;go_wp2_with fail;go_ret;exact⟨Do l.out,u.out⟩
      ·obtain rfl:r=n:=(by have:=S.out;omega);have L:decide (r<r)=false:=dF hlt;have l:=Hd (show R=true by rw[E.out,X.out m.out,T.out];rfl);go_wp2_with fail;go_ret;exact⟨Do l.out,g.out⟩
theorem Za4 (v:Value)(t:List NodeD)(w:World)(h:TreeR w v t)(hs:El t=true)(hok:TreeOk t):
  Calls prog 188 #[v] w fun e w'=>e=rK (.bool (Fy t))/\Below w.heap.size w w':=
 Qb v t w h (Pv hs) hok
theorem kids_lev {x k:Nat}(hx:x<=131070)(h:IsLev x (k+1)):Dt (x:Int)=((x-2^k:Nat):Int)/\Cb (x:Int)=((x+2^k:Nat):Int)/\IsLev (x-2^k) k/\IsLev (x+2^k) k/\2^k<=x:=by
 have d:=lev_eq hx h;have f:Mh (x:Int)=((k+1:Nat):Int):=by
  rw[Mh,iP (by unfold Bk;rw[dI];omega),cV,d]
 have g:0<2^k:=bH (by simp);have b:Dw (x:Int)=((2^k:Nat):Int):=by
  rw[Dw,f,iP (by omega),show(((k+1:Nat):Int)-1).toNat=k by omega,Int.natCast_pow];rfl
 unfold IsLev at h|-;have e1:2^(k+1)=2*2^k:=(by rw[bF];omega);have e2:2^(k+1+1)=4*2^k:=(by rw[bF,e1];omega);rw[e2,e1]at h;rw[e1];have c:=bM x (4*2^k);rw[h]at c;have a:2^k<=x:=(by omega);refine⟨?_,?_,?_,?_,a⟩
 ·rw[Dt,b,iN (by omega)];omega
 ·rw[Cb,b,iN (by omega)];omega
 ·have e:x-2^k=2*2^k*(2*(x/(4*2^k)))+(2^k-1):=by
   have:2*2^k*(2*(x/(4*2^k)))=4*2^k*(x/(4*2^k)):=(by rw[bW,<-bY,<-bY]);omega
  rw[e,eJ];exact bK (by omega)
 ·have e:x+2^k=2*2^k*(2*(x/(4*2^k))+1)+(2^k-1):=by
   have:2*2^k*(2*(x/(4*2^k))+1)=4*2^k*(x/(4*2^k))+2*2^k:=(by rw[Nat.mul_add,Nat.mul_one,bW,<-bY,<-bY]);omega
  rw[e,eJ];exact bK (by omega)
theorem Gu {x:Nat}(h:IsLev x 0):x%2=0:=by unfold IsLev at h;simpa using h
theorem Gv {x k:Nat}(h:IsLev x (k+1)):x%2=1:=by
 unfold IsLev at h;have e2:2^(k+1+1)=2*2^(k+1):=(by rw[bF];omega);have e1:2^(k+1)=2*2^k:=(by rw[bF];omega);have hp:0<2^k:=bH (by simp);have:=eH x (show 2∣2^(k+1+1)from⟨2^(k+1),e2⟩);rw[h]at this;omega
theorem Yk {x d:Nat}(hx:x+1<2^(d+1))(i:d<=16):x+2^lev x+1<=2^(d+1):=by
 have f:2^(d+1)<=2^17:=Nat.pow_le_pow_right (by omega) (by omega);have b:x<=131070:=(by have:(2:Nat)^17=131072:=rfl;omega);have c:=lev_is b;have a:=(lev_root hx c).1;have h:=phi_le (x:=x) (d:=d) (by omega) a;have g:=anc_self c;rw[anc_plo]at g;have e:phi x (lev x)=plo x (lev x)+(2^(lev x+1)-2):=rfl;have e1:2^(lev x+1)=2*2^lev x:=(by rw[bF];omega);have j:0<2^lev x:=bH (by simp);omega
open WireM
end Go.Proofs.YtfofaiommeckbaaGreat
namespace Go.Proofs.YtfofaiommeckbaaGreat
open Go.RowKit WalkM
theorem Ob (x n:Int)(w:World)(h1: -9223372036854775808<=n)(h2:n<=9223372036854775807):
  Calls prog 46 #[rD rF x,rD rF n] w fun e w'=>∃v,e=rK v/\Own w' w.heap.size 3 v (nvs (Pg x n))/\Below w.heap.size w w':=by
 by_cases ho:Kw x n=true
 ·obtain⟨m,d,rfl,rfl,Q,z⟩:=Mu ho;have D:=fun w=>Rm m d Q z w;have I:=As (show d+1<=17 by omega);have T:=(lev_root z (lev_is (x:=m) (by omega))).1;rw[Rl Q z];have y:=Ny m d (d-lev m+1);obtain⟨l,t⟩:∃l,l=lev m:=⟨_,rfl⟩;rw[<-t]at D T y|-;obtain⟨k,hk⟩:=eX (d-l);rw[<-hk]at D y|-;have S:k<=16:=(by omega);have s:d=l+k:=(by omega);have E:=Hd s;have C:=Hd D;have W:=Hd y;clear D y hk T t ho z I h1 h2 s;go_in;go_wp2_with fail;refine(C.out _).mono ?_;rintro e u ⟨v,rfl,b,O⟩;obtain⟨g,cap,rfl,hg,L,hn,Z,P,-⟩:=b.out (by omega);have V:=Hd P;have A:=Hd O;clear P b O;go_wp2_with fail
  go_loopg [6,7] k (fun q out i wr=>∃r:Nat,r+q=k/\i=rD rF ((k:Int)-1-r)/\Own wr u.heap.size 3 out (nvs (ups m l r))/\Below u.heap.size u wr)
  case atStart=>
   refine⟨0,by omega,Gk ?_,Own.nil _ _ _,bR⟩;omega
  case round=>
   obtain⟨r,hr,rfl,b,h⟩:=hrel;have N:=Hd b;have f:=Hd h;have M:=h.size;clear b h
   by_cases hrk:r<k
   ·obtain⟨j,R⟩:∃j,k=r+1+j:=⟨k-r-1,by omega⟩;have H:(k:Int)-1-r=(j:Int):=(by omega);rw[H];have G:=V.out _ _ (W.out j (by omega));rw[<-f.out.cell (p:=⟨g,j*3,rI⟩) L]at G;rw[show d-j=l+r+1 by have:=E.out;omega]at G;obtain⟨a,J⟩:=eX (anc m (l+r+1));rw[<-J]at G;have U:=Hd J;have Y:j<k+1:=(by omega);have EJ:=Hd H;have X:=Hd R;clear J H R;go_wp2_with (at_builtin;refine An rfl (.tmp 18) (.tmp 24) 48 rfl u.heap.size 3 _ 8 Cg _ _ rfl (N.out.alloc _) ⟨wr.heap.size,0,rI⟩ (rD rF (a:Int)) rfl ?c1 rfl ?c2 ?c3 ?_);case c1=>exact Aq rfl
    case c2=>rw[Ld,Rk];omega
    case c3=>simp;omega
    rintro v' w2 c-o;have F:=Hd c;have B:=Hd o;clear c o;go_wp2_with fail;go_roundg (gk-1);case measure=>omega
    case rel=>
     refine⟨r+1,by omega,Gk ?_,?_,?_⟩
     ·have:=X.out;omega
     ·rw[Yg,Yh,<-U.out];exact F.out
     ·exact(f.out.alloc M _).trans B.out
   ·obtain rfl:r=k:=(by omega);go_wp2_with fail;go_ret;exact⟨_,rfl,N.out.mono A.out.size,A.out.trans (f.out.mono A.out.size)⟩
 ·have K:Kw x n=false:=(by rw[<-cX];exact ho);rw[Zcp K];have C:=Hd (fun w=>Mv x n w h1 h2 K);clear K ho h1 h2;go_in;go_wp2_with fail;refine(C.out _).mono ?_;rintro e u ⟨rfl,rfl⟩;go_wp2_with fail
  go_loopg [6,7] 0 (fun q out i wr=>i=rD rF (-2)/\out=rC rI 0 0/\wr=w)
  case atStart=>exact⟨rfl,rfl,rfl⟩
  case round=>
   obtain⟨rfl,rfl,rfl⟩:=hrel;go_wp2_with fail;go_ret;exact⟨_,rfl,Own.nil _ _ _,bR⟩
def Zhf (x:Nat)(n:Int)(l r:Nat):List Int:=(aN r).map fun j=>Zjd (anc x (l+j):Nat) n
theorem Yl (x:Nat)(n:Int)(l r:Nat):(Zhf x n l r).length=r:=by simp[Zhf]
theorem Zc9 (x:Nat)(n:Int)(l r:Nat):Zhf x n l (r+1)=Zhf x n l r++[Zjd (anc x (l+r):Nat) n]:=by
 unfold Zhf;rw[List.range_succ,List.map_append]
 rfl
theorem Rr (k:IntKind)(L:List Int)(x:Int):ivs k (L++[x])=ivs k L++[.int k x]:=by simp[ivs]
theorem Zkg (k:IntKind)(L:List Int):(ivs k L).length=L.length:=by simp[ivs]
def Zhg (x n:Int):List Int:=if Kw x n=true then Zhf x.toNat n (lev x.toNat) (Nat.log2 n.toNat-lev x.toNat)else []
theorem Wi {x d:Nat}(hd:d<=16)(hx:x+1<2^(d+1)):Zhg (x:Int) ((2^d:Nat):Int)=Zhf x ((2^d:Nat):Int) (lev x) (d-lev x):=by
 rw[Zhg,iP (by rw[Rj hd,dT hx]),cV,cV,Nat.log2_two_pow]
theorem Zhh {x n:Int}(h:Kw x n=false):Zhg x n=[]:=by rw[Zhg,iN (by rw[h];simp)]
theorem Wj (x n:Int)(w:World)(h1: -9223372036854775808<=n)(h2:n<=9223372036854775807):
  Calls prog 47 #[rD rF x,rD rF n] w fun e w'=>∃v,e=rK v/\Own w' w.heap.size 3 v (ivs .i64 (Zhg x n))/\Below w.heap.size w w':=by
 by_cases ho:Kw x n=true
 ·obtain⟨m,d,rfl,rfl,hd,G⟩:=Mu ho;have D:=fun w=>Rm m d hd G w;have R:=As (show d+1<=17 by omega);have hl:=(lev_root G (lev_is (x:=m) (by omega))).1;rw[Wi hd G];have E:=Ny m d (d-lev m+1);have S:=fun(y:Int) w=>Zha y ((2^d:Nat):Int) w h1 h2;obtain⟨n,W⟩:=eX (2^d);rw[<-W]at S D|-;obtain⟨l,A⟩:∃l,l=lev m:=⟨_,rfl⟩;rw[<-A]at D hl E|-;obtain⟨k,hk⟩:=eX (d-l);rw[<-hk]at D E|-;have aA:k<=16:=(by omega);have z:d=l+k:=(by omega);have K:=Hd z;have J:=Hd D;have HG:=Hd E;have HS:=Hd S;clear D E hk hl A ho G R h1 h2 z S W;go_in;go_wp2_with fail;refine(J.out _).mono ?_;rintro e C ⟨v,rfl,b,hb⟩;obtain⟨g,cap,rfl,hg,V,W,aC,hc,-⟩:=b.out (by omega);have HC:=Hd hc;have H:=Hd hb;clear hc b hb;go_wp2_with fail
  go_loopg [6,7] k (fun q out i wr=>∃r:Nat,r+q=k/\i=rD rF ((k:Int)-r)/\Own wr C.heap.size 3 out (ivs .i64 (Zhf m n l r))/\Below C.heap.size C wr)
  case atStart=>
   refine⟨0,by omega,Gk ?_,Own.nil _ _ _,bR⟩;omega
  case round=>
   obtain⟨r,hr,rfl,b,h⟩:=hrel;have Z:=Hd b;have f:=Hd h;have Y:=h.size;clear b h
   by_cases hrk:r<k
   ·obtain⟨j,hj⟩:∃j,k=r+1+j:=⟨k-r-1,by omega⟩;have Q:(k:Int)-r=(j:Int)+1:=(by omega);rw[Q];have P:=HC.out _ _ (HG.out (j+1) (by omega));rw[<-f.out.cell (p:=⟨g,(j+1)*3,rI⟩) V]at P;rw[show d-(j+1)=l+r by have:=K.out;omega]at P;have F:=HS.out (anc m (l+r):Nat);obtain⟨a,T⟩:=eX (anc m (l+r));rw[<-T]at P F;obtain⟨s,X⟩:=eX (Zjd (a:Int) n);rw[<-X]at F;have aB:j+1<k+1:=(by omega);have N:=Hd F;have HA:=Hd T;have O:=Hd X;have EJ:=Hd Q;have HJ:=Hd hj;clear T Q hj F X;go_wp2_with fail;refine(N.out _).mono ?_;rintro e w2 ⟨rfl,o⟩;have t:=Hd (f.out.trans (o.mono Y));have L:=Hd (Z.out.below o lR);have B:=t.out.size;clear o;go_wp2_with (at_builtin;refine An rfl (.tmp 18) (.tmp 26) 48 rfl C.heap.size 3 _ 8 Cg _ _ rfl (L.out.alloc _) ⟨w2.heap.size,0,rI⟩ (rD rF s) rfl ?c1 rfl ?c2 ?c3 ?_);case c1=>exact Aq rfl
    case c2=>rw[Zkg,Yl];omega
    case c3=>simp;omega
    rintro v' w3 c-u;have M:=Hd c;have I:=Hd u;clear c u;go_wp2_with fail;go_roundg (gk-1);case measure=>omega
    case rel=>
     refine⟨r+1,by omega,Gk ?_,?_,?_⟩
     ·have:=HJ.out;omega
     ·rw[Zc9,Rr,<-HA.out,<-O.out];exact M.out
     ·exact(t.out.alloc B _).trans I.out
   ·obtain rfl:r=k:=(by omega);go_wp2_with fail;go_ret;exact⟨_,rfl,Z.out.mono H.out.size,H.out.trans (f.out.mono H.out.size)⟩
 ·have U:Kw x n=false:=(by rw[<-cX];exact ho);rw[Zhh U];have J:=Hd (fun w=>Mv x n w h1 h2 U);clear U ho h1 h2;go_in;go_wp2_with fail;refine(J.out _).mono ?_;rintro e C ⟨rfl,rfl⟩;go_wp2_with fail
  go_loopg [6,7] 0 (fun q out i wr=>i=rD rF (-1)/\out=rC rI 0 0/\wr=w)
  case atStart=>exact⟨rfl,rfl,rfl⟩
  case round=>
   obtain⟨rfl,rfl,rfl⟩:=hrel;go_wp2_with fail;go_ret;exact⟨_,rfl,Own.nil _ _ _,bR⟩
open WireM
def Pj (t:List NodeD)(m:Nat):List Int:=((aN m).filter fun i=>(nd t (2*i)).kind==1).map fun i=>((i:Nat):Int)
theorem mem_iff (t:List NodeD)(m:Nat)(i:Nat):((i:Nat):Int)∈Pj t m↔i<m/\(nd t (2*i)).kind=1:=by
 unfold Pj;simp only[eA,aO,dY,beq_iff_eq];constructor
 ·rintro⟨j,⟨h1,h2⟩,e⟩;have:j=i:=(by omega);subst this;exact⟨h1,h2⟩
 ·rintro⟨h1,h2⟩;exact⟨i,⟨h1,h2⟩,rfl⟩
theorem Zkh (t:List NodeD)(m:Nat) {i:Int}(h:i<0):i∉Pj t m:=by
 unfold Pj;simp only[eA,aO,dY];rintro⟨j,_,e⟩;omega
def inR (k x y:Nat):Prop:=x+1<=y+2^k/\y<x+2^k
instance decInR (k x y:Nat):Decidable (inR k x y):=inferInstanceAs (Decidable (_/\_))
theorem Wk {x y k:Nat}(hx:x<=131070)(d:y<=131070)(b:IsLev x k):Bv (y:Int) (x:Int)=true↔inR k x y:=by
 have a:=lev_eq hx b;rw[Wf d hx,a,dI];have c:=anc_self b;rw[anc_plo]at c;have e:phi x k=plo x k+(2^(k+1)-2):=rfl;have e1:2^(k+1)=2*2^k:=(by rw[bF];omega);have f:0<2^k:=bH (by simp);unfold inR;omega
theorem Znc (m x:Nat):Bv (2*(m:Int)) (x:Int)=Bv ((2*m:Nat):Int) (x:Int):=by rw[Int.natCast_mul];rfl
end Go.Proofs.YtfofaiommeckbaaGreat
namespace Go.Proofs.YtfofaiommeckbaaGreat
open Go.RowKit WalkM
