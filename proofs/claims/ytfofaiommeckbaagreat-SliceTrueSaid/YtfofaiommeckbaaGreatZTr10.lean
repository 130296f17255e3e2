import Derived.Test.YtfofaiommeckbaaGreatZTr09
import Derived.Deep.MidRow
import Derived.IntWalk
open Go.Obj renaming cells -> rK
open Go.Ending renaming returned -> rM
open Go.Value renaming slice -> rD, int -> rE, pointer -> rF
open Go.IntKind renaming i64 -> rG, u8 -> rH
open Option renaming none -> rJ
open Go.Proofs.Tryz
open List renaming getD_eq_getElem?_getD -> aE, getElem?_eq_getElem -> aF, getElem_mem -> aG, getElem?_eq_none -> aH, getElem_of_mem -> eA, any_eq_true -> cH, range -> aC, all_eq_true -> eB, getElem?_toArray -> bY, getElem?_cons_zero -> bZ, mem_range -> eC, length_drop -> eD, length_cons -> dB, length_map -> eE, map_append -> eG, range_succ -> eH, filter_append -> eI, mem_map -> dY, mem_filter -> cG
open Bool renaming and_eq_true -> cK, false_and -> dQ, not_eq_true -> cF, true_and -> dM, and_false -> eJ, or_eq_true -> cL
open Array renaming length_toList -> eK
open Int renaming toNat_natCast -> cD, tmod -> eL, tmod_eq_emod_of_nonneg -> eM
open Nat renaming le_trans -> eN, pow_le_pow_right -> aZ, pow_succ -> aN, eq_zero_or_pos -> eQ, lt_or_ge -> aJ, le_refl -> eR, div_add_mod -> aV, mod_mod_of_dvd -> eT, pow_dvd_pow -> eU, mul_comm -> aU, pos_of_ne_zero -> aQ, mul_left_comm -> bD, mul_assoc -> bE, mul_add_mod -> eV, mod_eq_of_lt -> aT
set_option linter.unusedVariables false
set_option maxRecDepth 100000
set_option maxHeartbeats 40000000
namespace Go.Proofs.YtfofaiommeckbaaGreat
open Go.RowKit
theorem Eb {a b:Bool}(h:a=b):Ending.returned (.bool b)=rM (.bool a):=by rw[h]
theorem Zml {k:IntKind} {a b:Int}(h:a=b):Ending.returned (.int k b)=rM (.int k a):=by rw[h]
def nd (t:List NodeD)(i:Nat):NodeD:=t.getD i Ap
def TreeR (w:World)(v:Value)(t:List NodeD):Prop:=
 ∃a cap,v=.slice a t.length cap/\t.length<=cap/\cap<=maxLen/\∀i,i<t.length->∃b off c,a=some ⟨b,off,rJ⟩/\b<w.heap.size/\NodeC w (nd t i) c/\w.rangeAt b (off+i*10) c.toList
theorem Am {w w':World} {B b o:Nat} {cs:List Value}(h:w.rangeAt b o cs)(hb:Below B w w')(hB:b<B):w'.rangeAt b o cs:=by
 intro j u hu;exact(hb.cell (p:=⟨b,o+j,rJ⟩) hB).trans (h j u hu)
theorem TreeR.below {w w':World} {B:Nat} {v:Value} {t:List NodeD}(h:TreeR w v t)(d:Below B w w')(j:w.heap.size<=B):TreeR w' v t:=by
 obtain⟨a,cap,e,g,h2,h3⟩:=h;refine⟨a,cap,e,g,h2,fun i k=> ?_⟩;obtain⟨b,f,c,e,l,m,n⟩:=h3 i k;exact⟨b,f,c,e,Nat.lt_of_lt_of_le l d.size,m.below d j,Am n d (by omega)⟩
theorem TreeR.nil (w:World):TreeR w (rD rJ 0 0) []:=⟨none,0,rfl,lR,Nat.zero_le _,fun i hi=>absurd hi (by simp)⟩
theorem TreeR.sl {w:World} {v:Value} {t:List NodeD}(h:TreeR w v t):∃a c,v=.slice a t.length c/\t.length<=c/\c<=9223372036854775807:=by
 obtain⟨a,cap,e,h1,h2,_⟩:=h;unfold maxLen at h2;exact⟨a,cap,e,h1,h2⟩
theorem TreeR.node {w:World} {a:Option Addr} {n c:Nat} {t:List NodeD}(h:TreeR w (rD a n c) t) {i:Nat}(d:i<n):∃b off cs,a=some ⟨b,off,rJ⟩/\b<w.heap.size/\NodeC w (nd t i) cs/\w.rangeAt b (off+i*10) cs.toList:=by
 obtain⟨f,cap,e,g,h2,h3⟩:=h;simp only[Value.slice.injEq]at e;obtain⟨rfl,rfl,rfl⟩:=e;exact h3 i d
theorem NodeC.size {w:World} {d:NodeD} {c:Array Value}(h:NodeC w d c):c.size=10:=by
 obtain⟨a1,c1,a2,c2,a3,c3,a4,c4,a5,c5,b1,e1,b2,e2,b3,e3,rfl,_⟩:=h;rfl
theorem NodeC.kind {w:World} {d:NodeD} {c:Array Value}(h:NodeC w d c):c.toList[0]? =some (rE rH (d.kind:Nat)):=by
 obtain⟨a1,c1,a2,c2,a3,c3,a4,c4,a5,c5,b1,e1,b2,e2,b3,e3,rfl,_⟩:=h;rfl
theorem NodeC.late {w:World} {d:NodeD} {c:Array Value}(h:NodeC w d c):∃b e,c.toList[9]? =some (.slice b d.par.late.length e)/\Rd w (.slice b d.par.late.length e) (ivs .i64 d.par.late):=by
 obtain⟨a1,c1,a2,c2,a3,c3,a4,c4,a5,c5,b1,e1,b2,e2,b3,e3,rfl,h1,h2,h3,h4,h5,h6,h7,h8⟩:=h;exact⟨b3,e3,rfl,h8⟩
theorem NodeC.one {w:World} {d:NodeD} {c:Array Value}(h:NodeC w d c):c.all (·.oneCell')=true:=by
 obtain⟨a1,c1,a2,c2,a3,c3,a4,c4,a5,c5,b1,e1,b2,e2,b3,e3,rfl,h1,h2,h3,h4,h5,h6,h7,h8⟩:=h;rw[<-Array.all_toList];rfl
def TreeOk (t:List NodeD):Prop:=∀d∈t,NodeOk d
theorem TreeOk.nd {t:List NodeD}(h:TreeOk t)(i:Nat):NodeOk (nd t i):=by
 unfold Go.Proofs.YtfofaiommeckbaaGreat.nd;rw[aE]
 by_cases hi:i<t.length
 ·rw[aF hi];exact h _ (aG hi)
 ·rw[aH (by omega)];exact Gh
def Bc (t:List NodeD):Bool:=decide (t.length<=40)&&t.all exB
theorem Bb {t:List NodeD}(h:Bc t=true):t.length<=40:=by
 rw[Bc,cK]at h;exact oD h.1
theorem Nl:Cb Ap=true:=by decide
theorem Zka:exB Ap=true:=by decide
theorem Ee {t:List NodeD}(h:Bc t=true)(i:Nat):exB (nd t i)=true:=by
 rw[Bc,cK]at h;unfold Go.Proofs.YtfofaiommeckbaaGreat.nd;rw[aE]
 by_cases hi:i<t.length
 ·rw[aF hi];exact List.all_eq_true.1 h.2 _ (aG hi)
 ·rw[aH (by omega)];exact Zka
theorem Ct {t:List NodeD}(h:Bc t=true)(i:Nat):Cb (nd t i)=true:=Tg (Ee h i)
def Zdl (t:List NodeD):Bool:=decide (t.length<=63)&&t.all exB
theorem Rk {t:List NodeD}(h:Zdl t=true):t.length<=63:=by
 rw[Zdl,cK]at h;exact oD h.1
theorem Pk {t:List NodeD}(h:Bc t=true):Zdl t=true:=by
 rw[Bc,cK]at h;rw[Zdl,cK];exact⟨dT (by have:=oD h.1;omega),h.2⟩
theorem Wd {t:List NodeD}(h:Zdl t=true)(i:Nat):exB (nd t i)=true:=by
 rw[Zdl,cK]at h;unfold Go.Proofs.YtfofaiommeckbaaGreat.nd;rw[aE]
 by_cases hi:i<t.length
 ·rw[aF hi];exact List.all_eq_true.1 h.2 _ (aG hi)
 ·rw[aH (by omega)];exact Zka
theorem Zdm {t:List NodeD}(h:Zdl t=true)(i:Nat):Cb (nd t i)=true:=Tg (Wd h i)
theorem Zdn {t:List NodeD}(hl:t.length<=40)(h:∀i,i<t.length->exB (nd t i)=true):Bc t=true:=by
 rw[Bc,cK];refine⟨dT hl,List.all_eq_true.2 fun d hd=> ?_⟩;obtain⟨i,hi,rfl⟩:=eA hd;have:=h i hi;rw[nd,aE,aF hi]at this;exact this
theorem Zdo {t:List NodeD} {i:Nat}(hi:i<t.length)(h:exB (nd t i)=false):Bc t=false:=by
 cases hs:Bc t with
 |false=>rfl
 |true=>rw[Ee hs]at h;cases h
theorem Ai:(prog.info? 52).map (·.size)=some 10:=by kernel_rfl
theorem We (d:NodeD)(c:Array Value)(w:World)(h:NodeC w d c):
  Calls prog 57 #[.agg c] w fun e w'=>e=rM (.bool (exB d))/\Below w.heap.size w w':=by
 obtain⟨a,c1,b,c2,f,c3,g,c4,i,c5,j,m,k,e2,l,e3,rfl,n,h2,h3,o,p,q,r,s⟩:=h;exact Zdj a b f g i j k l d.kind d.leaf.source _ _ _ _ _ _ _ _ c1 c2 c3 c4 c5 m e2 e3 w
theorem Zbi (v:Value)(t:List NodeD)(w:World)(h:TreeR w v t):
  Calls prog 30 #[v] w fun e w'=>e=rM (.bool (Bc t))/\Below w.heap.size w w':=by
 obtain⟨a,c,rfl,V,X⟩:=h.sl;have M:=fun(i:Nat) (cs:Array Value) (W:World) (K:NodeC W (nd t i) cs)=>We (nd t i) cs W K;have D:=fun(W:World) (K:Below w.heap.size w W) (i:Nat) (z:i<t.length)=>(h.below K lR).node z;have G:=fun(J:t.length<=40) (h:∀i,i<t.length->exB (nd t i)=true)=>Zdn J h;have H:=fun(i:Nat) (z:i<t.length) (h:exB (nd t i)=false)=>Zdo z h;have I:=fun(J:¬t.length<=40)=>(show Bc t=false by rw[Bc,dF J,dQ]);obtain⟨n,Q⟩:=eX t.length;rw[<-Q]at D G H I V|-;have x:=Hd M;have E:=Hd D;have p:=Hd G;have s:=Hd H;have u:=Hd I;obtain⟨R,N⟩:=eX (Bc t);rw[<-N]at p s u|-;clear M D G H I h Q N
 by_cases h40:n<=40
 ·go_in;go_wp2_with fail
  go_loopg [3] n (fun q iv wr=>∃r:Nat,r+q=n/\iv=rE rG (r:Nat)/\(∀i,i<r->exB (nd t i)=true)/\Below w.heap.size w wr)
  case atStart=>exact⟨0,by omega,rfl,fun i z=>by omega,bR⟩
  case round=>
   obtain⟨r,S,rfl,B,O⟩:=hrel;have F:=Hd S;have L:=Hd B;have l:=Hd O;clear S B O
   by_cases hlt:r<n
   ·have A:decide (r<n)=true:=dT hlt;have P:decide ((r:Int)<(n:Int))=true:=(by rw[dI];omega);obtain⟨b,C,cs,rfl,U,g,k⟩:=E.out wr l.out r hlt;have o:=Hd k;have m:=Hd g;have y:=Hd g.size;cases hsb:exB (nd t r)with
    |true=>
     have d:=Hd hsb;clear hsb k g;go_wp2_with (refine wpList_load_mid rfl 52 (.tmp 15) rfl b (C+r*10) rfl cs.toList _ o.out underlying52 rfl (by rw[eK,y.out];exact Ai) ?_);refine(x.out r cs wr m.out).mono ?_;rintro e Y ⟨rfl,f⟩;have j:=Hd (l.out.trans (f.mono l.out.size));clear f;rw[d.out];go_wp2_with fail;go_roundg (gk-1);case measure=>have:=F.out;omega
     case rel=>
      refine⟨r+1,by have:=F.out;omega,by go_num,fun i z=> ?_,j.out⟩
      by_cases e:i=r
      ·rw[e];exact d.out
      ·exact L.out i (by omega)
    |false=>
     have d:=Hd hsb;clear hsb k g;go_wp2_with (refine wpList_load_mid rfl 52 (.tmp 15) rfl b (C+r*10) rfl cs.toList _ o.out underlying52 rfl (by rw[eK,y.out];exact Ai) ?_);refine(x.out r cs wr m.out).mono ?_;rintro e Y ⟨rfl,f⟩;have j:=Hd (l.out.trans (f.mono l.out.size));clear f;rw[d.out];go_wp2_with fail;go_ret;exact⟨Eb (s.out r hlt d.out),j.out⟩
   ·obtain rfl:r=n:=(by have:=F.out;omega);have A:decide (r<r)=false:=dF hlt;go_wp2_with fail;go_ret;exact⟨Eb (p.out h40 L.out),l.out⟩
 ·have T:40<n:=(by omega);clear h40;go_in;go_wp2_with fail;go_ret;exact⟨Eb (u.out (by omega)),bR⟩
open WalkM
theorem Dr {w:World} {B:Nat} {e:TypeId} {v:Value} {xs:List Value}(h:Own w B e v xs):∃a n c,v=.slice a n c:=by
 obtain⟨a,c,e,_⟩:=h.rd;exact⟨a,_,c,e⟩
theorem Rd.at3 {w:World} {a:Option Addr} {n cap r:Nat} {xs:List Value} {u:Value}(h:Rd w (rD a n cap) xs)(f:xs[r]? =some u):∃b c,a=some ⟨b,c,rJ⟩/\b<w.heap.size/\w.cell? ⟨b,c+r,rJ⟩=some u:=by
 rcases h.lt with d|⟨b,c,cap',g,e2⟩
 ·subst d;simp at f
 ·obtain⟨k,m,e,_,_,h3⟩:=h;rcases h3 with⟨d,_⟩|⟨l,off',i,j⟩
  ·subst d;simp at f
  ·simp only[Value.slice.injEq]at e g;obtain⟨rfl,_,_⟩:=e;obtain⟨rfl,_,_⟩:=g;simp only[Option.some.injEq,Addr.mk.injEq,and_true]at i;obtain⟨rfl,rfl⟩:=i;exact⟨b,c,rfl,e2,j r u f⟩
def Ao (n:Nat):Nat:=if n%2=1/\fits ((n+1)/2)=true then(n+1)/2 else 0
theorem Ch {n:Nat}(h:Ao n≠0):∃d,d<=16/\Ao n=2^d/\n+1=2*2^d:=by
 unfold Ao at h|-
 by_cases hc:n%2=1/\fits ((n+1)/2)=true
 ·rw[iP hc]at h|-;obtain⟨d,hd,e⟩:=(fits_iff _).1 hc.2;exact⟨d,hd,e,by rw[<-e];omega⟩
 ·rw[iN hc]at h;exact absurd rfl h
theorem Iy {n d:Nat}(hd:d<=16)(h:n+1=2*2^d):Ao n=2^d:=by
 have e:(n+1)/2=2^d:=(by omega);unfold Ao;rw[iP ⟨by omega,by rw[e];exact(fits_iff _).2 ⟨d,hd,rfl⟩⟩,e]
theorem Iz (a:Option Addr)(n c:Nat)(w:World)(s:n<=1000000):
  Calls prog 225 #[rD a n c] w fun e w'=>e=rM (rE rG (Ao n:Nat))/\w'=w:=by
 obtain⟨m,l⟩:=eX ((n+1)/2);have F:=Je (m:Int) w (by omega) (by omega);rw[cD]at F;have p:((n:Int)+1)/2=(m:Int):=(by omega);have e2:Int.tdiv ((n:Int)+1) 2=(m:Int):=(by rw[Int.tdiv_eq_ediv_of_nonneg (by omega)];omega);obtain⟨r,o⟩:=eX (n%2);have e3:(n:Int)%2=(r:Int):=(by omega);have q:eL (n:Int) 2=(r:Int):=(by rw[eM (by omega)];omega);have k:r=0\/r=1:=(by omega);obtain⟨L,j⟩:=eX (Ao n);have g:L=if r=1/\fits m=true then m else 0:=(by rw[j,Ao,<-l,<-o]);rw[<-j];have h:=Hd F;have i:=Hd g;clear F j g l o;rcases k with rfl|rfl
 ·go_in;go_wp2_with fail;go_ret;exact⟨Zml (by rw[i.out,iN (by omega)];rfl),rfl⟩
 ·cases hf:fits m with
  |true=>
   have f:=Hd hf;have b:=h.out;rw[hf]at b;have d:=Hd b;clear hf h b;go_in;go_wp2_with fail;refine(d.out).mono ?_;rintro e w' ⟨rfl,rfl⟩;go_wp2_with fail;go_ret;exact⟨Zml (by rw[i.out,iP ⟨by trivial,f.out⟩]),rfl⟩
  |false=>
   have f:=Hd hf;have b:=h.out;rw[hf]at b;have d:=Hd b;clear hf h b;go_in;go_wp2_with fail;refine(d.out).mono ?_;rintro e w' ⟨rfl,rfl⟩;go_wp2_with fail;go_ret;exact⟨Zml (by rw[i.out,iN (by rw[f.out];simp)];rfl),rfl⟩
theorem Wf {n:Nat}(h:∀d,d<=16->n+1≠2*2^d):Ao n=0:=by
 by_cases h0:Ao n=0
 ·exact h0
 ·obtain⟨d,hd,_,e⟩:=Ch h0;exact absurd e (h d hd)
theorem Wg (a:Option Addr)(n c:Nat)(w:World)(B:n<=1000000):
  Calls prog 81 #[rD a n c] w fun e w'=>e=rM (rE rG (Ao n:Nat))/\w'=w:=by
 have o:=fun(d:Nat) (f:d<=16) (h:n+1=2*2^d)=>Iy f h;have p:=fun(h:∀d,d<17->n+1≠2*2^d)=>Wf (n:=n) fun d f=>h d (by omega);obtain⟨L,u⟩:=eX (Ao n);rw[<-u]at o p|-;have v:=Hd o;have x:=Hd p;clear o p u;go_in;go_wp2_with fail
 go_loopg [3] 17 (fun q iv wr=>∃d m:Nat,d+q=17/\m=2^d/\iv=rE rG (m:Nat)/\(∀k,k<d->n+1≠2*2^k)/\wr=w)
 case atStart=>exact⟨0,1,rfl,rfl,rfl,fun k hk=>by omega,rfl⟩
 case round=>
  obtain⟨d,m,f,g,rfl,b,rfl⟩:=hrel;have t:=Hd f;have j:=Hd g;have i:=Hd b;have y:0<m:=by rw[g];exact pow_pos' d
  by_cases hlt:d<17
  ·have s:m<=65536:=(by rw[g];exact eN (aZ (by omega) (show d<=16 by omega)) (by decide));have r:decide ((m:Int)<=65536)=true:=(by rw[dI];omega);clear f g b
   by_cases he:n+1=2*m
   ·have z:(2*(m:Int)-1==(n:Int))=true:=(by rw[beq_iff_eq];omega);have A:2*(m:Int)-1=(n:Int):=(by omega);have l:=Hd he;clear he;go_wp2_with fail;go_ret;exact⟨Zml (by rw[v.out d (by omega) (by rw[l.out,j.out]),j.out]),rfl⟩
   ·have z:(2*(m:Int)-1==(n:Int))=false:=(by rw[qN];omega);have l:=Hd he;clear he;go_wp2_with fail;go_roundg (gk-1);case measure=>have:=t.out;omega
    case rel=>
     refine⟨d+1,2*m,by have:=t.out;omega,by rw[j.out,aN];omega,by go_num,fun k hk=> ?_,rfl⟩
     by_cases e:k=d
     ·rw[e,<-j.out];exact l.out
     ·exact i.out k (by omega)
  ·obtain rfl:d=17:=(by omega);have s:m=131072:=(by rw[g]);have r:decide ((m:Int)<=65536)=false:=(by rw[dN];omega);clear f g b;go_wp2_with fail;go_ret;exact⟨Zml (by rw[x.out i.out];rfl),rfl⟩
theorem Za (v:Value)(L:List Int)(x:Int)(w:World)(h:Rd w v (ivs .i64 L)):
  Calls prog 84 #[v,rE rG x] w fun e w'=>e=rM (.bool (decide (x∈L)))/\w'=w:=by
 have P:∃a c,v=.slice a L.length c/\c<=maxLen/\L.length<=c:=(by obtain⟨a,c,e,J,h2,_⟩:=h;exact⟨a,c,by rw[e];simp[ivs],h2,by simpa [ivs]using J⟩);obtain⟨a,c,rfl,l,B⟩:=P;have G:=fun(i:Nat) (f:i<L.length)=>h.at3 (u:=rE rG (L.getD i 0)) (r:=i) (by simp[ivs,aE,f]);have o:=fun(i:Nat) (f:i<L.length) (e:L.getD i 0=x)=>(show decide (x∈L)=true from dT (by
  rw[aE,aF f]at e;have:L[i]=x:=e;rw[<-this];exact aG f))
 have p:=fun(d:∀i,i<L.length->L.getD i 0≠x)=>(show decide (x∈L)=false from dF (fun M=>by
  obtain⟨i,f,e⟩:=eA M;exact d i f (by rw[aE,aF f];exact e)))
 obtain⟨n,F⟩:=eX L.length;obtain⟨R,E⟩:=eX (decide (x∈L));rw[<-F]at G o p B|-;rw[<-E]at o p|-;have N:n<=9223372036854775807:=(by unfold maxLen at l;omega);have I:=Hd G;have t:=Hd o;have z:=Hd p;clear G o p h F E l;go_in;go_wp2_with fail
 go_loopg [5] n (fun q iv wr=>∃r:Nat,r+q=n/\iv=rE rG (r:Nat)/\(∀i,i<r->L.getD i 0≠x)/\wr=w)
 case atStart=>exact⟨0,by omega,rfl,fun k hk=>by omega,rfl⟩
 case round=>
  obtain⟨r,H,rfl,d,rfl⟩:=hrel;have A:=Hd H;have j:=Hd d;clear H d
  by_cases hlt:r<n
  ·have m:decide (r<n)=true:=dT hlt;obtain⟨b,Q,rfl,K,g⟩:=I.out r hlt;obtain⟨y,C⟩:=eX (L.getD r 0);rw[<-C]at g;have D:=Hd C;clear C
   by_cases he:y=x
   ·have O:(y==x)=true:=(by rw[beq_iff_eq];exact he);have s:=Hd he;clear he;go_wp2_with fail;go_ret;exact⟨Eb (t.out r hlt (by rw[<-D.out];exact s.out)),rfl⟩
   ·have O:(y==x)=false:=(by rw[qN];exact he);have s:=Hd he;clear he;go_wp2_with fail;go_roundg (gk-1);case measure=>have:=A.out;omega
    case rel=>
     refine⟨r+1,by have:=A.out;omega,by go_num,fun i f=> ?_,rfl⟩
     by_cases e:i=r
     ·rw[e,<-D.out];exact s.out
     ·exact j.out i (by omega)
  ·obtain rfl:r=n:=(by have:=A.out;omega);have m:decide (r<r)=false:=dF hlt;go_wp2_with fail;go_ret;exact⟨Eb (z.out j.out),rfl⟩
theorem Zng {v:Value} {a b:Bool}(h:a=b):Ending.returned (.tuple #[v,.bool b])=rM (.tuple #[v,.bool a]):=by rw[h]
theorem Zhz (x:Int)(w:World):Calls prog 206 #[rE rG x] w fun e w'=>e=rM (.bool false)/\w'=w:=by
 have h:(x !=x)=false:=(by rw[bne_eq_false_iff_eq]);go_in;go_wp2_with fail;go_ret;exact⟨rfl,rfl⟩
theorem Zh0 (x:Int)(w:World):Calls prog 289 #[rE rG x] w fun e w'=>e=rM (.bool false)/\w'=w:=by
 have h:(x !=x)=false:=(by rw[bne_eq_false_iff_eq]);go_in;go_wp2_with fail;go_ret;exact⟨rfl,rfl⟩
theorem Zdp (x y:Int)(w:World):Calls prog 263 #[rE rG x,rE rG y] w fun e w'=>e=rM (.bool (decide (x<y)))/\w'=w:=by
 obtain⟨b,a⟩:∃b,decide (x<y)=b:=⟨_,rfl⟩;rw[a];go_in;go_wp2_with fail;refine(Zhz x w).mono ?_;rintro e w' ⟨rfl,rfl⟩;go_wp2_with fail;go_ret;exact⟨rfl,rfl⟩
def Zmm (L:List Int):Prop:=∀i j,i<j->j<L.length->L.getD i 0<L.getD j 0
theorem Wh (v:Value)(L:List Int)(x:Int)(w:World)(h:Rd w v (ivs .i64 L))(J:Zmm L)(hl:L.length<=1000000):
  Calls prog 270 #[v,rE rG x] w fun e w'=>∃p:Nat,e=rM (.tuple #[rE rG (p:Nat),.bool (decide (x∈L))])/\p<=L.length/\(∀k,k<p->L.getD k 0<x)/\(∀k,p<=k->k<L.length->x<=L.getD k 0)/\w'=w:=by
 have hv:∃a c,v=.slice a L.length c:=(by obtain⟨a,c,e,t,h2,_⟩:=h;exact⟨a,c,by rw[e];simp[ivs]⟩);obtain⟨a,c,rfl⟩:=hv;have G:=fun(i:Nat) (D:i<L.length)=>h.at3 (u:=rE rG (L.getD i 0)) (r:=i) (by simp[ivs,aE,D]);have F:∀i j,i<=j->j<L.length->L.getD i 0<=L.getD j 0:=by
  intro i j E hj
  by_cases e:i=j
  ·rw[e];exact Int.le_refl _
  ·exact Int.le_of_lt (J i j (by omega) hj)
 have U:=fun(i:Nat) (D:i<L.length) (e:L.getD i 0=x)=>(show decide (x∈L)=true from dT (by
  rw[aE,aF D]at e;have:L[i]=x:=e;rw[<-this];exact aG D))
 have V:=fun(aA:∀i,i<L.length->L.getD i 0≠x)=>(show decide (x∈L)=false from dF (fun S=>by
  obtain⟨i,D,e⟩:=eA S;exact aA i D (by rw[aE,aF D];exact e)))
 obtain⟨n,Z⟩:=eX L.length;obtain⟨R,hR⟩:=eX (decide (x∈L));rw[<-Z]at G U V F hl;simp only[<-Z];rw[<-hR]at U V|-;have HG:=Hd G;have W:=Hd U;have M:=Hd V;have B:=Hd F;clear G U V h Z hR J F;go_in;go_wp2_with fail
 go_loopg [7,8] n (fun q iv jv wr=>∃i j:Nat,i+q=j/\j<=n/\iv=rE rG (i:Nat)/\jv=rE rG (j:Nat)/\(∀k,k<i->L.getD k 0<x)/\(∀k,j<=k->k<n->x<=L.getD k 0)/\wr=w)
 case atStart=>exact⟨0,n,by omega,lR,rfl,rfl,fun k hk=>by omega,fun k t h2=>by omega,rfl⟩
 case round=>
  obtain⟨i,j,E,Y,rfl,rfl,P,N,rfl⟩:=hrel;have l:=Hd E;have f:=Hd P;have g:=Hd N;clear E P N
  by_cases hlt:i<j
  ·have Q:decide (i<j)=true:=dT hlt;obtain⟨m,S⟩:=eX ((i+j)/2);obtain⟨s,J⟩:=eX (i+j);have e1:(i:Int)+(j:Int)=(s:Int):=(by omega);have e2:IntKind.u64.wrap (s:Int)=(s:Int):=(by rw[IntKind.wrap_u64];omega);have e3:(s:Int)/2=(m:Int):=(by omega);have e4:IntKind.i64.wrap (m:Int)=(m:Int):=(by rw[IntKind.wrap_i64];omega);have T:m<n:=(by omega);obtain⟨b,aB,rfl,X,d⟩:=HG.out m T;obtain⟨y,z⟩:=eX (L.getD m 0);rw[<-z]at d;have I:=Hd z;have o:=Hd S;have aC:=Hd J;have H:=Zdp y x wr
   by_cases hyx:y<x
   ·rw[dT hyx]at H;have A:=Hd H;have C:=Hd hyx;clear z S J H hyx;go_wp2_with fail;refine(A.out).mono ?_;rintro e w' ⟨rfl,rfl⟩;go_wp2_with fail;go_roundg (j-(m+1));case measure=>have:=l.out;have:=o.out;omega
    case rel=>
     refine⟨m+1,j,by have:=o.out;omega,Y,by go_num,rfl,fun k hk=> ?_,g.out,rfl⟩;have:=B.out k m (by omega) T;have:=C.out;rw[I.out]at this;omega
   ·rw[dF hyx]at H;have A:=Hd H;have C:=Hd hyx;clear z S J H hyx;go_wp2_with fail;refine(A.out).mono ?_;rintro e w' ⟨rfl,rfl⟩;go_wp2_with fail;go_roundg (m-i);case measure=>have:=l.out;have:=o.out;omega
    case rel=>
     refine⟨i,m,by have:=o.out;omega,by omega,rfl,rfl,f.out,fun k t h2=> ?_,rfl⟩;have:=B.out m k t h2;have:=C.out;rw[I.out]at this;omega
  ·have Q:decide (i<j)=false:=dF hlt
   by_cases hin:i<n
   ·have O:decide (i<n)=true:=dT hin;obtain⟨b,aB,rfl,X,d⟩:=HG.out i hin;obtain⟨y,z⟩:=eX (L.getD i 0);rw[<-z]at d;have I:=Hd z;clear z
    by_cases he:y=x
    ·have hq:(y==x)=true:=(by rw[beq_iff_eq];exact he);have K:=Hd (W.out i hin (by rw[<-I.out];exact he));clear he;go_wp2_with fail;go_ret2;exact⟨i,Zng K.out,by have:=l.out;omega,f.out,fun k t h2=>g.out k (by omega) h2,rfl⟩
    ·have hq:(y==x)=false:=(by rw[qN];exact he);have K:=Hd (M.out (fun k hk e=>by
      by_cases t:k<i
      ·have:=f.out k t;omega
      ·by_cases h2:k=i
       ·rw[h2]at e;exact he (I.out.trans e)
       ·have h3:=B.out i k (by omega) hk;have h4:=g.out i (by omega) hin;have:=I.out
        omega))
     clear he;have N1:=Hd (Zh0 y wr);go_wp2_with fail;refine(N1.out).mono ?_;rintro e w' ⟨rfl,rfl⟩;go_wp2_with fail;go_ret2;exact⟨i,Zng K.out,by have:=l.out;omega,f.out,fun k t h2=>g.out k (by omega) h2,rfl⟩
   ·have O:decide (i<n)=false:=dF hin;have K:=Hd (M.out (fun k hk e=>by have:=f.out k (by omega);omega));go_wp2_with fail;go_ret2;exact⟨i,Zng K.out,by have:=l.out;omega,f.out,fun k t h2=>g.out k (by omega) h2,rfl⟩
def Jb (L:List Int)(x:Int):Bool:=L.any fun u=>Bu (2*u) x
theorem Zb {L:List Int} {p:Int->Bool} {i:Nat}(hi:i<L.length)(h:p (L.getD i 0)=true):L.any p=true:=by
 rw[cH];refine⟨L.getD i 0,?_,h⟩;rw[aE,aF hi];exact aG hi
theorem Zdq {L:List Int} {p:Int->Bool}(h:∀i,i<L.length->p (L.getD i 0)=false):L.any p=false:=by
 rw[List.any_eq_false];intro u hu;obtain⟨i,hi,rfl⟩:=eA hu;have:=h i hi;rw[aE,aF hi]at this;show¬p L[i]=true;have e:p L[i]=false:=this;rw[e];simp
theorem Zh1 (u x:Int)(g:Nat)(w:World)(hx:w.cell? ⟨g,0,rJ⟩=some (rE rG x))(d:0<=u/\u<1000000):
  Calls prog 230 #[rE rG u,rF (some ⟨g,0,rJ⟩)] w fun e w'=>e=rM (.bool (Bu (2*u) x))/\w'=w:=by
 have a:=Hd (Cr (2*u) x w);obtain⟨b,c⟩:=eX (Bu (2*u) x);rw[<-c]at a|-;clear c;have f:wrap64 (2*u)=2*u:=(by unfold wrap64;omega);go_in;go_wp2_with fail;refine a.out.mono ?_;rintro e w' ⟨rfl,rfl⟩;go_wp2_with fail;go_ret;exact⟨rfl,rfl⟩
theorem Zh2 (v:Value)(L:List Int)(x:Int)(g:Nat)(w:World)(h:Rd w v (ivs .i64 L))(hx:w.cell? ⟨g,0,rJ⟩=some (rE rG x))(Q:∀u∈L,0<=u/\u<1000000)(Z:L.length<=1000000):
  Calls prog 256 #[v,.func (.func 230) #[] #[rF (some ⟨g,0,rJ⟩)]] w fun e w'=>w'=w/\∃r:Int,e=rM (rE rG r)/\decide (r>=0)=L.any (fun u=>(Bu (2*u) x)):=by
 obtain⟨a,G,rfl⟩:∃a G,v=.slice a L.length G:=(by obtain⟨a,G,e,_⟩:=h;rw[show(ivs .i64 L).length=L.length by simp[ivs]]at e;exact⟨a,G,e⟩);have D:=fun(r:Nat) (l:r<L.length)=>h.at3 (u:=rE rG (L.getD r 0)) (r:=r) (by simp[ivs,aE,l]);have n:=fun(r:Nat) (l:r<L.length)=>Zh1 (L.getD r 0) x g w hx (Q _ (by rw[aE,aF l];exact aG l));have c:=fun(i:Nat) (M:i<L.length) (h:(fun u=>(Bu (2*u) x)) (L.getD i 0)=true)=>Zb (p:=fun u=>(Bu (2*u) x)) M h;have m:=fun(h:∀i,i<L.length->(fun u=>(Bu (2*u) x)) (L.getD i 0)=false)=>Zdq (p:=fun u=>(Bu (2*u) x)) h;obtain⟨U,T⟩:∃U:Nat->Int,U=fun r=>L.getD r 0:=⟨_,rfl⟩;have z:∀r,L.getD r 0=U r:=fun r=>(by rw[T]);simp only[z]at D n c m;obtain⟨F,y⟩:∃f:Int->Bool,f=fun u=>(Bu (2*u) x):=⟨_,rfl⟩;have d:∀u:Int,(Bu (2*u) x)=F u:=fun u=>(by rw[y]);obtain⟨R,S⟩:=eX (L.any (fun u=>(Bu (2*u) x)));rw[<-S]at c m|-;simp only[d]at n c m;obtain⟨k,A⟩:=eX L.length;rw[<-A]at D n Z c m|-;have H:=Hd D;have I:=Hd n;have t:=Hd c;have J:=Hd m;clear D n c m A h hx T z Q y d S;go_in;go_wp2_with fail
 go_loopg [8] k (fun q iv wr=>∃r:Nat,r+q=k/\iv=rE rG (r:Nat)/\(∀i,i<r->F (U i)=false)/\wr=w)
 case atStart=>exact⟨0,by omega,rfl,fun i M=>by omega,rfl⟩
 case round=>
  obtain⟨r,l,rfl,C,rfl⟩:=hrel;have K:=Hd l;have O:=Hd C;clear l C
  by_cases hlt:r<k
  ·have B:decide (r<k)=true:=dT hlt;obtain⟨b,aA,rfl,Y,X⟩:=H.out r hlt;have E:=I.out r hlt;obtain⟨u,N⟩:=eX (U r);rw[<-N]at X E;obtain⟨P,j⟩:=eX (F u);rw[<-j]at E;have o:=Hd E;have s:=Hd (show F (U r)=P by rw[j,N]);clear E j N;cases P with
   |true=>
    have W:=Hd (t.out r hlt s.out);go_wp2_with fail;refine(o.out).mono ?_;rintro e w2 ⟨rfl,rfl⟩;go_wp2_with fail;go_ret;exact⟨rfl,_,rfl,by rw[W.out];simp⟩
   |false=>
    go_wp2_with fail;refine(o.out).mono ?_;rintro e w2 ⟨rfl,rfl⟩;go_wp2_with fail;go_roundg (gk-1);case measure=>have:=K.out;omega
    case rel=>
     refine⟨r+1,by have:=K.out;omega,by go_num,fun i M=> ?_,rfl⟩
     by_cases e:i=r
     ·rw[e];exact s.out
     ·exact O.out i (by omega)
  ·obtain rfl:r=k:=(by have:=K.out;omega);have B:decide (r<r)=false:=dF hlt;have V:=Hd (J.out O.out);go_wp2_with fail;go_ret;exact⟨rfl,_,rfl,by rw[V.out];simp⟩
theorem Zh3 (v:Value)(L:List Int)(x:Int)(g:Nat)(w:World)(h:Rd w v (ivs .i64 L))(hx:w.cell? ⟨g,0,rJ⟩=some (rE rG x))(i:∀u∈L,0<=u/\u<1000000)(l:L.length<=1000000):
  Calls prog 220 #[v,.func (.func 230) #[] #[rF (some ⟨g,0,rJ⟩)]] w fun e w'=>e=rM (.bool (L.any fun u=>(Bu (2*u) x)))/\w'=w:=by
 have f:=Hd (Zh2 v L x g w h hx i l);obtain⟨R,j⟩:=eX (L.any (fun u=>(Bu (2*u) x)));rw[<-j]at f|-;obtain⟨a,n,d,rfl⟩:∃a n d,v=.slice a n d:=(by obtain⟨a,d,e,_⟩:=h;exact⟨_,_,_,e⟩);clear h hx i j;go_in;go_wp2_with fail;refine f.out.mono ?_;rintro e w' ⟨rfl,r,rfl,b⟩
 by_cases hp:0<=r
 ·have k:decide (0<=r)=true:=dT hp;have c:=Hd b;clear b;go_wp2_with fail;go_ret;exact⟨by rw[<-c.out];simpa using hp,rfl⟩
 ·have k:decide (0<=r)=false:=dF hp;have c:=Hd b;clear b;go_wp2_with fail;go_ret;exact⟨by rw[<-c.out];simpa using hp,rfl⟩
theorem Zdr (u x:Int)(g:Nat)(w:World)(hx:w.cell? ⟨g,0,rJ⟩=some (rE rG x))(d:0<=u/\u<1000000):
  Calls prog 221 #[rE rG u,rF (some ⟨g,0,rJ⟩)] w fun e w'=>e=rM (.bool (!Bu (2*u) x))/\w'=w:=by
 have a:=Hd (Cr (2*u) x w);obtain⟨b,c⟩:=eX (Bu (2*u) x);rw[<-c]at a|-;clear c;have f:wrap64 (2*u)=2*u:=(by unfold wrap64;omega);go_in;go_wp2_with fail;refine a.out.mono ?_;rintro e w' ⟨rfl,rfl⟩;go_wp2_with fail;go_ret;exact⟨rfl,rfl⟩
theorem Zds (v:Value)(L:List Int)(x:Int)(g:Nat)(w:World)(h:Rd w v (ivs .i64 L))(hx:w.cell? ⟨g,0,rJ⟩=some (rE rG x))(Q:∀u∈L,0<=u/\u<1000000)(Z:L.length<=1000000):
  Calls prog 256 #[v,.func (.func 221) #[] #[rF (some ⟨g,0,rJ⟩)]] w fun e w'=>w'=w/\∃r:Int,e=rM (rE rG r)/\decide (r>=0)=L.any (fun u=>(!Bu (2*u) x)):=by
 obtain⟨a,G,rfl⟩:∃a G,v=.slice a L.length G:=(by obtain⟨a,G,e,_⟩:=h;rw[show(ivs .i64 L).length=L.length by simp[ivs]]at e;exact⟨a,G,e⟩);have D:=fun(r:Nat) (l:r<L.length)=>h.at3 (u:=rE rG (L.getD r 0)) (r:=r) (by simp[ivs,aE,l]);have n:=fun(r:Nat) (l:r<L.length)=>Zdr (L.getD r 0) x g w hx (Q _ (by rw[aE,aF l];exact aG l));have c:=fun(i:Nat) (M:i<L.length) (h:(fun u=>(!Bu (2*u) x)) (L.getD i 0)=true)=>Zb (p:=fun u=>(!Bu (2*u) x)) M h;have m:=fun(h:∀i,i<L.length->(fun u=>(!Bu (2*u) x)) (L.getD i 0)=false)=>Zdq (p:=fun u=>(!Bu (2*u) x)) h;obtain⟨U,T⟩:∃U:Nat->Int,U=fun r=>L.getD r 0:=⟨_,rfl⟩;have z:∀r,L.getD r 0=U r:=fun r=>(by rw[T]);simp only[z]at D n c m;obtain⟨F,y⟩:∃f:Int->Bool,f=fun u=>(!Bu (2*u) x):=⟨_,rfl⟩;have d:∀u:Int,(!Bu (2*u) x)=F u:=fun u=>(by rw[y]);obtain⟨R,S⟩:=eX (L.any (fun u=>(!Bu (2*u) x)));rw[<-S]at c m|-;simp only[d]at n c m;obtain⟨k,A⟩:=eX L.length;rw[<-A]at D n Z c m|-;have H:=Hd D;have I:=Hd n;have t:=Hd c;have J:=Hd m;clear D n c m A h hx T z Q y d S;go_in;go_wp2_with fail
 go_loopg [8] k (fun q iv wr=>∃r:Nat,r+q=k/\iv=rE rG (r:Nat)/\(∀i,i<r->F (U i)=false)/\wr=w)
 case atStart=>exact⟨0,by omega,rfl,fun i M=>by omega,rfl⟩
 case round=>
  obtain⟨r,l,rfl,C,rfl⟩:=hrel;have K:=Hd l;have O:=Hd C;clear l C
  by_cases hlt:r<k
  ·have B:decide (r<k)=true:=dT hlt;obtain⟨b,aA,rfl,Y,X⟩:=H.out r hlt;have E:=I.out r hlt;obtain⟨u,N⟩:=eX (U r);rw[<-N]at X E;obtain⟨P,j⟩:=eX (F u);rw[<-j]at E;have o:=Hd E;have s:=Hd (show F (U r)=P by rw[j,N]);clear E j N;cases P with
   |true=>
    have W:=Hd (t.out r hlt s.out);go_wp2_with fail;refine(o.out).mono ?_;rintro e w2 ⟨rfl,rfl⟩;go_wp2_with fail;go_ret;exact⟨rfl,_,rfl,by rw[W.out];simp⟩
   |false=>
    go_wp2_with fail;refine(o.out).mono ?_;rintro e w2 ⟨rfl,rfl⟩;go_wp2_with fail;go_roundg (gk-1);case measure=>have:=K.out;omega
    case rel=>
     refine⟨r+1,by have:=K.out;omega,by go_num,fun i M=> ?_,rfl⟩
     by_cases e:i=r
     ·rw[e];exact s.out
     ·exact O.out i (by omega)
  ·obtain rfl:r=k:=(by have:=K.out;omega);have B:decide (r<r)=false:=dF hlt;have V:=Hd (J.out O.out);go_wp2_with fail;go_ret;exact⟨rfl,_,rfl,by rw[V.out];simp⟩
theorem Zdt (v:Value)(L:List Int)(x:Int)(g:Nat)(w:World)(h:Rd w v (ivs .i64 L))(hx:w.cell? ⟨g,0,rJ⟩=some (rE rG x))(i:∀u∈L,0<=u/\u<1000000)(l:L.length<=1000000):
  Calls prog 220 #[v,.func (.func 221) #[] #[rF (some ⟨g,0,rJ⟩)]] w fun e w'=>e=rM (.bool (L.any fun u=>(!Bu (2*u) x)))/\w'=w:=by
 have f:=Hd (Zds v L x g w h hx i l);obtain⟨R,j⟩:=eX (L.any (fun u=>(!Bu (2*u) x)));rw[<-j]at f|-;obtain⟨a,n,d,rfl⟩:∃a n d,v=.slice a n d:=(by obtain⟨a,d,e,_⟩:=h;exact⟨_,_,_,e⟩);clear h hx i j;go_in;go_wp2_with fail;refine f.out.mono ?_;rintro e w' ⟨rfl,r,rfl,b⟩
 by_cases hp:0<=r
 ·have k:decide (0<=r)=true:=dT hp;have c:=Hd b;clear b;go_wp2_with fail;go_ret;exact⟨by rw[<-c.out];simpa using hp,rfl⟩
 ·have k:decide (0<=r)=false:=dF hp;have c:=Hd b;clear b;go_wp2_with fail;go_ret;exact⟨by rw[<-c.out];simpa using hp,rfl⟩
theorem Hf (v:Value)(L:List Int)(x:Int)(w:World)(h:Rd w v (ivs .i64 L))(g:∀u∈L,0<=u/\u<1000000)(j:L.length<=1000000):
  Calls prog 193 #[v,rE rG x] w fun e w'=>e=rM (.bool (Jb L x))/\Below w.heap.size w w':=by
 have d:=(Below.refl w.heap.size w).alloc lR (rK #[rE rG x] 3);have f:=Hd (Zh3 v L x w.heap.size (w.alloc (rK #[rE rG x] 3)) (h.below d lR) (Bi rfl) g j);have i:=Hd d;obtain⟨R,b⟩:=eX (Jb L x);unfold Jb at b;rw[<-b]at f;show Calls prog 193 #[v,rE rG x] w fun e w'=>e=rM (.bool (Jb L x))/\Below w.heap.size w w';unfold Jb;rw[<-b];obtain⟨a,n,c,rfl⟩:∃a n c,v=.slice a n c:=(by obtain⟨a,c,e,_⟩:=h;exact⟨_,_,_,e⟩);clear h g b d;go_in;go_wp2_with fail;refine f.out.mono ?_;rintro e w' ⟨rfl,rfl⟩;go_wp2_with fail;go_ret;exact⟨rfl,i.out⟩
theorem Nm (d:NodeD)(c:Array Value)(w:World)(h:NodeC w d c)(hk:NodeOk d)(b:Cb d=true)(r:Bool)(a:Aq d=r):
  Calls prog 108 #[.agg c] w fun e w'=>Below w.heap.size w w'/\∃v,e=rM (.tuple #[v,rE rH (if r=true then 0 else 3)])/\Own w' w.heap.size 5 v (bvs (if r=true then Bk d else [])):=by
 subst a;cases a:Aq d with
 |true=>
  have:=Tj d c w h hk b a;unfold Ej at this;rw[a]at this;exact this
 |false=>
  have:=Pj d c w h b a;unfold Ej at this;rw[a]at this;exact this
def Dl (x:Nat):Nat:=if x%2=1 then 1 else 2
def Ax (t:List NodeD):Bool:=(aC t.length).all fun x=>decide ((nd t x).kind≠Dl x)&&Aq (nd t x)
theorem Fc (t:List NodeD):Ax t=true↔∀x,x<t.length->(nd t x).kind≠Dl x/\Aq (nd t x)=true:=by
 unfold Ax;rw[eB];constructor
 ·intro h x hx;have:=h x (List.mem_range.2 hx);rw[cK,dI]at this;exact this
 ·intro h x hx;rw[cK,dI];exact h x (List.mem_range.1 hx)
theorem Pm {t:List NodeD} {x:Nat}(hx:x<t.length)(h:(nd t x).kind=Dl x\/Aq (nd t x)=false):Ax t=false:=by
 cases hp:Ax t with
 |false=>rfl
 |true=>
  have:=(Fc t).1 hp x hx;rcases h with h|h
  ·exact absurd h this.1
  ·rw[this.2]at h;cases h
theorem Gi {x:Nat}(h:x%2=1):Dl x=1:=by unfold Dl;rw[iP h]
theorem Du {x:Nat}(h:x%2=0):Dl x=2:=by unfold Dl;rw[iN (by omega)]
theorem Zbj (v:Value)(t:List NodeD)(w:World)(h:TreeR w v t)(hs:Zdl t=true)(aD:TreeOk t):
  Calls prog 226 #[v] w fun e w'=>e=rM (.bool (Ax t))/\Below w.heap.size w w':=by
 obtain⟨a,c,rfl,hc,a0⟩:=h.sl;have NB:=fun(i:Nat) (cs:Array Value) (W:World) (r:Bool) (hr:Aq (nd t i)=r) (hw:NodeC W (nd t i) cs)=>Nm (nd t i) cs W hw (aD.nd i) (Zdm hs i) r hr;have GN:=fun(W:World) (hw:Below w.heap.size w W) (i:Nat) (hi:i<t.length)=>(h.below hw lR).node hi;have S1:=fun(h:∀i,i<t.length->(nd t i).kind≠Dl i/\Aq (nd t i)=true)=>(Fc t).2 h;have S2:=fun(i:Nat) (hi:i<t.length) (h:(nd t i).kind=Dl i\/Aq (nd t i)=false)=>Pm hi h;have K:=fun(i:Nat)=>(aD.nd i).kind;obtain⟨n,hn⟩:=eX t.length;rw[<-hn]at GN S1 S2 hc|-;obtain⟨R,hR⟩:=eX (Ax t);rw[<-hR]at S1 S2|-;have U:=Hd NB;have aT:=Hd GN;have aU:=Hd S1;have V:=Hd S2;have HK:=Hd K;clear NB GN S1 S2 K h hn hR hs aD;go_in;go_wp2_with fail
 go_loopg [10] n (fun q iv wr=>∃r:Nat,r+q=n/\iv=rE rG (r:Nat)/\(∀i,i<r->(nd t i).kind≠Dl i/\Aq (nd t i)=true)/\Below w.heap.size w wr)
 case atStart=>exact⟨0,by omega,rfl,fun i hi=>by omega,bR⟩
 case round=>
  obtain⟨r,hr,rfl,aR,hb⟩:=hrel;have HR:=Hd hr;have HM:=Hd aR;have Z:=Hd hb;clear hr aR hb
  by_cases hlt:r<n
  ·have aP:decide (r<n)=true:=dT hlt;obtain⟨b,u,cs,rfl,aZ,aC,aQ⟩:=aT.out wr Z.out r hlt;obtain⟨D,hD⟩:=eX (nd t r);have aG:=HK.out r;have aF:=Hd aC;rw[<-hD]at aC aG;obtain⟨z,c1,A,c2,B,c3,C,c4,E,c5,F,I,G,e2,H,e3,X,h1,h2,h3,h4,h5,h6,h7,h8⟩:=aC;obtain⟨j,y⟩:∃k,k=D.kind:=⟨_,rfl⟩;rw[<-y]at X aG;have T:=Hd (show j=(nd t r).kind by rw[y,hD]);have p:=Hd aQ;have aS:=Hd X;have a6:=Z.out.size;obtain⟨J,aH⟩:=eX D.leaf.box.length;obtain⟨L,aI⟩:=eX D.leaf.sign.length;obtain⟨M,aJ⟩:=eX D.leaf.ident.length;obtain⟨N,aK⟩:=eX D.leaf.par.length;obtain⟨O,aL⟩:=eX D.leaf.sig.length;obtain⟨P,aM⟩:=eX D.par.box.length;obtain⟨Q,aN⟩:=eX D.par.hash.length;obtain⟨S,aO⟩:=eX D.par.late.length;obtain⟨s,Y⟩:=eX D.leaf.source;rw[<-aH,<-aI,<-aJ,<-aK,<-aL,<-aM,<-aN,<-aO,<-Y]at X;subst X;clear h1 h2 h3 h4 h5 h6 h7 h8 aQ aS aH aI aJ aK aL aM aN aO Y y hD;obtain⟨m,hm⟩:=eX (r%2);have aX:(r:Int)%2=(m:Int):=(by omega);have aY:eL (r:Int) 2=(m:Int):=(by rw[eM (by omega)];omega);have aV:m=0\/m=1:=(by omega);have aE:=Hd hm;clear hm;rcases aV with rfl|rfl
   ·have x:=Hd (Du aE.out.symm);have f:=Hd (Z.out.alloc Z.out.size (rK #[rE rH (j:Nat),rD z J c1,rD A L c2,rD B M c3,rE rH (s:Nat),rD C N c4,rD E O c5,rD F P I,rD G Q e2,rD H S e3] 52))
    by_cases hk:j=2
    ·have hq:((j:Int)==2)=true:=(by rw[beq_iff_eq];omega);have HF:=Hd (V.out r hlt (.inl (by rw[<-T.out,x.out,hk])));clear hk;go_wp2_with (refine wpList_load_mid rfl 52 (.tmp 13) rfl b (u+r*10) rfl [rE rH (j:Nat),rD z J c1,rD A L c2,rD B M c3,rE rH (s:Nat),rD C N c4,rD E O c5,rD F P I,rD G Q e2,rD H S e3] _ p.out underlying52 rfl Ai ?_);go_ret;exact⟨Eb HF.out,f.out⟩
    ·have hq:((j:Int)==2)=false:=(by rw[qN];omega);have aW:(j:Int)≠2:=(by omega);have aA:=Hd (show(nd t r).kind≠Dl r by rw[<-T.out,x.out];exact hk);have l:=Hd (aF.out.below ((Below.refl wr.heap.size wr).alloc lR (rK #[rE rH (j:Nat),rD z J c1,rD A L c2,rD B M c3,rE rH (s:Nat),rD C N c4,rD E O c5,rD F P I,rD G Q e2,rD H S e3] 52)) lR);cases hrb:Aq (nd t r)with
     |true=>
      have aB:=Hd hrb;have N1:=Hd (U.out r _ _ true hrb l.out);clear hrb hk;go_wp2_with (refine wpList_load_mid rfl 52 (.tmp 13) rfl b (u+r*10) rfl [rE rH (j:Nat),rD z J c1,rD A L c2,rD B M c3,rE rH (s:Nat),rD C N c4,rD E O c5,rD F P I,rD G Q e2,rD H S e3] _ p.out underlying52 rfl Ai ?_);refine(N1.out).mono ?_;rintro e w2 ⟨g,v,rfl,d⟩;have o:=Hd (f.out.trans (g.mono f.out.size));obtain⟨y1,y2,y3,rfl⟩:=Dr d;clear g d;go_wp2_with fail;go_roundg (gk-1);case measure=>have:=HR.out;omega
      case rel=>
       refine⟨r+1,by have:=HR.out;omega,by go_num,fun i hi=> ?_,o.out⟩
       by_cases e:i=r
       ·rw[e];exact⟨aA.out,aB.out⟩
       ·exact HM.out i (by omega)
     |false=>
      have HF:=Hd (V.out r hlt (.inr hrb));have N1:=Hd (U.out r _ _ false hrb l.out);clear hrb hk;go_wp2_with (refine wpList_load_mid rfl 52 (.tmp 13) rfl b (u+r*10) rfl [rE rH (j:Nat),rD z J c1,rD A L c2,rD B M c3,rE rH (s:Nat),rD C N c4,rD E O c5,rD F P I,rD G Q e2,rD H S e3] _ p.out underlying52 rfl Ai ?_);refine(N1.out).mono ?_;rintro e w2 ⟨g,v,rfl,d⟩;have o:=Hd (f.out.trans (g.mono f.out.size));obtain⟨y1,y2,y3,rfl⟩:=Dr d;clear g d;go_wp2_with fail;go_ret;exact⟨Eb HF.out,o.out⟩
   ·have x:=Hd (Gi aE.out.symm);have f:=Hd (Z.out.alloc Z.out.size (rK #[rE rH (j:Nat),rD z J c1,rD A L c2,rD B M c3,rE rH (s:Nat),rD C N c4,rD E O c5,rD F P I,rD G Q e2,rD H S e3] 52))
    by_cases hk:j=1
    ·have hq:((j:Int)==1)=true:=(by rw[beq_iff_eq];omega);have HF:=Hd (V.out r hlt (.inl (by rw[<-T.out,x.out,hk])));clear hk;go_wp2_with (refine wpList_load_mid rfl 52 (.tmp 13) rfl b (u+r*10) rfl [rE rH (j:Nat),rD z J c1,rD A L c2,rD B M c3,rE rH (s:Nat),rD C N c4,rD E O c5,rD F P I,rD G Q e2,rD H S e3] _ p.out underlying52 rfl Ai ?_);go_ret;exact⟨Eb HF.out,f.out⟩
    ·have hq:((j:Int)==1)=false:=(by rw[qN];omega);have aW:(j:Int)≠1:=(by omega);have aA:=Hd (show(nd t r).kind≠Dl r by rw[<-T.out,x.out];exact hk);have l:=Hd (aF.out.below ((Below.refl wr.heap.size wr).alloc lR (rK #[rE rH (j:Nat),rD z J c1,rD A L c2,rD B M c3,rE rH (s:Nat),rD C N c4,rD E O c5,rD F P I,rD G Q e2,rD H S e3] 52)) lR);cases hrb:Aq (nd t r)with
     |true=>
      have aB:=Hd hrb;have N1:=Hd (U.out r _ _ true hrb l.out);clear hrb hk;go_wp2_with (refine wpList_load_mid rfl 52 (.tmp 13) rfl b (u+r*10) rfl [rE rH (j:Nat),rD z J c1,rD A L c2,rD B M c3,rE rH (s:Nat),rD C N c4,rD E O c5,rD F P I,rD G Q e2,rD H S e3] _ p.out underlying52 rfl Ai ?_);refine(N1.out).mono ?_;rintro e w2 ⟨g,v,rfl,d⟩;have o:=Hd (f.out.trans (g.mono f.out.size));obtain⟨y1,y2,y3,rfl⟩:=Dr d;clear g d;go_wp2_with fail;go_roundg (gk-1);case measure=>have:=HR.out;omega
      case rel=>
       refine⟨r+1,by have:=HR.out;omega,by go_num,fun i hi=> ?_,o.out⟩
       by_cases e:i=r
       ·rw[e];exact⟨aA.out,aB.out⟩
       ·exact HM.out i (by omega)
     |false=>
      have HF:=Hd (V.out r hlt (.inr hrb));have N1:=Hd (U.out r _ _ false hrb l.out);clear hrb hk;go_wp2_with (refine wpList_load_mid rfl 52 (.tmp 13) rfl b (u+r*10) rfl [rE rH (j:Nat),rD z J c1,rD A L c2,rD B M c3,rE rH (s:Nat),rD C N c4,rD E O c5,rD F P I,rD G Q e2,rD H S e3] _ p.out underlying52 rfl Ai ?_);refine(N1.out).mono ?_;rintro e w2 ⟨g,v,rfl,d⟩;have o:=Hd (f.out.trans (g.mono f.out.size));obtain⟨y1,y2,y3,rfl⟩:=Dr d;clear g d;go_wp2_with fail;go_ret;exact⟨Eb HF.out,o.out⟩
  ·obtain rfl:r=n:=(by have:=HR.out;omega);have aP:decide (r<r)=false:=dF hlt;go_wp2_with fail;go_ret;exact⟨Eb (aU.out HM.out),Z.out⟩
theorem Zkz {x:Nat}(hx:x<=131070)(h:0<lev x):((plo x (lev x):Int)+x-1)/2=Em x/\((x:Int)+1+phi x (lev x))/2=Cq x/\plo x (lev x)<phi x (lev x):=by
 have d:=Gz hx;have a:=anc_self (lev_is hx);rw[anc_plo]at a;obtain⟨k,hk⟩:∃k,lev x=k+1:=⟨lev x-1,by omega⟩;have c:Di x=((2^k:Nat):Int):=by
  rw[Di,d,iP (by omega),hk];simp
 have e:=pow_pos' k;unfold Em Cq phi;rw[c,iN (by omega),iN (by omega)];rw[hk]at a|-;have b:2^(k+1)=2*2^k:=(by rw[aN];omega);have e2:2^(k+1+1)=4*2^k:=(by rw[aN,b];omega);rw[b]at a;rw[e2];refine⟨?_,?_,?_⟩<;>omega
theorem Nn {x:Int}(h:¬0<Kq x):Em x= -1/\Cq x= -1:=by
 have e:Di x=0:=(by rw[Di,iN h]);unfold Em Cq;rw[e];exact⟨rfl,rfl⟩
theorem Mo (x:Int)(w:World):
  Calls prog 100 #[rE rG x] w fun e w'=>e=rM (.tuple #[rE rG (Em x),rE rG (Cq x)])/\Below w.heap.size w w':=by
 by_cases hx:0<=x/\x<=131070
 ·obtain⟨m,rfl⟩:∃m:Nat,x=(m:Int):=⟨x.toNat,by omega⟩;have l:m<=131070:=(by omega);have D:=Jk m l;have b:=lev_le l;have i:=phi_le (x:=m) (d:=16) (by omega) b
  by_cases hl:0<lev m
  ·have hk:=Zkz l hl;obtain⟨q,a⟩:=eX (plo m (lev m));obtain⟨r,g⟩:=eX (phi m (lev m));rw[<-a,<-g]at D hk;rw[<-g]at i;obtain⟨s,t,z⟩:=hk;have y:((q:Int)==(r:Int))=false:=(by rw[qN];omega);have o:r<=131070:=(by omega);have v:(1:Int)<=(q:Int)+(m:Int):=by
    rcases eQ m with h|h
    ·subst h;exact absurd hl (by decide)
    ·omega
   rw[<-s,<-t];have j:=Hd D;clear D hl a g i s t hx b;go_in;go_wp2_with fail;refine(j.out _).mono ?_;rintro e u ⟨rfl,f⟩;have c:=Hd f;clear f;go_wp2_with fail
   go_quiet (fail)
   go_wp2_with fail;go_ret2;exact⟨rfl,Ab (c.out.alloc (by have:=c.out.size;omega) _) _⟩
  ·have k:=Gz l;have hk:=Nn (x:=(m:Int)) (by rw[k];omega);have n:phi m (lev m)=plo m (lev m):=(by unfold phi;rw[show lev m=0 by omega];rfl);rw[hk.1,hk.2];obtain⟨q,a⟩:=eX (plo m (lev m));rw[n,<-a]at D;rw[n,<-a]at i;have j:=Hd D;clear D hl a hk hx n k b;go_in;go_wp2_with fail;refine(j.out _).mono ?_;rintro e u ⟨rfl,f⟩;have c:=Hd f;clear f;go_wp2_with fail;go_ret2;exact⟨rfl,c.out.alloc (by have:=c.out.size;omega) _⟩
 ·have p:Bd x=false:=(by rw[Bd,dF];exact hx);have D:=Jl x p;have e:Kq x= -1:=(by rw[Kq,iN (by rw[p];simp)]);have hk:=Nn (x:=x) (by rw[e];omega);rw[hk.1,hk.2];have j:=Hd D;clear D e p hx hk;go_in;go_wp2_with fail;refine(j.out _).mono ?_;rintro e u ⟨rfl,f⟩;have c:=Hd f;clear f;go_wp2_with fail;go_ret2;exact⟨rfl,c.out.alloc (by have:=c.out.size;omega) _⟩
theorem Np (x d k i:Nat)(h:i<k):(Is x d k)[i*3]? =some (rE rG (anc x (d-i):Nat)):=by
 have h:=Ie x d k i 0 h (by omega);rw[Nat.add_zero]at h;exact h
theorem Wi (x n:Int)(w:World)(q: -9223372036854775808<=n)(h2:n<=9223372036854775807):
  Calls prog 153 #[rE rG x,rE rG n] w fun e w'=>e=rM (rE rG (Kt x n))/\Below w.heap.size w w':=by
 by_cases ho:Kp x n=true
 ·obtain⟨m,d,rfl,rfl,z,o⟩:=Mi ho;have D:=fun w=>Rf m d z o w;have r:=Ar (show d+1<=17 by omega);have B:=(lev_root o (lev_is (x:=m) (by omega))).1;rw[Mh z o,nxt];have i:=Np m d (d-lev m+1) (d-lev m-1);obtain⟨l,h⟩:∃l,l=lev m:=⟨_,rfl⟩;rw[<-h]at D B i|-;clear r o q h2 ho h
  by_cases hlt:l<d
  ·rw[iP hlt];have g:=i (by omega);rw[show d-(d-l-1)=l+1 by omega]at g;obtain⟨k,hk⟩:∃k,d-l=k+1:=⟨d-l-1,by omega⟩;rw[hk]at D g;rw[show k+1-1=k by omega]at g;have A:k<=16:=(by omega);obtain⟨a,y⟩:=eX (anc m (l+1));rw[<-y]at g|-;have G:=Hd g;have c:=Hd D;clear D g i hlt hk y B;go_in;go_wp2_with fail;refine(c.out _).mono ?_;rintro e C ⟨v,rfl,b,f⟩;obtain⟨g,cap,rfl,E,t,F,u,j,-⟩:=b.out (by omega);have H:=j _ _ G.out;have p:=Hd f;clear j b f;go_wp2_with fail;go_ret;exact⟨rfl,p.out⟩
  ·rw[iN hlt];obtain rfl:l=d:=(by omega);have c:=Hd D;rw[show l-l=0 by omega]at c;clear D i hlt;go_in;go_wp2_with fail;refine(c.out _).mono ?_;rintro e C ⟨v,rfl,b,f⟩;obtain⟨g,cap,rfl,E,t,F,u,j,-⟩:=b.out (by omega);have p:=Hd f;clear j b f;go_wp2_with fail;go_ret;exact⟨rfl,p.out⟩
 ·have s:Kp x n=false:=(by rw[<-cF];exact ho);have e:Kt x n= -1:=(by rw[Kt,iN (by rw[s];simp)]);rw[e];have c:=Hd (fun w=>Ml x n w q h2 s);clear s ho e q h2;go_in;go_wp2_with fail;refine(c.out _).mono ?_;rintro e C ⟨rfl,rfl⟩;go_wp2_with fail;go_ret;exact⟨rfl,bR⟩
theorem Zh4 {x n:Int}(h:0<=Kt x n):(x<Kt x n->Em (Kt x n)=x)/\(¬x<Kt x n->Em (Kt x n)≠x/\Cq (Kt x n)=x):=by
 obtain⟨t,v⟩:=(Zkt x n).2 h;obtain⟨m,d,rfl,rfl,q,l⟩:=Mi t;have o:=Ar (show d+1<=17 by omega);have c:=lev_is (x:=m) (by omega);have s:=lev_root l c;have w:=anc_self c;rw[Mh q l,nxt];have i:lev m<d:=by
  rcases aJ (lev m) d with h|h
  ·exact h
  ·exfalso;apply v;have:=s.2.1 (by omega);have u:=pow_pos' d;omega
 rw[iP i];have k:=halves m (lev m);have b:=anc_lev m (lev m+1);have g:=anc_le (x:=m) (d:=d) (j:=lev m+1) (by omega) (by omega);rw[anc_plo]at w;obtain⟨a,p⟩:=eX (anc m (lev m+1));rw[<-p]at k b g|-;have f:=lev_eq (by omega) b;have y:=Gz (x:=a) (by omega);have u:=pow_pos' (lev m);have e:Di (a:Int)=((2^lev m:Nat):Int):=by
  rw[Di,y,f,iP (by omega)];simp
 unfold Em Cq;rw[e,iN (by omega),iN (by omega)];have r:phi m (lev m)=plo m (lev m)+(2^(lev m+1)-2):=rfl;rw[aN]at r;refine⟨fun h=> ?_,fun h=>⟨?_,?_⟩⟩;all_goals
  rcases k with⟨z,A,B⟩|⟨z,A,B⟩<;>omega
theorem Zh5 (x n:Int)(w:World)(i: -9223372036854775808<=n)(h2:n<=9223372036854775807):
  Calls prog 98 #[rE rG x,rE rG n] w fun e w'=>e=rM (rE rG (Zku x n))/\Below w.heap.size w w':=by
 have P:=fun w=>Wi x n w i h2;have hk:= @Zh4 x n;unfold Zku;obtain⟨p,j⟩:=eX (Kt x n);rw[<-j]at P hk|-;have K:=fun w=>Mo p w;have f:=Hd P;have d:=Hd K;clear P K j i h2
 by_cases hn:p<0
 ·rw[iP hn];clear hk;go_in;go_wp2_with fail;refine(f.out _).mono ?_;rintro e k ⟨rfl,a⟩;have b:=Hd a;clear a;go_wp2_with fail;go_ret;exact⟨rfl,b.out⟩
 ·rw[iN hn];have hk:=hk (by omega);obtain⟨l,g⟩:=eX (Em p);obtain⟨r,h⟩:=eX (Cq p);rw[<-g,<-h]at d hk|-
  by_cases hx:x<p
  ·rw[iP hx];obtain rfl:=hk.1 hx;clear hk g h hx;go_in;go_wp2_with fail;refine(f.out _).mono ?_;rintro e k ⟨rfl,a⟩;have b:=Hd a;clear a;go_wp2_with fail;refine(d.out _).mono ?_;rintro e m ⟨rfl,a⟩;have c:=Hd a;clear a;go_wp2_with fail;go_ret;exact⟨rfl,b.out.trans (c.out.mono b.out.size)⟩
  ·rw[iN hx];have o:(l==x)=false:=(by rw[qN];exact(hk.2 hx).1);clear hk g h hx;go_in;go_wp2_with fail;refine(f.out _).mono ?_;rintro e k ⟨rfl,a⟩;have b:=Hd a;clear a;go_wp2_with fail;refine(d.out _).mono ?_;rintro e m ⟨rfl,a⟩;have c:=Hd a;clear a;go_wp2_with fail;go_ret;exact⟨rfl,b.out.trans (c.out.mono b.out.size)⟩
theorem Zh6 {y:Nat}(hy:y<=131070):Tk (y:Int)=((2^lev y-1:Nat):Int):=by
 have:=pow_pos' (lev y);have e:(2:Int)^lev y=((2^lev y:Nat):Int):=(by simp);rw[Tk,Gz hy,cD,e];omega
theorem Wj {x y:Nat}(hx:x<=131070)(c:y<=131070):Bu (x:Int) (y:Int)=decide (plo y (lev y)<=x/\x<=phi y (lev y)):=by
 have d:Bd (x:Int)=true:=(by rw[Bd,dT];omega);have h2:Bd (y:Int)=true:=(by rw[Bd,dT];omega);have f:=anc_self (lev_is c);rw[anc_plo]at f;have e:phi y (lev y)=plo y (lev y)+(2^(lev y+1)-2):=rfl;rw[aN]at e;have g:=pow_pos' (lev y);rw[Bu,d,h2,Zh6 c,dM,dM];apply decide_eq_decide.2;constructor
 ·rintro⟨a,b⟩;omega
 ·rintro⟨a,b⟩;omega
theorem Ew (x y:Int)(w:World):
  Calls prog 83 #[rE rG x,rE rG y] w fun e w'=>e=rM (.bool (Bu x y))/\Below w.heap.size w w':=by
 by_cases hx:Bd x=true
 ·have u:=oD hx;obtain⟨m,rfl⟩:∃m:Nat,x=(m:Int):=⟨x.toNat,by omega⟩;have B:m<=131070:=(by omega);have D:=Jk m B
  by_cases hy:Bd y=true
  ·have o:=oD hy;obtain⟨q,rfl⟩:∃q:Nat,y=(q:Int):=⟨y.toNat,by omega⟩;have z:q<=131070:=(by omega);have E:=Jk q z;rw[Wj B z];obtain⟨n,t⟩:=eX (plo q (lev q));obtain⟨p,s⟩:=eX (phi q (lev q));rw[<-t,<-s]at E|-;have l:=Hd D;have k:=Hd E;clear D E t s hx hy u o;have C:(n<=m/\m<=p)\/(n<=m/\¬m<=p)\/¬n<=m:=(by omega);rcases C with⟨c1,c2⟩|⟨c1,c2⟩|c1
   ·rw[dT ⟨c1,c2⟩];have r:decide ((n:Int)<=(m:Int))=true:=(by rw[dT];omega);have A:decide ((m:Int)<=(p:Int))=true:=(by rw[dT];omega);go_in;go_wp2_with fail;refine(l.out _).mono ?_;rintro e g ⟨rfl,a⟩;have c:=Hd a;clear a;go_wp2_with fail;refine(k.out _).mono ?_;rintro e h ⟨rfl,a⟩;have hk:=Vx a;have b:=Hd a;have f:=cell_of_row _ _ 0 _ _ _ hk;simp only[bY,bZ]at f;have i:=c.out.size;have d:=b.out.size;have v:g.heap.size<h.heap.size:=(by simp at d;omega);clear a hk d;go_wp2_with fail;go_ret;refine⟨rfl,?_⟩;exact((c.out.alloc i _).trans (b.out.mono (by simp;omega))).alloc (by omega) _
   ·have e:decide (n<=m/\m<=p)=false:=(by rw[dF];omega);rw[e];clear e;have r:decide ((n:Int)<=(m:Int))=true:=(by rw[dT];omega);have A:decide ((m:Int)<=(p:Int))=false:=(by rw[dF];omega);go_in;go_wp2_with fail;refine(l.out _).mono ?_;rintro e g ⟨rfl,a⟩;have c:=Hd a;clear a;go_wp2_with fail;refine(k.out _).mono ?_;rintro e h ⟨rfl,a⟩;have hk:=Vx a;have b:=Hd a;have f:=cell_of_row _ _ 0 _ _ _ hk;simp only[bY,bZ]at f;have i:=c.out.size;have d:=b.out.size;have v:g.heap.size<h.heap.size:=(by simp at d;omega);clear a hk d;go_wp2_with fail;go_ret;refine⟨rfl,?_⟩;exact((c.out.alloc i _).trans (b.out.mono (by simp;omega))).alloc (by omega) _
   ·have e:decide (n<=m/\m<=p)=false:=(by rw[dF];omega);rw[e];clear e;have r:decide ((n:Int)<=(m:Int))=false:=(by rw[dF];omega);go_in;go_wp2_with fail;refine(l.out _).mono ?_;rintro e g ⟨rfl,a⟩;have c:=Hd a;clear a;go_wp2_with fail;refine(k.out _).mono ?_;rintro e h ⟨rfl,a⟩;have hk:=Vx a;have b:=Hd a;have f:=cell_of_row _ _ 0 _ _ _ hk;simp only[bY,bZ]at f;have i:=c.out.size;have d:=b.out.size;have v:g.heap.size<h.heap.size:=(by simp at d;omega);clear a hk d;go_wp2_with fail;go_ret;refine⟨rfl,?_⟩;exact((c.out.alloc i _).trans (b.out.mono (by simp;omega))).alloc (by omega) _
  ·have j:Bd y=false:=(by rw[<-cF];exact hy);have E:=Jl y j;have e:Bu m y=false:=(by rw[Bu,j,eJ,dQ]);rw[e];have l:=Hd D;have k:=Hd E;clear D E e hx hy u j;go_in;go_wp2_with fail;refine(l.out _).mono ?_;rintro e g ⟨rfl,a⟩;have c:=Hd a;clear a;go_wp2_with fail;refine(k.out _).mono ?_;rintro e h ⟨rfl,a⟩;have hk:=Vx a;have b:=Hd a;have f:=cell_of_row _ _ 0 _ _ _ hk;simp only[bY,bZ]at f;have i:=c.out.size;have d:=b.out.size;have v:g.heap.size<h.heap.size:=(by simp at d;omega);clear a hk d;go_wp2_with fail;go_ret;refine⟨rfl,?_⟩;exact((c.out.alloc i _).trans (b.out.mono (by simp;omega))).alloc (by omega) _
 ·have j:Bd x=false:=(by rw[<-cF];exact hx);have D:=Jl x j;have e:Bu x y=false:=(by rw[Bu,j,dQ,dQ]);rw[e];have l:=Hd D;clear D e hx j
  by_cases hy:Bd y=true
  ·have o:=oD hy;obtain⟨q,rfl⟩:∃q:Nat,y=(q:Int):=⟨y.toNat,by omega⟩;have z:q<=131070:=(by omega);have E:=Jk q z;have k:=Hd E;clear E hy o;go_in;go_wp2_with fail;refine(l.out _).mono ?_;rintro e g ⟨rfl,a⟩;have c:=Hd a;clear a;go_wp2_with fail;refine(k.out _).mono ?_;rintro e h ⟨rfl,a⟩;have hk:=Vx a;have b:=Hd a;have f:=cell_of_row _ _ 0 _ _ _ hk;simp only[bY,bZ]at f;have i:=c.out.size;have d:=b.out.size;have v:g.heap.size<h.heap.size:=(by simp at d;omega);clear a hk d;go_wp2_with fail;go_ret;refine⟨rfl,?_⟩;exact((c.out.alloc i _).trans (b.out.mono (by simp;omega))).alloc (by omega) _
  ·have j:Bd y=false:=(by rw[<-cF];exact hy);have E:=Jl y j;have k:=Hd E;clear E hy j;go_in;go_wp2_with fail;refine(l.out _).mono ?_;rintro e g ⟨rfl,a⟩;have c:=Hd a;clear a;go_wp2_with fail;refine(k.out _).mono ?_;rintro e h ⟨rfl,a⟩;have hk:=Vx a;have b:=Hd a;have f:=cell_of_row _ _ 0 _ _ _ hk;simp only[bY,bZ]at f;have i:=c.out.size;have d:=b.out.size;have v:g.heap.size<h.heap.size:=(by simp at d;omega);clear a hk d;go_wp2_with fail;go_ret;refine⟨rfl,?_⟩;exact((c.out.alloc i _).trans (b.out.mono (by simp;omega))).alloc (by omega) _
theorem Wk {x y d j:Nat}(w:d<=16)(hx:x+1<2^(d+1))(z:y+1<2^(d+1))(n:j<=d):Bu (y:Int) (anc x j:Nat)=decide (lev y<=j/\anc x j=anc y j):=by
 have l:=Ar (show d+1<=17 by omega);have o:=anc_le (show x<2^(d+1) by omega) n;have f:=anc_lev x j;have c:=lev_is (x:=y) (by omega);rw[Wj (by omega) (by omega),lev_eq (by omega) f];have i:plo (anc x j) j=plo x j:=(by unfold plo;rw[anc_div (eR j)]);have e2:phi (anc x j) j=phi x j:=(by unfold phi;rw[i]);rw[i,e2];apply decide_eq_decide.2;have t:=pow_pos' (j+1);have m:=anc_bounds y j;have q:=aV y (2^(j+1));have r:=Nat.mod_lt y t;constructor
 ·rintro⟨a,b⟩;have e:y/2^(j+1)=x/2^(j+1):=by
   unfold phi plo at b;unfold plo at a;refine(Nat.div_eq_of_lt_le ?_ ?_)
   ·exact a
   ·rw[Nat.add_mul,Nat.one_mul];have:=pow_pos' j;have k:2^(j+1)=2*2^j:=(by rw[aN];omega);omega
  refine⟨?_,by unfold anc;rw[e]⟩;rcases aJ j (lev y)with p|g
  ·exfalso;unfold IsLev at c;have v:y%2^(j+1)=2^(j+1)-1:=by
    have h2:y%2^(lev y+1)%2^(j+1)=y%2^(j+1):=eT _ (eU 2 (by omega));rw[c,ones_mod (by omega)]at h2;exact h2.symm
   unfold phi plo at b;rw[<-e,aU]at b;have:=pow_pos' j;have k:2^(j+1)=2*2^j:=(by rw[aN];omega);omega
  ·exact g
 ·rintro⟨a,b⟩;have e:x/2^(j+1)=y/2^(j+1):=by
   rw[<-anc_div (x:=x) (eR j),b,anc_div (eR j)]
  unfold phi plo;rw[e];refine⟨m.1,?_⟩;have k:2^(j+1)=2*2^j:=(by rw[aN];omega);have u:=pow_pos' j;have s:y%2^(j+1)≠2^(j+1)-1:=by
   intro h;unfold IsLev at c;have h2:y%2^(j+1)%2^(lev y+1)=y%2^(lev y+1):=eT _ (eU 2 (by omega));rw[h,ones_mod (by omega),c,aN]at h2;have:=pow_pos' (lev y);omega
  rw[aU]at q;omega
def Hu (t:List NodeD)(x:Nat)(u:Int):Prop:=
 u<(Ao t.length:Int)/\Bu (2*u) (x:Int)=true/\(nd t (2*u).toNat).kind≠0/\∀y,y<t.length->(nd t y).kind=2->Bu (2*u) (y:Int)=true->Bu (y:Int) (x:Int)=true->u∈(nd t y).par.late
def Zdu (t:List NodeD)(x:Nat)(u:Int):Bool:=
 decide (u<(Ao t.length:Int))&&(Bu (2*u) (x:Int)&&(decide ((nd t (2*u).toNat).kind≠0)&&(aC t.length).all fun y=> !(decide ((nd t y).kind=2)&&(Bu (2*u) (y:Int)&&Bu (y:Int) (x:Int)))||decide (u∈(nd t y).par.late)))
theorem Pn (t:List NodeD)(x:Nat)(u:Int):Zdu t x u=true↔Hu t x u:=by
 unfold Zdu Hu;simp only[cK,dI,eB,eC,cL,Bool.not_eq_true',Bool.and_eq_false_imp];constructor
 ·rintro⟨a,h2,h3,b⟩;refine⟨a,h2,h3,fun y c d e f=> ?_⟩;rcases b y c with h|h
  ·have:=h d e;rw[f]at this;cases this
  ·exact h
 ·rintro⟨a,h2,h3,b⟩;refine⟨a,h2,h3,fun y c=> ?_⟩
  by_cases hm:u∈(nd t y).par.late
  ·exact .inr hm
  ·refine .inl fun d e=> ?_;cases f:Bu (y:Int) (x:Int)with
   |false=>rfl
   |true=>exact absurd (b y c d e f) hm
def Dm (t:List NodeD)(x:Nat):Bool:=(nd t x).par.late.all (Zdu t x)
theorem Po {t:List NodeD} {x:Nat}(h:∀u∈(nd t x).par.late,Hu t x u):Dm t x=true:=List.all_eq_true.2 fun u hu=>(Pn t x u).2 (h u hu)
theorem If {t:List NodeD} {x:Nat}(h:Dm t x=true):∀u∈(nd t x).par.late,Hu t x u:=fun u hu=>(Pn t x u).1 (List.all_eq_true.1 h u hu)
theorem Tq {t:List NodeD} {x:Nat} {u:Int}(hu:u∈(nd t x).par.late)(h:¬Hu t x u):Dm t x=false:=by
 cases hb:Dm t x with
 |false=>rfl
 |true=>exact absurd (If hb u hu) h
theorem Kx {d:NodeD}(h:Aq d=true):d.kind=0\/d.kind=1\/d.kind=2:=by
 unfold Aq at h
 by_cases h0:d.kind=0
 ·exact .inl h0
 ·by_cases h1:d.kind=1
  ·exact .inr (.inl h1)
  ·by_cases h2:d.kind=2
   ·exact .inr (.inr h2)
   ·simp only[h0,h1,h2,if_false]at h;cases h
theorem Lm {d:NodeD}(h:Aq d=true)(hk:d.kind≠2):d.par.late=[]:=by
 unfold Aq at h;have a:npB d.par.box.length d.par.hash.length d.par.late.length=true->d.par.late=[]:=by
  intro h;have:=oD h;exact List.eq_nil_of_length_eq_zero (by omega)
 rcases Kx (d:=d) (by unfold Aq;exact h)with h0|h1|h2
 ·simp only[h0,if_true,cK]at h;exact a h.2
 ·simp only[h1,if_true,Nat.one_ne_zero,if_false,cK]at h;exact a h.2
 ·exact absurd h2 hk
theorem De {d:NodeD}(h:Aq d=true):Ji d.par.late=true:=by
 by_cases hk:d.kind=2
 ·have a:(nlB d.leaf.box.length d.leaf.sign.length d.leaf.ident.length d.leaf.source d.leaf.par.length d.leaf.sig.length&&rpB d.par.box.length d.par.hash.length d.par.late)=true:=by
   have h2:=h;unfold Aq at h2;rw[hk]at h2;exact h2
  rw[cK]at a;have h2:=a.2;unfold rpB at h2;rw[cK]at h2;exact h2.1
 ·rw[Lm h hk];rfl
theorem Zbk {L:List Int}(h:Ji L=true):Zmm L:=by
 have hp:=(Fa L).1 h;intro i j hij hj
 induction j with
 |zero=>omega
 |succ j ih=>
  have h1:=(hp (j+1) hj).1;unfold Ha at h1;rw[iN (by omega),Nat.add_sub_cancel]at h1
  by_cases e:i=j
  ·rw[e];exact h1
  ·have:=ih (by omega) (by omega);omega
theorem Mp {q:Nat}(h:q%2=0)(hq:q<=131070):lev q=0:=lev_eq hq (by unfold IsLev;simp;omega)
theorem Zdv {q:Nat}(h:q%2=1)(hq:q<=131070):1<=lev q:=by
 rcases eQ (lev q)with h0|h0
 ·have:=lev_is hq;rw[h0]at this;unfold IsLev at this;simp at this;omega
 ·exact h0
theorem Zk0 (x:Nat) {j:Nat}(h:1<=j):anc x j%2=1:=by
 have h1:2^(j+1)%2=0:=(by rw[aN];omega);have h2:2^j%2=0:=by
  obtain⟨k,rfl⟩:∃k,j=k+1:=⟨j-1,by omega⟩;rw[aN];omega
 have h3:=pow_pos' j;unfold anc;rw[Nat.add_mod,Nat.mul_mod,h1,Nat.mul_zero,Nat.zero_mod,Nat.zero_add,Nat.mod_mod];omega
theorem Jm {q x d:Nat}(c:d<=16)(h:q+1<2^(d+1))(hx:x+1<2^(d+1))(f:q%2=0):Bu (q:Int) (x:Int)=decide (x=anc q (lev x)):=by
 have b:=Ar (show d+1<=17 by omega);have a:x<=131070:=(by omega);have g:=(lev_root hx (lev_is a)).1;have e:=Wk c hx h g;rw[anc_self (lev_is a)]at e;rw[e,Mp f (by omega)]
 congr 1
 simp
theorem Cu {t:List NodeD}(hp:Ax t=true) {x:Nat}(hx:x<t.length):(nd t x).kind≠Dl x/\Aq (nd t x)=true:=(Fc t).1 hp x hx
theorem Pp {t:List NodeD}(hp:Ax t=true) {x:Nat}(hx:x<t.length)(hk:(nd t x).kind=2):x%2=1:=by
 rcases Nat.mod_two_eq_zero_or_one x with h|h
 ·have:=(Cu hp hx).1;rw[Du h]at this;exact absurd hk this
 ·exact h
theorem Zbl {t:List NodeD}(hp:Ax t=true) {x:Nat}(hx:x<t.length)(ho:x%2=1)(hk:(nd t x).kind≠0):(nd t x).kind=2:=by
 obtain⟨h1,h2⟩:=Cu hp hx;rw[Gi ho]at h1;rcases Kx h2 with h|h|h
 ·exact absurd h hk
 ·exact absurd h h1
 ·exact h
theorem Hg {t:List NodeD}(b:Ax t=true) {x:Nat}(hx:x<t.length) {u:Int}(a:u∈(nd t x).par.late):(nd t x).kind=2/\∃m:Nat,u=(m:Int)/\m<65536:=by
 obtain⟨_,h2⟩:=Cu b hx;refine⟨?_,?_⟩
 ·by_cases hk:(nd t x).kind=2
  ·exact hk
  ·rw[Lm h2 hk]at a;cases a
 ·obtain⟨c,d⟩:=Fu (De h2) u a;exact⟨u.toNat,by omega,by omega⟩
theorem Zk1 {t:List NodeD} {d m x:Nat}(j:d<=16)(D:t.length+1=2*2^d)(u:Ax t=true)(hx:x<t.length)(E:2*m<t.length)(B:(m:Int)∈(nd t x).par.late)(a:Bu ((2*m:Nat):Int) (x:Int)=true):
  (∀i,1<=i->i<lev x->(nd t (anc (2*m) i)).kind≠0->(m:Int)∈(nd t (anc (2*m) i)).par.late)↔(∀y,y<t.length->(nd t y).kind=2->Bu ((2*m:Nat):Int) (y:Int)=true->Bu (y:Int) (x:Int)=true->(m:Int)∈(nd t y).par.late):=by
 have z:=Ar (show d+1<=17 by omega);have e2:2^(d+1)=2*2^d:=(by rw[aN];omega);have l:x+1<2^(d+1):=(by omega);have b:2*m+1<2^(d+1):=(by omega);have q:x<=131070:=(by omega);have k:=(lev_root l (lev_is q)).1;rw[Jm j b l (by omega),dI]at a;constructor
 ·intro h y C hk s v;have c:y+1<2^(d+1):=(by omega);have f:y<=131070:=(by omega);have r:=Pp u C hk;have p:=Zdv r f;rw[Jm j b c (by omega),dI]at s;have e:=Wk (x:=2*m) j b c k;rw[<-a]at e;rw[e,dI]at v;obtain⟨F,w⟩:=v
  by_cases hle:lev y=lev x
  ·rw[<-hle,anc_self (lev_is f)]at w;rw[<-w];exact B
  ·have:=h (lev y) p (by omega) (by rw[<-s,hk];omega);rw[<-s]at this;exact this
 ·intro h i o A hk;have c:=anc_le (show 2*m<2^(d+1) by omega) (show i<=d by omega);have f:anc (2*m) i<=131070:=(by omega);have n:anc (2*m) i<t.length:=(by omega);have g:lev (anc (2*m) i)=i:=lev_eq f (anc_lev _ _);refine h _ n (Zbl u n (Zk0 _ o) hk) ?_ ?_
  ·rw[Jm j b c (by omega),dI,g]
  ·have e:=Wk (x:=2*m) j b c k;rw[<-a]at e;rw[e,dI,g];refine⟨by omega,?_⟩;rw[anc_anc (by omega),<-a]
theorem Tr {t:List NodeD} {d m x:Nat}(a:d<=16)(b:t.length+1=2*2^d):Hu t x (m:Int)↔m<2^d/\Bu ((2*m:Nat):Int) (x:Int)=true/\(nd t (2*m)).kind≠0/\∀y,y<t.length->(nd t y).kind=2->Bu ((2*m:Nat):Int) (y:Int)=true->Bu (y:Int) (x:Int)=true->(m:Int)∈(nd t y).par.late:=by
 unfold Hu;rw[Iy a b,show(2:Int)*(m:Int)=((2*m:Nat):Int) by omega,cD,Int.ofNat_lt]
theorem Zkb (x:Nat):∀k j i,i<k->(ups x j k)[i]? =some (anc x (j+i+1)):=by
 intro k
 induction k with
 |zero=>intro j i h;omega
 |succ k ih=>
  intro j i h;rw[ups];cases i with
  |zero=>simp
  |succ i=>rw[List.getElem?_cons_succ,ih (j+1) i (by omega)];congr 2;omega
theorem TreeR.at {w:World} {a:Option Addr} {n c:Nat} {t:List NodeD}(h:TreeR w (rD a n c) t) {i:Nat}(m:i<n):∃b d l e,a=some ⟨b,d,rJ⟩/\b<w.heap.size/\w.cell? ⟨b,d+i*10,rJ⟩=some (rE rH ((nd t i).kind:Nat))/\w.cell? ⟨b,d+i*10+9,rJ⟩=some (.slice l (nd t i).par.late.length e)/\Rd w (.slice l (nd t i).par.late.length e) (ivs .i64 (nd t i).par.late):=by
 obtain⟨b,d,cs,j,e2,f,g⟩:=h.node m;obtain⟨l,e,e3,k⟩:=f.late;exact⟨b,d,l,e,j,e2,g 0 _ f.kind,g 9 _ e3,k⟩
theorem Zh7 (v:Value)(t:List NodeD)(x d:Nat)(w:World)(h:TreeR w v t)(hs:Zdl t=true)(K:Ax t=true)(hd:d<=16)(hl:t.length+1=2*2^d)(hx:x<t.length):
  Calls prog 228 #[v,rE rG (x:Nat)] w fun e w'=>e=rM (.bool (Dm t x))/\Below w.heap.size w w':=by
 obtain⟨a,c,rfl,hc,cB⟩:=h.sl;have a8:=Rk hs;have bY:=Ar (show d+1<=17 by omega);have aI:2^(d+1)=2*2^d:=(by rw[aN];omega);obtain⟨L,hL⟩:=eX ((nd t x).par.late);have LV:=fun(W:World)=>Iz a t.length c W (by omega);rw[Iy hd hl]at LV;have GA:=fun(W:World) (M:Below w.heap.size w W) (i:Nat) (hi:i<t.length)=>(h.below M lR).at hi;have UN:=fun(q:Nat) (W:World)=>Cr (q:Int) (x:Int) W;have PA:=fun(q:Nat) (U:q+1<2^(d+1)) (he:q%2=0) (W:World)=>(show Calls prog 269 #[rE rG (q:Nat),rE rG ((2^d:Nat):Int)] W fun e w'=>∃v,e=rM v/\Own w' W.heap.size 3 v (nvs (ups q 0 d))/\Below W.heap.size W w' from by
  have:=Zhn q d hd U W;rw[Mp he (by omega)]at this;exact this)
 have BS:=fun(i:Nat) (hi:i<t.length) (u:Int) (lv:Value) (W:World) (g:Rd W lv (ivs .i64 (nd t i).par.late))=>Wh lv (nd t i).par.late u W g (Zbk (De (Cu K hi).2)) (by
  have:=oD (Wd hs i)
  omega)
 have I:=fun(y:∀r,r<L.length->Hu t x (L.getD r 0))=>Po (t:=t) (x:=x) (fun u hu=>by
  rw[<-hL]at hu;obtain⟨r,g,rfl⟩:=eA hu;have:=y r g
  rwa [aE,aF g]at this)
 have D:=fun(r:Nat) (g:r<L.length)=>(show L.getD r 0∈(nd t x).par.late by rw[aE,aF g,<-hL];exact aG g);have NO:=fun(r:Nat) (g:r<L.length) (y:¬Hu t x (L.getD r 0))=>Tq (D r g) y;have aC:=fun(r:Nat) (g:r<L.length)=>Hg K hx (D r g);have LP:=fun(m:Nat)=>Tr (m:=m) (x:=x) hd hl;have aD:=fun(m:Nat) (hm:2*m<t.length) (hu:(m:Int)∈(nd t x).par.late) (bG:Bu ((2*m:Nat):Int) (x:Int)=true)=>Zk1 hd hl K hx hm hu bG;have UL:=fun(q:Nat) (U:q+1<2^(d+1)) (he:q%2=0)=>Jm hd U (show x+1<2^(d+1) by omega) he;have LX:=(lev_root (show x+1<2^(d+1) by omega) (lev_is (x:=x) (by omega))).1;have aZ:=fun(hk:(nd t x).kind=2)=>Zdv (Pp K hx hk) (by omega);have X:=fun(q j:Nat) (U:q<2^(d+1)) (hj:j<=d)=>anc_le U hj;obtain⟨N,hN⟩:=eX (2^d);rw[<-hN]at LV PA LP hl aI;obtain⟨n,hn⟩:=eX t.length;rw[<-hn]at LV GA BS aD hl hx hc a8|-;rw[<-hn]at LP;rw[aI]at PA UL X;have a7:L.length<=60:=(by have:=oD (Wd hs x);rw[hL];omega);obtain⟨k0,E⟩:=eX L.length;rw[<-E]at a7;rw[<-E]at I D NO aC;have GX:=fun(W:World) (M:Below w.heap.size w W)=>GA W M x hx;rw[<-hL,<-E]at GX;obtain⟨R,hR⟩:=eX (Dm t x);rw[<-hR]at I NO|-;have bO:=Hd LV;have aR:=Hd GA;have bK:=Hd GX;have aX:=Hd UN;have bS:=Hd PA;have bJ:=Hd BS;have aY:=Hd I;have aV:=Hd D;have bQ:=Hd NO;have aW:=Hd aC;have z:=Hd LP;have S:=Hd aD;have bU:=Hd UL;have bP:=Hd LX;have aU:=Hd aZ;have aP:=Hd X;have HD:=Hd hd;have b5:=Hd hL;have b6:=Hd hl;have bL:=Hd E;have b8:2*N=n+1:=(by omega);clear LV GA GX UN PA BS I D NO aC LP aD UL LX aZ X hL hl hn hR h hs K hd bY aI hN E;obtain⟨b,bH,l,e,rfl,b9,ck,cl,bF⟩:=bK.out w bR;have AT:=fun(r:Nat) (g:r<k0)=>bF.at3 (u:=rE rG (L.getD r 0)) (r:=r) (by have:=bL.out;simp[ivs,aE,show r<L.length by omega]);have bI:=Hd AT;clear AT bF;go_in;go_wp2_with fail;refine(bO.out w).mono ?_;rintro e' w' ⟨rfl,rfl⟩;go_wp2_with fail
 go_loopg [21] k0 (fun q iv wr=>∃r:Nat,r+q=k0/\iv=rE rG (r:Nat)/\(∀i,i<r->Hu t x (L.getD i 0))/\Below w'.heap.size w' wr)
 case atStart=>exact⟨0,by omega,rfl,fun i hi=>by omega,bR⟩
 case round=>
  obtain⟨r,g,rfl,T,hb⟩:=hrel;have HR:=Hd g;have O:=Hd T;have P:=Hd hb;clear g T hb
  by_cases hlt:r<k0
  ·have bA:decide (r<k0)=true:=dT hlt;obtain⟨bl,ol,e1,a3,cu⟩:=bI.out r hlt;subst e1;obtain⟨a6,m,hm,b4⟩:=aW.out r hlt;rw[hm]at cu;have b7:=(P.out.cell (p:=⟨bl,ol+r,rJ⟩) a3).trans cu;have HM:=Hd hm;have bM:=Hd a6;clear cu hm a6;have H:=Hd (fun(y:¬Hu t x (m:Int))=>bQ.out r hlt (by rw[HM.out];exact y));obtain⟨q,U⟩:=eX (2*m);have cE:2*(m:Int)=(q:Int):=(by omega);have f:=Hd U;clear U
   by_cases c1:N<=m
   ·have g1:decide (N<=m)=true:=dT c1;have HF:=Hd (H.out (fun y=>by have:=((z.out m).1 y).1;omega));go_wp2_with fail;go_ret;exact⟨Eb HF.out,P.out⟩
   ·have g1:decide (N<=m)=false:=dF c1;have b0:q<n:=(by have:=f.out;omega);cases hun:Bu (q:Int) (x:Int)with
    |false=>
     have HF:=Hd (H.out (fun y=>by
      have:=((z.out m).1 y).2.1;rw[<-f.out,hun]at this;cases this))
     have U1:=aX.out q wr;rw[hun]at U1;have G:=Hd U1;clear U1 hun;go_wp2_with fail;refine(G.out).mono ?_;rintro e' w2 ⟨rfl,rfl⟩;go_wp2_with fail;go_ret;exact⟨Eb HF.out,P.out⟩
    |true=>
     have U1:=aX.out q wr;rw[hun]at U1;have G:=Hd U1;have o:=Hd hun;clear U1 hun;obtain⟨b',off',l2,e2,eb,_,J,_,_⟩:=aR.out wr P.out q b0;simp only[Option.some.injEq,Addr.mk.injEq,and_true]at eb;obtain⟨rfl,rfl⟩:=eb
     by_cases c3:(nd t q).kind=0
     ·have HF:=Hd (H.out (fun y=>by
       have:=((z.out m).1 y).2.2.1;rw[<-f.out]at this;exact this c3))
      rw[c3]at J;have b2:wr.cell? ⟨b,bH+q*10,rJ⟩=some (rE rH 0):=J;clear c3 J;go_wp2_with fail;refine(G.out).mono ?_;rintro e' w2 ⟨rfl,rfl⟩;go_wp2_with fail;go_ret;exact⟨Eb HF.out,P.out⟩
     ·obtain⟨kq,aM⟩:=eX ((nd t q).kind);rw[<-aM]at J c3;have g3:((kq:Int)==0)=false:=(by rw[qN];omega);have bN:=Hd aM;have bE:q+1<2*N:=(by omega);have bV:=Hd (bS.out q bE (by have:=f.out;omega) wr);clear aM;go_wp2_with fail;refine(G.out).mono ?_;rintro e' w2 ⟨rfl,rfl⟩;go_wp2_with fail;refine(bV.out).mono ?_;rintro e' w2 ⟨pv,rfl,F,a0⟩;have Z:=Hd (P.out.trans (a0.mono P.out.size));have bC:(nvs (ups q 0 d)).length=d:=(by rw[Vw,Rc]);obtain⟨pa,pc,bX⟩:∃a c,pv=.slice a d c:=(by obtain⟨a,c,e,_⟩:=F.rd;exact⟨a,c,by rw[e,bC]⟩);subst bX;have PT:=fun(k:Nat) (hk:k<d)=>F.rd.at3 (u:=rE rG (anc q (k+1):Nat)) (r:=k) (by simp[nvs,ivs,Zkb q d 0 k hk]);have bT:=Hd PT;have aB:=Hd (show x=anc q (lev x) by
       have:=bU.out q bE (by have:=f.out;omega);rw[o.out]at this;exact oD this.symm)
      have Q:=Hd (aU.out bM.out);have A:=Hd (show(m:Int)∈(nd t x).par.late by rw[<-HM.out];exact aV.out r hlt);have cC:=HD.out;clear F a0 PT bC;go_wp2_with fail;obtain⟨g1,rfl⟩:=eX gk;obtain⟨w1,rfl⟩:=eX wr
      go_loopg [49] d (fun q2 iv wv=>∃k:Nat,k+q2=d/\iv=rE rG (k:Nat)/\(∀i,1<=i->i<=k->anc q i≠x/\((nd t (anc q i)).kind≠0->(m:Int)∈(nd t (anc q i)).par.late))/\wv=w2)
      case atStart=>exact⟨0,by omega,rfl,fun i s h2=>by omega,rfl⟩
      case round=>
       obtain⟨k,hk,rfl,V,rfl⟩:=hrel;have HK:=Hd hk;have C:=Hd V;clear hk V
       by_cases hkd:k<d
       ·have b3:decide (k<d)=true:=dT hkd;obtain⟨bp,op,e1,cA,cp⟩:=bT.out k hkd;subst e1;obtain⟨p,K⟩:=eX (anc q (k+1));rw[<-K]at cp;have HP:=Hd K;clear K
        by_cases hpx:p=x
        ·have g4:((p:Int)==(x:Int))=true:=(by rw[beq_iff_eq];omega);have B:=Hd hpx;have aQ:=Hd (show Hu t x (m:Int)from(z.out m).2 ⟨by omega,by rw[<-f.out];exact o.out,by rw[<-f.out,<-bN.out];exact c3,by
          have M:=S.out m (by have:=f.out;omega) A.out (by rw[<-f.out];exact o.out);rw[<-f.out]at M;have cD:lev x=k+1:=by
           have s:=aB.out;have h2:=HP.out;rw[B.out]at h2;have a1:=anc_lev q (k+1);rw[<-h2]at a1;have a2:=anc_lev q (lev x);rw[<-s]at a2;exact lev_unique a2 a1
          rw[<-f.out];refine M.1 fun i s h2=> ?_;exact(C.out i s (by omega)).2⟩)
         clear hpx;go_wp2_with fail;go_roundg (g1-1);case measure=>have:=HR.out;omega
         case rel=>
          refine⟨r+1,by have:=HR.out;omega,by go_num,fun i hi=> ?_,Z.out⟩
          by_cases e:i=r
          ·rw[e,HM.out];exact aQ.out
          ·exact O.out i (by omega)
        ·have g4:((p:Int)==(x:Int))=false:=(by rw[qN];omega);have B:=Hd hpx;have bD:p<n:=by
          have:=aP.out q (k+1) (by omega) (by omega);rw[<-HP.out]at this;omega
         obtain⟨b',off',l3,e3,eb,_,aH,bW,aO⟩:=aR.out wr (Z.out) p bD;simp only[Option.some.injEq,Addr.mk.injEq,and_true]at eb;obtain⟨rfl,rfl⟩:=eb;have B1:=bJ.out p bD (m:Int) _ wr aO;obtain⟨kp,aL⟩:=eX ((nd t p).kind);rw[<-aL]at aH;have aT:=Hd aL;obtain⟨lp,a9⟩:=eX ((nd t p).par.late.length);rw[<-a9]at bW aO B1;obtain⟨is,aK⟩:=eX (decide ((m:Int)∈(nd t p).par.late));rw[<-aK]at B1;have aS:=Hd aK;have Y:=Hd B1;clear aL a9 aK B1 aO hpx
         by_cases k0':kp=0
         ·have aA:=Hd k0';have b1:wr.cell? ⟨b,bH+p*10,rJ⟩=some (rE rH 0):=(by rw[aH,k0'];rfl);clear k0' aH;go_wp2_with fail;refine(Y.out).mono ?_;rintro e' w3 ⟨pos,rfl,_,_,_,rfl⟩;go_wp2_with fail;go_roundg (gk-1);case measure=>have:=HK.out;omega
          case rel=>
           refine⟨k+1,by have:=HK.out;omega,by go_num,fun i s h2=> ?_,rfl⟩
           by_cases e:i=k+1
           ·rw[e,<-HP.out];exact⟨B.out,fun bZ=>absurd (aT.out.symm.trans aA.out) bZ⟩
           ·exact C.out i s (by omega)
         ·have aA:=Hd k0';have g5:((kp:Int) !=0)=true:=by
           have:((kp:Int)==0)=false:=(by rw[qN];omega);rw[bne,this];rfl
          have g6:((kp:Int)==0)=false:=(by rw[qN];omega);cases is with
          |true=>
           clear k0';go_wp2_with fail;refine(Y.out).mono ?_;rintro e' w3 ⟨pos,rfl,_,_,_,rfl⟩;go_wp2_with fail;go_roundg (gk-1);case measure=>have:=HK.out;omega
           case rel=>
            refine⟨k+1,by have:=HK.out;omega,by go_num,fun i s h2=> ?_,rfl⟩
            by_cases e:i=k+1
            ·rw[e,<-HP.out];exact⟨B.out,fun _=>oD aS.out.symm⟩
            ·exact C.out i s (by omega)
          |false=>
           have HF:=Hd (H.out (fun y=>by
            have M:=S.out m (by have:=f.out;omega) A.out (by rw[<-f.out];exact o.out);rw[<-f.out]at M;have a4:=((z.out m).1 y).2.2.2;rw[<-f.out]at a4;have bB:k+1<lev x:=by
             have s:=aB.out;have h3:=Q.out;rcases aJ (k+1) (lev x)with h|h
             ·exact h
             ·exfalso
              by_cases e:lev x=k+1
              ·rw[e,<-HP.out]at s;exact B.out s.symm
              ·exact(C.out (lev x) h3 (by omega)).1 s.symm
            have a5:=M.2 a4 (k+1) (by omega) bB (by rw[<-HP.out,<-aT.out];exact aA.out);rw[<-HP.out]at a5;exact absurd a5 (of_decide_eq_false aS.out.symm)))
           clear k0';go_wp2_with fail;refine(Y.out).mono ?_;rintro e' w3 ⟨pos,rfl,_,_,_,rfl⟩;go_wp2_with fail;go_ret;exact⟨Eb HF.out,Z.out⟩
       ·exfalso;have s:=aB.out;have h2:=bP.out;have h3:=Q.out;exact(C.out (lev x) h3 (by have:=HK.out;omega)).1 s.symm
  ·obtain rfl:r=k0:=(by have:=HR.out;omega);have bA:decide (r<r)=false:=dF hlt;go_wp2_with fail;go_ret;exact⟨Eb (aY.out O.out),P.out⟩
def Gj (t:List NodeD):Bool:=t.any fun d=>d.kind==1
theorem Zdw {t:List NodeD} {i:Nat}(hi:i<t.length)(h:(nd t i).kind=1):Gj t=true:=by
 unfold Gj;rw[cH];refine⟨t[i],aG hi,?_⟩;rw[nd,aE,aF hi]at h;rw[beq_iff_eq];exact h
theorem Zh8 {t:List NodeD}(h:∀i,i<t.length->(nd t i).kind≠1):Gj t=false:=by
 cases hs:Gj t with
 |false=>rfl
 |true=>
  unfold Gj at hs;rw[cH]at hs;obtain⟨d,hd,hk⟩:=hs;obtain⟨i,hi,rfl⟩:=eA hd;have:=h i hi;rw[nd,aE,aF hi]at this;exact absurd (beq_iff_eq.1 hk) this
theorem Zdx (d:NodeD)(c:Array Value)(w:World)(h:NodeC w d c)(hk:d.kind<256):
  Calls prog 268 #[.agg c] w fun e w'=>e=rM (.bool (d.kind==1))/\Below w.heap.size w w':=by
 obtain⟨g,c1,i,c2,j,c3,l,c4,m,c5,n,q,o,e2,p,e3,rfl,_⟩:=h;obtain⟨k,a⟩:∃k,k=d.kind:=⟨_,rfl⟩;rw[<-a]at hk|-;have e:((k:Int)==1)=(k==1):=by
  by_cases h:k=1
  ·subst h;rfl
  ·rw[qN.2 h,qN];omega
 obtain⟨b,f⟩:=eX ((k==1));rw[<-f]at e|-;clear f a;go_in;go_wp2_with fail;go_ret;exact⟨rfl,bR.alloc lR _⟩
theorem Wl (v:Value)(t:List NodeD)(w:World)(h:TreeR w v t)(x:TreeOk t):
  Calls prog 287 #[v,.func (.func 268) #[] #[]] w fun e w'=>∃r:Int,e=rM (rE rG r)/\decide (r>=0)=Gj t/\Below w.heap.size w w':=by
 obtain⟨a,c,rfl,S,T⟩:=h.sl;have L:=fun(i:Nat) (cs:Array Value) (W:World) (J:NodeC W (nd t i) cs)=>Zdx (nd t i) cs W J (x.nd i).kind;have C:=fun(W:World) (J:Below w.heap.size w W) (i:Nat) (s:i<t.length)=>(h.below J lR).node s;have A:=fun(i:Nat) (s:i<t.length) (h:(nd t i).kind=1)=>Zdw s h;have B:=fun(h:∀i,i<t.length->(nd t i).kind≠1)=>Zh8 h;obtain⟨n,O⟩:=eX t.length;obtain⟨R,M⟩:=eX (Gj t);rw[<-O]at C A B S|-;rw[<-M]at A B|-;have I:=Hd L;have E:=Hd C;have G:=Hd A;have H:=Hd B;clear L C A B h O M x;go_in;go_wp2_with fail
 go_loopg [8] n (fun q iv wr=>∃r:Nat,r+q=n/\iv=rE rG (r:Nat)/\(∀i,i<r->(nd t i).kind≠1)/\Below w.heap.size w wr)
 case atStart=>exact⟨0,by omega,rfl,fun i s=>by omega,bR⟩
 case round=>
  obtain⟨r,P,rfl,y,N⟩:=hrel;have F:=Hd P;have K:=Hd y;have m:=Hd N;clear P y N
  by_cases hlt:r<n
  ·have u:decide (r<n)=true:=dT hlt;obtain⟨b,z,cs,rfl,Q,f,k⟩:=E.out wr m.out r hlt;have o:=Hd k;have p:=Hd f.size;have l:=I.out r cs wr f;cases hk:((nd t r).kind==1)with
   |true=>
    rw[hk]at l;have j:=Hd l;have D:=Hd (G.out r hlt (beq_iff_eq.1 hk));clear l hk k f;go_wp2_with (refine wpList_load_mid rfl 52 (.tmp 14) rfl b (z+r*10) rfl cs.toList _ o.out underlying52 rfl (by rw[eK,p.out];exact Ai) ?_);refine(j.out).mono ?_;rintro e U ⟨rfl,d⟩;have g:=Hd (m.out.trans (d.mono m.out.size));clear d;go_wp2_with fail;go_ret;exact⟨(r:Nat),rfl,by rw[D.out,dI];omega,g.out⟩
   |false=>
    rw[hk]at l;have j:=Hd l;have D:=Hd (qN.1 hk);clear l hk k f;go_wp2_with (refine wpList_load_mid rfl 52 (.tmp 14) rfl b (z+r*10) rfl cs.toList _ o.out underlying52 rfl (by rw[eK,p.out];exact Ai) ?_);refine(j.out).mono ?_;rintro e U ⟨rfl,d⟩;have g:=Hd (m.out.trans (d.mono m.out.size));clear d;go_wp2_with fail;go_roundg (gk-1);case measure=>have:=F.out;omega
    case rel=>
     refine⟨r+1,by have:=F.out;omega,by go_num,fun i s=> ?_,g.out⟩
     by_cases e:i=r
     ·rw[e];exact D.out
     ·exact K.out i (by omega)
  ·obtain rfl:r=n:=(by have:=F.out;omega);have u:decide (r<r)=false:=dF hlt;go_wp2_with fail;go_ret;exact⟨-1,rfl,by rw[H.out K.out];rfl,m.out⟩
theorem Ts (v:Value)(t:List NodeD)(w:World)(h:TreeR w v t)(g:TreeOk t):
  Calls prog 227 #[v] w fun e w'=>e=rM (.bool (Gj t))/\Below w.heap.size w w':=by
 have m:=Wl v t w h g;have CF:Calls prog 267 #[v,.func (.func 268) #[] #[]] w fun e w'=>e=rM (.bool (Gj t))/\Below w.heap.size w w':=by
  obtain⟨a,c,rfl,o,f⟩:=h.sl;have d:=Hd m;obtain⟨R,i⟩:=eX (Gj t);rw[<-i]at d|-;obtain⟨n,k⟩:=eX t.length;rw[<-k]at d|-;clear m h i k o f g;go_in;go_wp2_with fail;refine(d.out).mono ?_;rintro e s ⟨r,rfl,p,j⟩;have l:=Hd j;have q:=Hd p;clear j p;go_wp2_with fail;go_ret;exact⟨Eb q.out.symm,l.out⟩
 obtain⟨a,c,rfl,o,f⟩:=h.sl;have b:=Hd CF;obtain⟨R,i⟩:=eX (Gj t);rw[<-i]at b|-;obtain⟨n,k⟩:=eX t.length;rw[<-k]at b|-;clear m CF h i k o f g;go_in;go_wp2_with fail;refine(b.out).mono ?_;rintro e s ⟨rfl,j⟩;have l:=Hd j;clear j;go_wp2_with fail;go_ret;exact⟨rfl,l.out⟩
def Ow (t:List NodeD):Bool:=if Ao t.length=1 then Gj t else Gj (t.drop (Ao t.length))
def Jn (t:List NodeD):Bool:=(aC t.length).all (Dm t)
def Bm (t:List NodeD):Bool:=decide (Ao t.length≠0)&&(Ax t&&(Ow t&&Jn t))
theorem Pq {t:List NodeD}(h:∀x,x<t.length->Dm t x=true):Jn t=true:=List.all_eq_true.2 fun x hx=>h x (List.mem_range.1 hx)
theorem Ig {t:List NodeD}(h:Jn t=true):∀x,x<t.length->Dm t x=true:=fun x hx=>List.all_eq_true.1 h x (List.mem_range.2 hx)
theorem Tt {t:List NodeD} {x:Nat}(hx:x<t.length)(h:Dm t x=false):Jn t=false:=by
 cases hb:Jn t with
 |false=>rfl
 |true=>rw[Ig hb x hx]at h;cases h
theorem Zk2 (t:List NodeD)(k i:Nat):nd (t.drop k) i=nd t (k+i):=by
 unfold nd;rw[aE,List.getElem?_drop,aE]
theorem TreeR.drop {w:World} {b a n c:Nat} {t:List NodeD}(h:TreeR w (rD (some ⟨b,a,rJ⟩) n c) t)(k:Nat)(hk:k<=n) {g n' f:Nat}(o:g=a+k*10)(d:n'=n-k)(j:f=c-k):TreeR w (rD (some ⟨b,g,rJ⟩) n' f) (t.drop k):=by
 obtain⟨q,cap,e,s,h2,h3⟩:=h;simp only[Value.slice.injEq]at e;obtain⟨rfl,rfl,rfl⟩:=e;subst o d j;refine⟨_,_,by rw[eD],by rw[eD];omega,by omega,fun i l=> ?_⟩;rw[eD]at l;obtain⟨r,off',cs,e,m,d,p⟩:=h3 (k+i) (by omega);simp only[Option.some.injEq,Addr.mk.injEq,and_true]at e;obtain⟨rfl,rfl⟩:=e;refine⟨b,a+k*10,cs,rfl,m,by rw[Zk2];exact d,?_⟩;rw[show a+k*10+i*10=a+(k+i)*10 by omega];exact p
theorem Pr (v:Value)(t:List NodeD)(w:World)(h:TreeR w v t)(V:Zdl t=true)(F:TreeOk t):
  Calls prog 188 #[v] w fun e w'=>e=rM (.bool (Bm t))/\Below w.heap.size w w':=by
 obtain⟨a,c,rfl,hc,aJ⟩:=h.sl;have K:=Rk V;have G:=fun(W:World)=>Iz a t.length c W (by omega);have M:=fun(W:World) (U:Below w.heap.size w W)=>Zbj (.slice a t.length c) t W (h.below U lR) V F;have SM:=fun(W:World) (U:Below w.heap.size w W)=>Ts (.slice a t.length c) t W (h.below U lR) F;obtain⟨R,hR⟩:=eX (Bm t);have j:R=(decide (Ao t.length≠0)&&(Ax t&&(Ow t&&Jn t))):=(by rw[hR,Bm]);rw[<-hR]
 by_cases h0:Ao t.length=0
 ·rw[h0]at G;have l:=Hd (show R=false by rw[j,h0];rfl);obtain⟨n,P⟩:=eX t.length;rw[<-P]at G|-;have o:=Hd G;clear G M SM j hR h0 h V F P hc K;go_in;go_wp2_with fail;refine(o.out w).mono ?_;rintro e w' ⟨rfl,rfl⟩;go_wp2_with fail;go_ret;exact⟨Eb l.out,bR⟩
 ·obtain⟨d,hd,hN,hl⟩:=Ch h0;rw[dT h0,dM]at j;cases hp:Ax t with
  |false=>
   rw[hp]at M j;have l:=Hd (show R=false by rw[j,dQ]);obtain⟨N,J⟩:=eX (Ao t.length);rw[<-J]at G h0;obtain⟨n,P⟩:=eX t.length;rw[<-P]at G M|-;have hq:((N:Int)==0)=false:=(by rw[qN];omega);have o:=Hd G;have D:=Hd (M w bR);clear G M SM j hR h0 h V F P hc K hl hN J;go_in;go_wp2_with fail;refine(o.out w).mono ?_;rintro e w' ⟨rfl,rfl⟩;go_wp2_with fail;refine(D.out).mono ?_;rintro e H ⟨rfl,f⟩;have g:=Hd f;clear f;go_wp2_with fail;go_ret;exact⟨Eb l.out,g.out⟩
  |true=>
   rw[hp]at M j;rw[dM]at j;have LT:=fun(x:Nat) (hx:x<t.length) (W:World) (U:Below w.heap.size w W)=>Zh7 (.slice a t.length c) t x d W (h.below U lR) V hp hd hl hx;have L1:=fun(hh:∀x,x<t.length->Dm t x=true)=>Pq hh;have L2:=fun(x:Nat) (hx:x<t.length) (hh:Dm t x=false)=>Tt hx hh;have aN:t.length≠0:=(by have:=pow_pos' d;omega);obtain⟨b,aG,aI,rfl,_,_,_⟩:=h.node (i:=0) (by omega);have aD:Ao t.length<=t.length:=(by rw[hN];have:=pow_pos' d;omega);have SD:=fun(W:World) (U:Below w.heap.size w W)=>Ts (rD (some ⟨b,aG+Ao t.length*10,rJ⟩) (t.length-Ao t.length) (c-Ao t.length)) (t.drop (Ao t.length)) W ((h.below U lR).drop _ aD rfl rfl rfl) (fun d hd=>F d (List.mem_of_mem_drop hd));have O:Ow t=if Ao t.length=1 then Gj t else Gj (t.drop (Ao t.length)):=rfl;have aE:2*Ao t.length=t.length+1:=(by rw[hN];omega);obtain⟨N,J⟩:=eX (Ao t.length);rw[<-J]at G h0 SD O aE;obtain⟨n,P⟩:=eX t.length;rw[<-P]at G M SM LT L1 L2 SD aE hc K|-;obtain⟨sb,Q⟩:∃b,b=Ow t:=⟨_,rfl⟩;rw[<-Q]at j O;obtain⟨lb,aF⟩:=eX (Jn t);rw[<-aF]at j L1 L2;have hq:((N:Int)==0)=false:=(by rw[qN];omega);have o:=Hd G;have D:=Hd (M w bR);have aC:=Hd SM;have aB:=Hd SD;have Z:=Hd LT;have X:=Hd L1;have Y:=Hd L2;have E:=Hd j;have aA:=Hd O;have aO:n<=c:=hc;clear G M SM SD LT L1 L2 j O hR h V F P hl hN J Q aF hp hd aD hc
   by_cases hN1:N=1
   ·have I:=Hd (show sb=Gj t by rw[aA.out,iP hN1]);subst hN1;cases hsm:Gj t with
    |false=>
     have B:=Hd hsm;have l:=Hd (show R=false by rw[E.out,I.out,hsm,dQ]);clear hsm;go_in;go_wp2_with fail;refine(o.out w).mono ?_;rintro e w' ⟨rfl,rfl⟩;go_wp2_with fail;refine(D.out).mono ?_;rintro e H ⟨rfl,f⟩;have g:=Hd f;have s:=aC.out H f;rw[B.out]at s;have z:=Hd s;clear f s;go_wp2_with fail;refine(z.out).mono ?_;rintro e w4 ⟨rfl,f⟩;have y:=Hd (g.out.trans (f.mono g.out.size));clear f;go_wp2_with fail;go_ret;exact⟨Eb l.out,y.out⟩
    |true=>
     have B:=Hd hsm;have T:=Hd (show sb=true by rw[I.out,hsm]);clear hsm;go_in;go_wp2_with fail;refine(o.out w).mono ?_;rintro e w' ⟨rfl,rfl⟩;go_wp2_with fail;refine(D.out).mono ?_;rintro e H ⟨rfl,f⟩;have g:=Hd f;have s:=aC.out H f;rw[B.out]at s;have z:=Hd s;clear f s;go_wp2_with fail;refine(z.out).mono ?_;rintro e w4 ⟨rfl,f⟩;have y:=Hd (g.out.trans (f.mono g.out.size));clear f;go_wp2_with fail
     go_loopg [36] n (fun q iv wr=>∃r:Nat,r+q=n/\iv=rE rG (r:Nat)/\(∀i,i<r->Dm t i=true)/\Below w'.heap.size w' wr)
     case atStart=>exact⟨0,by omega,rfl,fun i hi=>by omega,y.out⟩
     case round=>
      obtain⟨r,hr,rfl,p,f⟩:=hrel;have S:=Hd hr;have m:=Hd p;have g:=Hd f;clear hr p f
      by_cases hlt:r<n
      ·have L:decide (r<n)=true:=dT hlt;have C:=Z.out r hlt wr g.out;cases hk:Dm t r with
       |true=>
        rw[hk]at C;have A:=Hd C;have l:=Hd hk;clear C hk;go_wp2_with fail;refine(A.out).mono ?_;rintro e H ⟨rfl,k⟩;have u:=Hd (g.out.trans (k.mono g.out.size));clear k;go_wp2_with fail;go_roundg (gk-1);case measure=>have:=S.out;omega
        case rel=>
         refine⟨r+1,by have:=S.out;omega,by go_num,fun i hi=> ?_,u.out⟩
         by_cases e:i=r
         ·rw[e];exact l.out
         ·exact m.out i (by omega)
       |false=>
        rw[hk]at C;have A:=Hd C;have l:=Hd (show R=false by rw[E.out,Y.out r hlt hk,eJ]);clear C hk;go_wp2_with fail;refine(A.out).mono ?_;rintro e H ⟨rfl,k⟩;have u:=Hd (g.out.trans (k.mono g.out.size));clear k;go_wp2_with fail;go_ret;exact⟨Eb l.out,u.out⟩
      ·obtain rfl:r=n:=(by have:=S.out;omega);have L:decide (r<r)=false:=dF hlt;have l:=Hd (show R=true by rw[E.out,X.out m.out,T.out];rfl);go_wp2_with fail;go_ret;exact⟨Eb l.out,g.out⟩
   ·have I:=Hd (show sb=Gj (t.drop N) by rw[aA.out,iN hN1]);have aP:((N:Int)==1)=false:=(by rw[qN];omega);have aL:decide ((N:Int)>1)=true:=(by rw[dI];omega);have aM:decide ((1:Int)<(N:Int))=true:=(by rw[dI];omega);have aH:N<=n:=(by omega);have aK:c≠N:=(by omega);cases hsm:Gj (t.drop N)with
    |false=>
     have B:=Hd hsm;have l:=Hd (show R=false by rw[E.out,I.out,hsm,dQ]);clear hsm;go_in;go_wp2_with fail;refine(o.out w).mono ?_;rintro e w' ⟨rfl,rfl⟩;go_wp2_with fail;refine(D.out).mono ?_;rintro e H ⟨rfl,f⟩;have g:=Hd f;have s:=aB.out H f;rw[B.out]at s;have z:=Hd s;clear f s;go_wp2_with fail;refine(z.out).mono ?_;rintro e w4 ⟨rfl,f⟩;have y:=Hd (g.out.trans (f.mono g.out.size));clear f;go_wp2_with fail;go_ret;exact⟨Eb l.out,y.out⟩
    |true=>
     have B:=Hd hsm;have T:=Hd (show sb=true by rw[I.out,hsm]);clear hsm;go_in;go_wp2_with fail;refine(o.out w).mono ?_;rintro e w' ⟨rfl,rfl⟩;go_wp2_with fail;refine(D.out).mono ?_;rintro e H ⟨rfl,f⟩;have g:=Hd f;have s:=aB.out H f;rw[B.out]at s;have z:=Hd s;clear f s;go_wp2_with fail;refine(z.out).mono ?_;rintro e w4 ⟨rfl,f⟩;have y:=Hd (g.out.trans (f.mono g.out.size));clear f;go_wp2_with fail
     go_loopg [36] n (fun q iv wr=>∃r:Nat,r+q=n/\iv=rE rG (r:Nat)/\(∀i,i<r->Dm t i=true)/\Below w'.heap.size w' wr)
     case atStart=>exact⟨0,by omega,rfl,fun i hi=>by omega,y.out⟩
     case round=>
      obtain⟨r,hr,rfl,p,f⟩:=hrel;have S:=Hd hr;have m:=Hd p;have g:=Hd f;clear hr p f
      by_cases hlt:r<n
      ·have L:decide (r<n)=true:=dT hlt;have C:=Z.out r hlt wr g.out;cases hk:Dm t r with
       |true=>
        rw[hk]at C;have A:=Hd C;have l:=Hd hk;clear C hk;go_wp2_with fail;refine(A.out).mono ?_;rintro e H ⟨rfl,k⟩;have u:=Hd (g.out.trans (k.mono g.out.size));clear k;go_wp2_with fail;go_roundg (gk-1);case measure=>have:=S.out;omega
        case rel=>
         refine⟨r+1,by have:=S.out;omega,by go_num,fun i hi=> ?_,u.out⟩
         by_cases e:i=r
         ·rw[e];exact l.out
         ·exact m.out i (by omega)
       |false=>
        rw[hk]at C;have A:=Hd C;have l:=Hd (show R=false by rw[E.out,Y.out r hlt hk,eJ]);clear C hk;go_wp2_with fail;refine(A.out).mono ?_;rintro e H ⟨rfl,k⟩;have u:=Hd (g.out.trans (k.mono g.out.size));clear k;go_wp2_with fail;go_ret;exact⟨Eb l.out,u.out⟩
      ·obtain rfl:r=n:=(by have:=S.out;omega);have L:decide (r<r)=false:=dF hlt;have l:=Hd (show R=true by rw[E.out,X.out m.out,T.out];rfl);go_wp2_with fail;go_ret;exact⟨Eb l.out,g.out⟩
theorem Zbm (v:Value)(t:List NodeD)(w:World)(h:TreeR w v t)(hs:Bc t=true)(hok:TreeOk t):
  Calls prog 188 #[v] w fun e w'=>e=rM (.bool (Bm t))/\Below w.heap.size w w':=
 Pr v t w h (Pk hs) hok
theorem kids_lev {x k:Nat}(hx:x<=131070)(h:IsLev x (k+1)):Em (x:Int)=((x-2^k:Nat):Int)/\Cq (x:Int)=((x+2^k:Nat):Int)/\IsLev (x-2^k) k/\IsLev (x+2^k) k/\2^k<=x:=by
 have f:=lev_eq hx h;have g:Kq (x:Int)=((k+1:Nat):Int):=by
  rw[Kq,iP (by unfold Bd;rw[dI];omega),cD,f]
 have i:0<2^k:=aQ (by simp);have c:Di (x:Int)=((2^k:Nat):Int):=by
  rw[Di,g,iP (by omega),show(((k+1:Nat):Int)-1).toNat=k by omega,Int.natCast_pow];rfl
 unfold IsLev at h|-;have a:2^(k+1)=2*2^k:=(by rw[aN];omega);have e2:2^(k+1+1)=4*2^k:=(by rw[aN,a];omega);rw[e2,a]at h;rw[a];have d:=aV x (4*2^k);rw[h]at d;have b:2^k<=x:=(by omega);refine⟨?_,?_,?_,?_,b⟩
 ·rw[Em,c,iN (by omega)];omega
 ·rw[Cq,c,iN (by omega)];omega
 ·have e:x-2^k=2*2^k*(2*(x/(4*2^k)))+(2^k-1):=by
   have:2*2^k*(2*(x/(4*2^k)))=4*2^k*(x/(4*2^k)):=(by rw[bD,<-bE,<-bE]);omega
  rw[e,eV];exact aT (by omega)
 ·have e:x+2^k=2*2^k*(2*(x/(4*2^k))+1)+(2^k-1):=by
   have:2*2^k*(2*(x/(4*2^k))+1)=4*2^k*(x/(4*2^k))+2*2^k:=(by rw[Nat.mul_add,Nat.mul_one,bD,<-bE,<-bE]);omega
  rw[e,eV];exact aT (by omega)
theorem Hh {x:Nat}(h:IsLev x 0):x%2=0:=by unfold IsLev at h;simpa using h
theorem Fn {x k:Nat}(h:IsLev x (k+1)):x%2=1:=by
 unfold IsLev at h;have e2:2^(k+1+1)=2*2^(k+1):=(by rw[aN];omega);have e1:2^(k+1)=2*2^k:=(by rw[aN];omega);have hp:0<2^k:=aQ (by simp);have:=eT x (show 2∣2^(k+1+1)from⟨2^(k+1),e2⟩);rw[h]at this;omega
theorem Mq {x d:Nat}(hx:x+1<2^(d+1))(j:d<=16):x+2^lev x+1<=2^(d+1):=by
 have f:2^(d+1)<=2^17:=aZ (by omega) (by omega);have b:x<=131070:=(by have:(2:Nat)^17=131072:=rfl;omega);have c:=lev_is b;have a:=(lev_root hx c).1;have h:=phi_le (x:=x) (d:=d) (by omega) a;have g:=anc_self c;rw[anc_plo]at g;have e:phi x (lev x)=plo x (lev x)+(2^(lev x+1)-2):=rfl;have i:2^(lev x+1)=2*2^lev x:=(by rw[aN];omega);have k:0<2^lev x:=aQ (by simp);omega
open WireM
theorem NodeC.flat {w:World} {d:NodeD} {c:Array Value}(h:NodeC w d c):∃(o s q r t u v x y e c1 c2 c3 c4 c5 n e2 e3:Nat) (f g i j k l m a:Option Addr),
  c=#[rE rH (o:Nat),rD f q c1,rD g r c2,rD i t c3,rE rH (s:Nat),rD j u c4,rD k v c5,rD l x n,rD m y e2,rD a e e3]/\o=d.kind/\e=d.par.late.length/\Rd w (rD a e e3) (ivs .i64 d.par.late):=by
 obtain⟨f,c1,g,c2,i,c3,j,c4,k,c5,l,n,m,e2,a,e3,b,z,h2,h3,A,B,C,D,p⟩:=h;exact⟨_,_,_,_,_,_,_,_,_,_,_,_,_,_,_,_,_,_,_,_,_,_,_,_,_,_,b,rfl,rfl,p⟩
def Jo (d:NodeD)(x:Nat):List Int:=(x:Int)::d.par.late.map fun u=>2*u
def Ps (t:Nat->NodeD):Nat->Nat->List Int
 |0,x=>if(t x).kind=0 then []else Jo (t x) x
 |k+1,x=>if(t x).kind=0 then Ps t k (x-2^k)++Ps t k (x+2^k)else Jo (t x) x
theorem Ef {t:Nat->NodeD} {k x:Nat}(h:(t x).kind≠0):Ps t k x=Jo (t x) x:=by cases k<;>simp only[Ps,iN h]
theorem Jp {t:Nat->NodeD} {x:Nat}(h:(t x).kind=0):Ps t 0 x=[]:=by simp only[Ps,iP h]
theorem Jq {t:Nat->NodeD} {k x:Nat}(h:(t x).kind=0):Ps t (k+1) x=Ps t k (x-2^k)++Ps t k (x+2^k):=by simp only[Ps,iP h]
theorem Zdy {d:NodeD}(h:Cb d=true)(x:Nat):(Jo d x).length<=1001:=by
 have:=oD h;unfold Jo;rw[dB,eE];omega
theorem Pt {d:NodeD}(h:exB d=true)(x:Nat):(Jo d x).length<=61:=by
 have:=oD h;unfold Jo;rw[dB,eE];omega
theorem Zc {t:Nat->NodeD}(a:∀x,exB (t x)=true):∀k x,(Ps t k x).length<=61*2^k:=by
 intro k
 induction k with
 |zero=>
  intro x
  by_cases h:(t x).kind=0
  ·rw[Jp h];simp
  ·rw[Ef h];have:=Pt (a x) x;simpa using this
 |succ k ih=>
  intro x;have e:2^(k+1)=2*2^k:=(by rw[aN];omega);have c:0<2^k:=aQ (by simp)
  by_cases h:(t x).kind=0
  ·rw[Jq h,List.length_append];have b:=ih (x-2^k);have h2:=ih (x+2^k);omega
  ·rw[Ef h];have:=Pt (a x) x;omega
theorem Zdz (L M:List Int):ivs .i64 (L++M)=ivs .i64 L++ivs .i64 M:=by simp[ivs]
theorem Pu (x:Nat)(L:List Int) {r:Nat}(h:r<L.length):ivs .i64 ((x:Int)::(L.take (r+1)).map fun u=>2*u)=ivs .i64 ((x:Int)::(L.take r).map fun u=>2*u)++[rE rG (2*L.getD r 0)]:=by
 rw[List.take_succ_eq_append_getElem h,aE,aF h,eG,<-List.cons_append];unfold ivs;rw[eG];rfl
end Go.Proofs.YtfofaiommeckbaaGreat
namespace Go.Proofs.YtfofaiommeckbaaGreat
open Go.RowKit WalkM
theorem Zd0 (x n:Int)(w:World)(I: -9223372036854775808<=n)(h2:n<=9223372036854775807):
  Calls prog 46 #[rE rG x,rE rG n] w fun e w'=>∃v,e=rM v/\Own w' w.heap.size 3 v (nvs (Re x n))/\Below w.heap.size w w':=by
 by_cases ho:Kp x n=true
 ·obtain⟨m,d,rfl,rfl,R,z⟩:=Mi ho;have D:=fun w=>Rf m d R z w;have J:=Ar (show d+1<=17 by omega);have U:=(lev_root z (lev_is (x:=m) (by omega))).1;rw[Mj R z];have y:=Np m d (d-lev m+1);obtain⟨l,t⟩:∃l,l=lev m:=⟨_,rfl⟩;rw[<-t]at D U y|-;obtain⟨k,hk⟩:=eX (d-l);rw[<-hk]at D y|-;have T:k<=16:=(by omega);have s:d=l+k:=(by omega);have E:=Hd s;have C:=Hd D;have X:=Hd y;clear D y hk U t ho z J I h2 s;go_in;go_wp2_with fail;refine(C.out _).mono ?_;rintro e u ⟨v,rfl,b,P⟩;obtain⟨g,cap,rfl,hg,M,hn,aA,Q,-⟩:=b.out (by omega);have W:=Hd Q;have A:=Hd P;clear Q b P;go_wp2_with fail
  go_loopg [6,7] k (fun q out i wr=>∃r:Nat,r+q=k/\i=rE rG ((k:Int)-1-r)/\Own wr u.heap.size 3 out (nvs (ups m l r))/\Below u.heap.size u wr)
  case atStart=>
   refine⟨0,by omega,Fs ?_,Own.nil _ _ _,bR⟩;omega
  case round=>
   obtain⟨r,hr,rfl,b,h⟩:=hrel;have O:=Hd b;have f:=Hd h;have N:=h.size;clear b h
   by_cases hrk:r<k
   ·obtain⟨j,S⟩:∃j,k=r+1+j:=⟨k-r-1,by omega⟩;have H:(k:Int)-1-r=(j:Int):=(by omega);rw[H];have G:=W.out _ _ (X.out j (by omega));rw[<-f.out.cell (p:=⟨g,j*3,rJ⟩) M]at G;rw[show d-j=l+r+1 by have:=E.out;omega]at G;obtain⟨a,K⟩:=eX (anc m (l+r+1));rw[<-K]at G;have V:=Hd K;have Z:j<k+1:=(by omega);have EJ:=Hd H;have Y:=Hd S;clear K H S;go_wp2_with (at_builtin;refine Bq rfl (.tmp 18) (.tmp 24) 48 rfl u.heap.size 3 _ 8 He _ _ rfl (O.out.alloc _) ⟨wr.heap.size,0,rJ⟩ (rE rG (a:Int)) rfl ?c1 rfl ?c2 ?c3 ?_);case c1=>exact Bi rfl
    case c2=>rw[Vw,Rc];omega
    case c3=>simp;omega
    rintro v' w2 c-o;have F:=Hd c;have B:=Hd o;clear c o;go_wp2_with fail;go_roundg (gk-1);case measure=>omega
    case rel=>
     refine⟨r+1,by omega,Fs ?_,?_,?_⟩
     ·have:=Y.out;omega
     ·rw[Yw,Yx,<-V.out];exact F.out
     ·exact(f.out.alloc N _).trans B.out
   ·obtain rfl:r=k:=(by omega);go_wp2_with fail;go_ret;exact⟨_,rfl,O.out.mono A.out.size,A.out.trans (f.out.mono A.out.size)⟩
 ·have L:Kp x n=false:=(by rw[<-cF];exact ho);rw[Zdd L];have C:=Hd (fun w=>Ml x n w I h2 L);clear L ho I h2;go_in;go_wp2_with fail;refine(C.out _).mono ?_;rintro e u ⟨rfl,rfl⟩;go_wp2_with fail
  go_loopg [6,7] 0 (fun q out i wr=>i=rE rG (-2)/\out=rD rJ 0 0/\wr=w)
  case atStart=>exact⟨rfl,rfl,rfl⟩
  case round=>
   obtain⟨rfl,rfl,rfl⟩:=hrel;go_wp2_with fail;go_ret;exact⟨_,rfl,Own.nil _ _ _,bR⟩
def Zh9 (x:Nat)(n:Int)(l r:Nat):List Int:=(aC r).map fun j=>Zku (anc x (l+j):Nat) n
theorem Zia (x:Nat)(n:Int)(l r:Nat):(Zh9 x n l r).length=r:=by simp[Zh9]
theorem Zd1 (x:Nat)(n:Int)(l r:Nat):Zh9 x n l (r+1)=Zh9 x n l r++[Zku (anc x (l+r):Nat) n]:=by
 unfold Zh9;rw[eH,eG]
 rfl
theorem Mr (k:IntKind)(L:List Int)(x:Int):ivs k (L++[x])=ivs k L++[.int k x]:=by simp[ivs]
theorem Wm (k:IntKind)(L:List Int):(ivs k L).length=L.length:=by simp[ivs]
def Zkc (x n:Int):List Int:=if Kp x n=true then Zh9 x.toNat n (lev x.toNat) (Nat.log2 n.toNat-lev x.toNat)else []
theorem Zd2 {x d:Nat}(hd:d<=16)(hx:x+1<2^(d+1)):Zkc (x:Int) ((2^d:Nat):Int)=Zh9 x ((2^d:Nat):Int) (lev x) (d-lev x):=by
 rw[Zkc,iP (by rw[Rb hd,dT hx]),cD,cD,Nat.log2_two_pow]
theorem Zib {x n:Int}(h:Kp x n=false):Zkc x n=[]:=by rw[Zkc,iN (by rw[h];simp)]
theorem Wn (x n:Int)(w:World)(F: -9223372036854775808<=n)(h2:n<=9223372036854775807):
  Calls prog 47 #[rE rG x,rE rG n] w fun e w'=>∃v,e=rM v/\Own w' w.heap.size 3 v (ivs .i64 (Zkc x n))/\Below w.heap.size w w':=by
 by_cases ho:Kp x n=true
 ·obtain⟨m,d,rfl,rfl,hd,H⟩:=Mi ho;have D:=fun w=>Rf m d hd H w;have T:=Ar (show d+1<=17 by omega);have hl:=(lev_root H (lev_is (x:=m) (by omega))).1;rw[Zd2 hd H];have E:=Np m d (d-lev m+1);have S:=fun(y:Int) w=>Zh5 y ((2^d:Nat):Int) w F h2;obtain⟨n,X⟩:=eX (2^d);rw[<-X]at S D|-;obtain⟨l,A⟩:∃l,l=lev m:=⟨_,rfl⟩;rw[<-A]at D hl E|-;obtain⟨k,hk⟩:=eX (d-l);rw[<-hk]at D E|-;have aA:k<=16:=(by omega);have z:d=l+k:=(by omega);have L:=Hd z;have K:=Hd D;have HG:=Hd E;have HS:=Hd S;clear D E hk hl A ho H T F h2 z S X;go_in;go_wp2_with fail;refine(K.out _).mono ?_;rintro e C ⟨v,rfl,b,hb⟩;obtain⟨g,cap,rfl,hg,W,X,aC,hc,-⟩:=b.out (by omega);have HC:=Hd hc;have I:=Hd hb;clear hc b hb;go_wp2_with fail
  go_loopg [6,7] k (fun q out i wr=>∃r:Nat,r+q=k/\i=rE rG ((k:Int)-r)/\Own wr C.heap.size 3 out (ivs .i64 (Zh9 m n l r))/\Below C.heap.size C wr)
  case atStart=>
   refine⟨0,by omega,Fs ?_,Own.nil _ _ _,bR⟩;omega
  case round=>
   obtain⟨r,hr,rfl,b,h⟩:=hrel;have HO:=Hd b;have f:=Hd h;have Z:=h.size;clear b h
   by_cases hrk:r<k
   ·obtain⟨j,hj⟩:∃j,k=r+1+j:=⟨k-r-1,by omega⟩;have R:(k:Int)-r=(j:Int)+1:=(by omega);rw[R];have Q:=HC.out _ _ (HG.out (j+1) (by omega));rw[<-f.out.cell (p:=⟨g,(j+1)*3,rJ⟩) W]at Q;rw[show d-(j+1)=l+r by have:=L.out;omega]at Q;have G:=HS.out (anc m (l+r):Nat);obtain⟨a,U⟩:=eX (anc m (l+r));rw[<-U]at Q G;obtain⟨s,Y⟩:=eX (Zku (a:Int) n);rw[<-Y]at G;have aB:j+1<k+1:=(by omega);have O:=Hd G;have HA:=Hd U;have P:=Hd Y;have EJ:=Hd R;have HJ:=Hd hj;clear U R hj G Y;go_wp2_with fail;refine(O.out _).mono ?_;rintro e w2 ⟨rfl,o⟩;have t:=Hd (f.out.trans (o.mono Z));have M:=Hd (HO.out.below o lR);have B:=t.out.size;clear o;go_wp2_with (at_builtin;refine Bq rfl (.tmp 18) (.tmp 26) 48 rfl C.heap.size 3 _ 8 He _ _ rfl (M.out.alloc _) ⟨w2.heap.size,0,rJ⟩ (rE rG s) rfl ?c1 rfl ?c2 ?c3 ?_);case c1=>exact Bi rfl
    case c2=>rw[Wm,Zia];omega
    case c3=>simp;omega
    rintro v' w3 c-u;have N:=Hd c;have J:=Hd u;clear c u;go_wp2_with fail;go_roundg (gk-1);case measure=>omega
    case rel=>
     refine⟨r+1,by omega,Fs ?_,?_,?_⟩
     ·have:=HJ.out;omega
     ·rw[Zd1,Mr,<-HA.out,<-P.out];exact N.out
     ·exact(t.out.alloc B _).trans J.out
   ·obtain rfl:r=k:=(by omega);go_wp2_with fail;go_ret;exact⟨_,rfl,HO.out.mono I.out.size,I.out.trans (f.out.mono I.out.size)⟩
 ·have V:Kp x n=false:=(by rw[<-cF];exact ho);rw[Zib V];have K:=Hd (fun w=>Ml x n w F h2 V);clear V ho F h2;go_in;go_wp2_with fail;refine(K.out _).mono ?_;rintro e C ⟨rfl,rfl⟩;go_wp2_with fail
  go_loopg [6,7] 0 (fun q out i wr=>i=rE rG (-1)/\out=rD rJ 0 0/\wr=w)
  case atStart=>exact⟨rfl,rfl,rfl⟩
  case round=>
   obtain⟨rfl,rfl,rfl⟩:=hrel;go_wp2_with fail;go_ret;exact⟨_,rfl,Own.nil _ _ _,bR⟩
open WireM
theorem Zk3 {t:List NodeD}(b:t.length<=100000)(c:Bm t=true) {x:Nat}(hx:x<t.length):IsLev x (lev x)/\x+2^lev x<=t.length:=by
 have a:Ao t.length≠0:=by
  rw[Bm,cK]at c;exact oD c.1
 obtain⟨d,f,g,h⟩:=Ch a;have e:2^(d+1)=2*2^d:=(by rw[aN];omega);exact⟨lev_is (by omega),by have:=Mq (x:=x) (d:=d) (by omega) f;omega⟩
theorem Rl {t:List NodeD}(hr:Bm t=true):Ax t=true:=by
 rw[Bm,cK,cK]at hr;exact hr.2.1
def Zmc (t:List NodeD)(x:Nat):List Int:=Ps (nd t) (lev x) x
def Ek (t:List NodeD)(m:Nat):List Int:=((aC m).filter fun i=>(nd t (2*i)).kind==1).map fun i=>((i:Nat):Int)
theorem Zd3 {t:List NodeD} {m:Nat}(h:(nd t (2*m)).kind=1):Ek t (m+1)=Ek t m++[((m:Nat):Int)]:=by
 unfold Ek;rw[eH,eI,eG]
 congr 1
 rw[List.filter_cons_of_pos (by rw[h];rfl)];rfl
theorem Zic {t:List NodeD} {m:Nat}(h:(nd t (2*m)).kind≠1):Ek t (m+1)=Ek t m:=by
 unfold Ek;rw[eH,eI,eG,List.filter_cons_of_neg (by simpa using h)];simp
theorem Zd4 (t:List NodeD)(m:Nat):(Ek t m).length<=m:=by
 unfold Ek;rw[eE];exact eN (List.length_filter_le _ _) (by simp)
theorem mem_iff (t:List NodeD)(m:Nat)(i:Nat):((i:Nat):Int)∈Ek t m↔i<m/\(nd t (2*i)).kind=1:=by
 unfold Ek;simp only[dY,cG,eC,beq_iff_eq];constructor
 ·rintro⟨j,⟨h1,h2⟩,e⟩;have:j=i:=(by omega);subst this;exact⟨h1,h2⟩
 ·rintro⟨h1,h2⟩;exact⟨i,⟨h1,h2⟩,rfl⟩
theorem Zk4 (t:List NodeD)(m:Nat) {i:Int}(h:i<0):i∉Ek t m:=by
 unfold Ek;simp only[dY,cG,eC];rintro⟨j,_,e⟩;omega
theorem Tu (v:Value)(t:List NodeD)(k:Nat)(w:World)(h:TreeR w v t)(B:TreeOk t)(g:t.length=2*k+1)(hl:k<=1000):
  Calls prog 89 #[v] w fun e w'=>∃P,e=rM P/\Own w' w.heap.size 3 P (ivs .i64 (Ek t (k+1)))/\Below w.heap.size w w':=by
 obtain⟨a,c,rfl,Y,Z⟩:=h.sl;have F:=fun(W:World) (T:Below w.heap.size w W) (i:Nat) (hi:i<t.length)=>(h.below T lR).at hi;have K:=fun(i:Nat)=>(B.nd i).kind;obtain⟨n,S⟩:=eX t.length;rw[<-S]at F Y g|-;have I:=Hd F;have U:=Hd K;have f:=Hd g;have aB:n<=2001:=(by omega);clear F K h S B g;go_in;go_wp2_with fail
 go_loopg [3,4] (k+1) (fun q ov iv wr=>∃r:Nat,r+q=k+1/\iv=rE rG (r:Nat)/\Own wr w.heap.size 3 ov (ivs .i64 (Ek t r))/\Below w.heap.size w wr)
 case atStart=>exact⟨0,by omega,rfl,Own.nil _ _ _,bR⟩
 case round=>
  obtain⟨r,O,rfl,d,D⟩:=hrel;have o:=Hd O;have Q:=Hd d;have p:=Hd D;have T:wrap64 (2*(r:Int))=2*(r:Int):=by unfold wrap64;omega
  by_cases hlt:r<k+1
  ·have y:decide (2*(r:Int)<(n:Int))=true:=dT (by have:=f.out;omega);have z:2*r<n:=(by have:=f.out;omega);have R:2*(r:Int)<(n:Int):=(by omega);have aA:(2*(r:Int)).toNat=2*r:=(by omega);obtain⟨b,aD,l1,e1,rfl,X,V,-,-⟩:=I.out wr D (2*r) z;have x:=U.out (2*r);obtain⟨E,l⟩:=eX ((nd t (2*r)).kind);rw[<-l]at V x;have s:=Hd l;obtain⟨p1,p2,p3,rfl⟩:=Dr d;have A:=Zd4 t r;have J:=Hd A;clear O d D l A
   by_cases hk:E=1
   ·have N:((E:Int)==1)=true:=(by rw[beq_iff_eq];omega);have H:=Hd (Zd3 (t:=t) (m:=r) (by rw[<-s.out];exact hk));clear hk;go_wp2_with (at_builtin;refine Bq rfl (.tmp 19) (.tmp 21) 48 rfl w.heap.size 3 _ 8 He _ _ rfl (Q.out.alloc _) ⟨wr.heap.size,0,rJ⟩ (rE rG (r:Nat)) rfl ?c1 rfl ?c2 ?c3 ?_);case c1=>exact Bi rfl
    case c2=>rw[Dh];have:=J.out;omega
    case c3=>have:=p.out.size;simp;omega
    rintro P w1 j-u;have L:=Hd j;have G:=Hd ((p.out.alloc p.out.size (rK #[rE rG (r:Nat)] 3)).trans u);clear j u;go_wp2_with fail;go_roundg (gk-1);case measure=>have:=o.out;omega
    case rel=>
     refine⟨r+1,by have:=o.out;omega,by go_num,?_,G.out⟩;rw[H.out];have:=L.out;simpa [ivs]using this
   ·have N:((E:Int)==1)=false:=(by rw[qN];omega);have aC:(E:Int)≠1:=(by omega);have H:=Hd (Zic (t:=t) (m:=r) (by rw[<-s.out];exact hk));clear hk;go_wp2_with fail;go_roundg (gk-1);case measure=>have:=o.out;omega
    case rel=>
     refine⟨r+1,by have:=o.out;omega,by go_num,?_,p.out⟩;rw[H.out];exact Q.out
  ·have y:decide (2*(r:Int)<(n:Int))=false:=dF (by have:=f.out;have:=o.out;omega);have C:r=k+1:=(by have:=o.out;omega);have M:=Hd (show Own wr w.heap.size 3 _ (ivs .i64 (Ek t (k+1)))from by rw[<-C];exact d);clear O d D hlt C;go_wp2_with fail;go_ret;exact⟨_,rfl,M.out,p.out⟩
theorem Zk5 (v:Value)(t:List NodeD)(f:Nat)(i:Int)(w:World)(h:TreeR w v t)(g:TreeOk t)(d:t.length=2*f+1)(q:f<=1000):
  Calls prog 43 #[v,rE rG i] w fun e w'=>e=rM (.bool (decide (i∈Ek t (f+1))))/\Below w.heap.size w w':=by
 have j:=Tu v t f w h g d q;obtain⟨a,c,rfl,y,z⟩:=h.sl;obtain⟨M,o⟩:=eX (Ek t (f+1));rw[<-o]at j|-;obtain⟨n,r⟩:=eX t.length;rw[<-r]at j|-;have k:=Hd j;obtain⟨R,m⟩:=eX (decide (i∈M));rw[<-m];have x:=Hd (fun(W:World) (u:Value) (A:Rd W u (ivs .i64 M))=>(show Calls prog 84 #[u,rE rG i] W fun e w'=>e=rM (.bool R)/\w'=W from by rw[m];exact Za u M i W A));clear j h g d q o r m y;go_in;go_wp2_with fail;refine(k.out).mono ?_;rintro e B ⟨F,rfl,b,p⟩;have s:=Hd p;have l:=Hd b.rd;obtain⟨C,D,E,rfl⟩:=Dr b;clear b p;go_wp2_with fail;refine(x.out B _ l.out).mono ?_;rintro e G ⟨rfl,rfl⟩;go_wp2_with fail;go_ret;exact⟨rfl,s.out⟩
def inR (k x y:Nat):Prop:=x+1<=y+2^k/\y<x+2^k
instance decInR (k x y:Nat):Decidable (inR k x y):=inferInstanceAs (Decidable (_/\_))
theorem Rm {x y k:Nat}(hx:x<=131070)(d:y<=131070)(b:IsLev x k):Bu (y:Int) (x:Int)=true↔inR k x y:=by
 have a:=lev_eq hx b;rw[Wj d hx,a,dI];have c:=anc_self b;rw[anc_plo]at c;have e:phi x k=plo x k+(2^(k+1)-2):=rfl;have f:2^(k+1)=2*2^k:=(by rw[aN];omega);have g:0<2^k:=aQ (by simp);unfold inR;omega
theorem Zno (m x:Nat):Bu (2*(m:Int)) (x:Int)=Bu ((2*m:Nat):Int) (x:Int):=by rw[Int.natCast_mul];rfl
end Go.Proofs.YtfofaiommeckbaaGreat
namespace Go.Proofs.YtfofaiommeckbaaGreat
open Go.RowKit WalkM
def Ox (t:List NodeD)(N r:Nat):Bool:=(aC r).any fun i=>(nd t i).kind==1&&(N==1||decide (N<=i))
theorem Zbn (t:List NodeD)(N r:Nat):Ox t N (r+1)=(Ox t N r||((nd t r).kind==1&&(N==1||decide (N<=r)))):=by
 unfold Ox;rw[eH,List.any_append];simp
theorem Zd5 {t:List NodeD} {N:Nat}(h:Ao t.length=N)(j:N<=t.length):Ox t N t.length=Ow t:=by
 have g:Ox t N t.length=true↔Ow t=true:=by
  unfold Ox Ow Gj;rw[h,cH];constructor
  ·rintro⟨i,b,hk⟩;rw[eC]at b;rw[cK,beq_iff_eq,cL,beq_iff_eq,dI]at hk;have a:(nd t i)=t[i]:=by rw[nd,aE,aF b];rfl
   by_cases h1:N=1
   ·rw[iP h1,cH];exact⟨t[i],aG b,by rw[<-a,beq_iff_eq];exact hk.1⟩
   ·rw[iN h1,cH];have f:N<=i:=by rcases hk.2 with h2|h2;exact absurd h2 h1;exact h2
    refine⟨t[i],?_,by rw[<-a,beq_iff_eq];exact hk.1⟩;rw[List.mem_drop_iff_getElem];exact⟨i-N,by omega,by congr 1;omega⟩
  ·intro c
   by_cases h1:N=1
   ·rw[iP h1,cH]at c;obtain⟨d,a,hk⟩:=c;obtain⟨i,b,rfl⟩:=eA a;refine⟨i,List.mem_range.2 b,?_⟩;have a:(nd t i)=t[i]:=(by rw[nd,aE,aF b];rfl);rw[a,hk,h1];rfl
   ·rw[iN h1,cH]at c;obtain⟨d,a,hk⟩:=c;obtain⟨i,b,e⟩:=List.mem_drop_iff_getElem.1 a;refine⟨N+i,List.mem_range.2 (by omega),?_⟩;have a:(nd t (N+i))=d:=(by rw[nd,aE,aF (by omega),<-e];rfl);rw[a,hk,dM,cL,dI];exact .inr (by omega)
 cases h1:Ox t N t.length<;>cases h2:Ow t<;>simp_all
open WireM
def Zid (t:List NodeD)(k:Nat):Prop:=∀(x:Nat) (v:Value) (w:World),TreeR w v t->IsLev x k->x+2^k<=t.length->
 Calls prog 50 #[v,rE rG (x:Nat)] w fun e w'=>∃v',e=rM v'/\Own w' w.heap.size 3 v' (ivs .i64 (Ps (nd t) k x))/\Below w.heap.size w w'
theorem Zd6 {x:Nat}(hx:x<=131070)(h:IsLev x 0):Em (x:Int)= -1/\Cq (x:Int)= -1:=by
 have hl:=lev_eq hx h;have hz:Kq (x:Int)=0:=by
  rw[Kq,iP (by unfold Bd;rw[dI];omega),cD,hl];rfl
 constructor
 ·rw[Em,Di,hz];rfl
 ·rw[Cq,Di,hz];rfl
theorem Tv (v:Value)(t:List NodeD)(x:Nat)(w:World)(h:TreeR w v t)(hs:Bc t=true)(O:TreeOk t)(hp:Ax t=true)(z:x<t.length)(hk:(nd t x).kind≠0):
  Calls prog 50 #[v,rE rG (x:Nat)] w fun e w'=>∃v',e=rM v'/\Own w' w.heap.size 3 v' (ivs .i64 (Jo (nd t x) x))/\Below w.heap.size w w':=by
 have M:=Bb hs;obtain⟨a,c,rfl,hc,aM⟩:=h.sl;obtain⟨b,aJ,b3,e3,rfl,aD,ck,D,d⟩:=h.at z;have K:=(O.nd x).kind;have y:=Fu (De (Cu hp z).2);have m:(nd t x).par.late.length<=60:=(by have:=oD (Ee hs x);omega);unfold Jo;obtain⟨kd,J⟩:=eX ((nd t x).kind);rw[<-J]at hk K ck;obtain⟨L,hL⟩:=eX ((nd t x).par.late);rw[<-hL]at y d m D|-;obtain⟨l,j⟩:=eX L.length;rw[<-j]at d D m;have R:=fun(W:World) (hw:Below w.heap.size w W) (r:Nat) (i:r<l)=>(d.below hw lR).at3 (u:=rE rG (L.getD r 0)) (r:=r) (by rw[j]at i;simp[ivs,aE,i]);have S:=fun(r:Nat) (i:r<l)=>(show 0<=L.getD r 0/\L.getD r 0<65536 from y _ (by rw[j]at i;rw[aE,aF i];exact aG i));have f:=fun(r:Nat) (i:r<l)=>Pu x L (r:=r) (by omega);have o:ivs .i64 ((x:Int)::(L.take l).map fun u=>2*u)=ivs .i64 ((x:Int)::L.map fun u=>2*u):=(by rw[j,List.take_length]);obtain⟨G,Q⟩:∃G:Nat->List Value,G=fun r=>ivs .i64 ((x:Int)::(L.take r).map fun u=>2*u):=⟨_,rfl⟩;have E:∀r,ivs .i64 ((x:Int)::(L.take r).map fun u=>2*u)=G r:=fun r=>(by rw[Q]);have G0:G 0=[rE rG (x:Int)]:=(by rw[Q];simp[ivs]);have GL:∀r,r<=l->(G r).length<=61:=fun r i=>(by rw[Q];simp[ivs];omega);simp only[E]at f o;rw[<-o];obtain⟨U,hU⟩:∃U:Nat->Int,U=fun r=>L.getD r 0:=⟨_,rfl⟩;have F:∀r,L.getD r 0=U r:=fun r=>(by rw[hU]);simp only[F]at R S f;obtain⟨n,hn⟩:=eX t.length;rw[<-hn]at hc M z|-;have T:=Hd R;have X:=Hd S;have s:=Hd f;have Z:=Hd G0;have aA:=Hd GL;have Y:=Hd D;have aP:(x:Int)<(n:Int):=(by omega);have aN:((kd:Int)==0)=false:=(by rw[qN];omega);have aO:(kd:Int)≠0:=(by omega);clear R S f G0 GL o Q E hU F hn hL y j d h hs O hp J hk;go_in;go_wp2_with fail;have C:=Hd (show Own (w.alloc (rK #[rE rG (x:Int)] 3)) w.heap.size 3 (rD (some ⟨w.heap.size,0,rJ⟩) 1 1) (G 0)from by
  rw[Z.out];exact Own.full (B:=w.heap.size) (cs:=#[rE rG (x:Int)]) rfl lR (by unfold maxLen;simp) rfl)
 have A:=Hd (show Below w.heap.size w (w.alloc (rK #[rE rG (x:Int)] 3))from bR.alloc lR _);generalize hw2:w.alloc (rK #[rE rG (x:Int)] 3)=w2 at C A|-;clear hw2 ck D
 go_loopg [7,8] l (fun q ov iv wr=>∃r:Nat,r+q=l/\iv=rE rG (r:Nat)/\Own wr w.heap.size 3 ov (G r)/\Below w.heap.size w wr)
 case atStart=>exact⟨0,by omega,rfl,C.out,A.out⟩
 case round=>
  obtain⟨r,i,rfl,g,H⟩:=hrel;have HR:=Hd i;have HO:=Hd g;have P:=Hd H;have D:=(H.cell (p:=⟨b,aJ+x*10+9,rJ⟩) aD).trans Y.out
  by_cases hlt:r<l
  ·have N:decide (r<l)=true:=dT hlt;have aL:(r:Int)<(l:Int):=(by omega);obtain⟨bl,ol,rfl,aK,cu⟩:=T.out wr H r hlt;obtain⟨aH,aI⟩:=X.out r hlt;have HS:=Hd (s.out r hlt);have aB:=Hd (aA.out r (by omega));obtain⟨u,hu⟩:=eX (U r);rw[<-hu]at cu aH aI HS;have hw:wrap64 (2*u)=2*u:=(by unfold wrap64;omega);obtain⟨p1,p2,p3,rfl⟩:=Dr g;clear i g H hu;go_wp2_with (at_builtin;refine Bq rfl (.tmp 44) (.tmp 55) 48 rfl w.heap.size 3 _ 8 He _ _ rfl (HO.out.alloc _) ⟨wr.heap.size,0,rJ⟩ (rE rG (2*u)) rfl ?c1 rfl ?c2 ?c3 ?_);case c1=>exact Bi rfl
   case c2=>have:=aB.out;omega
   case c3=>have:=P.out.size;simp;omega
   rintro v' w1 k-I;have aC:=Hd k;have V:=Hd ((P.out.alloc P.out.size (rK #[rE rG (2*u)] 3)).trans I);clear k I;go_wp2_with fail;go_roundg (gk-1);case measure=>have:=HR.out;omega
   case rel=>exact⟨r+1,by have:=HR.out;omega,by go_num,by rw[HS.out];exact aC.out,V.out⟩
  ·obtain rfl:r=l:=(by omega);have N:decide (r<r)=false:=dF hlt;clear i g H hlt;go_wp2_with fail;go_ret;exact⟨_,rfl,HO.out,P.out⟩
theorem Zd7 (t:List NodeD)(o:Bc t=true)(j:TreeOk t)(q:Ax t=true):Zid t 0:=by
 intro x v w h d hx;have f:x<t.length:=by have:(2:Nat)^0=1:=rfl;omega
 by_cases hk:(nd t x).kind=0
 ·rw[Jp hk];have g:=Bb o;have m:=fun(W:World)=>Mo (x:Int) W;obtain⟨i,k⟩:=Zd6 (by omega) d;rw[i,k]at m;have l:=Hd m;obtain⟨a,c,rfl,y,z⟩:=h.sl;obtain⟨b,B,C,e3,rfl,u,r,-,-⟩:=h.at f;rw[hk]at r;obtain⟨n,p⟩:=eX t.length;rw[<-p]at y g f|-;have A:(x:Int)<(n:Int):=(by omega);clear p h o j q d hx hk m i k;go_in;go_wp2_with fail;refine(l.out w).mono ?_;rintro e D ⟨rfl,s⟩;go_wp2_with fail;go_ret;exact⟨_,rfl,Own.nil _ _ _,s⟩
 ·rw[Ef hk];exact Tv v t x w h o j q f hk
theorem Zd8 (t:List NodeD)(V:Bc t=true)(U:TreeOk t)(hp:Ax t=true)(k:Nat)(IH:Zid t k):Zid t (k+1):=by
 intro x v w h o hx;have aK:2^(k+1)=2*2^k:=(by rw[aN];omega);have aJ:0<2^k:=aQ (by simp);have z:x<t.length:=by omega
 by_cases hk:(nd t x).kind=0
 ·rw[Jq hk];have R:=Bb V;obtain⟨P,Q,l,m,aI⟩:=kids_lev (by omega) o;have I:=fun(W:World)=>Mo (x:Int) W;rw[P,Q]at I;have J:=fun(W:World) (hw:Below w.heap.size w W)=>IH (x-2^k) v W (h.below hw lR) l (by omega);have K:=fun(W:World) (hw:Below w.heap.size w W)=>IH (x+2^k) v W (h.below hw lR) m (by omega);have n1:=Zc (t:=nd t) (Ee V) k (x-2^k);have n2:=Zc (t:=nd t) (Ee V) k (x+2^k);have i:=Mk (Ps (nd t) k (x-2^k));have j:=Mk (Ps (nd t) k (x+2^k));rw[Zdz];obtain⟨L1,L⟩:=eX (Ps (nd t) k (x-2^k));obtain⟨L2,M⟩:=eX (Ps (nd t) k (x+2^k));rw[<-L]at J n1 i|-;rw[<-M]at K n2 j|-;have aH:2^k<=40:=(by omega);have S:L1.length<=3000:=(by omega);have T:L2.length<=3000:=(by omega);obtain⟨a,c,rfl,hc,aO⟩:=h.sl;obtain⟨b,aR,b3,e3,rfl,aM,ck,-,-⟩:=h.at z;rw[hk]at ck;obtain⟨n,hn⟩:=eX t.length;rw[<-hn]at J K hc R z|-;obtain⟨xl,X⟩:=eX (x-2^k);obtain⟨xr,Y⟩:=eX (x+2^k);rw[<-X]at I J;rw[<-Y]at I K;have Z:=Hd I;have aF:=Hd J;have aG:=Hd K;have D:=Hd S;have aA:=Hd T;have G:=Hd i;have H:=Hd j;have aP:(x:Int)<(n:Int):=(by omega);have aL:decide ((xl:Int)<0)=false:=dF (by omega);clear hn h V U hp hk o hx I J K L M n1 n2 i j S T aH P Q l m aI X Y aK aJ IH;go_in;go_wp2_with fail;refine(Z.out w).mono ?_;rintro e w0 ⟨rfl,N⟩;have q:=Hd N;clear N;go_wp2_with fail;have s:=Hd (q.out.alloc q.out.size (rK #[] 3));have aE:=Hd (Own.lit0 (w:=w0) (B:=w.heap.size) (e:=3) rfl q.out.size);refine(aF.out _ s.out).mono ?_;rintro e w1 ⟨v1,rfl,d,u⟩;have aB:=Hd d.rd;have F:=Hd (aE.out.below u lR);have A:=Hd (s.out.trans (u.mono s.out.size));obtain⟨p1,p2,p3,rfl⟩:=Dr d;clear d u;go_wp2_with (at_builtin;refine An rfl (.tmp 22) (.tmp 25) 48 rfl w.heap.size 3 _ 8 He _ [] rfl F.out _ (ivs .i64 L1) rfl aB.out G.out ?c2 ?c3 ?_);case c2=>rw[Dh];have:=D.out;simp;omega
  case c3=>exact A.out.size
  rintro v3 w3 f-O;have aC:=Hd f;have r:=Hd (A.out.trans O);obtain⟨s1,s2,s3,rfl⟩:=Dr f;clear f O;go_wp2_with fail;refine(aG.out _ r.out).mono ?_;rintro e w4 ⟨v4,rfl,g,y⟩;have aD:=Hd g.rd;have E:=Hd (aC.out.below y lR);have C:=Hd (r.out.trans (y.mono r.out.size));obtain⟨q1,q2,q3,rfl⟩:=Dr g;clear g y;go_wp2_with (at_builtin;refine An rfl (.tmp 26) (.tmp 29) 48 rfl w.heap.size 3 _ 8 He _ _ rfl E.out _ (ivs .i64 L2) rfl aD.out H.out ?d2 ?d3 ?_);case d2=>rw[Dh,Dh];have:=D.out;have:=aA.out;omega
  case d3=>exact C.out.size
  rintro v' w5 p-N;have HO:=Hd p;have HB:=Hd (C.out.trans N);clear p N;go_wp2_with fail;go_ret;exact⟨_,rfl,HO.out,HB.out⟩
 ·rw[Ef hk];exact Tv v t x w h V U hp z hk
theorem Zie (t:List NodeD)(hs:Bc t=true)(hok:TreeOk t)(hp:Ax t=true):∀k,Zid t k:=by
 intro k
 induction k with
 |zero=>exact Zd7 t hs hok hp
 |succ k ih=>exact Zd8 t hs hok hp k ih
