import Derived.Test.YtfofaiommeckbaaGreatZCk00
import Derived.Deep.RegionLaw
open Go.Value renaming slice -> rC
open Option renaming none -> rI
open List renaming mem_cons -> aZ, range -> aN, length_append -> bA, getD_eq_getElem?_getD -> aS, getElem?_eq_getElem -> bB, getElem_mem -> bC, getElem?_eq_none -> aQ
open Nat renaming mod_lt -> bD, two_pow_add_eq_or_of_lt -> bE, pow_succ -> bF, div_div_eq_div_mul -> bG, pos_of_ne_zero -> bH, pow_add -> bI, add_mul_mod_self_left -> bJ, mod_eq_of_lt -> bK, mul_comm -> bL, div_add_mod -> bM, div_eq_of_lt -> bN, mod_mul -> bO, log2 -> bP, pow_le_pow_right -> bQ, div_lt_iff_lt_mul -> bS, mul_le_mul_right -> bT, add_mul -> bU, one_mul -> bV, mul_left_comm -> bW, mul_assoc -> bY, mod_two_eq_zero_or_one -> bZ, testBit_xor -> cA, testBit_and -> cB, mul_le_mul_left -> aC
set_option linter.unusedVariables false
set_option maxRecDepth 100000
set_option maxHeartbeats 40000000
namespace Go.Proofs.YtfofaiommeckbaaGreat.WireM
def beN:Nat->Nat->List Nat
 |0,_=>[]
 |i+1,n=>(n/256^i%256)::beN i n
theorem beN_len:∀i n,(beN i n).length=i:=by
 intro i
 induction i with
 |zero=>intro n;rfl
 |succ i ih=>intro n;simp[beN,ih]
theorem beN_lt:∀i n,∀x∈beN i n,x<256:=by
 intro i
 induction i with
 |zero=>intro n x h;simp[beN]at h
 |succ i ih=>
  intro n x h;simp only[beN,aZ]at h;rcases h with rfl|h
  ·exact bD _ (by omega)
  ·exact ih n x h
def lenB (n:Nat):List Nat:=
 if n<64 then [n]else if n<16384 then [64+n/256,n%256]else [128+n/16777216,n/65536%256,n/256%256,n%256]
def lenS (n:Int):Nat:=if n<0\/1073741823<n then 0 else if n<64 then 1 else if n<16384 then 2 else 4
theorem lenB_lt {n:Nat}(h:n<1073741824):∀x∈lenB n,x<256:=by
 intro x hx;unfold lenB at hx
 split at hx
 ·simp at hx;omega
 ·split at hx
  ·simp at hx;omega
  ·simp at hx;omega
theorem lenS1 {n:Nat}(h1:n<64):lenS n=1:=by unfold lenS;rw[iN (by omega),iP (by omega)]
theorem lenS2 {n:Nat}(h0:64<=n)(h1:n<16384):lenS n=2:=by unfold lenS;rw[iN (by omega),iN (by omega),iP (by omega)]
theorem lenS4 {n:Nat}(h0:16384<=n)(h1:n<1073741824):lenS n=4:=by unfold lenS;rw[iN (by omega),iN (by omega),iN (by omega)]
theorem lenB_len {n:Nat}(h:n<1073741824):(lenB n).length=lenS n:=by
 by_cases h1:n<64
 ·rw[lenS1 h1,lenB,iP h1];rfl
 ·by_cases h2:n<16384
  ·rw[lenS2 (by omega) h2,lenB,iN h1,iP h2];rfl
  ·rw[lenS4 (by omega) h,lenB,iN h1,iN h2];rfl
theorem be1 (n:Nat)(h:n<64):beN 1 n=lenB n:=by
 unfold lenB;rw[iP h];simp[beN];omega
theorem be2 (n:Nat)(h0:64<=n)(h:n<16384):beN 2 (16384+n)=lenB n:=by
 unfold lenB;rw[iN (by omega),iP h];simp[beN];omega
theorem be4 (n:Nat)(h0:16384<=n)(h:n<1073741824):beN 4 (2147483648+n)=lenB n:=by
 unfold lenB;rw[iN (by omega),iN (by omega)];simp[beN];omega
theorem or2 (n:Nat)(h:n<16384):16384|||n=16384+n:=by
 have:=bE (i:=14) (b:=n) (by omega) 1;simpa using this.symm
theorem or4 (n:Nat)(h:n<1073741824):2147483648|||n=2147483648+n:=by
 have:=bE (i:=31) (b:=n) (by omega) 1;simpa using this.symm
theorem beN_step (i n:Nat):n/256^i/256=n/256^(i+1):=by rw[bF,bG]
theorem shift_pow (i:Nat):2^(8*i)=256^i:=by rw[Nat.pow_mul]
end Go.Proofs.YtfofaiommeckbaaGreat.WireM
namespace Go.Proofs.YtfofaiommeckbaaGreat.WalkM
def IsLev (x l:Nat):Prop:=x%2^(l+1)=2^l-1
def anc (x j:Nat):Nat:=x/2^(j+1)*2^(j+1)+(2^j-1)
theorem pow_pos' (k:Nat):0<2^k:=bH (by simp)
theorem ones_mod {m k:Nat}(h:k<=m):(2^m-1)%2^k=2^k-1:=by
 obtain⟨d,rfl⟩:∃d,m=k+d:=⟨m-k,by omega⟩;have hk:=pow_pos' k;have hd:=pow_pos' d;rw[bI];have e:2^k*2^d-1=2^k-1+2^k*(2^d-1):=by
  rw[Nat.mul_sub_one];have:2^k<=2^k*2^d:=Nat.le_mul_of_pos_right _ hd;omega
 rw[e,bJ];exact bK (by omega)
theorem lev_lt {x l m:Nat}(a:IsLev x l)(b:IsLev x m):¬l<m:=by
 intro h;unfold IsLev at a b;have h1:x%2^(l+1)=2^(l+1)-1:=by
  have h2:x%2^(m+1)%2^(l+1)=x%2^(l+1):=Nat.mod_mod_of_dvd _ (Nat.pow_dvd_pow 2 (by omega));rw[b,ones_mod (by omega)]at h2;exact h2.symm
 rw[a,bF]at h1;have:=pow_pos' l;omega
theorem lev_unique {x l m:Nat}(hl:IsLev x l)(hm:IsLev x m):l=m:=by
 have:=lev_lt hl hm;have:=lev_lt hm hl;omega
theorem anc_lev (x j:Nat):IsLev (anc x j) j:=by
 unfold IsLev anc;rw[bL,Nat.mul_add_mod];have:=pow_pos' j;exact bK (by rw[bF];omega)
theorem anc_self {x l:Nat}(h:IsLev x l):anc x l=x:=by
 unfold anc;rw[<-h,bL];exact bM x _
theorem anc_div {x j k:Nat}(h:j<=k):anc x j/2^(k+1)=x/2^(k+1):=by
 obtain⟨d,rfl⟩:∃d,k=j+d:=⟨k-j,by omega⟩;have hp:=pow_pos' (j+1);have h1:2^j-1<2^(j+1):=by
  have:=pow_pos' j;rw[bF];omega
 rw[show j+d+1=j+1+d from by omega,bI,<-bG,<-bG]
 congr 1
 unfold anc;rw[bL,Nat.mul_add_div hp,bN h1,Nat.add_zero]
theorem anc_anc {x j k:Nat}(h:j<=k):anc (anc x j) k=anc x k:=by
 unfold anc;rw[show(x/2^(j+1)*2^(j+1)+(2^j-1))=anc x j from rfl,anc_div h]
def tones:Nat->Nat->Nat
 |0,_=>0
 |f+1,x=>if x%2=1 then tones f (x/2)+1 else 0
theorem tones_lev:∀f x,x+1<2^f->IsLev x (tones f x):=by
 intro f
 induction f with
 |zero=>intro x h;simp at h
 |succ f ih=>
  intro x h;unfold tones
  by_cases hx:x%2=1
  ·rw[iP hx];have a:=ih (x/2) (by rw[bF]at h;omega);unfold IsLev at a|-;rw[bF,bL,bO,hx,a];have:=pow_pos' (tones f (x/2));rw[bF];omega
  ·rw[iN hx];unfold IsLev
   simp;omega
theorem tones_lt:∀f x,x+1<2^f->tones f x<f:=by
 intro f
 induction f with
 |zero=>intro x h;simp at h
 |succ f ih=>
  intro x h;unfold tones
  split
  ·have:=ih (x/2) (by rw[bF]at h;omega);omega
  ·omega
def lev (x:Nat):Nat:=tones 17 x
theorem lev_is {x:Nat}(h:x<=131070):IsLev x (lev x):=tones_lev 17 x (by omega)
theorem lev_le {x:Nat}(h:x<=131070):lev x<=16:=by have:=tones_lt 17 x (by omega);unfold lev;omega
theorem lev_eq {x l:Nat}(h:x<=131070)(hl:IsLev x l):lev x=l:=lev_unique (lev_is h) hl
theorem anc_bounds (x j:Nat):x/2^(j+1)*2^(j+1)<=x/\x<x/2^(j+1)*2^(j+1)+2^(j+1):=by
 have h:=bM x (2^(j+1));have h2:=bD x (pow_pos' (j+1));rw[bL]at h;omega
end Go.Proofs.YtfofaiommeckbaaGreat.WalkM
namespace Go.Proofs.YtfofaiommeckbaaGreat.WalkM
def pop1 (n:Nat):Nat:=((n/2)&&&6148914691236517205)+(n&&&6148914691236517205)
def pop2 (n:Nat):Nat:=((n/4)&&&3689348814741910323)+(n&&&3689348814741910323)
def pop3 (n:Nat):Nat:=(n/16+n)&&&1085102592571150095
def pop4 (n:Nat):Nat:=n+n/256
def pop5 (n:Nat):Nat:=n+n/65536
def pop6 (n:Nat):Nat:=n+n/4294967296
def popc (n:Nat):Nat:=pop6 (pop5 (pop4 (pop3 (pop2 (pop1 n)))))&&&127
def fits (n:Nat):Bool:=(aN 17).any fun d=>n==2^d
def chk (t:Nat->Bool):Nat->Nat->Bool
 |0,lo=>t lo
 |k+1,lo=>chk t k lo&&chk t k (lo+2^k)
theorem chk_all (t:Nat->Bool):∀k a,chk t k a=true->∀n,a<=n->n<a+2^k->t n=true:=by
 intro k
 induction k with
 | zero => intro a h n h1 h2;obtain rfl:n=a:=by omega
           exact h
 |succ k ih=>
  intro a h n h1 h2;simp only[chk,Bool.and_eq_true]at h;rw[bF]at h2
  by_cases hn:n<a+2^k
  ·exact ih a h.1 n h1 hn
  ·exact ih (a+2^k) h.2 n (by omega) (by omega)
theorem fits_iff (n:Nat):fits n=true↔∃d,d<=16/\n=2^d:=by
 unfold fits;rw[List.any_eq_true];constructor
 ·rintro⟨d,hd,h⟩;exact⟨d,by have:=List.mem_range.1 hd;omega,by simpa using h⟩
 ·rintro⟨d,hd,rfl⟩;exact⟨d,List.mem_range.2 (by omega),by simp⟩
def tst (n:Nat):Bool:=(popc n==1)==(n==2^bP n&&n !=0)
theorem popc_0:chk tst 12 0=true:=by decide+kernel
theorem popc_1:chk tst 12 4096=true:=by decide+kernel
theorem popc_2:chk tst 12 8192=true:=by decide+kernel
theorem popc_3:chk tst 12 12288=true:=by decide+kernel
theorem popc_4:chk tst 12 16384=true:=by decide+kernel
theorem popc_5:chk tst 12 20480=true:=by decide+kernel
theorem popc_6:chk tst 12 24576=true:=by decide+kernel
theorem popc_7:chk tst 12 28672=true:=by decide+kernel
theorem popc_8:chk tst 12 32768=true:=by decide+kernel
theorem popc_9:chk tst 12 36864=true:=by decide+kernel
theorem popc_10:chk tst 12 40960=true:=by decide+kernel
theorem popc_11:chk tst 12 45056=true:=by decide+kernel
theorem popc_12:chk tst 12 49152=true:=by decide+kernel
theorem popc_13:chk tst 12 53248=true:=by decide+kernel
theorem popc_14:chk tst 12 57344=true:=by decide+kernel
theorem popc_15:chk tst 12 61440=true:=by decide+kernel
theorem popc_log (n:Nat)(h:n<=65536):(popc n==1)=(n==2^bP n&&n !=0):=by
 have a:tst n=true:=by
  by_cases e:n=65536
  ·subst e;decide+kernel
  ·obtain⟨k,hk,h1⟩:∃k,k<16/\(4096*k<=n/\n<4096*k+2^12):=⟨n/4096,by omega,by omega,by omega⟩;obtain rfl|rfl|rfl|rfl|rfl|rfl|rfl|rfl|rfl|rfl|rfl|rfl|rfl|rfl|rfl|rfl:k=0\/k=1\/k=2\/k=3\/k=4\/k=5\/k=6\/k=7\/k=8\/k=9\/k=10\/k=11\/k=12\/k=13\/k=14\/k=15:=by omega
   ·exact chk_all _ 12 _ popc_0 n (by omega) (by omega)
   ·exact chk_all _ 12 _ popc_1 n (by omega) (by omega)
   ·exact chk_all _ 12 _ popc_2 n (by omega) (by omega)
   ·exact chk_all _ 12 _ popc_3 n (by omega) (by omega)
   ·exact chk_all _ 12 _ popc_4 n (by omega) (by omega)
   ·exact chk_all _ 12 _ popc_5 n (by omega) (by omega)
   ·exact chk_all _ 12 _ popc_6 n (by omega) (by omega)
   ·exact chk_all _ 12 _ popc_7 n (by omega) (by omega)
   ·exact chk_all _ 12 _ popc_8 n (by omega) (by omega)
   ·exact chk_all _ 12 _ popc_9 n (by omega) (by omega)
   ·exact chk_all _ 12 _ popc_10 n (by omega) (by omega)
   ·exact chk_all _ 12 _ popc_11 n (by omega) (by omega)
   ·exact chk_all _ 12 _ popc_12 n (by omega) (by omega)
   ·exact chk_all _ 12 _ popc_13 n (by omega) (by omega)
   ·exact chk_all _ 12 _ popc_14 n (by omega) (by omega)
   ·exact chk_all _ 12 _ popc_15 n (by omega) (by omega)
 simpa [tst]using a
theorem popc_fits (n:Nat)(h:n<=65536):(popc n==1)=fits n:=by
 rw[popc_log n h,Bool.eq_iff_iff,fits_iff];simp only[Bool.and_eq_true,beq_iff_eq,bne_iff_ne];constructor
 ·rintro⟨h1,h2⟩;refine⟨bP n,?_,h1⟩;rcases Nat.lt_or_ge 16 (bP n)with a|a
  ·have:2^17<=2^bP n:=bQ (by omega) a;omega
  ·exact a
 ·rintro⟨d,b,rfl⟩;rw[Nat.log2_two_pow];have:=bH (show 2^d≠0 by simp);exact⟨rfl,by omega⟩
end Go.Proofs.YtfofaiommeckbaaGreat.WalkM
namespace Go.Proofs.YtfofaiommeckbaaGreat.WalkM
theorem lev_root {x d l:Nat}(hx:x+1<2^(d+1))(a:IsLev x l):l<=d/\(l=d↔x=2^d-1):=by
 have b:=pow_pos' d;unfold IsLev at a;rw[bF]at hx
 by_cases h:l<=d
 ·refine⟨h,?_,?_⟩
  ·rintro rfl;rw[bK (by rw[bF];omega)]at a;exact a
  ·intro e;have h2:IsLev x d:=by
    unfold IsLev;rw[bK (by rw[bF];omega)];exact e
   exact lev_unique a h2
 ·exfalso;have h1:2^(d+1)<=2^l:=bQ (by omega) (by omega);rw[bF]at h1;rw[bK (by rw[bF];omega)]at a;omega
theorem anc_root {x d:Nat}(hx:x<2^(d+1)):anc x d=2^d-1:=by
 unfold anc;rw[bN hx];omega
theorem anc_le {x d j:Nat}(hx:x<2^(d+1))(b:j<=d):anc x j+1<2^(d+1):=by
 have a:=pow_pos' (j+1);have c:=pow_pos' j;obtain⟨e,rfl⟩:∃e,d=j+e:=⟨d-j,by omega⟩;have h1:x/2^(j+1)<2^e:=by
  rw[bS a,<-bI];rw[show e+(j+1)=j+e+1 by omega];exact hx
 have h2:(x/2^(j+1)+1)*2^(j+1)<=2^e*2^(j+1):=bT _ h1;rw[<-bI,bU,bV,show e+(j+1)=j+e+1 by omega]at h2;unfold anc;have h3:2^(j+1)=2*2^j:=(by rw[bF];omega);omega
end Go.Proofs.YtfofaiommeckbaaGreat.WalkM
namespace Go.Proofs.YtfofaiommeckbaaGreat
namespace ShaM
open WireM
def rot (x n:Nat):Nat:=x/2^n+x%2^n*2^(32-n)
def chN (e f g:Nat):Nat:=(e&&&f)^^^((4294967295-e)&&&g)
def majN (a b c:Nat):Nat:=((a&&&b)^^^(a&&&c))^^^(b&&&c)
def s0N (x:Nat):Nat:=(rot x 7^^^rot x 18)^^^(x/8)
def s1N (x:Nat):Nat:=(rot x 17^^^rot x 19)^^^(x/1024)
def S0N (x:Nat):Nat:=(rot x 2^^^rot x 13)^^^rot x 22
def S1N (x:Nat):Nat:=(rot x 6^^^rot x 11)^^^rot x 25
theorem rot_lt {x n:Nat}(hx:x<4294967296)(b:n<=32):rot x n<4294967296:=by
 have e:(4294967296:Nat)=2^n*2^(32-n):=(by rw[<-bI,show n+(32-n)=32 by omega]);have a:0<2^n:=bH (by simp);have c:0<2^(32-n):=bH (by simp);have h1:x/2^n<2^(32-n):=(by rw[bS a,bL,<-e];exact hx);have h2:=bD x a;unfold rot;rw[e];have h3:(x%2^n+1)*2^(32-n)<=2^n*2^(32-n):=bT _ h2;rw[bU]at h3;omega
theorem rot_or {x n:Nat}(hx:x<4294967296)(d:n<=32):(x*2^(32-n))%4294967296|||x/2^n=rot x n:=by
 have e:(4294967296:Nat)=2^n*2^(32-n):=(by rw[<-bI,show n+(32-n)=32 by omega]);have c:0<2^n:=bH (by simp);have h1:x/2^n<2^(32-n):=(by rw[bS c,bL,<-e];exact hx);have h2:(x*2^(32-n))%4294967296=x%2^n*2^(32-n):=(by rw[e,Nat.mul_mod_mul_right]);have h3:=Nat.shiftLeft_add_eq_or_of_lt (a:=x%2^n) (b:=x/2^n) (i:=32-n) h1;rw[Nat.shiftLeft_eq]at h3;rw[h2,<-h3,rot,Nat.add_comm]
theorem rot_zero (x:Nat):rot x 0=x:=by simp[rot,Nat.mod_one]
theorem rot_succ {x n:Nat}(a:x<4294967296)(e:n<32):rot x (n+1)=rot x n/2+rot x n%2*2147483648:=by
 have e1:(2147483648:Nat)=2^n*2^(31-n):=(by rw[<-bI,show n+(31-n)=31 by omega]);have e2:2^(32-n)=2*2^(31-n):=(by rw[show 32-n=(31-n)+1 by omega,bF];omega);have e3:2^(n+1)=2^n*2:=bF 2 n;have f:0<2^n:=bH (by simp);have d1:x/2^(n+1)=x/2^n/2:=(by rw[e3,bG]);have d:x%2^(n+1)=x%2^n+2^n*(x/2^n%2):=(by rw[e3,bO]);unfold rot;rw[d1,d,e2,show 32-(n+1)=31-n by omega,e1];generalize 2^(31-n)=p;generalize x/2^n=q;generalize x%2^n=r;generalize 2^n=s;have b:(q+r*(2*p))/2=q/2+r*p:=by
  rw[show r*(2*p)=2*(r*p) by rw[bW],Nat.add_mul_div_left _ _ (by omega)]
 have c:(q+r*(2*p))%2=q%2:=by
  rw[show r*(2*p)=2*(r*p) by rw[bW],bJ]
 rw[b,c,bU];rw[show s*(q%2)*p=q%2*(s*p) by rw[bL s,bY]];omega
theorem and_lt32 {a b:Nat}(h:a<4294967296):a&&&b<4294967296:=Nat.lt_of_le_of_lt Nat.and_le_left h
theorem xor_lt32 {a b:Nat}(ha:a<4294967296)(hb:b<4294967296):a^^^b<4294967296:=Nat.xor_lt_two_pow (n:=32) ha hb
theorem chN_lt {e f g:Nat}(he:e<4294967296):chN e f g<4294967296:=xor_lt32 (and_lt32 he) (and_lt32 (by omega))
theorem majN_lt {a b c:Nat}(ha:a<4294967296)(hb:b<4294967296):majN a b c<4294967296:=xor_lt32 (xor_lt32 (and_lt32 ha) (and_lt32 ha)) (and_lt32 hb)
theorem S0N_lt {x:Nat}(hx:x<4294967296):S0N x<4294967296:=xor_lt32 (xor_lt32 (rot_lt hx (by omega)) (rot_lt hx (by omega))) (rot_lt hx (by omega))
theorem S1N_lt {x:Nat}(hx:x<4294967296):S1N x<4294967296:=xor_lt32 (xor_lt32 (rot_lt hx (by omega)) (rot_lt hx (by omega))) (rot_lt hx (by omega))
theorem tb_mod (x i:Nat):x/2^i%2=(x.testBit i).toNat:=by rw[Nat.testBit_eq_decide_div_mod_eq];rcases bZ (x/2^i)with h|h<;>simp[h]
theorem not_bit {e i:Nat}(he:e<4294967296)(hi:i<32):(4294967295-e).testBit i= !(e.testBit i):=by
 have:=Nat.testBit_two_pow_sub_succ (n:=32) (x:=e) he i;rw[show(2:Nat)^32-(e+1)=4294967295-e by omega]at this;rw[this,dT hi,Bool.true_and]
theorem chN_bit {e f g i:Nat}(he:e<4294967296)(hi:i<32):chN e f g/2^i%2=if e/2^i%2=1 then f/2^i%2 else g/2^i%2:=by
 rw[tb_mod,tb_mod,tb_mod,tb_mod,chN,cA,cB,cB,not_bit he hi];cases e.testBit i<;>cases f.testBit i<;>cases g.testBit i<;>rfl
theorem majN_bit (a b c i:Nat):majN a b c/2^i%2=if 2<=a/2^i%2+b/2^i%2+c/2^i%2 then 1 else 0:=by
 rw[tb_mod,tb_mod,tb_mod,tb_mod,majN,cA,cA,cB,cB,cB];cases a.testBit i<;>cases b.testBit i<;>cases c.testBit i<;>rfl
theorem mod_succ (x i:Nat):x%2^(i+1)=x%2^i+x/2^i%2*2^i:=by rw[bF,bO,bL (2^i)]
theorem mod_full {x:Nat}(h:x<4294967296):x%2^32=x:=bK h
-- the words of a block
def wNext (B l:List Nat)(t:Nat):Nat:=
 if t<16 then((B.getD (4*t) 0*256+B.getD (4*t+1) 0)*256+B.getD (4*t+2) 0)*256+B.getD (4*t+3) 0
 else(s1N (l.getD (t-2) 0)+l.getD (t-7) 0+s0N (l.getD (t-15) 0)+l.getD (t-16) 0)%4294967296
def wL (B:List Nat):Nat->List Nat
 |0=>[]
 |t+1=>wL B t++[wNext B (wL B t) t]
theorem wL_len (B:List Nat)(t:Nat):(wL B t).length=t:=by
 induction t with
 |zero=>rfl
 |succ t ih=>rw[wL,bA,ih];rfl
theorem wNext_lt {B l:List Nat}(a:∀x∈B,x<256)(t:Nat):wNext B l t<4294967296:=by
 have g:∀i,B.getD i 0<256:=by
  intro i;rw[aS]
  by_cases h:i<B.length
  ·rw[bB h];exact a _ (bC h)
  ·rw[aQ (by omega)];decide
 unfold wNext
 split
 ·have h0:=g (4*t);have h1:=g (4*t+1);have h2:=g (4*t+2);have h3:=g (4*t+3);omega
 ·omega
theorem wL_lt {B:List Nat}(hB:∀x∈B,x<256):∀t,∀x∈wL B t,x<4294967296:=by
 intro t
 induction t with
 |zero=>intro x hx;cases hx
 |succ t ih=>
  intro x hx;rw[wL,List.mem_append]at hx;rcases hx with hx|hx
  ·exact ih x hx
  ·simp at hx;rw[hx];exact wNext_lt hB t
-- one round
def rnd (k w:Nat)(v:List Nat):List Nat:=
 let t1:=v.getD 7 0+S1N (v.getD 4 0)+chN (v.getD 4 0) (v.getD 5 0) (v.getD 6 0)+k+w
 let t2:=S0N (v.getD 0 0)+majN (v.getD 0 0) (v.getD 1 0) (v.getD 2 0)
 [(t1+t2)%4294967296,v.getD 0 0,v.getD 1 0,v.getD 2 0,(v.getD 3 0+t1)%4294967296,v.getD 4 0,v.getD 5 0,v.getD 6 0]
def KL:List Nat:=[1116352408,1899447441,3049323471,3921009573,961987163,1508970993,2453635748,2870763221,3624381080,310598401,607225278,1426881987,1925078388,2162078206,2614888103,3248222580,3835390401,4022224774,264347078,604807628,770255983,1249150122,1555081692,1996064986,2554220882,2821834349,2952996808,3210313671,3336571891,3584528711,113926993,338241895,666307205,773529912,1294757372,1396182291,1695183700,1986661051,2177026350,2456956037,2730485921,2820302411,3259730800,3345764771,3516065817,3600352804,4094571909,275423344,430227734,506948616,659060556,883997877,958139571,1322822218,1537002063,1747873779,1955562222,2024104815,2227730452,2361852424,2428436474,2756734187,3204031479,3329325298]
def HL0:List Nat:=[1779033703,3144134277,1013904242,2773480762,1359893119,2600822924,528734635,1541459225]
def rndsN (W v:List Nat):Nat->List Nat
 |0=>v
 |t+1=>rnd (KL.getD t 0) (W.getD t 0) (rndsN W v t)
def stepN (h B:List Nat):List Nat:=(aN 8).map fun i=>(h.getD i 0+(rndsN (wL B 64) h 64).getD i 0)%4294967296
def tailL (n:Nat):List Nat:=128::(List.replicate ((119-n%64)%64) 0++beN 8 (8*n))
def padL (b:List Nat):List Nat:=b++tailL b.length
def blocksN (m:List Nat)(h:List Nat):Nat->List Nat
 |0=>h
 |i+1=>stepN (blocksN m h i) ((m.drop (64*i)).take 64)
def shaF (b:List Nat):List Nat:=((blocksN (padL b) HL0 ((padL b).length/64)).map (beN 4)).flatten
theorem KL_len:KL.length=64:=by decide
theorem HL0_len:HL0.length=8:=by decide
theorem KL_lt:∀x∈KL,x<4294967296:=by decide
theorem HL0_lt:∀x∈HL0,x<4294967296:=by decide
theorem stepN_len (h B:List Nat):(stepN h B).length=8:=by simp[stepN]
theorem stepN_lt (h B:List Nat):∀x∈stepN h B,x<4294967296:=by
 intro x hx;obtain⟨i,_,rfl⟩:=List.mem_map.1 hx;omega
theorem getD_lt32 {l:List Nat}(h:∀x∈l,x<4294967296)(i:Nat):l.getD i 0<4294967296:=by
 rw[aS]
 by_cases hi:i<l.length
 ·rw[bB hi];exact h _ (bC hi)
 ·rw[aQ (by omega)];decide
theorem rnd_lt {k w:Nat} {v:List Nat}(hv:∀x∈v,x<4294967296):∀x∈rnd k w v,x<4294967296:=by
 have g:=getD_lt32 hv;intro x hx;simp only[rnd,aZ,List.not_mem_nil,or_false]at hx;rcases hx with rfl|rfl|rfl|rfl|rfl|rfl|rfl|rfl<;>first|exact g _|omega
theorem rndsN_ok {W v:List Nat}(hl:v.length=8)(hv:∀x∈v,x<4294967296):∀t,(rndsN W v t).length=8/\∀x∈rndsN W v t,x<4294967296:=by
 intro t
 induction t with
 |zero=>exact⟨hl,hv⟩
 |succ t ih=>exact⟨rfl,rnd_lt ih.2⟩
theorem blocksN_ok (m:List Nat) {h:List Nat}(hl:h.length=8)(hh:∀x∈h,x<4294967296):∀i,(blocksN m h i).length=8/\∀x∈blocksN m h i,x<4294967296:=by
 intro i
 induction i with
 |zero=>exact⟨hl,hh⟩
 |succ i ih=>exact⟨stepN_len _ _,stepN_lt _ _⟩
theorem padL_len (b:List Nat):(padL b).length%64=0:=by
 simp only[padL,tailL,bA,List.length_cons,List.length_replicate,beN_len];omega
end ShaM
end Go.Proofs.YtfofaiommeckbaaGreat
namespace Go.Proofs.YtfofaiommeckbaaGreat
open Go.RowKit
def Vv (w:World)(v v':Value):Prop:=v'.ownBlock=v.ownBlock\/∃g,v'.ownBlock=some g/\w.heap.size<=g
theorem Zcc {P:Program} {w:World} {o:Oper} {a:Act} {K:Act->World->Prop} {Q:Exit->Act->World->Prop} (s x:Operand) (t:TypeId)
  (X:o.op=.call {callee:=.builtin .append,args:=#[s,x],argTypes:=#[t,t]})
  (B:Nat) (e:TypeId) (z:Value) (f:Nat) (F:Elem P t e z f)
  (v:Value) (xs:List Value) (Y:a.eval s=v) (d:Own w B e v xs)
  (r:Value) (c:List Value) (hx:a.eval x=r) (n:Rd w r c) (h1:∀u∈c,u.oneCell'=true)
  (hn:xs.length+c.length<1099511627776) (V:B<=w.heap.size)
  (h:∀C w',Own w' B e C (xs++c)->w.grownBy w' v.ownBlock->Below B w w'->Vv w v C->K (a.put o.dst C) w'):o.wp P a w K Q:=by
 obtain⟨i,H,U,l,p⟩:=info_parts F.inf;have low:=F.low;have W:(xs.length+c.length)*f<=(xs.length+c.length)*64:=aC _ low;have O:c.length*f<=c.length*64:=aC _ low;have D:∀(m:Addr) cap,r=.slice (some m) c.length cap->(∀(j:Nat) u,c[j]? =some u->w.cell? (m.add j)=some u)->o.wp P a w K Q:=by
  intro m cap hv A;subst hv;obtain⟨C,w',n,h2,h3,Z⟩:=run_append_own (P:=P) w B t o.type e i z 1 f F.ty H U l p F.one (by omega) v xs.length xs d m c.length cap c (by omega) A h1 (by unfold maxLen;omega) (by omega) V;have S:Vv w v C:=by
   have y:=d;obtain⟨hl,M⟩:=y;rcases M with⟨rfl,h0⟩|⟨g,J,L,rfl,aA,hg,aD,aB,N,R⟩
   ·by_cases hm:c.length=0
    ·rw[Z.2 ⟨rfl,hm⟩];exact .inl rfl
    ·have:=run_append_nil (P:=P) w t o.type e i z F.ty H U m c.length cap c (by rw[l];omega) A (by omega) (by omega) (by rw[p];omega);rw[this]at n;cases n;exact .inr ⟨w.heap.size,rfl,lR⟩
   ·by_cases hroom:xs.length+c.length<=J
    ·have:=run_append_room (P:=P) w t o.type e i F.ty H g xs.length J L hg m c.length cap c (by rw[l];omega) A h1 hroom (by rw[l,N];omega);rw[this]at n;cases n;exact .inl rfl
    ·have q:∀j u,xs[j]? =some u->w.cell? ((⟨g,0,rI⟩:Addr).add j)=some u:=World.ownsRow.cells (g:=g) d rfl;have:=run_append_grow (P:=P) w t o.type e i z F.ty H U ⟨g,0,rI⟩ xs.length J xs (by rw[l];omega) q m c.length cap c (by rw[l];omega) A (by omega) (by omega) (growslice_fits (by omega) (by rw[p];omega));rw[this]at n;cases n;exact .inr ⟨w.heap.size,rfl,lR⟩
  have e1:(xs++c).length=xs.length+c.length:=(by simp);have G:=h C w' (by unfold Own;rw[e1];exact h2) h3 ((Below.refl B w).grown h3 V (fun k hk=>(World.ownsRow.lt d k hk).1)) S;unfold Oper.wp execOp;simp only[X,resolve,invoke,builtin,Sem.run_bind,Sem.run_pure,Result.andThen_ok,List.map_toArray,List.map_cons,List.map_nil,Y,hx,n];exact G
 obtain⟨m,cap,rfl,_,_,⟨rfl,E⟩|⟨b,aE,rfl,M⟩⟩:=n
 ·cases m with
  |none=>
   obtain rfl:=E rfl;have I:=run_append_owned_none (P:=P) (w:=w) B t o.type e i 1 F.ty H v xs.length xs d;unfold Oper.wp;have T:a.eval x=rC rI 0 0:=hx;simp[execOp,X,resolve,invoke,builtin,Y,T,I,Result.andThen];exact h v w (by simpa using d) ⟨rfl,rfl,rfl,lR,fun _ _ _=>rfl⟩ bR (.inl rfl)
  |some m=>exact D m cap rfl (by simp)
 ·exact D _ cap rfl (fun j u A=>by rw[Addr.add_lit];exact M j u A)
end Go.Proofs.YtfofaiommeckbaaGreat
namespace Go.Proofs.YtfofaiommeckbaaGreat.WalkM
def plo (x j:Nat):Nat:=x/2^(j+1)*2^(j+1)
def phi (x j:Nat):Nat:=plo x j+(2^(j+1)-2)
theorem anc_plo (x j:Nat):anc x j=plo x j+(2^j-1):=rfl
theorem mid_eq (x j:Nat):(plo x j+phi x j)/2=anc x j:=by
 have:=pow_pos' j;unfold phi;rw[anc_plo,bF];omega
theorem halves (x j:Nat):(plo x j=plo x (j+1)/\phi x j+1=anc x (j+1)/\x<=anc x (j+1))\/(plo x j=anc x (j+1)+1/\phi x j=phi x (j+1)/\anc x (j+1)<x):=by
 have c:=anc_bounds x j;have f:=pow_pos' j;have e2:x/2^(j+1+1)=x/2^(j+1)/2:=(by rw[bF 2 (j+1),bG]);have e3:2^(j+1+1)=2*2^(j+1):=(by rw[bF 2 (j+1)];omega);have a:2^(j+1)=2*2^j:=(by rw[bF];omega);have d:2^(j+1+1)=4*2^j:=(by rw[e3,a];omega);unfold phi;rw[anc_plo];unfold plo;rw[e2];obtain⟨q,e⟩:=eX (x/2^(j+1));rw[<-e]at c|-;rcases bZ q with h|h
 ·obtain⟨r,rfl⟩:∃r,q=2*r:=⟨q/2,by omega⟩
  left
  have b:2*r*2^(j+1)=2*r/2*2^(j+1+1):=by
   rw[Nat.mul_div_cancel_left _ (by omega),e3,<-bY,bL r 2]
  rw[b]at c|-;rw[d,a]at*;refine⟨rfl,?_,?_⟩<;>omega
 ·obtain⟨r,rfl⟩:∃r,q=2*r+1:=⟨q/2,by omega⟩
  right
  have b:(2*r+1)*2^(j+1)=(2*r+1)/2*2^(j+1+1)+2^(j+1):=by
   rw[show(2*r+1)/2=r by omega,bU,e3,bV,<-bY,bL r 2]
  rw[b]at c|-;rw[d,a]at*;refine⟨?_,?_,?_⟩<;>omega
theorem plo_root {x d:Nat}(hx:x<2^(d+1)):plo x d=0:=by
 unfold plo;rw[bN hx,Nat.zero_mul]
theorem phi_root {x d:Nat}(hx:x<2^(d+1)):phi x d=2^(d+1)-2:=by
 unfold phi;rw[plo_root hx];omega
theorem phi_le {x d j:Nat}(hx:x<2^(d+1))(a:j<=d):phi x j+2<=2^(d+1):=by
 have h:=anc_le hx a;have c:=pow_pos' j;have b:=pow_pos' (j+1);obtain⟨e,rfl⟩:∃e,d=j+e:=⟨d-j,by omega⟩;have h1:x/2^(j+1)<2^e:=by
  rw[bS b,<-bI];rw[show e+(j+1)=j+e+1 by omega];exact hx
 have h2:(x/2^(j+1)+1)*2^(j+1)<=2^e*2^(j+1):=bT _ h1;rw[<-bI,bU,bV,show e+(j+1)=j+e+1 by omega]at h2;unfold phi plo;have h3:2^(j+1)=2*2^j:=(by rw[bF];omega);omega
theorem anc_ne {x j:Nat}(h:¬IsLev x j):anc x j≠x:=by
 intro e;exact h (e▸anc_lev x j)
end Go.Proofs.YtfofaiommeckbaaGreat.WalkM
namespace Go.Proofs.YtfofaiommeckbaaGreat
open Go.RowKit
theorem Zcd {P:Program} {w:World} {o:Oper} {a:Act} {K:Act->World->Prop} {Q:Exit->Act->World->Prop} (s x:Operand) (t:TypeId)
  (H:o.op=.call {callee:=.builtin .append,args:=#[s,x],argTypes:=#[t,t]})
  (B:Nat) (e:TypeId) (z:Value) (c:Nat) (F:Elem P t e z c)
  (v:Value) (xs:List Value) (I:a.eval s=v) (d:Own w B e v xs)
  (r:Value) (f:List Value) (hx:a.eval x=r) (L:Rd w r f) (h1:∀u∈f,u.oneCell'=true)
  (R:xs.length+f.length<1099511627776) (D:B<=w.heap.size)
  (h:∀p w',Own w' B e p (xs++f)->Below B w w'->K (a.put o.dst p) w'):o.wp P a w K Q:=by
 obtain⟨i,E,N,y,q⟩:=info_parts F.inf;have low:=F.low;have G:(xs.length+f.length)*c<=(xs.length+f.length)*64:=aC _ low;have l:∀(g:Addr) cap,r=.slice (some g) f.length cap->(∀(j:Nat) u,f[j]? =some u->w.cell? (g.add j)=some u)->o.wp P a w K Q:=by
  intro g cap M A;subst M;refine wp_append_own w s x t H B e i z 1 c F.ty E N y q F.one (by omega) v xs.length xs I d g f.length cap f hx (by omega) A h1 (by unfold maxLen;omega) (by omega) D ?_;intro p w' h2 h3 _;have e1:(xs++f).length=xs.length+f.length:=(by simp);refine h p w' (by unfold Own;rw[e1];exact h2) ?_;refine(Below.refl B w).grown h3 D ?_;intro k hk;exact(World.ownsRow.lt d k hk).1
 obtain⟨g,cap,rfl,_,_,⟨rfl,m⟩|⟨b,O,rfl,J⟩⟩:=L
 ·cases g with
  |none=>
   obtain rfl:=m rfl;have n:=run_append_owned_none (P:=P) (w:=w) B t o.type e i 1 F.ty E v xs.length xs d;unfold Oper.wp;have C:a.eval x=rC rI 0 0:=hx;simp[execOp,H,resolve,invoke,builtin,I,C,n,Result.andThen];exact h v w (by simpa using d) bR
  |some g=>exact l g cap rfl (by simp)
 ·exact l _ cap rfl (fun j u A=>by rw[Addr.add_lit];exact J j u A)
theorem Zgi {P:Program} {w:World} {ops:Array Oper} {o:Oper} {a:Act} {K:Act->World->Prop} {Q:Exit->Act->World->Prop} {E:Prop} (f:o.guard=none) (s x:Operand) (t:TypeId)
  (j:o.op=.call {callee:=.builtin .append,args:=#[s,x],argTypes:=#[t,t]})
  (B:Nat) (e:TypeId) (z:Value) (b:Nat) (F:Elem P t e z b)
  (v:Value) (xs:List Value) (l:a.eval s=v) (c:Own w B e v xs)
  (r:Value) (d:List Value) (hx:a.eval x=r) (k:Rd w r d) (h1:∀u∈d,u.oneCell'=true)
  (i:xs.length+d.length<1099511627776) (g:B<=w.heap.size)
  (h:∀v' w',Own w' B e v' (xs++d)->Below B w w'->K (a.put o.dst v') w'):if Region.wanted o (yielded ops a.tmps)=true then Oper.wp P o a w K Q else E:=by
 have m:Region.wanted o (yielded ops a.tmps)=true:=(by simp[Region.wanted,f]);rw[iP m];exact Zcd s x t j B e z b F v xs l c r d hx k h1 i g h
