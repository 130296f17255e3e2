import Derived.WalkKit
import Derived.Laws.BitsAllLaws
import Derived.WalkMore
import Derived.ScopeJumps
import Derived.Test.YtfofaiommeckbaaGreatProg
import Derived.Test.YtfofaiommeckbaaGreatZSliceProves01
import Derived.WalkSpells
import Derived.WalkLawsBesides
import Derived.Lib.Hide
open Go.Value renaming int → rA
open Go.IntKind renaming i64 → rC
open Go.Proofs.Tryz
open Nat renaming pow_le_pow_right → aY, and_le_left → bI, mod_mul_right_div_self → bJ, pow_succ → aN, div_eq_of_lt → aV, testBit_two_pow → bK
open Bool renaming not_eq_true → bL
set_option linter.unusedVariables false
set_option maxRecDepth 100000
set_option maxHeartbeats 40000000
namespace Go.Proofs.YtfofaiommeckbaaGreat
open Go.RowKit
theorem Zcv {k:IntKind} {a b:Int}(h:a=b):Ending.returned (.int k a)=.returned (.int k b):=by rw[h]
theorem Ae {a b:Bool}(h:a=b):Ending.returned (.bool a)=.returned (.bool b):=by rw[h]
theorem Hg {k:IntKind} {a b:Int}(h:a=b):Value.int k a=.int k b:=by rw[h]
theorem Is (a:Nat)(ha:a<9223372036854775808):(BitVec.ofInt 64 (a:Int)).toNat=a:=by
 rw[BitVec.ofInt_natCast,BitVec.toNat_ofNat];exact Nat.mod_eq_of_lt (by omega)
theorem Ns (a b:Nat)(d:a<9223372036854775808)(c:b<9223372036854775808):bits .and .i64 (a:Int) (b:Int)=((a&&&b:Nat):Int):=by
 have hx:a&&&b<2^63:=Nat.and_lt_two_pow _ (by omega);show IntKind.i64.wrap ((BitVec.ofInt 64 (a:Int)&&&BitVec.ofInt 64 (b:Int)).toNat:Int)=_;rw[BitVec.toNat_and,Is a d,Is b c,IntKind.wrap_i64];omega
theorem Za2 (a b:Nat)(d:a<9223372036854775808)(c:b<9223372036854775808):bits .or .i64 (a:Int) (b:Int)=((a|||b:Nat):Int):=by
 have hx:a|||b<2^63:=Nat.or_lt_two_pow (by omega) (by omega)
 show IntKind.i64.wrap ((BitVec.ofInt 64 (a:Int)|||BitVec.ofInt 64 (b:Int)).toNat:Int)=_;rw[BitVec.toNat_or,Is a d,Is b c,IntKind.wrap_i64];omega
theorem Av {k n:Nat}(h:k≤n):2^k≤2^n:=aY (by omega) h
theorem two_pow_pos (k:Nat):1≤2^k:=Nat.one_le_two_pow
theorem Fk {P:Program} {a:Act} {w:World} {Q:Exit→Act→World→Prop} {c rest:Code} (l:Nat) (J:Act→World→Prop) (μ:Act→World→Nat) (f:findLabel c l=some (Code.skip.seq rest))
  (pass:∀a w,J a w→rest.wp P (Exit.jump l (fun b w'=>J b w'∧μ b w'< μ a w) Q) a w)
  (first:(∀a w,J a w→rest.wp P (Exit.jump l J Q) a w)→c.wp P (Exit.jump l J Q) a w):(Code.scope c).wp P Q a w:=by
 refine wp_scope_jumps l J μ f (first ?_) (fun a w h=>wp_seq (wp_skip (pass a w h)));intro a w h;refine Code.wp_mono ?_ (pass a w h);intro e b w' d;cases e with
 |goto l'=>exact⟨d.1,d.2.1⟩
 |_=>exact d
open WalkM
theorem Kf (n m:Nat):n&&&m≤n:=bI
theorem Zg3 (n:Nat)(u:n≤65536)(w:World):
  Calls prog 174 #[rA .u64 n] w fun e w'=>e=.returned (rA rC (popc n:Nat))∧w=w':=by
 have r:=Kf (n/2) 6148914691236517205;have p:=Kf n 6148914691236517205;have e1:=u64_and_nat (n/2) 6148914691236517205 (by omega) (by omega);have g:=u64_and_nat n 6148914691236517205 (by omega) (by omega);have d1:pop1 n=((n/2)&&&6148914691236517205)+(n&&&6148914691236517205):=rfl;obtain⟨b,i⟩:=eX ((n/2)&&&6148914691236517205);obtain⟨d,h⟩:=eX (n&&&6148914691236517205);rw[←i]at r e1 d1;rw[←h]at p g d1;have t:=Kf ((b+d)/4) 3689348814741910323;have o:=Kf (b+d) 3689348814741910323;have e2:=u64_and_nat ((b+d)/4) 3689348814741910323 (by omega) (by omega);have m:=u64_and_nat (b+d) 3689348814741910323 (by omega) (by omega);have d2:pop2 (b+d)=(((b+d)/4)&&&3689348814741910323)+((b+d)&&&3689348814741910323):=rfl;obtain⟨c,j⟩:=eX (((b+d)/4)&&&3689348814741910323);obtain⟨f,k⟩:=eX ((b+d)&&&3689348814741910323);rw[←j]at t e2 d2;rw[←k]at o m d2;have s:=Kf ((c+f)/16+(c+f)) 1085102592571150095;have e3:=u64_and_nat ((c+f)/16+(c+f)) 1085102592571150095 (by omega) (by omega);have d3:pop3 (c+f)=((c+f)/16+(c+f))&&&1085102592571150095:=rfl;obtain⟨a,l⟩:=eX (((c+f)/16+(c+f))&&&1085102592571150095);rw[←l]at s e3 d3;have q:=Ns (a+a/256+(a+a/256)/65536+(a+a/256+(a+a/256)/65536)/4294967296) 127 (by omega) (by omega);have d4:popc n=(a+a/256+(a+a/256)/65536+(a+a/256+(a+a/256)/65536)/4294967296)&&&127:=by
  rw[popc,d1,d2,d3];rfl
 rw[←d4]at q;simp only[Int.natCast_add,Int.natCast_ediv,Int.cast_ofNat_Int]at e1 g e2 m e3 q;have D:=Hd d4;clear d1 d2 d3 d4 i h j k l;go_enter func174,ntmps174;go_wp2;go_ret;exact⟨rfl,rfl⟩
theorem Gl {n:Nat}(h:fits n=true):1≤n∧n≤65536:=by
 obtain⟨d,hd,rfl⟩:=(fits_iff n).1 h;have h1:=pow_pos' d;have h2:2^d≤2^16:=aY (by omega) hd;omega
theorem Kg (n:Int)(w:World)(h1: -9223372036854775808≤n)(h2:n≤9223372036854775807):
  Calls prog 113 #[rA rC n] w fun e w'=>e=.returned (.bool (fits n.toNat))∧w=w':=by
 by_cases hr:1≤n∧n≤65536
 ·obtain⟨m,rfl⟩:∃m:Nat,n=(m:Int):=⟨n.toNat,by omega⟩;have b:m≤65536:=(by omega);have O:=Zg3 m b;have i:=popc_fits m b;have e:(((popc m:Nat):Int)==1)=fits m:=by
   rw[←i,Bool.eq_iff_iff];simp only[beq_iff_eq];omega
  obtain⟨c,g⟩:=eX (popc m);obtain⟨f,a⟩:=eX (fits m);rw[←g]at O e;rw[←a]at e;rw[Int.toNat_natCast,←a];have j:=Hd O;clear O i g a h1 h2;go_enter func113,ntmps113;go_wp2_with fail;refine(j.out _).mono ?_;rintro e w' ⟨rfl,rfl⟩;go_wp2_with fail;go_ret;exact⟨rfl,rfl⟩
 ·have d:fits n.toNat=false:=by
   rw[←bL];intro h;have:=Gl h;omega
  rw[d];have k:n<1∨(1≤n∧65536<n):=(by omega);clear d hr;rcases k with h|⟨h,l⟩
  all_goals
   go_enter func113,ntmps113;go_wp2_with fail;go_ret;exact⟨rfl,rfl⟩
def Bj (x:Int):Bool:=decide (0≤x∧x≤131070)
theorem Mv (x:Int)(w:World):
  Calls prog 229 #[rA rC x] w fun e w'=>e=.returned (.bool (Bj x))∧w=w':=by
 have a:x<0∨(0≤x∧131070<x)∨(0≤x∧x≤131070):=(by omega);rcases a with h|⟨h,b⟩|⟨h,b⟩
 ·have e:Bj x=false:=(by rw[Bj,decide_eq_false];omega);rw[e];clear e;go_enter func229,ntmps229;go_wp2_with fail;go_ret;exact⟨rfl,rfl⟩
 ·have e:Bj x=false:=(by rw[Bj,decide_eq_false];omega);rw[e];clear e;go_enter func229,ntmps229;go_wp2_with fail;go_ret;exact⟨Ae (decide_eq_false (by omega)),rfl⟩
 ·have e:Bj x=true:=(by rw[Bj,decide_eq_true];omega);rw[e];clear e;go_enter func229,ntmps229;go_wp2_with fail;go_ret;exact⟨rfl,rfl⟩
def Li (x n:Int):Bool:=fits n.toNat&&decide (0≤x∧x≤2*n-2)
theorem Zmd (x n:Int)(w:World)(h1: -9223372036854775808≤n)(h2:n≤9223372036854775807):
  Calls prog 294 #[rA rC x,rA rC n] w fun e w'=>e=.returned (.bool (Li x n))∧w=w':=by
 have F:=Kg n
 by_cases hf:fits n.toNat=true
 ·have g:=Gl hf;have i:1≤n:=(by omega);have d:n≤65536:=(by omega);simp only[Li,hf,Bool.true_and];rw[hf]at F;have b:=Hd F;clear F hf g h1 h2;have c:x<0∨(0≤x∧2*n-2<x)∨(0≤x∧x≤2*n-2):=(by omega);rcases c with h|⟨h,f⟩|⟨h,f⟩
  ·have e:decide (0≤x∧x≤2*n-2)=false:=(by rw[decide_eq_false];omega);rw[e];clear e;go_enter func294,ntmps294;go_wp2_with fail;refine(b.out _ (by omega) (by omega)).mono ?_;rintro e w' ⟨rfl,rfl⟩;go_wp2_with fail;go_ret;exact⟨rfl,rfl⟩
  ·have e:decide (0≤x∧x≤2*n-2)=false:=(by rw[decide_eq_false];omega);rw[e];clear e;go_enter func294,ntmps294;go_wp2_with fail;refine(b.out _ (by omega) (by omega)).mono ?_;rintro e w' ⟨rfl,rfl⟩;go_wp2_with fail;go_ret;exact⟨Ae (decide_eq_false (by omega)),rfl⟩
  ·have e:decide (0≤x∧x≤2*n-2)=true:=(by rw[decide_eq_true];omega);rw[e];clear e;go_enter func294,ntmps294;go_wp2_with fail;refine(b.out _ (by omega) (by omega)).mono ?_;rintro e w' ⟨rfl,rfl⟩;go_wp2_with fail;go_ret;exact⟨rfl,rfl⟩
 ·have a:fits n.toNat=false:=(by rw[←bL];exact hf);simp only[Li,a,Bool.false_and];rw[a]at F;have b:=Hd (F · h1 h2);clear F hf a h1 h2;go_enter func294,ntmps294;go_wp2_with fail;refine(b.out _).mono ?_;rintro e w' ⟨rfl,rfl⟩;go_wp2_with fail;go_ret;exact⟨rfl,rfl⟩
def Mp (x:Int):Int:=if Bj x=true then((lev x.toNat:Nat):Int)else-1
theorem Zkj {x l L:Nat}(h:IsLev x L)(hl:l<L):x/2^l%2=1:=by
 have e:=bJ x (2^l) 2;rw[←aN]at e;rw[←e,←Nat.mod_mod_of_dvd x (Nat.pow_dvd_pow 2 (show l+1≤L+1 by omega)),h,ones_mod (show l+1≤L by omega),aN];have hp:=pow_pos' l;rw[show 2^l*2-1=2^l-1+2^l by omega,Nat.add_div_right _ hp,aV (by omega)]
theorem Za3 {x L:Nat}(h:IsLev x L):x/2^L%2=0:=by
 have e:=bJ x (2^L) 2;rw[←aN]at e;have hp:=pow_pos' L;rw[←e,h];exact aV (by omega)
def Znq (x:Nat)(w:World)(a':Act)(w':World):Prop:=
 ∃l:Nat,l≤lev x∧w=w'∧∃(x1 x2 x4 x5 x6 x7 x8 x9 x10 x11 x12 x13 x14:Value),a'= {tmps:=#[rA rC (x:Nat),x1,x2,rA rC (l:Nat),x4,x5,x6,x7,x8,x9,x10,x11,x12,x13,x14],defers:=[]}
theorem Za4 (x:Nat)(hx:x≤131070)(w:World):
  Calls prog 213 #[rA rC (x:Nat)] w fun e w'=>e=.returned (rA rC (lev x:Nat))∧w=w':=by
 have N:=Mv x;have d:Bj (x:Int)=true:=(by rw[Bj,decide_eq_true];omega);rw[d]at N;have f:=Hd N;clear N d;have c:=lev_le hx;go_enter func213,ntmps213;go_wp2_with fail;refine Fk 0 (Znq x w) (fun b _=>17-(intOf (b.tmps.getD 3 undef)).toNat) rfl ?_ ?_
 ·rintro b h ⟨l,i,rfl,a⟩
  iterate 13 (obtain⟨_,a⟩:=a)
  subst a;have j:bits .and .i64 ((x:Int)/2^l) 1=(x:Int)/2^l%2:=by
   have h1:x/2^l≤x:=Nat.div_le_self _ _;have:=Ns (x/2^l) 1 (by omega) (by omega);rw[Nat.and_one_is_mod]at this;have e2:((x:Int)/2^l)=((x/2^l:Nat):Int):=(by simp);rw[e2];exact this
  by_cases hlt:l<lev x
  ·have e:((x:Int)/2^l%2==1)=true:=by
    have:=Zkj (lev_is hx) hlt;rw[beq_iff_eq];exact_mod_cast this
   go_wp2_with fail;refine wp_goto ⟨rfl,⟨l+1,by omega,rfl,_,_,_,_,_,_,_,_,_,_,_,_,_,rfl⟩,?_⟩;show 17-((l:Int)+1).toNat<17-(l:Int).toNat;omega
  ·obtain rfl:l=lev x:=(by omega);have e:((x:Int)/2^lev x%2==1)=false:=by
    have:=Za3 (lev_is hx);rw[beq_eq_false_iff_ne];have h2:(x:Int)/2^lev x%2=0:=(by exact_mod_cast this);omega
   go_wp2_with fail;simp only[Exit.jump];go_ret;exact⟨rfl,rfl⟩
 ·intro pass;have g:=Hd pass;clear pass;go_wp2_with fail;refine(f.out _).mono ?_;rintro e w' ⟨rfl,rfl⟩;go_wp2_with fail;go_step3;simp only[Exit.then]
  apply_assumption
  refine g.out _ _ ⟨0,by omega,rfl,_,_,_,_,_,_,_,_,_,_,_,_,_,rfl⟩
theorem Nt (x:Int)(w:World):
  Calls prog 213 #[rA rC x] w fun e w'=>e=.returned (rA rC (Mp x))∧w=w':=by
 by_cases hx:0≤x∧x≤131070
 ·obtain⟨n,rfl⟩:∃n:Nat,x=(n:Int):=⟨x.toNat,by omega⟩;have e:Mp (n:Int)=(lev n:Nat):=by
   rw[Mp,if_pos (by rw[Bj,decide_eq_true];omega),Int.toNat_natCast]
  rw[e];exact Za4 n (by omega) w
 ·have a:Bj x=false:=(by rw[Bj,decide_eq_false];exact hx);have e:Mp x= -1:=(by rw[Mp,if_neg (by rw[a];simp)]);have N:=Mv x;rw[a]at N;rw[e];have b:=Hd N;clear N a hx e;go_enter func213,ntmps213;go_wp2_with fail;go_step3;go_wp2_with fail;refine(b.out _).mono ?_;rintro e w' ⟨rfl,rfl⟩;go_wp2_with fail;simp only[Exit.noGoto];go_ret;exact⟨rfl,rfl⟩
theorem Zcw (x:Int): -1≤Mp x∧Mp x≤16:=by
 unfold Mp
 split
 ·rename_i h
  have h':=of_decide_eq_true h;have:= @lev_le x.toNat (by omega);omega
 ·omega
theorem Mw {m:Nat}(h:m≤17):wrap64 (2^m)=((2^m:Nat):Int):=by
 have h1:=Av h;have h2:=two_pow_pos m;have e:(2:Int)^m=((2^m:Nat):Int):=(by simp);rw[e];obtain⟨p,hp⟩:=eX (2^m);rw[←hp]at h1 h2⊢;unfold wrap64;omega
def Ee (x:Int):Int:=if 0<Mp x then 2^(Mp x-1).toNat else 0
theorem Yl (x:Int)(w:World):
  Calls prog 173 #[rA rC x] w fun e w'=>e=.returned (rA rC (Ee x))∧w=w':=by
 have L:=Nt x;have d:=Zcw x;have e:Ee x=if 0<Mp x then 2^(Mp x-1).toNat else 0:=rfl;obtain⟨l,c⟩:=eX (Mp x);rw[←c]at L d e;have a:=Hd L;have b:=Hd e;clear L e c
 by_cases h0:0<l
 ·obtain⟨m,rfl⟩:∃m:Nat,l=(m:Int)+1:=⟨(l-1).toNat,by omega⟩;have e:Ee x=(2^m:Nat):=(by rw[b.out,if_pos h0];simp);rw[e];clear e;go_enter func173,ntmps173;go_wp2_with fail;refine(a.out _).mono ?_;rintro e w' ⟨rfl,rfl⟩;go_wp2_with fail;go_ret;exact⟨Zcv (Mw (by omega)),rfl⟩
 ·have e:Ee x=0:=(by rw[b.out,if_neg h0]);rw[e];clear e;go_enter func173,ntmps173;go_wp2_with fail;refine(a.out _).mono ?_;rintro e w' ⟨rfl,rfl⟩;go_wp2_with fail;go_ret;exact⟨rfl,rfl⟩
theorem Ym (x:Int):0≤Ee x∧Ee x≤32768:=by
 unfold Ee
 split
 ·have h:=Zcw x;obtain⟨m,hm⟩:=eX ((Mp x-1).toNat);rw[←hm];have h1:=Av (show m≤15 by omega);have e:(2:Int)^m=((2^m:Nat):Int):=(by simp);rw[e];obtain⟨p,hp⟩:=eX (2^m);rw[←hp]at h1⊢;omega
 ·omega
theorem Tk {x:Int}(h:Ee x≠0):0≤x∧x≤131070:=by
 by_cases hx:Bj x=true
 ·exact of_decide_eq_true hx
 ·exfalso;apply h;rw[Ee,Mp,if_neg hx,if_neg (by omega)]
def Eb (x:Int):Int:=if Ee x=0 then-1 else x-Ee x
def Ce (x:Int):Int:=if Ee x=0 then-1 else x+Ee x
theorem Ia (x:Int)(w:World):
  Calls prog 109 #[rA rC x] w fun e w'=>e=.returned (rA rC (Eb x))∧w=w':=by
 have H:=Yl x;have f:=Ym x;have a:= @Tk x;have e:Eb x=if Ee x=0 then-1 else x-Ee x:=rfl;obtain⟨l,d⟩:=eX (Ee x);rw[←d]at H f e a;have b:=Hd H;have c:=Hd e;clear H e d
 by_cases h0:l=0
 ·subst h0;have e:Eb x= -1:=(by rw[c.out,if_pos rfl]);rw[e];clear e a f;go_enter func109,ntmps109;go_wp2_with fail;refine(b.out _).mono ?_;rintro e w' ⟨rfl,rfl⟩;go_wp2_with fail;go_ret;exact⟨rfl,rfl⟩
 ·have e:Eb x=x-l:=(by rw[c.out,if_neg h0]);rw[e];have hx:=a h0;have g:(l==0)=false:=(by simp[h0]);clear e h0 a;go_enter func109,ntmps109;go_wp2_with fail;refine(b.out _).mono ?_;rintro e w' ⟨rfl,rfl⟩;go_wp2_with fail;go_ret;exact⟨rfl,rfl⟩
theorem Gm (x:Int)(w:World):
  Calls prog 110 #[rA rC x] w fun e w'=>e=.returned (rA rC (Ce x))∧w=w':=by
 have H:=Yl x;have f:=Ym x;have a:= @Tk x;have e:Ce x=if Ee x=0 then-1 else x+Ee x:=rfl;obtain⟨l,d⟩:=eX (Ee x);rw[←d]at H f e a;have b:=Hd H;have c:=Hd e;clear H e d
 by_cases h0:l=0
 ·subst h0;have e:Ce x= -1:=(by rw[c.out,if_pos rfl]);rw[e];clear e a f;go_enter func110,ntmps110;go_wp2_with fail;refine(b.out _).mono ?_;rintro e w' ⟨rfl,rfl⟩;go_wp2_with fail;go_ret;exact⟨rfl,rfl⟩
 ·have e:Ce x=x+l:=(by rw[c.out,if_neg h0]);rw[e];have hx:=a h0;have g:(l==0)=false:=(by simp[h0]);clear e h0 a;go_enter func110,ntmps110;go_wp2_with fail;refine(b.out _).mono ?_;rintro e w' ⟨rfl,rfl⟩;go_wp2_with fail;go_ret;exact⟨rfl,rfl⟩
def Nu (n:Int):Int:=if fits n.toNat=true then n-1 else-1
theorem Mx (n:Int)(w:World)(h1: -9223372036854775808≤n)(h2:n≤9223372036854775807):
  Calls prog 61 #[rA rC n] w fun e w'=>e=.returned (rA rC (Nu n))∧w=w':=by
 have F:=Kg n
 by_cases hf:fits n.toNat=true
 ·have d:=Gl hf;have f:1≤n:=(by omega);have c:n≤65536:=(by omega);have e:Nu n=n-1:=(by rw[Nu,if_pos hf]);rw[e];rw[hf]at F;have b:=Hd (F · h1 h2);clear F hf d h1 h2 e;go_enter func61,ntmps61;go_wp2_with fail;refine(b.out _).mono ?_;rintro e w' ⟨rfl,rfl⟩;go_wp2_with fail;go_ret;exact⟨rfl,rfl⟩
 ·have e:Nu n= -1:=(by rw[Nu,if_neg hf]);have a:fits n.toNat=false:=(by rw[←bL];exact hf);rw[e];rw[a]at F;have b:=Hd (F · h1 h2);clear F hf a h1 h2 e;go_enter func61,ntmps61;go_wp2_with fail;refine(b.out _).mono ?_;rintro e w' ⟨rfl,rfl⟩;go_wp2_with fail;go_ret;exact⟨rfl,rfl⟩
theorem Zcx (x j i:Nat):(anc x j).testBit i=if i<j+1 then decide (i<j)else x.testBit i:=by
 have hp:=pow_pos' j;unfold anc;rw[Nat.mul_comm,Nat.testBit_two_pow_mul_add _ (show 2^j-1<2^(j+1) by rw[aN];omega)]
 split
 ·rw[Nat.testBit_two_pow_sub_one]
 ·rw[Nat.testBit_div_two_pow]
  congr 1;omega
theorem Zg4 {x l:Nat}(h:IsLev x l)(c:l≤17)(hx:x<2^63):(x|||2^l)&&&(2^64-(2^(l+1)+1))=anc x (l+1):=by
 have h0:=anc_self h;apply Nat.eq_of_testBit_eq;intro i;have b:2^(l+1)<2^64:=Nat.pow_lt_pow_right (by omega) (by omega);rw[Nat.testBit_and,Nat.testBit_or,bK,Nat.testBit_two_pow_sub_succ b,bK,Zcx];have a:=Zcx x l i;rw[h0]at a
 by_cases h64:i<64
 ·by_cases h1:i<l
  ·rw[a,if_pos (by omega),if_pos (by omega)];have e2:decide (l+1=i)=false:=(by simp;omega);have e3:decide (i<l+1)=true:=(by simp;omega);rw[e2,e3];simp[h1,h64]
  ·by_cases h2:i=l
   ·subst h2;rw[a];simp;omega
   ·by_cases h3:i=l+1
    ·subst h3;simp
    ·rw[if_neg (by omega)];have e1:decide (l=i)=false:=(by simp;omega);have e2:decide (l+1=i)=false:=(by simp;omega);rw[e1,e2];simp[h64]
 ·have:x.testBit i=false:=Nat.testBit_lt_two_pow (Nat.lt_of_lt_of_le hx (aY (by omega) (by omega)));rw[if_neg (by omega),this];simp[h64]
theorem Pf (a b:Nat)(d:a<9223372036854775808)(c:b<9223372036854775808):bits .andNot .i64 (a:Int) (b:Int)=((a&&&(2^64-(b+1)):Nat):Int):=by
 have hx:a&&&(2^64-(b+1))≤a:=bI;show IntKind.i64.wrap ((BitVec.ofInt 64 (a:Int)&&& ~~~BitVec.ofInt 64 (b:Int)).toNat:Int)=_;rw[BitVec.toNat_and,BitVec.toNat_not,Is a d,Is b c,IntKind.wrap_i64,show 2^64-1-b=2^64-(b+1) by omega];omega
end Go.Proofs.YtfofaiommeckbaaGreat
