/- Small laws on bits: operations on numbers that are casts of naturals. -/
import Derived.Test.YtfofaiommeckbaaGreatZSliceSoundB
import Derived.WalkKit
import Derived.Laws.BitsAllLaws
import Derived.WalkMore
import Derived.ScopeJumps
import Derived.Test.YtfofaiommeckbaaGreatProg
import Derived.Test.YtfofaiommeckbaaGreatZSliceSound01
import Derived.WalkSpells
import Derived.WalkLawsBesides
import Derived.Lib.Hide
open Nat renaming pow_le_pow_right → bA, and_le_left → bK, mod_mul_right_div_self → bL, pow_succ → aP, div_eq_of_lt → aX, testBit_two_pow → bM
open Bool renaming not_eq_true → bN
set_option linter.unusedVariables false
set_option maxRecDepth 100000
set_option maxHeartbeats 40000000
namespace Go.Proofs.YtfofaiommeckbaaGreat
open Go.RowKit
theorem Zb8 {k:IntKind} {a b:Int}(h:a=b):Ending.returned (.int k a)=.returned (.int k b):=by rw[h]
theorem Ac {a b:Bool}(h:a=b):Ending.returned (.bool a)=.returned (.bool b):=by rw[h]
theorem Ml {k:IntKind} {a b:Int}(h:a=b):Value.int k a=.int k b:=by rw[h]
theorem If (a:Nat)(ha:a<9223372036854775808):(BitVec.ofInt 64 (a:Int)).toNat=a:=by
 rw[BitVec.ofInt_natCast,BitVec.toNat_ofNat];exact Nat.mod_eq_of_lt (by omega)
theorem Mm (a b:Nat)(d:a<9223372036854775808)(c:b<9223372036854775808):bits .and .i64 (a:Int) (b:Int)=((a&&&b:Nat):Int):=by
 have hx:a&&&b<2^63:=Nat.and_lt_two_pow _ (by omega);show IntKind.i64.wrap ((BitVec.ofInt 64 (a:Int)&&&BitVec.ofInt 64 (b:Int)).toNat:Int)=_;rw[BitVec.toNat_and,If a d,If b c,IntKind.wrap_i64];omega
theorem Zaf (a b:Nat)(d:a<9223372036854775808)(c:b<9223372036854775808):bits .or .i64 (a:Int) (b:Int)=((a|||b:Nat):Int):=by
 have hx:a|||b<2^63:=Nat.or_lt_two_pow (by omega) (by omega)
 show IntKind.i64.wrap ((BitVec.ofInt 64 (a:Int)|||BitVec.ofInt 64 (b:Int)).toNat:Int)=_;rw[BitVec.toNat_or,If a d,If b c,IntKind.wrap_i64];omega
theorem Ba {k n:Nat}(h:k≤n):2^k≤2^n:=bA (by omega) h
theorem two_pow_pos (k:Nat):1≤2^k:=Nat.one_le_two_pow
theorem Fi {P:Program} {a:Act} {w:World} {Q:Exit→Act→World→Prop} {c rest:Code} (l:Nat) (J:Act→World→Prop) (μ:Act→World→Nat) (f:findLabel c l=some (Code.skip.seq rest))
  (pass:∀a w,J a w→rest.wp P (Exit.jump l (fun d w'=>J d w'∧μ d w'< μ a w) Q) a w)
  (first:(∀a w,J a w→rest.wp P (Exit.jump l J Q) a w)→c.wp P (Exit.jump l J Q) a w):(Code.scope c).wp P Q a w:=by
 refine wp_scope_jumps l J μ f (first ?_) (fun a w h=>wp_seq (wp_skip (pass a w h)));intro a w h;refine Code.wp_mono ?_ (pass a w h);intro e d w' b;cases e with
 |goto l'=>exact⟨b.1,b.2.1⟩
 |_=>exact b
open WalkM
theorem Jk (n m:Nat):n&&&m≤n:=bK
theorem Zgc (n:Nat)(v:n≤65536)(w:World):
  Calls Tryz.prog 174 #[.int .u64 n] w fun e w'=>e=.returned (.int .i64 (popc n:Nat))∧w=w':=by
 have u:=Jk (n/2) 6148914691236517205;have p:=Jk n 6148914691236517205;have r:=u64_and_nat (n/2) 6148914691236517205 (by omega) (by omega);have i:=u64_and_nat n 6148914691236517205 (by omega) (by omega);have d1:pop1 n=((n/2)&&&6148914691236517205)+(n&&&6148914691236517205):=rfl;obtain⟨d,j⟩:=eX ((n/2)&&&6148914691236517205);obtain⟨c,g⟩:=eX (n&&&6148914691236517205);rw[←j]at u r d1;rw[←g]at p i d1;have s:=Jk ((d+c)/4) 3689348814741910323;have o:=Jk (d+c) 3689348814741910323;have e2:=u64_and_nat ((d+c)/4) 3689348814741910323 (by omega) (by omega);have k:=u64_and_nat (d+c) 3689348814741910323 (by omega) (by omega);have d2:pop2 (d+c)=(((d+c)/4)&&&3689348814741910323)+((d+c)&&&3689348814741910323):=rfl;obtain⟨b,h⟩:=eX (((d+c)/4)&&&3689348814741910323);obtain⟨f,m⟩:=eX ((d+c)&&&3689348814741910323);rw[←h]at s e2 d2;rw[←m]at o k d2;have t:=Jk ((b+f)/16+(b+f)) 1085102592571150095;have e3:=u64_and_nat ((b+f)/16+(b+f)) 1085102592571150095 (by omega) (by omega);have d3:pop3 (b+f)=((b+f)/16+(b+f))&&&1085102592571150095:=rfl;obtain⟨a,l⟩:=eX (((b+f)/16+(b+f))&&&1085102592571150095);rw[←l]at t e3 d3;have q:=Mm (a+a/256+(a+a/256)/65536+(a+a/256+(a+a/256)/65536)/4294967296) 127 (by omega) (by omega);have d4:popc n=(a+a/256+(a+a/256)/65536+(a+a/256+(a+a/256)/65536)/4294967296)&&&127:=by
  rw[popc,d1,d2,d3];rfl
 rw[←d4]at q;simp only[Int.natCast_add,Int.natCast_ediv,Int.cast_ofNat_Int]at r i e2 k e3 q;have D:=Hd d4;clear d1 d2 d3 d4 j g h m l;go_enter Tryz.func174,Tryz.ntmps174;go_wp2;go_ret;exact⟨rfl,rfl⟩
theorem Gg {n:Nat}(h:fits n=true):1≤n∧n≤65536:=by
 obtain⟨d,hd,rfl⟩:=(fits_iff n).1 h;have h1:=pow_pos' d;have h2:2^d≤2^16:=bA (by omega) hd;omega
theorem Jl (n:Int)(w:World)(l: -9223372036854775808≤n)(h2:n≤9223372036854775807):
  Calls Tryz.prog 113 #[.int .i64 n] w fun e w'=>e=.returned (.bool (fits n.toNat))∧w=w':=by
 by_cases hr:1≤n∧n≤65536
 ·obtain⟨m,rfl⟩:∃m:Nat,n=(m:Int):=⟨n.toNat,by omega⟩;have b:m≤65536:=(by omega);have O:=Zgc m b;have g:=popc_fits m b;have e:(((popc m:Nat):Int)==1)=fits m:=by
   rw[←g,Bool.eq_iff_iff];simp only[beq_iff_eq];omega
  obtain⟨c,d⟩:=eX (popc m);obtain⟨f,a⟩:=eX (fits m);rw[←d]at O e;rw[←a]at e;rw[Int.toNat_natCast,←a];have j:=Hd O;clear O g d a l h2;go_enter Tryz.func113,Tryz.ntmps113;go_wp2_with fail;refine(j.out _).mono ?_;rintro e w' ⟨rfl,rfl⟩;go_wp2_with fail;go_ret;exact⟨rfl,rfl⟩
 ·have i:fits n.toNat=false:=by
   rw[←bN];intro h;have:=Gg h;omega
  rw[i];have k:n<1∨(1≤n∧65536<n):=(by omega);clear i hr;rcases k with h|⟨h,o⟩
  all_goals
   go_enter Tryz.func113,Tryz.ntmps113;go_wp2_with fail;go_ret;exact⟨rfl,rfl⟩
def Bf (x:Int):Bool:=decide (0≤x∧x≤131070)
theorem Lu (x:Int)(w:World):
  Calls Tryz.prog 229 #[.int .i64 x] w fun e w'=>e=.returned (.bool (Bf x))∧w=w':=by
 have b:x<0∨(0≤x∧131070<x)∨(0≤x∧x≤131070):=(by omega);rcases b with h|⟨h,a⟩|⟨h,a⟩
 ·have e:Bf x=false:=(by rw[Bf,decide_eq_false];omega);rw[e];clear e;go_enter Tryz.func229,Tryz.ntmps229;go_wp2_with fail;go_ret;exact⟨rfl,rfl⟩
 ·have e:Bf x=false:=(by rw[Bf,decide_eq_false];omega);rw[e];clear e;go_enter Tryz.func229,Tryz.ntmps229;go_wp2_with fail;go_ret;exact⟨Ac (decide_eq_false (by omega)),rfl⟩
 ·have e:Bf x=true:=(by rw[Bf,decide_eq_true];omega);rw[e];clear e;go_enter Tryz.func229,Tryz.ntmps229;go_wp2_with fail;go_ret;exact⟨rfl,rfl⟩
def Uy (x n:Int):Bool:=fits n.toNat&&decide (0≤x∧x≤2*n-2)
theorem Zlh (x n:Int)(w:World)(c: -9223372036854775808≤n)(h2:n≤9223372036854775807):
  Calls Tryz.prog 294 #[.int .i64 x,.int .i64 n] w fun e w'=>e=.returned (.bool (Uy x n))∧w=w':=by
 have F:=Jl n
 by_cases hf:fits n.toNat=true
 ·have i:=Gg hf;have g:1≤n:=(by omega);have f:n≤65536:=(by omega);simp only[Uy,hf,Bool.true_and];rw[hf]at F;have b:=Hd F;clear F hf i c h2;have j:x<0∨(0≤x∧2*n-2<x)∨(0≤x∧x≤2*n-2):=(by omega);rcases j with h|⟨h,d⟩|⟨h,d⟩
  ·have e:decide (0≤x∧x≤2*n-2)=false:=(by rw[decide_eq_false];omega);rw[e];clear e;go_enter Tryz.func294,Tryz.ntmps294;go_wp2_with fail;refine(b.out _ (by omega) (by omega)).mono ?_;rintro e w' ⟨rfl,rfl⟩;go_wp2_with fail;go_ret;exact⟨rfl,rfl⟩
  ·have e:decide (0≤x∧x≤2*n-2)=false:=(by rw[decide_eq_false];omega);rw[e];clear e;go_enter Tryz.func294,Tryz.ntmps294;go_wp2_with fail;refine(b.out _ (by omega) (by omega)).mono ?_;rintro e w' ⟨rfl,rfl⟩;go_wp2_with fail;go_ret;exact⟨Ac (decide_eq_false (by omega)),rfl⟩
  ·have e:decide (0≤x∧x≤2*n-2)=true:=(by rw[decide_eq_true];omega);rw[e];clear e;go_enter Tryz.func294,Tryz.ntmps294;go_wp2_with fail;refine(b.out _ (by omega) (by omega)).mono ?_;rintro e w' ⟨rfl,rfl⟩;go_wp2_with fail;go_ret;exact⟨rfl,rfl⟩
 ·have a:fits n.toNat=false:=(by rw[←bN];exact hf);simp only[Uy,a,Bool.false_and];rw[a]at F;have b:=Hd (F · c h2);clear F hf a c h2;go_enter Tryz.func294,Tryz.ntmps294;go_wp2_with fail;refine(b.out _).mono ?_;rintro e w' ⟨rfl,rfl⟩;go_wp2_with fail;go_ret;exact⟨rfl,rfl⟩
def Lp (x:Int):Int:=if Bf x=true then((lev x.toNat:Nat):Int)else-1
theorem Zju {x l L:Nat}(h:IsLev x L)(hl:l<L):x/2^l%2=1:=by
 have e:=bL x (2^l) 2;rw[←aP]at e;rw[←e,←Nat.mod_mod_of_dvd x (Nat.pow_dvd_pow 2 (show l+1≤L+1 by omega)),h,ones_mod (show l+1≤L by omega),aP];have hp:=pow_pos' l;rw[show 2^l*2-1=2^l-1+2^l by omega,Nat.add_div_right _ hp,aX (by omega)]
theorem Zag {x L:Nat}(h:IsLev x L):x/2^L%2=0:=by
 have e:=bL x (2^L) 2;rw[←aP]at e;have hp:=pow_pos' L;rw[←e,h];exact aX (by omega)
def Znd (x:Nat)(w:World)(a':Act)(w':World):Prop:=
 ∃l:Nat,l≤lev x∧w=w'∧∃(x1 x2 x4 x5 x6 x7 x8 x9 x10 x11 x12 x13 x14:Value),a'= {tmps:=#[.int .i64 (x:Nat),x1,x2,.int .i64 (l:Nat),x4,x5,x6,x7,x8,x9,x10,x11,x12,x13,x14],defers:=[]}
theorem Zah (x:Nat)(hx:x≤131070)(w:World):
  Calls Tryz.prog 213 #[.int .i64 (x:Nat)] w fun e w'=>e=.returned (.int .i64 (lev x:Nat))∧w=w':=by
 have N:=Lu x;have d:Bf (x:Int)=true:=(by rw[Bf,decide_eq_true];omega);rw[d]at N;have f:=Hd N;clear N d;have c:=lev_le hx;go_enter Tryz.func213,Tryz.ntmps213;go_wp2_with fail;refine Fi 0 (Znd x w) (fun b _=>17-(intOf (b.tmps.getD 3 undef)).toNat) rfl ?_ ?_
 ·rintro b h ⟨l,k,rfl,a⟩
  iterate 13 (obtain⟨_,a⟩:=a)
  subst a;have i:bits .and .i64 ((x:Int)/2^l) 1=(x:Int)/2^l%2:=by
   have j:x/2^l≤x:=Nat.div_le_self _ _;have:=Mm (x/2^l) 1 (by omega) (by omega);rw[Nat.and_one_is_mod]at this;have e2:((x:Int)/2^l)=((x/2^l:Nat):Int):=(by simp);rw[e2];exact this
  by_cases hlt:l<lev x
  ·have e:((x:Int)/2^l%2==1)=true:=by
    have:=Zju (lev_is hx) hlt;rw[beq_iff_eq];exact_mod_cast this
   go_wp2_with fail;refine wp_goto ⟨rfl,⟨l+1,by omega,rfl,_,_,_,_,_,_,_,_,_,_,_,_,_,rfl⟩,?_⟩;show 17-((l:Int)+1).toNat<17-(l:Int).toNat;omega
  ·obtain rfl:l=lev x:=(by omega);have e:((x:Int)/2^lev x%2==1)=false:=by
    have:=Zag (lev_is hx);rw[beq_eq_false_iff_ne];have h2:(x:Int)/2^lev x%2=0:=(by exact_mod_cast this);omega
   go_wp2_with fail;simp only[Exit.jump];go_ret;exact⟨rfl,rfl⟩
 ·intro pass;have g:=Hd pass;clear pass;go_wp2_with fail;refine(f.out _).mono ?_;rintro e w' ⟨rfl,rfl⟩;go_wp2_with fail;go_step3;simp only[Exit.then]
  apply_assumption
  refine g.out _ _ ⟨0,by omega,rfl,_,_,_,_,_,_,_,_,_,_,_,_,_,rfl⟩
theorem Mn (x:Int)(w:World):
  Calls Tryz.prog 213 #[.int .i64 x] w fun e w'=>e=.returned (.int .i64 (Lp x))∧w=w':=by
 by_cases hx:0≤x∧x≤131070
 ·obtain⟨n,rfl⟩:∃n:Nat,x=(n:Int):=⟨x.toNat,by omega⟩;have e:Lp (n:Int)=(lev n:Nat):=by
   rw[Lp,if_pos (by rw[Bf,decide_eq_true];omega),Int.toNat_natCast]
  rw[e];exact Zah n (by omega) w
 ·have a:Bf x=false:=(by rw[Bf,decide_eq_false];exact hx);have e:Lp x= -1:=(by rw[Lp,if_neg (by rw[a];simp)]);have N:=Lu x;rw[a]at N;rw[e];have b:=Hd N;clear N a hx e;go_enter Tryz.func213,Tryz.ntmps213;go_wp2_with fail;go_step3;go_wp2_with fail;refine(b.out _).mono ?_;rintro e w' ⟨rfl,rfl⟩;go_wp2_with fail;simp only[Exit.noGoto];go_ret;exact⟨rfl,rfl⟩
theorem Zb9 (x:Int): -1≤Lp x∧Lp x≤16:=by
 unfold Lp
 split
 ·rename_i h
  have h':=of_decide_eq_true h;have:= @lev_le x.toNat (by omega);omega
 ·omega
theorem Lv {m:Nat}(h:m≤17):wrap64 (2^m)=((2^m:Nat):Int):=by
 have h1:=Ba h;have h2:=two_pow_pos m;have e:(2:Int)^m=((2^m:Nat):Int):=(by simp);rw[e];obtain⟨p,hp⟩:=eX (2^m);rw[←hp]at h1 h2⊢;unfold wrap64;omega
def Et (x:Int):Int:=if 0<Lp x then 2^(Lp x-1).toNat else 0
theorem Xt (x:Int)(w:World):
  Calls Tryz.prog 173 #[.int .i64 x] w fun e w'=>e=.returned (.int .i64 (Et x))∧w=w':=by
 have L:=Mn x;have d:=Zb9 x;have e:Et x=if 0<Lp x then 2^(Lp x-1).toNat else 0:=rfl;obtain⟨l,b⟩:=eX (Lp x);rw[←b]at L d e;have c:=Hd L;have a:=Hd e;clear L e b
 by_cases h0:0<l
 ·obtain⟨m,rfl⟩:∃m:Nat,l=(m:Int)+1:=⟨(l-1).toNat,by omega⟩;have e:Et x=(2^m:Nat):=(by rw[a.out,if_pos h0];simp);rw[e];clear e;go_enter Tryz.func173,Tryz.ntmps173;go_wp2_with fail;refine(c.out _).mono ?_;rintro e w' ⟨rfl,rfl⟩;go_wp2_with fail;go_ret;exact⟨Zb8 (Lv (by omega)),rfl⟩
 ·have e:Et x=0:=(by rw[a.out,if_neg h0]);rw[e];clear e;go_enter Tryz.func173,Tryz.ntmps173;go_wp2_with fail;refine(c.out _).mono ?_;rintro e w' ⟨rfl,rfl⟩;go_wp2_with fail;go_ret;exact⟨rfl,rfl⟩
theorem Xu (x:Int):0≤Et x∧Et x≤32768:=by
 unfold Et
 split
 ·have h:=Zb9 x;obtain⟨m,hm⟩:=eX ((Lp x-1).toNat);rw[←hm];have h1:=Ba (show m≤15 by omega);have e:(2:Int)^m=((2^m:Nat):Int):=(by simp);rw[e];obtain⟨p,hp⟩:=eX (2^m);rw[←hp]at h1⊢;omega
 ·omega
theorem Si {x:Int}(h:Et x≠0):0≤x∧x≤131070:=by
 by_cases hx:Bf x=true
 ·exact of_decide_eq_true hx
 ·exfalso;apply h;rw[Et,Lp,if_neg hx,if_neg (by omega)]
def Hr (x:Int):Int:=if Et x=0 then-1 else x-Et x
def Em (x:Int):Int:=if Et x=0 then-1 else x+Et x
theorem Hs (x:Int)(w:World):
  Calls Tryz.prog 109 #[.int .i64 x] w fun e w'=>e=.returned (.int .i64 (Hr x))∧w=w':=by
 have H:=Xt x;have c:=Xu x;have a:= @Si x;have e:Hr x=if Et x=0 then-1 else x-Et x:=rfl;obtain⟨l,d⟩:=eX (Et x);rw[←d]at H c e a;have f:=Hd H;have b:=Hd e;clear H e d
 by_cases h0:l=0
 ·subst h0;have e:Hr x= -1:=(by rw[b.out,if_pos rfl]);rw[e];clear e a c;go_enter Tryz.func109,Tryz.ntmps109;go_wp2_with fail;refine(f.out _).mono ?_;rintro e w' ⟨rfl,rfl⟩;go_wp2_with fail;go_ret;exact⟨rfl,rfl⟩
 ·have e:Hr x=x-l:=(by rw[b.out,if_neg h0]);rw[e];have hx:=a h0;have g:(l==0)=false:=(by simp[h0]);clear e h0 a;go_enter Tryz.func109,Tryz.ntmps109;go_wp2_with fail;refine(f.out _).mono ?_;rintro e w' ⟨rfl,rfl⟩;go_wp2_with fail;go_ret;exact⟨rfl,rfl⟩
theorem Gh (x:Int)(w:World):
  Calls Tryz.prog 110 #[.int .i64 x] w fun e w'=>e=.returned (.int .i64 (Em x))∧w=w':=by
 have H:=Xt x;have c:=Xu x;have a:= @Si x;have e:Em x=if Et x=0 then-1 else x+Et x:=rfl;obtain⟨l,d⟩:=eX (Et x);rw[←d]at H c e a;have f:=Hd H;have b:=Hd e;clear H e d
 by_cases h0:l=0
 ·subst h0;have e:Em x= -1:=(by rw[b.out,if_pos rfl]);rw[e];clear e a c;go_enter Tryz.func110,Tryz.ntmps110;go_wp2_with fail;refine(f.out _).mono ?_;rintro e w' ⟨rfl,rfl⟩;go_wp2_with fail;go_ret;exact⟨rfl,rfl⟩
 ·have e:Em x=x+l:=(by rw[b.out,if_neg h0]);rw[e];have hx:=a h0;have g:(l==0)=false:=(by simp[h0]);clear e h0 a;go_enter Tryz.func110,Tryz.ntmps110;go_wp2_with fail;refine(f.out _).mono ?_;rintro e w' ⟨rfl,rfl⟩;go_wp2_with fail;go_ret;exact⟨rfl,rfl⟩
def Mo (n:Int):Int:=if fits n.toNat=true then n-1 else-1
theorem Lw (n:Int)(w:World)(b: -9223372036854775808≤n)(h2:n≤9223372036854775807):
  Calls Tryz.prog 61 #[.int .i64 n] w fun e w'=>e=.returned (.int .i64 (Mo n))∧w=w':=by
 have F:=Jl n
 by_cases hf:fits n.toNat=true
 ·have g:=Gg hf;have f:1≤n:=(by omega);have d:n≤65536:=(by omega);have e:Mo n=n-1:=(by rw[Mo,if_pos hf]);rw[e];rw[hf]at F;have c:=Hd (F · b h2);clear F hf g b h2 e;go_enter Tryz.func61,Tryz.ntmps61;go_wp2_with fail;refine(c.out _).mono ?_;rintro e w' ⟨rfl,rfl⟩;go_wp2_with fail;go_ret;exact⟨rfl,rfl⟩
 ·have e:Mo n= -1:=(by rw[Mo,if_neg hf]);have a:fits n.toNat=false:=(by rw[←bN];exact hf);rw[e];rw[a]at F;have c:=Hd (F · b h2);clear F hf a b h2 e;go_enter Tryz.func61,Tryz.ntmps61;go_wp2_with fail;refine(c.out _).mono ?_;rintro e w' ⟨rfl,rfl⟩;go_wp2_with fail;go_ret;exact⟨rfl,rfl⟩
theorem Zca (x j i:Nat):(anc x j).testBit i=if i<j+1 then decide (i<j)else x.testBit i:=by
 have hp:=pow_pos' j;unfold anc;rw[Nat.mul_comm,Nat.testBit_two_pow_mul_add _ (show 2^j-1<2^(j+1) by rw[aP];omega)]
 split
 ·rw[Nat.testBit_two_pow_sub_one]
 ·rw[Nat.testBit_div_two_pow]
  congr 1;omega
theorem Zgd {x l:Nat}(h:IsLev x l)(e:l≤17)(hx:x<2^63):(x|||2^l)&&&(2^64-(2^(l+1)+1))=anc x (l+1):=by
 have b:=anc_self h;apply Nat.eq_of_testBit_eq;intro i;have c:2^(l+1)<2^64:=Nat.pow_lt_pow_right (by omega) (by omega);rw[Nat.testBit_and,Nat.testBit_or,bM,Nat.testBit_two_pow_sub_succ c,bM,Zca];have a:=Zca x l i;rw[b]at a
 by_cases h64:i<64
 ·by_cases h1:i<l
  ·rw[a,if_pos (by omega),if_pos (by omega)];have e2:decide (l+1=i)=false:=(by simp;omega);have e3:decide (i<l+1)=true:=(by simp;omega);rw[e2,e3];simp[h1,h64]
  ·by_cases h2:i=l
   ·subst h2;rw[a];simp;omega
   ·by_cases h3:i=l+1
    ·subst h3;simp
    ·rw[if_neg (by omega)];have d:decide (l=i)=false:=(by simp;omega);have e2:decide (l+1=i)=false:=(by simp;omega);rw[d,e2];simp[h64]
 ·have:x.testBit i=false:=Nat.testBit_lt_two_pow (Nat.lt_of_lt_of_le hx (bA (by omega) (by omega)));rw[if_neg (by omega),this];simp[h64]
theorem Oh (a b:Nat)(d:a<9223372036854775808)(c:b<9223372036854775808):bits .andNot .i64 (a:Int) (b:Int)=((a&&&(2^64-(b+1)):Nat):Int):=by
 have hx:a&&&(2^64-(b+1))≤a:=bK;show IntKind.i64.wrap ((BitVec.ofInt 64 (a:Int)&&& ~~~BitVec.ofInt 64 (b:Int)).toNat:Int)=_;rw[BitVec.toNat_and,BitVec.toNat_not,If a d,If b c,IntKind.wrap_i64,show 2^64-1-b=2^64-(b+1) by omega];omega
end Go.Proofs.YtfofaiommeckbaaGreat
