/- Small laws on bits: operations on numbers that are casts of naturals. -/
import Derived.Test.YtfofaiommeckbaaGreatZSliceReadsB
import Derived.WalkKit
import Derived.Laws.BitsAllLaws
import Derived.WalkMore
import Derived.ScopeJumps
import Derived.Test.YtfofaiommeckbaaGreatProg
import Derived.Test.YtfofaiommeckbaaGreatZSliceReads01
import Derived.WalkSpells
import Derived.WalkLawsBesides
import Derived.Lib.Hide
open Nat renaming pow_le_pow_right → aW, and_le_left → bC, mod_mul_right_div_self → bD, pow_succ → aQ, div_eq_of_lt → aU, testBit_two_pow → bE
open Bool renaming not_eq_true → bF
set_option linter.unusedVariables false
set_option maxRecDepth 100000
set_option maxHeartbeats 40000000
namespace Go.Proofs.YtfofaiommeckbaaGreat
open Go.RowKit
theorem Zao {k:IntKind} {a b:Int}(h:a=b):Ending.returned (.int k a)=.returned (.int k b):=by rw[h]
theorem Ah {a b:Bool}(h:a=b):Ending.returned (.bool a)=.returned (.bool b):=by rw[h]
theorem Gw {k:IntKind} {a b:Int}(h:a=b):Value.int k a=.int k b:=by rw[h]
theorem Ho (a:Nat)(ha:a<9223372036854775808):(BitVec.ofInt 64 (a:Int)).toNat=a:=by
 rw[BitVec.ofInt_natCast,BitVec.toNat_ofNat];exact Nat.mod_eq_of_lt (by omega)
theorem Me (a b:Nat)(ha:a<9223372036854775808)(hb:b<9223372036854775808):bits .and .i64 (a:Int) (b:Int)=((a&&&b:Nat):Int):=by
 have hx:a&&&b<2^63:=Nat.and_lt_two_pow _ (by omega);show IntKind.i64.wrap ((BitVec.ofInt 64 (a:Int)&&&BitVec.ofInt 64 (b:Int)).toNat:Int)=_;rw[BitVec.toNat_and,Ho a ha,Ho b hb,IntKind.wrap_i64];omega
theorem Yj (a b:Nat)(ha:a<9223372036854775808)(hb:b<9223372036854775808):bits .or .i64 (a:Int) (b:Int)=((a|||b:Nat):Int):=by
 have hx:a|||b<2^63:=Nat.or_lt_two_pow (by omega) (by omega)
 show IntKind.i64.wrap ((BitVec.ofInt 64 (a:Int)|||BitVec.ofInt 64 (b:Int)).toNat:Int)=_;rw[BitVec.toNat_or,Ho a ha,Ho b hb,IntKind.wrap_i64];omega
theorem At {k n:Nat}(h:k≤n):2^k≤2^n:=aW (by omega) h
theorem two_pow_pos (k:Nat):1≤2^k:=Nat.one_le_two_pow
theorem Em {P:Program} {a:Act} {w:World} {Q:Exit→Act→World→Prop} {c rest:Code} (l:Nat) (J:Act→World→Prop) (μ:Act→World→Nat) (hf:findLabel c l=some (Code.skip.seq rest))
  (pass:∀a w,J a w→rest.wp P (Exit.jump l (fun a' w'=>J a' w'∧μ a' w'< μ a w) Q) a w)
  (first:(∀a w,J a w→rest.wp P (Exit.jump l J Q) a w)→c.wp P (Exit.jump l J Q) a w):(Code.scope c).wp P Q a w:=by
 refine wp_scope_jumps l J μ hf (first ?_) (fun a w h=>wp_seq (wp_skip (pass a w h)));intro a w h;refine Code.wp_mono ?_ (pass a w h);intro e a' w' he;cases e with
 |goto l'=>exact⟨he.1,he.2.1⟩
 |_=>exact he
open WalkM
theorem Ja (n m:Nat):n&&&m≤n:=bC
theorem Zel (n:Nat)(hn:n≤65536)(w:World):
  Calls Tryz.prog 174 #[.int .u64 n] w fun e w'=>e=.returned (.int .i64 (popc n:Nat))∧w=w':=by
 have b1:=Ja (n/2) 6148914691236517205;have b1':=Ja n 6148914691236517205;have e1:=u64_and_nat (n/2) 6148914691236517205 (by omega) (by omega);have e1':=u64_and_nat n 6148914691236517205 (by omega) (by omega);have d1:pop1 n=((n/2)&&&6148914691236517205)+(n&&&6148914691236517205):=rfl;obtain⟨p1,hp1⟩:=eX ((n/2)&&&6148914691236517205);obtain⟨q1,hq1⟩:=eX (n&&&6148914691236517205);rw[←hp1]at b1 e1 d1;rw[←hq1]at b1' e1' d1;have b2:=Ja ((p1+q1)/4) 3689348814741910323;have b2':=Ja (p1+q1) 3689348814741910323;have e2:=u64_and_nat ((p1+q1)/4) 3689348814741910323 (by omega) (by omega);have e2':=u64_and_nat (p1+q1) 3689348814741910323 (by omega) (by omega);have d2:pop2 (p1+q1)=(((p1+q1)/4)&&&3689348814741910323)+((p1+q1)&&&3689348814741910323):=rfl;obtain⟨p2,hp2⟩:=eX (((p1+q1)/4)&&&3689348814741910323);obtain⟨q2,hq2⟩:=eX ((p1+q1)&&&3689348814741910323);rw[←hp2]at b2 e2 d2;rw[←hq2]at b2' e2' d2;have b3:=Ja ((p2+q2)/16+(p2+q2)) 1085102592571150095;have e3:=u64_and_nat ((p2+q2)/16+(p2+q2)) 1085102592571150095 (by omega) (by omega);have d3:pop3 (p2+q2)=((p2+q2)/16+(p2+q2))&&&1085102592571150095:=rfl;obtain⟨p3,hp3⟩:=eX (((p2+q2)/16+(p2+q2))&&&1085102592571150095);rw[←hp3]at b3 e3 d3;have e4:=Me (p3+p3/256+(p3+p3/256)/65536+(p3+p3/256+(p3+p3/256)/65536)/4294967296) 127 (by omega) (by omega);have d4:popc n=(p3+p3/256+(p3+p3/256)/65536+(p3+p3/256+(p3+p3/256)/65536)/4294967296)&&&127:=by
  rw[popc,d1,d2,d3];rfl
 rw[←d4]at e4;simp only[Int.natCast_add,Int.natCast_ediv,Int.cast_ofNat_Int]at e1 e1' e2 e2' e3 e4;have D:=Hd d4;clear d1 d2 d3 d4 hp1 hq1 hp2 hq2 hp3;go_enter Tryz.func174,Tryz.ntmps174;go_wp2;go_ret;exact⟨rfl,rfl⟩
theorem Fj {n:Nat}(h:fits n=true):1≤n∧n≤65536:=by
 obtain⟨d,hd,rfl⟩:=(fits_iff n).1 h;have h1:=pow_pos' d;have h2:2^d≤2^16:=aW (by omega) hd;omega
theorem Jb (n:Int)(w:World)(h1: -9223372036854775808≤n)(h2:n≤9223372036854775807):
  Calls Tryz.prog 113 #[.int .i64 n] w fun e w'=>e=.returned (.bool (fits n.toNat))∧w=w':=by
 by_cases hr:1≤n∧n≤65536
 ·obtain⟨m,rfl⟩:∃m:Nat,n=(m:Int):=⟨n.toNat,by omega⟩;have hm:m≤65536:=(by omega);have O:=Zel m hm;have hp:=popc_fits m hm;have e:(((popc m:Nat):Int)==1)=fits m:=by
   rw[←hp,Bool.eq_iff_iff];simp only[beq_iff_eq];omega
  obtain⟨c,hc⟩:=eX (popc m);obtain⟨f,hf⟩:=eX (fits m);rw[←hc]at O e;rw[←hf]at e;rw[Int.toNat_natCast,←hf];have HO:=Hd O;clear O hp hc hf h1 h2;go_enter Tryz.func113,Tryz.ntmps113;go_wp2_with fail;refine(HO.out _).mono ?_;rintro e w' ⟨rfl,rfl⟩;go_wp2_with fail;go_ret;exact⟨rfl,rfl⟩
 ·have hz:fits n.toNat=false:=by
   rw[←bF];intro h;have:=Fj h;omega
  rw[hz];have hd:n<1∨(1≤n∧65536<n):=(by omega);clear hz hr;rcases hd with h|⟨h,h'⟩
  all_goals
   go_enter Tryz.func113,Tryz.ntmps113;go_wp2_with fail;go_ret;exact⟨rfl,rfl⟩
def Bk (x:Int):Bool:=decide (0≤x∧x≤131070)
theorem Lm (x:Int)(w:World):
  Calls Tryz.prog 229 #[.int .i64 x] w fun e w'=>e=.returned (.bool (Bk x))∧w=w':=by
 have hd:x<0∨(0≤x∧131070<x)∨(0≤x∧x≤131070):=(by omega);rcases hd with h|⟨h,h'⟩|⟨h,h'⟩
 ·have e:Bk x=false:=(by rw[Bk,decide_eq_false];omega);rw[e];clear e;go_enter Tryz.func229,Tryz.ntmps229;go_wp2_with fail;go_ret;exact⟨rfl,rfl⟩
 ·have e:Bk x=false:=(by rw[Bk,decide_eq_false];omega);rw[e];clear e;go_enter Tryz.func229,Tryz.ntmps229;go_wp2_with fail;go_ret;exact⟨Ah (decide_eq_false (by omega)),rfl⟩
 ·have e:Bk x=true:=(by rw[Bk,decide_eq_true];omega);rw[e];clear e;go_enter Tryz.func229,Tryz.ntmps229;go_wp2_with fail;go_ret;exact⟨rfl,rfl⟩
def Jw (x n:Int):Bool:=fits n.toNat&&decide (0≤x∧x≤2*n-2)
theorem Zjg (x n:Int)(w:World)(h1: -9223372036854775808≤n)(h2:n≤9223372036854775807):
  Calls Tryz.prog 294 #[.int .i64 x,.int .i64 n] w fun e w'=>e=.returned (.bool (Jw x n))∧w=w':=by
 have F:=Jb n
 by_cases hf:fits n.toNat=true
 ·have hs:=Fj hf;have hn1:1≤n:=(by omega);have hn2:n≤65536:=(by omega);simp only[Jw,hf,Bool.true_and];rw[hf]at F;have HF:=Hd F;clear F hf hs h1 h2;have hd:x<0∨(0≤x∧2*n-2<x)∨(0≤x∧x≤2*n-2):=(by omega);rcases hd with h|⟨h,h'⟩|⟨h,h'⟩
  ·have e:decide (0≤x∧x≤2*n-2)=false:=(by rw[decide_eq_false];omega);rw[e];clear e;go_enter Tryz.func294,Tryz.ntmps294;go_wp2_with fail;refine(HF.out _ (by omega) (by omega)).mono ?_;rintro e w' ⟨rfl,rfl⟩;go_wp2_with fail;go_ret;exact⟨rfl,rfl⟩
  ·have e:decide (0≤x∧x≤2*n-2)=false:=(by rw[decide_eq_false];omega);rw[e];clear e;go_enter Tryz.func294,Tryz.ntmps294;go_wp2_with fail;refine(HF.out _ (by omega) (by omega)).mono ?_;rintro e w' ⟨rfl,rfl⟩;go_wp2_with fail;go_ret;exact⟨Ah (decide_eq_false (by omega)),rfl⟩
  ·have e:decide (0≤x∧x≤2*n-2)=true:=(by rw[decide_eq_true];omega);rw[e];clear e;go_enter Tryz.func294,Tryz.ntmps294;go_wp2_with fail;refine(HF.out _ (by omega) (by omega)).mono ?_;rintro e w' ⟨rfl,rfl⟩;go_wp2_with fail;go_ret;exact⟨rfl,rfl⟩
 ·have hf':fits n.toNat=false:=(by rw[←bF];exact hf);simp only[Jw,hf',Bool.false_and];rw[hf']at F;have HF:=Hd (F · h1 h2);clear F hf hf' h1 h2;go_enter Tryz.func294,Tryz.ntmps294;go_wp2_with fail;refine(HF.out _).mono ?_;rintro e w' ⟨rfl,rfl⟩;go_wp2_with fail;go_ret;exact⟨rfl,rfl⟩
def Lh (x:Int):Int:=if Bk x=true then((lev x.toNat:Nat):Int)else-1
theorem Zhx {x l L:Nat}(h:IsLev x L)(hl:l<L):x/2^l%2=1:=by
 have e:=bD x (2^l) 2;rw[←aQ]at e;rw[←e,←Nat.mod_mod_of_dvd x (Nat.pow_dvd_pow 2 (show l+1≤L+1 by omega)),h,ones_mod (show l+1≤L by omega),aQ];have hp:=pow_pos' l;rw[show 2^l*2-1=2^l-1+2^l by omega,Nat.add_div_right _ hp,aU (by omega)]
theorem Yk {x L:Nat}(h:IsLev x L):x/2^L%2=0:=by
 have e:=bD x (2^L) 2;rw[←aQ]at e;have hp:=pow_pos' L;rw[←e,h];exact aU (by omega)
def Zk7 (x:Nat)(w:World)(a':Act)(w':World):Prop:=
 ∃l:Nat,l≤lev x∧w=w'∧∃(x1 x2 x4 x5 x6 x7 x8 x9 x10 x11 x12 x13 x14:Value),a'= {tmps:=#[.int .i64 (x:Nat),x1,x2,.int .i64 (l:Nat),x4,x5,x6,x7,x8,x9,x10,x11,x12,x13,x14],defers:=[]}
theorem Yl (x:Nat)(hx:x≤131070)(w:World):
  Calls Tryz.prog 213 #[.int .i64 (x:Nat)] w fun e w'=>e=.returned (.int .i64 (lev x:Nat))∧w=w':=by
 have N:=Lm x;have hn:Bk (x:Int)=true:=(by rw[Bk,decide_eq_true];omega);rw[hn]at N;have HN:=Hd N;clear N hn;have hl16:=lev_le hx;go_enter Tryz.func213,Tryz.ntmps213;go_wp2_with fail;refine Em 0 (Zk7 x w) (fun ac _=>17-(intOf (ac.tmps.getD 3 undef)).toNat) rfl ?_ ?_
 ·rintro ac wx ⟨l,hl,rfl,hf⟩
  iterate 13 (obtain⟨_,hf⟩:=hf)
  subst hf;have hb:bits .and .i64 ((x:Int)/2^l) 1=(x:Int)/2^l%2:=by
   have h1:x/2^l≤x:=Nat.div_le_self _ _;have:=Me (x/2^l) 1 (by omega) (by omega);rw[Nat.and_one_is_mod]at this;have e2:((x:Int)/2^l)=((x/2^l:Nat):Int):=(by simp);rw[e2];exact this
  by_cases hlt:l<lev x
  ·have e:((x:Int)/2^l%2==1)=true:=by
    have:=Zhx (lev_is hx) hlt;rw[beq_iff_eq];exact_mod_cast this
   go_wp2_with fail;refine wp_goto ⟨rfl,⟨l+1,by omega,rfl,_,_,_,_,_,_,_,_,_,_,_,_,_,rfl⟩,?_⟩;show 17-((l:Int)+1).toNat<17-(l:Int).toNat;omega
  ·obtain rfl:l=lev x:=(by omega);have e:((x:Int)/2^lev x%2==1)=false:=by
    have:=Yk (lev_is hx);rw[beq_eq_false_iff_ne];have h2:(x:Int)/2^lev x%2=0:=(by exact_mod_cast this);omega
   go_wp2_with fail;simp only[Exit.jump];go_ret;exact⟨rfl,rfl⟩
 ·intro pass;have HP:=Hd pass;clear pass;go_wp2_with fail;refine(HN.out _).mono ?_;rintro e w' ⟨rfl,rfl⟩;go_wp2_with fail;go_step3;simp only[Exit.then]
  apply_assumption
  refine HP.out _ _ ⟨0,by omega,rfl,_,_,_,_,_,_,_,_,_,_,_,_,_,rfl⟩
theorem Mf (x:Int)(w:World):
  Calls Tryz.prog 213 #[.int .i64 x] w fun e w'=>e=.returned (.int .i64 (Lh x))∧w=w':=by
 by_cases hx:0≤x∧x≤131070
 ·obtain⟨n,rfl⟩:∃n:Nat,x=(n:Int):=⟨x.toNat,by omega⟩;have e:Lh (n:Int)=(lev n:Nat):=by
   rw[Lh,if_pos (by rw[Bk,decide_eq_true];omega),Int.toNat_natCast]
  rw[e];exact Yl n (by omega) w
 ·have hn:Bk x=false:=(by rw[Bk,decide_eq_false];exact hx);have e:Lh x= -1:=(by rw[Lh,if_neg (by rw[hn];simp)]);have N:=Lm x;rw[hn]at N;rw[e];have HN:=Hd N;clear N hn hx e;go_enter Tryz.func213,Tryz.ntmps213;go_wp2_with fail;go_step3;go_wp2_with fail;refine(HN.out _).mono ?_;rintro e w' ⟨rfl,rfl⟩;go_wp2_with fail;simp only[Exit.noGoto];go_ret;exact⟨rfl,rfl⟩
theorem Zap (x:Int): -1≤Lh x∧Lh x≤16:=by
 unfold Lh
 split
 ·rename_i h
  have h':=of_decide_eq_true h;have:= @lev_le x.toNat (by omega);omega
 ·omega
theorem Ln {m:Nat}(h:m≤17):wrap64 (2^m)=((2^m:Nat):Int):=by
 have h1:=At h;have h2:=two_pow_pos m;have e:(2:Int)^m=((2^m:Nat):Int):=(by simp);rw[e];obtain⟨p,hp⟩:=eX (2^m);rw[←hp]at h1 h2⊢;unfold wrap64;omega
def Dm (x:Int):Int:=if 0<Lh x then 2^(Lh x-1).toNat else 0
theorem Wa (x:Int)(w:World):
  Calls Tryz.prog 173 #[.int .i64 x] w fun e w'=>e=.returned (.int .i64 (Dm x))∧w=w':=by
 have L:=Mf x;have hb:=Zap x;have e:Dm x=if 0<Lh x then 2^(Lh x-1).toNat else 0:=rfl;obtain⟨l,hl⟩:=eX (Lh x);rw[←hl]at L hb e;have HL:=Hd L;have HE:=Hd e;clear L e hl
 by_cases h0:0<l
 ·obtain⟨m,rfl⟩:∃m:Nat,l=(m:Int)+1:=⟨(l-1).toNat,by omega⟩;have e:Dm x=(2^m:Nat):=(by rw[HE.out,if_pos h0];simp);rw[e];clear e;go_enter Tryz.func173,Tryz.ntmps173;go_wp2_with fail;refine(HL.out _).mono ?_;rintro e w' ⟨rfl,rfl⟩;go_wp2_with fail;go_ret;exact⟨Zao (Ln (by omega)),rfl⟩
 ·have e:Dm x=0:=(by rw[HE.out,if_neg h0]);rw[e];clear e;go_enter Tryz.func173,Tryz.ntmps173;go_wp2_with fail;refine(HL.out _).mono ?_;rintro e w' ⟨rfl,rfl⟩;go_wp2_with fail;go_ret;exact⟨rfl,rfl⟩
theorem Wb (x:Int):0≤Dm x∧Dm x≤32768:=by
 unfold Dm
 split
 ·have h:=Zap x;obtain⟨m,hm⟩:=eX ((Lh x-1).toNat);rw[←hm];have h1:=At (show m≤15 by omega);have e:(2:Int)^m=((2^m:Nat):Int):=(by simp);rw[e];obtain⟨p,hp⟩:=eX (2^m);rw[←hp]at h1⊢;omega
 ·omega
theorem Rp {x:Int}(h:Dm x≠0):0≤x∧x≤131070:=by
 by_cases hx:Bk x=true
 ·exact of_decide_eq_true hx
 ·exfalso;apply h;rw[Dm,Lh,if_neg hx,if_neg (by omega)]
def Dk (x:Int):Int:=if Dm x=0 then-1 else x-Dm x
def Bz (x:Int):Int:=if Dm x=0 then-1 else x+Dm x
theorem Mg (x:Int)(w:World):
  Calls Tryz.prog 109 #[.int .i64 x] w fun e w'=>e=.returned (.int .i64 (Dk x))∧w=w':=by
 have H:=Wa x;have hb:=Wb x;have hp:= @Rp x;have e:Dk x=if Dm x=0 then-1 else x-Dm x:=rfl;obtain⟨l,hl⟩:=eX (Dm x);rw[←hl]at H hb e hp;have HL:=Hd H;have HE:=Hd e;clear H e hl
 by_cases h0:l=0
 ·subst h0;have e:Dk x= -1:=(by rw[HE.out,if_pos rfl]);rw[e];clear e hp hb;go_enter Tryz.func109,Tryz.ntmps109;go_wp2_with fail;refine(HL.out _).mono ?_;rintro e w' ⟨rfl,rfl⟩;go_wp2_with fail;go_ret;exact⟨rfl,rfl⟩
 ·have e:Dk x=x-l:=(by rw[HE.out,if_neg h0]);rw[e];have hx:=hp h0;have hc:(l==0)=false:=(by simp[h0]);clear e h0 hp;go_enter Tryz.func109,Tryz.ntmps109;go_wp2_with fail;refine(HL.out _).mono ?_;rintro e w' ⟨rfl,rfl⟩;go_wp2_with fail;go_ret;exact⟨rfl,rfl⟩
theorem Jx (x:Int)(w:World):
  Calls Tryz.prog 110 #[.int .i64 x] w fun e w'=>e=.returned (.int .i64 (Bz x))∧w=w':=by
 have H:=Wa x;have hb:=Wb x;have hp:= @Rp x;have e:Bz x=if Dm x=0 then-1 else x+Dm x:=rfl;obtain⟨l,hl⟩:=eX (Dm x);rw[←hl]at H hb e hp;have HL:=Hd H;have HE:=Hd e;clear H e hl
 by_cases h0:l=0
 ·subst h0;have e:Bz x= -1:=(by rw[HE.out,if_pos rfl]);rw[e];clear e hp hb;go_enter Tryz.func110,Tryz.ntmps110;go_wp2_with fail;refine(HL.out _).mono ?_;rintro e w' ⟨rfl,rfl⟩;go_wp2_with fail;go_ret;exact⟨rfl,rfl⟩
 ·have e:Bz x=x+l:=(by rw[HE.out,if_neg h0]);rw[e];have hx:=hp h0;have hc:(l==0)=false:=(by simp[h0]);clear e h0 hp;go_enter Tryz.func110,Tryz.ntmps110;go_wp2_with fail;refine(HL.out _).mono ?_;rintro e w' ⟨rfl,rfl⟩;go_wp2_with fail;go_ret;exact⟨rfl,rfl⟩
def Ps (n:Int):Int:=if fits n.toNat=true then n-1 else-1
theorem Wc (n:Int)(w:World)(h1: -9223372036854775808≤n)(h2:n≤9223372036854775807):
  Calls Tryz.prog 61 #[.int .i64 n] w fun e w'=>e=.returned (.int .i64 (Ps n))∧w=w':=by
 have F:=Jb n
 by_cases hf:fits n.toNat=true
 ·have hs:=Fj hf;have hn1:1≤n:=(by omega);have hn2:n≤65536:=(by omega);have e:Ps n=n-1:=(by rw[Ps,if_pos hf]);rw[e];rw[hf]at F;have HF:=Hd (F · h1 h2);clear F hf hs h1 h2 e;go_enter Tryz.func61,Tryz.ntmps61;go_wp2_with fail;refine(HF.out _).mono ?_;rintro e w' ⟨rfl,rfl⟩;go_wp2_with fail;go_ret;exact⟨rfl,rfl⟩
 ·have e:Ps n= -1:=(by rw[Ps,if_neg hf]);have hf':fits n.toNat=false:=(by rw[←bF];exact hf);rw[e];rw[hf']at F;have HF:=Hd (F · h1 h2);clear F hf hf' h1 h2 e;go_enter Tryz.func61,Tryz.ntmps61;go_wp2_with fail;refine(HF.out _).mono ?_;rintro e w' ⟨rfl,rfl⟩;go_wp2_with fail;go_ret;exact⟨rfl,rfl⟩
theorem Zaq (x j i:Nat):(anc x j).testBit i=if i<j+1 then decide (i<j)else x.testBit i:=by
 have hp:=pow_pos' j;unfold anc;rw[Nat.mul_comm,Nat.testBit_two_pow_mul_add _ (show 2^j-1<2^(j+1) by rw[aQ];omega)]
 split
 ·rw[Nat.testBit_two_pow_sub_one]
 ·rw[Nat.testBit_div_two_pow]
  congr 1;omega
theorem Zem {x l:Nat}(h:IsLev x l)(hl:l≤17)(hx:x<2^63):(x|||2^l)&&&(2^64-(2^(l+1)+1))=anc x (l+1):=by
 have h0:=anc_self h;apply Nat.eq_of_testBit_eq;intro i;have hb:2^(l+1)<2^64:=Nat.pow_lt_pow_right (by omega) (by omega);rw[Nat.testBit_and,Nat.testBit_or,bE,Nat.testBit_two_pow_sub_succ hb,bE,Zaq];have hi:=Zaq x l i;rw[h0]at hi
 by_cases h64:i<64
 ·by_cases h1:i<l
  ·rw[hi,if_pos (by omega),if_pos (by omega)];have e2:decide (l+1=i)=false:=(by simp;omega);have e3:decide (i<l+1)=true:=(by simp;omega);rw[e2,e3];simp[h1,h64]
  ·by_cases h2:i=l
   ·subst h2;rw[hi];simp;omega
   ·by_cases h3:i=l+1
    ·subst h3;simp
    ·rw[if_neg (by omega)];have e1:decide (l=i)=false:=(by simp;omega);have e2:decide (l+1=i)=false:=(by simp;omega);rw[e1,e2];simp[h64]
 ·have:x.testBit i=false:=Nat.testBit_lt_two_pow (Nat.lt_of_lt_of_le hx (aW (by omega) (by omega)));rw[if_neg (by omega),this];simp[h64]
theorem Oa (a b:Nat)(ha:a<9223372036854775808)(hb:b<9223372036854775808):bits .andNot .i64 (a:Int) (b:Int)=((a&&&(2^64-(b+1)):Nat):Int):=by
 have hx:a&&&(2^64-(b+1))≤a:=bC;show IntKind.i64.wrap ((BitVec.ofInt 64 (a:Int)&&& ~~~BitVec.ofInt 64 (b:Int)).toNat:Int)=_;rw[BitVec.toNat_and,BitVec.toNat_not,Ho a ha,Ho b hb,IntKind.wrap_i64,show 2^64-1-b=2^64-(b+1) by omega];omega
end Go.Proofs.YtfofaiommeckbaaGreat
