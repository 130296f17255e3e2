/- Small laws on bits: operations on numbers that are casts of naturals. -/
import Derived.Test.YtfofaiommeckbaaGreatZPatchMakesB
import Derived.WalkKit
import Derived.Laws.BitsAllLaws
import Derived.WalkMore
import Derived.ScopeJumps
import Derived.Test.YtfofaiommeckbaaGreatProg
import Derived.Test.YtfofaiommeckbaaGreatZPatchMakes01
import Derived.WalkSpells
import Derived.WalkLawsBesides
import Derived.Lib.Hide
open Nat renaming pow_le_pow_right → aY, mod_mul_right_div_self → bI, pow_succ → aN, div_eq_of_lt → aV
set_option linter.unusedVariables false
set_option maxRecDepth 100000
set_option maxHeartbeats 40000000
namespace Go.Proofs.YtfofaiommeckbaaGreat
open Go.RowKit
theorem Zef {k:IntKind} {a b:Int}(h:a=b):Ending.returned (.int k a)=.returned (.int k b):=by rw[h]
theorem Ad {a b:Bool}(h:a=b):Ending.returned (.bool a)=.returned (.bool b):=by rw[h]
theorem Gm {k:IntKind} {a b:Int}(h:a=b):Value.int k a=.int k b:=by rw[h]
theorem Uc (a:Nat)(ha:a<9223372036854775808):(BitVec.ofInt 64 (a:Int)).toNat=a:=by
 rw[BitVec.ofInt_natCast,BitVec.toNat_ofNat];exact Nat.mod_eq_of_lt (by omega)
theorem La (a b:Nat)(ha:a<9223372036854775808)(hb:b<9223372036854775808):bits .and .i64 (a:Int) (b:Int)=((a&&&b:Nat):Int):=by
 have hx:a&&&b<2^63:=Nat.and_lt_two_pow _ (by omega);show IntKind.i64.wrap ((BitVec.ofInt 64 (a:Int)&&&BitVec.ofInt 64 (b:Int)).toNat:Int)=_;rw[BitVec.toNat_and,Uc a ha,Uc b hb,IntKind.wrap_i64];omega
theorem Bb {k n:Nat}(h:k≤n):2^k≤2^n:=aY (by omega) h
theorem two_pow_pos (k:Nat):1≤2^k:=Nat.one_le_two_pow
theorem Lb {P:Program} {a:Act} {w:World} {Q:Exit→Act→World→Prop} {c rest:Code} (l:Nat) (J:Act→World→Prop) (μ:Act→World→Nat) (hf:findLabel c l=some (Code.skip.seq rest))
  (pass:∀a w,J a w→rest.wp P (Exit.jump l (fun a' w'=>J a' w'∧μ a' w'< μ a w) Q) a w)
  (first:(∀a w,J a w→rest.wp P (Exit.jump l J Q) a w)→c.wp P (Exit.jump l J Q) a w):(Code.scope c).wp P Q a w:=by
 refine wp_scope_jumps l J μ hf (first ?_) (fun a w h=>wp_seq (wp_skip (pass a w h)));intro a w h;refine Code.wp_mono ?_ (pass a w h);intro e a' w' he;cases e with
 |goto l'=>exact⟨he.1,he.2.1⟩
 |_=>exact he
open WalkM
theorem Ig (n m:Nat):n&&&m≤n:=Nat.and_le_left
theorem Zbu (n:Nat)(hn:n≤65536)(w:World):
  Calls Tryz.prog 174 #[.int .u64 n] w fun e w'=>e=.returned (.int .i64 (popc n:Nat))∧w=w':=by
 have b1:=Ig (n/2) 6148914691236517205;have b1':=Ig n 6148914691236517205;have e1:=u64_and_nat (n/2) 6148914691236517205 (by omega) (by omega);have e1':=u64_and_nat n 6148914691236517205 (by omega) (by omega);have d1:pop1 n=((n/2)&&&6148914691236517205)+(n&&&6148914691236517205):=rfl;obtain⟨p1,hp1⟩:=eX ((n/2)&&&6148914691236517205);obtain⟨q1,hq1⟩:=eX (n&&&6148914691236517205);rw[←hp1]at b1 e1 d1;rw[←hq1]at b1' e1' d1;have b2:=Ig ((p1+q1)/4) 3689348814741910323;have b2':=Ig (p1+q1) 3689348814741910323;have e2:=u64_and_nat ((p1+q1)/4) 3689348814741910323 (by omega) (by omega);have e2':=u64_and_nat (p1+q1) 3689348814741910323 (by omega) (by omega);have d2:pop2 (p1+q1)=(((p1+q1)/4)&&&3689348814741910323)+((p1+q1)&&&3689348814741910323):=rfl;obtain⟨p2,hp2⟩:=eX (((p1+q1)/4)&&&3689348814741910323);obtain⟨q2,hq2⟩:=eX ((p1+q1)&&&3689348814741910323);rw[←hp2]at b2 e2 d2;rw[←hq2]at b2' e2' d2;have b3:=Ig ((p2+q2)/16+(p2+q2)) 1085102592571150095;have e3:=u64_and_nat ((p2+q2)/16+(p2+q2)) 1085102592571150095 (by omega) (by omega);have d3:pop3 (p2+q2)=((p2+q2)/16+(p2+q2))&&&1085102592571150095:=rfl;obtain⟨p3,hp3⟩:=eX (((p2+q2)/16+(p2+q2))&&&1085102592571150095);rw[←hp3]at b3 e3 d3;have e4:=La (p3+p3/256+(p3+p3/256)/65536+(p3+p3/256+(p3+p3/256)/65536)/4294967296) 127 (by omega) (by omega);have d4:popc n=(p3+p3/256+(p3+p3/256)/65536+(p3+p3/256+(p3+p3/256)/65536)/4294967296)&&&127:=by
  rw[popc,d1,d2,d3];rfl
 rw[←d4]at e4;simp only[Int.natCast_add,Int.natCast_ediv,Int.cast_ofNat_Int]at e1 e1' e2 e2' e3 e4;have D:=Hd d4;clear d1 d2 d3 d4 hp1 hq1 hp2 hq2 hp3;go_enter Tryz.func174,Tryz.ntmps174;go_wp2;go_ret;exact⟨rfl,rfl⟩
theorem Gz {n:Nat}(h:fits n=true):1≤n∧n≤65536:=by
 obtain⟨d,hd,rfl⟩:=(fits_iff n).1 h;have h1:=pow_pos' d;have h2:2^d≤2^16:=aY (by omega) hd;omega
theorem Ud (n:Int)(w:World)(h1: -9223372036854775808≤n)(h2:n≤9223372036854775807):
  Calls Tryz.prog 113 #[.int .i64 n] w fun e w'=>e=.returned (.bool (fits n.toNat))∧w=w':=by
 by_cases hr:1≤n∧n≤65536
 ·obtain⟨m,rfl⟩:∃m:Nat,n=(m:Int):=⟨n.toNat,by omega⟩;have hm:m≤65536:=(by omega);have O:=Zbu m hm;have hp:=popc_fits m hm;have e:(((popc m:Nat):Int)==1)=fits m:=by
   rw[←hp,Bool.eq_iff_iff];simp only[beq_iff_eq];omega
  obtain⟨c,hc⟩:=eX (popc m);obtain⟨f,hf⟩:=eX (fits m);rw[←hc]at O e;rw[←hf]at e;rw[Int.toNat_natCast,←hf];have HO:=Hd O;clear O hp hc hf h1 h2;go_enter Tryz.func113,Tryz.ntmps113;go_wp2_with fail;refine(HO.out _).mono ?_;rintro e w' ⟨rfl,rfl⟩;go_wp2_with fail;go_ret;exact⟨rfl,rfl⟩
 ·have hz:fits n.toNat=false:=by
   rw[←Bool.not_eq_true];intro h;have:=Gz h;omega
  rw[hz];have hd:n<1∨(1≤n∧65536<n):=(by omega);clear hz hr;rcases hd with h|⟨h,h'⟩
  all_goals
   go_enter Tryz.func113,Tryz.ntmps113;go_wp2_with fail;go_ret;exact⟨rfl,rfl⟩
def Az (x:Int):Bool:=decide (0≤x∧x≤131070)
theorem Kk (x:Int)(w:World):
  Calls Tryz.prog 229 #[.int .i64 x] w fun e w'=>e=.returned (.bool (Az x))∧w=w':=by
 have hd:x<0∨(0≤x∧131070<x)∨(0≤x∧x≤131070):=(by omega);rcases hd with h|⟨h,h'⟩|⟨h,h'⟩
 ·have e:Az x=false:=(by rw[Az,decide_eq_false];omega);rw[e];clear e;go_enter Tryz.func229,Tryz.ntmps229;go_wp2_with fail;go_ret;exact⟨rfl,rfl⟩
 ·have e:Az x=false:=(by rw[Az,decide_eq_false];omega);rw[e];clear e;go_enter Tryz.func229,Tryz.ntmps229;go_wp2_with fail;go_ret;exact⟨Ad (decide_eq_false (by omega)),rfl⟩
 ·have e:Az x=true:=(by rw[Az,decide_eq_true];omega);rw[e];clear e;go_enter Tryz.func229,Tryz.ntmps229;go_wp2_with fail;go_ret;exact⟨rfl,rfl⟩
def Lc (x n:Int):Bool:=fits n.toNat&&decide (0≤x∧x≤2*n-2)
def Kg (x:Int):Int:=if Az x=true then((lev x.toNat:Nat):Int)else-1
theorem Zeg {x l L:Nat}(h:IsLev x L)(hl:l<L):x/2^l%2=1:=by
 have e:=bI x (2^l) 2;rw[←aN]at e;rw[←e,←Nat.mod_mod_of_dvd x (Nat.pow_dvd_pow 2 (show l+1≤L+1 by omega)),h,ones_mod (show l+1≤L by omega),aN];have hp:=pow_pos' l;rw[show 2^l*2-1=2^l-1+2^l by omega,Nat.add_div_right _ hp,aV (by omega)]
theorem Wg {x L:Nat}(h:IsLev x L):x/2^L%2=0:=by
 have e:=bI x (2^L) 2;rw[←aN]at e;have hp:=pow_pos' L;rw[←e,h];exact aV (by omega)
def Zg8 (x:Nat)(w:World)(a':Act)(w':World):Prop:=
 ∃l:Nat,l≤lev x∧w=w'∧∃(x1 x2 x4 x5 x6 x7 x8 x9 x10 x11 x12 x13 x14:Value),a'= {tmps:=#[.int .i64 (x:Nat),x1,x2,.int .i64 (l:Nat),x4,x5,x6,x7,x8,x9,x10,x11,x12,x13,x14],defers:=[]}
theorem Wh (x:Nat)(hx:x≤131070)(w:World):
  Calls Tryz.prog 213 #[.int .i64 (x:Nat)] w fun e w'=>e=.returned (.int .i64 (lev x:Nat))∧w=w':=by
 have N:=Kk x;have hn:Az (x:Int)=true:=(by rw[Az,decide_eq_true];omega);rw[hn]at N;have HN:=Hd N;clear N hn;have hl16:=lev_le hx;go_enter Tryz.func213,Tryz.ntmps213;go_wp2_with fail;refine Lb 0 (Zg8 x w) (fun ac _=>17-(intOf (ac.tmps.getD 3 undef)).toNat) rfl ?_ ?_
 ·rintro ac wx ⟨l,hl,rfl,hf⟩
  iterate 13 (obtain⟨_,hf⟩:=hf)
  subst hf;have hb:bits .and .i64 ((x:Int)/2^l) 1=(x:Int)/2^l%2:=by
   have h1:x/2^l≤x:=Nat.div_le_self _ _;have:=La (x/2^l) 1 (by omega) (by omega);rw[Nat.and_one_is_mod]at this;have e2:((x:Int)/2^l)=((x/2^l:Nat):Int):=(by simp);rw[e2];exact this
  by_cases hlt:l<lev x
  ·have e:((x:Int)/2^l%2==1)=true:=by
    have:=Zeg (lev_is hx) hlt;rw[beq_iff_eq];exact_mod_cast this
   go_wp2_with fail;refine wp_goto ⟨rfl,⟨l+1,by omega,rfl,_,_,_,_,_,_,_,_,_,_,_,_,_,rfl⟩,?_⟩;show 17-((l:Int)+1).toNat<17-(l:Int).toNat;omega
  ·obtain rfl:l=lev x:=(by omega);have e:((x:Int)/2^lev x%2==1)=false:=by
    have:=Wg (lev_is hx);rw[beq_eq_false_iff_ne];have h2:(x:Int)/2^lev x%2=0:=(by exact_mod_cast this);omega
   go_wp2_with fail;simp only[Exit.jump];go_ret;exact⟨rfl,rfl⟩
 ·intro pass;have HP:=Hd pass;clear pass;go_wp2_with fail;refine(HN.out _).mono ?_;rintro e w' ⟨rfl,rfl⟩;go_wp2_with fail;go_step3;simp only[Exit.then]
  apply_assumption
  refine HP.out _ _ ⟨0,by omega,rfl,_,_,_,_,_,_,_,_,_,_,_,_,_,rfl⟩
theorem Px (x:Int)(w:World):
  Calls Tryz.prog 213 #[.int .i64 x] w fun e w'=>e=.returned (.int .i64 (Kg x))∧w=w':=by
 by_cases hx:0≤x∧x≤131070
 ·obtain⟨n,rfl⟩:∃n:Nat,x=(n:Int):=⟨x.toNat,by omega⟩;have e:Kg (n:Int)=(lev n:Nat):=by
   rw[Kg,if_pos (by rw[Az,decide_eq_true];omega),Int.toNat_natCast]
  rw[e];exact Wh n (by omega) w
 ·have hn:Az x=false:=(by rw[Az,decide_eq_false];exact hx);have e:Kg x= -1:=(by rw[Kg,if_neg (by rw[hn];simp)]);have N:=Kk x;rw[hn]at N;rw[e];have HN:=Hd N;clear N hn hx e;go_enter Tryz.func213,Tryz.ntmps213;go_wp2_with fail;go_step3;go_wp2_with fail;refine(HN.out _).mono ?_;rintro e w' ⟨rfl,rfl⟩;go_wp2_with fail;simp only[Exit.noGoto];go_ret;exact⟨rfl,rfl⟩
theorem Xz (x:Int): -1≤Kg x∧Kg x≤16:=by
 unfold Kg
 split
 ·rename_i h
  have h':=of_decide_eq_true h;have:= @lev_le x.toNat (by omega);omega
 ·omega
theorem Ue {m:Nat}(h:m≤17):wrap64 (2^m)=((2^m:Nat):Int):=by
 have h1:=Bb h;have h2:=two_pow_pos m;have e:(2:Int)^m=((2^m:Nat):Int):=(by simp);rw[e];obtain⟨p,hp⟩:=eX (2^m);rw[←hp]at h1 h2⊢;unfold wrap64;omega
def Dr (x:Int):Int:=if 0<Kg x then 2^(Kg x-1).toNat else 0
theorem Uf (x:Int)(w:World):
  Calls Tryz.prog 173 #[.int .i64 x] w fun e w'=>e=.returned (.int .i64 (Dr x))∧w=w':=by
 have L:=Px x;have hb:=Xz x;have e:Dr x=if 0<Kg x then 2^(Kg x-1).toNat else 0:=rfl;obtain⟨l,hl⟩:=eX (Kg x);rw[←hl]at L hb e;have HL:=Hd L;have HE:=Hd e;clear L e hl
 by_cases h0:0<l
 ·obtain⟨m,rfl⟩:∃m:Nat,l=(m:Int)+1:=⟨(l-1).toNat,by omega⟩;have e:Dr x=(2^m:Nat):=(by rw[HE.out,if_pos h0];simp);rw[e];clear e;go_enter Tryz.func173,Tryz.ntmps173;go_wp2_with fail;refine(HL.out _).mono ?_;rintro e w' ⟨rfl,rfl⟩;go_wp2_with fail;go_ret;exact⟨Zef (Ue (by omega)),rfl⟩
 ·have e:Dr x=0:=(by rw[HE.out,if_neg h0]);rw[e];clear e;go_enter Tryz.func173,Tryz.ntmps173;go_wp2_with fail;refine(HL.out _).mono ?_;rintro e w' ⟨rfl,rfl⟩;go_wp2_with fail;go_ret;exact⟨rfl,rfl⟩
theorem Ug (x:Int):0≤Dr x∧Dr x≤32768:=by
 unfold Dr
 split
 ·have h:=Xz x;obtain⟨m,hm⟩:=eX ((Kg x-1).toNat);rw[←hm];have h1:=Bb (show m≤15 by omega);have e:(2:Int)^m=((2^m:Nat):Int):=(by simp);rw[e];obtain⟨p,hp⟩:=eX (2^m);rw[←hp]at h1⊢;omega
 ·omega
theorem Py {x:Int}(h:Dr x≠0):0≤x∧x≤131070:=by
 by_cases hx:Az x=true
 ·exact of_decide_eq_true hx
 ·exfalso;apply h;rw[Dr,Kg,if_neg hx,if_neg (by omega)]
def Do (x:Int):Int:=if Dr x=0 then-1 else x-Dr x
def Br (x:Int):Int:=if Dr x=0 then-1 else x+Dr x
theorem Pz (x:Int)(w:World):
  Calls Tryz.prog 109 #[.int .i64 x] w fun e w'=>e=.returned (.int .i64 (Do x))∧w=w':=by
 have H:=Uf x;have hb:=Ug x;have hp:= @Py x;have e:Do x=if Dr x=0 then-1 else x-Dr x:=rfl;obtain⟨l,hl⟩:=eX (Dr x);rw[←hl]at H hb e hp;have HL:=Hd H;have HE:=Hd e;clear H e hl
 by_cases h0:l=0
 ·subst h0;have e:Do x= -1:=(by rw[HE.out,if_pos rfl]);rw[e];clear e hp hb;go_enter Tryz.func109,Tryz.ntmps109;go_wp2_with fail;refine(HL.out _).mono ?_;rintro e w' ⟨rfl,rfl⟩;go_wp2_with fail;go_ret;exact⟨rfl,rfl⟩
 ·have e:Do x=x-l:=(by rw[HE.out,if_neg h0]);rw[e];have hx:=hp h0;have hc:(l==0)=false:=(by simp[h0]);clear e h0 hp;go_enter Tryz.func109,Tryz.ntmps109;go_wp2_with fail;refine(HL.out _).mono ?_;rintro e w' ⟨rfl,rfl⟩;go_wp2_with fail;go_ret;exact⟨rfl,rfl⟩
theorem Ne (x:Int)(w:World):
  Calls Tryz.prog 110 #[.int .i64 x] w fun e w'=>e=.returned (.int .i64 (Br x))∧w=w':=by
 have H:=Uf x;have hb:=Ug x;have hp:= @Py x;have e:Br x=if Dr x=0 then-1 else x+Dr x:=rfl;obtain⟨l,hl⟩:=eX (Dr x);rw[←hl]at H hb e hp;have HL:=Hd H;have HE:=Hd e;clear H e hl
 by_cases h0:l=0
 ·subst h0;have e:Br x= -1:=(by rw[HE.out,if_pos rfl]);rw[e];clear e hp hb;go_enter Tryz.func110,Tryz.ntmps110;go_wp2_with fail;refine(HL.out _).mono ?_;rintro e w' ⟨rfl,rfl⟩;go_wp2_with fail;go_ret;exact⟨rfl,rfl⟩
 ·have e:Br x=x+l:=(by rw[HE.out,if_neg h0]);rw[e];have hx:=hp h0;have hc:(l==0)=false:=(by simp[h0]);clear e h0 hp;go_enter Tryz.func110,Tryz.ntmps110;go_wp2_with fail;refine(HL.out _).mono ?_;rintro e w' ⟨rfl,rfl⟩;go_wp2_with fail;go_ret;exact⟨rfl,rfl⟩
def Oh (n:Int):Int:=if fits n.toNat=true then n-1 else-1
theorem Uh (n:Int)(w:World)(h1: -9223372036854775808≤n)(h2:n≤9223372036854775807):
  Calls Tryz.prog 61 #[.int .i64 n] w fun e w'=>e=.returned (.int .i64 (Oh n))∧w=w':=by
 have F:=Ud n
 by_cases hf:fits n.toNat=true
 ·have hs:=Gz hf;have hn1:1≤n:=(by omega);have hn2:n≤65536:=(by omega);have e:Oh n=n-1:=(by rw[Oh,if_pos hf]);rw[e];rw[hf]at F;have HF:=Hd (F · h1 h2);clear F hf hs h1 h2 e;go_enter Tryz.func61,Tryz.ntmps61;go_wp2_with fail;refine(HF.out _).mono ?_;rintro e w' ⟨rfl,rfl⟩;go_wp2_with fail;go_ret;exact⟨rfl,rfl⟩
 ·have e:Oh n= -1:=(by rw[Oh,if_neg hf]);have hf':fits n.toNat=false:=(by rw[←Bool.not_eq_true];exact hf);rw[e];rw[hf']at F;have HF:=Hd (F · h1 h2);clear F hf hf' h1 h2 e;go_enter Tryz.func61,Tryz.ntmps61;go_wp2_with fail;refine(HF.out _).mono ?_;rintro e w' ⟨rfl,rfl⟩;go_wp2_with fail;go_ret;exact⟨rfl,rfl⟩
end Go.Proofs.YtfofaiommeckbaaGreat
