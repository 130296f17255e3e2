import Derived.Test.YtfofaiommeckbaaGreatZSliceProves02
import Derived.Deep.QuietTactic
open Go.Value renaming int → rA
set_option linter.unusedVariables false
set_option maxRecDepth 100000
set_option maxHeartbeats 40000000
namespace Go.Proofs.YtfofaiommeckbaaGreat
open Go.RowKit WalkM
theorem Tz {m:Nat}(h:m≤17):IntKind.i64.wrap (2^m)=((2^m:Nat):Int):=by
 have h1:=Av h;have h2:=two_pow_pos m;have e:(2:Int)^m=((2^m:Nat):Int):=(by simp);rw[e];obtain⟨p,hp⟩:=eX (2^m);rw[←hp]at h1 h2⊢;rw[IntKind.wrap_i64];omega
def Lm (x n:Int):Int:=if Li x n=true∧x≠n-1 then((anc x.toNat (lev x.toNat+1):Nat):Int)else-1
theorem Zde {x n:Int}(h:Li x n=true):0≤x∧x≤2*n-2∧1≤n∧n≤65536:=by
 unfold Li at h;rw[Bool.and_eq_true]at h;have h1:=Gl h.1;have h2:=of_decide_eq_true h.2;omega
theorem Hp {x:Nat}(h:x≤131070):Mp (x:Int)=(lev x:Nat):=by
 rw[Mp,if_pos (by rw[Bj,decide_eq_true];omega),Int.toNat_natCast]
theorem Px (x n:Int)(w:World)(h1: -9223372036854775808≤n)(h2:n≤9223372036854775807):
  Calls Tryz.prog 288 #[rA .i64 x,rA .i64 n] w fun e w'=>e=.returned (rA .i64 (Lm x n))∧∃k,w'=w.drewN k:=by
 have F:=Zmd x n
 by_cases hf:Li x n=true
 ·have A:=Zde hf;rw[hf]at F;have c:=Hd (F · h1 h2);clear F h1 h2
  by_cases hr:x=n-1
  ·have e:Lm x n= -1:=(by rw[Lm,if_neg (by omega)]);rw[e];subst hr;clear e hf;go_enter Tryz.func288,Tryz.ntmps288;go_wp2_with fail;refine(c.out _).mono ?_;rintro e w' ⟨rfl,rfl⟩;go_wp2_with fail;go_ret;exact⟨rfl,0,rfl⟩
  ·have e:Lm x n=((anc x.toNat (lev x.toNat+1):Nat):Int):=(by rw[Lm,if_pos ⟨hf,hr⟩]);rw[e];have B:(x==n-1)=false:=(by simp[hr]);clear e hf hr;obtain⟨m,rfl⟩:∃m:Nat,x=(m:Int):=⟨x.toNat,by omega⟩;rw[Int.toNat_natCast];have d:m≤131070:=(by omega);have L:=Nt (m:Int);rw[Hp d]at L;have v:=lev_le d;have f:=Zg4 (lev_is d) (by omega) (by omega);obtain⟨l,b⟩:∃l,l=lev m:=⟨_,rfl⟩;rw[←b]at L v f⊢;have q:=Av (show l≤16 by omega);have s:=Av (show l+1≤17 by omega);have i:=Mw (show l≤17 by omega);have j:=Mw (show l+1≤17 by omega);have y:m|||2^l<2^17:=Nat.or_lt_two_pow (by omega) (by omega)
   have o:=Za2 m (2^l) (by omega) (by omega);have g:=Pf (m|||2^l) (2^(l+1)) (by omega) (by omega);rw[f]at g;have u:=Hd L;have C:=Hd i;have z:=Hd j;have t:=Hd o;have p:=Hd g;clear b L i j o g y q s f;go_enter Tryz.func288,Tryz.ntmps288;go_wp2_with fail;refine(c.out _).mono ?_;rintro e w' ⟨rfl,rfl⟩;go_wp2_with fail;refine(u.out _).mono ?_;rintro e w' ⟨rfl,rfl⟩;go_wp2_with fail;have r:IntKind.i64.wrap ((l:Int)+1)=(l:Int)+1:=by rw[IntKind.wrap_i64];omega
   go_quiet (fail)
   clear r;have e3:bits .andNot .i64 (bits .or .i64 (m:Int) (IntKind.i64.wrap (2^l))) (IntKind.i64.wrap (2^(l+1)))=((anc m (l+1):Nat):Int):=by
    rw[Tz (show l≤17 by omega),Tz (show l+1≤17 by omega),t.out,p.out]
   rw[e3];clear e3;go_wp2_with fail;go_ret;exact⟨rfl,_,rfl⟩
 ·have e:Lm x n= -1:=(by rw[Lm,if_neg (by intro h;exact hf h.1)]);have a:Li x n=false:=(by rw[←Bool.not_eq_true];exact hf);rw[e];rw[a]at F;have c:=Hd (F · h1 h2);clear F hf a h1 h2 e;go_enter Tryz.func288,Tryz.ntmps288;go_wp2_with fail;refine(c.out _).mono ?_;rintro e w' ⟨rfl,rfl⟩;go_wp2_with fail;go_ret;exact⟨rfl,0,rfl⟩
theorem Zkr (x n:Int): -1≤Lm x n∧(0≤Lm x n→Li x n=true∧x≠n-1):=by
 unfold Lm
 split
 ·rename_i h;exact⟨by omega,fun _=>h⟩
 ·exact⟨by omega,fun h=>absurd h (by omega)⟩
def Zj3 (x n:Int):Int:=if Lm x n<0 then-1 else if x<Lm x n then Ce (Lm x n)else Eb (Lm x n)
end Go.Proofs.YtfofaiommeckbaaGreat
