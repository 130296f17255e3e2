/- Walks: walk.Parent, walk.Sibling, walk.Under. -/
import Derived.Test.YtfofaiommeckbaaGreatZSliceSoundB
import Derived.Test.YtfofaiommeckbaaGreatZSliceSound02
import Derived.Deep.QuietTactic
set_option linter.unusedVariables false
set_option maxRecDepth 100000
set_option maxHeartbeats 40000000
namespace Go.Proofs.YtfofaiommeckbaaGreat
open Go.RowKit WalkM
theorem Sx {m:Nat}(h:m≤17):IntKind.i64.wrap (2^m)=((2^m:Nat):Int):=by
 have h1:=Ba h;have h2:=two_pow_pos m;have e:(2:Int)^m=((2^m:Nat):Int):=(by simp);rw[e];obtain⟨p,hp⟩:=eX (2^m);rw[←hp]at h1 h2⊢;rw[IntKind.wrap_i64];omega
def Zf9 (x n:Int):Int:=if Uy x n=true∧x≠n-1 then((anc x.toNat (lev x.toNat+1):Nat):Int)else-1
theorem Zj1 {x n:Int}(h:Uy x n=true):0≤x∧x≤2*n-2∧1≤n∧n≤65536:=by
 unfold Uy at h;rw[Bool.and_eq_true]at h;have h1:=Gg h.1;have h2:=of_decide_eq_true h.2;omega
theorem Ii {x:Nat}(h:x≤131070):Lp (x:Int)=(lev x:Nat):=by
 rw[Lp,if_pos (by rw[Bf,decide_eq_true];omega),Int.toNat_natCast]
theorem Oy (x n:Int)(w:World)(d: -9223372036854775808≤n)(h2:n≤9223372036854775807):
  Calls Tryz.prog 288 #[.int .i64 x,.int .i64 n] w fun e w'=>e=.returned (.int .i64 (Zf9 x n))∧∃k,w'=w.drewN k:=by
 have F:=Zlh x n
 by_cases hf:Uy x n=true
 ·have D:=Zj1 hf;rw[hf]at F;have c:=Hd (F · d h2);clear F d h2
  by_cases hr:x=n-1
  ·have e:Zf9 x n= -1:=(by rw[Zf9,if_neg (by omega)]);rw[e];subst hr;clear e hf;go_enter Tryz.func288,Tryz.ntmps288;go_wp2_with fail;refine(c.out _).mono ?_;rintro e w' ⟨rfl,rfl⟩;go_wp2_with fail;go_ret;exact⟨rfl,0,rfl⟩
  ·have e:Zf9 x n=((anc x.toNat (lev x.toNat+1):Nat):Int):=(by rw[Zf9,if_pos ⟨hf,hr⟩]);rw[e];have B:(x==n-1)=false:=(by simp[hr]);clear e hf hr;obtain⟨m,rfl⟩:∃m:Nat,x=(m:Int):=⟨x.toNat,by omega⟩;rw[Int.toNat_natCast];have f:m≤131070:=(by omega);have L:=Mn (m:Int);rw[Ii f]at L;have z:=lev_le f;have i:=Zgd (lev_is f) (by omega) (by omega);obtain⟨l,a⟩:∃l,l=lev m:=⟨_,rfl⟩;rw[←a]at L z i⊢;have t:=Ba (show l≤16 by omega);have y:=Ba (show l+1≤17 by omega);have j:=Lv (show l≤17 by omega);have o:=Lv (show l+1≤17 by omega);have u:m|||2^l<2^17:=Nat.or_lt_two_pow (by omega) (by omega)
   have p:=Zaf m (2^l) (by omega) (by omega);have g:=Oh (m|||2^l) (2^(l+1)) (by omega) (by omega);rw[i]at g;have r:=Hd L;have A:=Hd j;have C:=Hd o;have q:=Hd p;have s:=Hd g;clear a L j o p g u t y i;go_enter Tryz.func288,Tryz.ntmps288;go_wp2_with fail;refine(c.out _).mono ?_;rintro e w' ⟨rfl,rfl⟩;go_wp2_with fail;refine(r.out _).mono ?_;rintro e w' ⟨rfl,rfl⟩;go_wp2_with fail;have v:IntKind.i64.wrap ((l:Int)+1)=(l:Int)+1:=by rw[IntKind.wrap_i64];omega
   go_quiet (fail)
   clear v;have e3:bits .andNot .i64 (bits .or .i64 (m:Int) (IntKind.i64.wrap (2^l))) (IntKind.i64.wrap (2^(l+1)))=((anc m (l+1):Nat):Int):=by
    rw[Sx (show l≤17 by omega),Sx (show l+1≤17 by omega),q.out,s.out]
   rw[e3];clear e3;go_wp2_with fail;go_ret;exact⟨rfl,_,rfl⟩
 ·have e:Zf9 x n= -1:=(by rw[Zf9,if_neg (by intro h;exact hf h.1)]);have b:Uy x n=false:=(by rw[←Bool.not_eq_true];exact hf);rw[e];rw[b]at F;have c:=Hd (F · d h2);clear F hf b d h2 e;go_enter Tryz.func288,Tryz.ntmps288;go_wp2_with fail;refine(c.out _).mono ?_;rintro e w' ⟨rfl,rfl⟩;go_wp2_with fail;go_ret;exact⟨rfl,0,rfl⟩
end Go.Proofs.YtfofaiommeckbaaGreat
