/- Walks: walk.Parent, walk.Sibling, walk.Under. -/
import Derived.Test.YtfofaiommeckbaaGreatZSliceReadsB
import Derived.Test.YtfofaiommeckbaaGreatZSliceReads02
import Derived.Deep.QuietTactic
set_option linter.unusedVariables false
set_option maxRecDepth 100000
set_option maxHeartbeats 40000000
namespace Go.Proofs.YtfofaiommeckbaaGreat
open Go.RowKit WalkM
theorem Se {m:Nat}(h:m≤17):IntKind.i64.wrap (2^m)=((2^m:Nat):Int):=by
 have h1:=At h;have h2:=two_pow_pos m;have e:(2:Int)^m=((2^m:Nat):Int):=(by simp);rw[e];obtain⟨p,hp⟩:=eX (2^m);rw[←hp]at h1 h2⊢;rw[IntKind.wrap_i64];omega
def Kc (x n:Int):Int:=if Jw x n=true∧x≠n-1 then((anc x.toNat (lev x.toNat+1):Nat):Int)else-1
theorem Za2 {x n:Int}(h:Jw x n=true):0≤x∧x≤2*n-2∧1≤n∧n≤65536:=by
 unfold Jw at h;rw[Bool.and_eq_true]at h;have h1:=Fj h.1;have h2:=of_decide_eq_true h.2;omega
theorem Ge {x:Nat}(h:x≤131070):Lh (x:Int)=(lev x:Nat):=by
 rw[Lh,if_pos (by rw[Bk,decide_eq_true];omega),Int.toNat_natCast]
theorem Oo (x n:Int)(w:World)(h1: -9223372036854775808≤n)(h2:n≤9223372036854775807):
  Calls Tryz.prog 288 #[.int .i64 x,.int .i64 n] w fun e w'=>e=.returned (.int .i64 (Kc x n))∧∃k,w'=w.drewN k:=by
 have F:=Zjg x n
 by_cases hf:Jw x n=true
 ·have hs:=Za2 hf;rw[hf]at F;have HF:=Hd (F · h1 h2);clear F h1 h2
  by_cases hr:x=n-1
  ·have e:Kc x n= -1:=(by rw[Kc,if_neg (by omega)]);rw[e];subst hr;clear e hf;go_enter Tryz.func288,Tryz.ntmps288;go_wp2_with fail;refine(HF.out _).mono ?_;rintro e w' ⟨rfl,rfl⟩;go_wp2_with fail;go_ret;exact⟨rfl,0,rfl⟩
  ·have e:Kc x n=((anc x.toNat (lev x.toNat+1):Nat):Int):=(by rw[Kc,if_pos ⟨hf,hr⟩]);rw[e];have hc:(x==n-1)=false:=(by simp[hr]);clear e hf hr;obtain⟨m,rfl⟩:∃m:Nat,x=(m:Int):=⟨x.toNat,by omega⟩;rw[Int.toNat_natCast];have hm:m≤131070:=(by omega);have L:=Mf (m:Int);rw[Ge hm]at L;have hl:=lev_le hm;have hp:=Zem (lev_is hm) (by omega) (by omega);obtain⟨l,hl'⟩:∃l,l=lev m:=⟨_,rfl⟩;rw[←hl']at L hl hp⊢;have q1:=At (show l≤16 by omega);have q2:=At (show l+1≤17 by omega);have w1:=Ln (show l≤17 by omega);have w2:=Ln (show l+1≤17 by omega);have b0:m|||2^l<2^17:=Nat.or_lt_two_pow (by omega) (by omega)
   have b1:=Yj m (2^l) (by omega) (by omega);have b2:=Oa (m|||2^l) (2^(l+1)) (by omega) (by omega);rw[hp]at b2;have HL:=Hd L;have W1:=Hd w1;have W2:=Hd w2;have B1:=Hd b1;have B2:=Hd b2;clear hl' L w1 w2 b1 b2 b0 q1 q2 hp;go_enter Tryz.func288,Tryz.ntmps288;go_wp2_with fail;refine(HF.out _).mono ?_;rintro e w' ⟨rfl,rfl⟩;go_wp2_with fail;refine(HL.out _).mono ?_;rintro e w' ⟨rfl,rfl⟩;go_wp2_with fail;have w3:IntKind.i64.wrap ((l:Int)+1)=(l:Int)+1:=by rw[IntKind.wrap_i64];omega
   go_quiet (fail)
   clear w3;have e3:bits .andNot .i64 (bits .or .i64 (m:Int) (IntKind.i64.wrap (2^l))) (IntKind.i64.wrap (2^(l+1)))=((anc m (l+1):Nat):Int):=by
    rw[Se (show l≤17 by omega),Se (show l+1≤17 by omega),B1.out,B2.out]
   rw[e3];clear e3;go_wp2_with fail;go_ret;exact⟨rfl,_,rfl⟩
 ·have e:Kc x n= -1:=(by rw[Kc,if_neg (by intro h;exact hf h.1)]);have hf':Jw x n=false:=(by rw[←Bool.not_eq_true];exact hf);rw[e];rw[hf']at F;have HF:=Hd (F · h1 h2);clear F hf hf' h1 h2 e;go_enter Tryz.func288,Tryz.ntmps288;go_wp2_with fail;refine(HF.out _).mono ?_;rintro e w' ⟨rfl,rfl⟩;go_wp2_with fail;go_ret;exact⟨rfl,0,rfl⟩
theorem Zh3 (x n:Int): -1≤Kc x n∧(0≤Kc x n→Jw x n=true∧x≠n-1):=by
 unfold Kc
 split
 ·rename_i h;exact⟨by omega,fun _=>h⟩
 ·exact⟨by omega,fun h=>absurd h (by omega)⟩
def Zhb (x n:Int):Int:=if Kc x n<0 then-1 else if x<Kc x n then Bz (Kc x n)else Dk (Kc x n)
end Go.Proofs.YtfofaiommeckbaaGreat
