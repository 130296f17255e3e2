import Derived.Test.YtfofaiommeckbaaGreatZPn02
open Go.Ending renaming returned -> rK
open Go.Value renaming int -> rD
set_option linter.unusedVariables false
set_option maxRecDepth 100000
set_option maxHeartbeats 40000000
namespace Go.Proofs.YtfofaiommeckbaaGreat
open Go.RowKit WalkM
theorem Ti {m:Nat}(h:m<=17):IntKind.i64.wrap (2^m)=((2^m:Nat):Int):=by
 have h1:=Ar h;have h2:=two_pow_pos m;have e:(2:Int)^m=((2^m:Nat):Int):=(by simp);rw[e];obtain⟨p,hp⟩:=eX (2^m);rw[<-hp]at h1 h2|-;rw[IntKind.wrap_i64];omega
def Kx (x n:Int):Int:=if Kt x n=true/\x≠n-1 then((anc x.toNat (lev x.toNat+1):Nat):Int)else-1
theorem Zcj {x n:Int}(h:Kt x n=true):0<=x/\x<=2*n-2/\1<=n/\n<=65536:=by
 unfold Kt at h;rw[Bool.and_eq_true]at h;have h1:=Fq h.1;have h2:=oD h.2;omega
theorem Gj {x:Nat}(h:x<=131070):Mc (x:Int)=(lev x:Nat):=by
 rw[Mc,iP (by rw[Bi,dT];omega),Int.toNat_natCast]
theorem Po (x n:Int)(w:World)(h1: -9223372036854775808<=n)(h2:n<=9223372036854775807):
  Calls Tryz.prog 288 #[rD .i64 x,rD .i64 n] w fun e w'=>e=rK (rD .i64 (Kx x n))/\∃k,w'=w.drewN k:=by
 have F:=Zlr x n
 by_cases hf:Kt x n=true
 ·have B:=Zcj hf;rw[hf]at F;have c:=Hd (F · h1 h2);clear F h1 h2
  by_cases hr:x=n-1
  ·have e:Kx x n= -1:=(by rw[Kx,iN (by omega)]);rw[e];subst hr;clear e hf;go_in;go_wp2_with fail;refine(c.out _).mono ?_;rintro e w' ⟨rfl,rfl⟩;go_wp2_with fail;go_ret;exact⟨rfl,0,rfl⟩
  ·have e:Kx x n=((anc x.toNat (lev x.toNat+1):Nat):Int):=(by rw[Kx,iP ⟨hf,hr⟩]);rw[e];have A:(x==n-1)=false:=(by simp[hr]);clear e hf hr;obtain⟨m,rfl⟩:∃m:Nat,x=(m:Int):=⟨x.toNat,by omega⟩;rw[Int.toNat_natCast];have f:m<=131070:=(by omega);have L:=Nf (m:Int);rw[Gj f]at L;have s:=lev_le f;have g:=Zgl (lev_is f) (by omega) (by omega);obtain⟨l,b⟩:∃l,l=lev m:=⟨_,rfl⟩;rw[<-b]at L s g|-;have t:=Ar (show l<=16 by omega);have u:=Ar (show l+1<=17 by omega);have i:=Ml (show l<=17 by omega);have j:=Ml (show l+1<=17 by omega);have r:m|||2^l<2^17:=Nat.or_lt_two_pow (by omega) (by omega)
   have b1:=Zai m (2^l) (by omega) (by omega);have d:=Pb (m|||2^l) (2^(l+1)) (by omega) (by omega);rw[g]at d;have q:=Hd L;have y:=Hd i;have z:=Hd j;have o:=Hd b1;have p:=Hd d;clear b L i j b1 d r t u g;go_in;go_wp2_with fail;refine(c.out _).mono ?_;rintro e w' ⟨rfl,rfl⟩;go_wp2_with fail;refine(q.out _).mono ?_;rintro e w' ⟨rfl,rfl⟩;go_wp2_with fail;have v:IntKind.i64.wrap ((l:Int)+1)=(l:Int)+1:=by rw[IntKind.wrap_i64];omega
   go_quiet (fail)
   clear v;have e3:∀a b,IntKind.i64.wrap (2^l)=a->IntKind.i64.wrap (2^(l+1))=b->bits .andNot .i64 (bits .or .i64 (m:Int) a) b=((anc m (l+1):Nat):Int):=by
    rintro _ _ rfl rfl;rw[Ti (show l<=17 by omega),Ti (show l+1<=17 by omega),o.out,p.out]
   rw[e3];rotate_left
   ·first|with_reducible rfl|exact IntWalk.i64_left _
   ·first|with_reducible rfl|exact IntWalk.i64_left _
   clear e3;go_wp2_with fail;go_ret;exact⟨rfl,_,rfl⟩
 ·have e:Kx x n= -1:=(by rw[Kx,iN (by intro h;exact hf h.1)]);have a:Kt x n=false:=(by rw[<-Bool.not_eq_true];exact hf);rw[e];rw[a]at F;have c:=Hd (F · h1 h2);clear F hf a h1 h2 e;go_in;go_wp2_with fail;refine(c.out _).mono ?_;rintro e w' ⟨rfl,rfl⟩;go_wp2_with fail;go_ret;exact⟨rfl,0,rfl⟩
theorem Zj6 (x n:Int): -1<=Kx x n/\(0<=Kx x n->Kt x n=true/\x≠n-1):=by
 unfold Kx
 split
 ·rename_i h;exact⟨by omega,fun _=>h⟩
 ·exact⟨by omega,fun h=>absurd h (by omega)⟩
def Zjb (x n:Int):Int:=if Kx x n<0 then-1 else if x<Kx x n then Ca (Kx x n)else Do (Kx x n)
