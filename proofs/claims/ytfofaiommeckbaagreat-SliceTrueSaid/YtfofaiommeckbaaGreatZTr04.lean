import Derived.Test.YtfofaiommeckbaaGreatZTr01
open Go.Ending renaming returned -> rM
open Go.Value renaming int -> rE
set_option linter.unusedVariables false
set_option maxRecDepth 100000
set_option maxHeartbeats 40000000
namespace Go.Proofs.YtfofaiommeckbaaGreat
open Go.RowKit WalkM
theorem Td {m:Nat}(h:m<=17):IntKind.i64.wrap (2^m)=((2^m:Nat):Int):=by
 have h1:=Ar h;have h2:=two_pow_pos m;have e:(2:Int)^m=((2^m:Nat):Int):=(by simp);rw[e];obtain⟨p,hp⟩:=eX (2^m);rw[<-hp]at h1 h2|-;rw[IntKind.wrap_i64];omega
def Kt (x n:Int):Int:=if Kp x n=true/\x≠n-1 then((anc x.toNat (lev x.toNat+1):Nat):Int)else-1
theorem Zdb {x n:Int}(h:Kp x n=true):0<=x/\x<=2*n-2/\1<=n/\n<=65536:=by
 unfold Kp at h;rw[Bool.and_eq_true]at h;have h1:=Ga h.1;have h2:=oD h.2;omega
theorem Gz {x:Nat}(h:x<=131070):Kq (x:Int)=(lev x:Nat):=by
 rw[Kq,iP (by rw[Bd,dT];omega),Int.toNat_natCast]
theorem Ph (x n:Int)(w:World)(g: -9223372036854775808<=n)(h2:n<=9223372036854775807):
  Calls Tryz.prog 288 #[rE .i64 x,rE .i64 n] w fun e w'=>e=rM (rE .i64 (Kt x n))/\∃k,w'=w.drewN k:=by
 have F:=Zmg x n
 by_cases hf:Kp x n=true
 ·have G:=Zdb hf;rw[hf]at F;have f:=Hd (F · g h2);clear F g h2
  by_cases hr:x=n-1
  ·have e:Kt x n= -1:=(by rw[Kt,iN (by omega)]);rw[e];subst hr;clear e hf;go_in;go_wp2_with fail;refine(f.out _).mono ?_;rintro e w' ⟨rfl,rfl⟩;go_wp2_with fail;go_ret;exact⟨rfl,0,rfl⟩
  ·have e:Kt x n=((anc x.toNat (lev x.toNat+1):Nat):Int):=(by rw[Kt,iP ⟨hf,hr⟩]);rw[e];have E:(x==n-1)=false:=(by simp[hr]);clear e hf hr;obtain⟨m,rfl⟩:∃m:Nat,x=(m:Int):=⟨x.toNat,by omega⟩;rw[Int.toNat_natCast];have j:m<=131070:=(by omega);have L:=Nd (m:Int);rw[Gz j]at L;have y:=lev_le j;have o:=Zhb (lev_is j) (by omega) (by omega);obtain⟨l,d⟩:∃l,l=lev m:=⟨_,rfl⟩;rw[<-d]at L y o|-;have z:=Ar (show l<=16 by omega);have A:=Ar (show l+1<=17 by omega);have q:=Md (show l<=17 by omega);have r:=Md (show l+1<=17 by omega);have v:m|||2^l<2^17:=Nat.or_lt_two_pow (by omega) (by omega)
   have p:=Za0 m (2^l) (by omega) (by omega);have i:=Op (m|||2^l) (2^(l+1)) (by omega) (by omega);rw[o]at i;have u:=Hd L;have C:=Hd q;have D:=Hd r;have s:=Hd p;have t:=Hd i;clear d L q r p i v z A o;go_in;go_wp2_with fail;refine(f.out _).mono ?_;rintro e w' ⟨rfl,rfl⟩;go_wp2_with fail;refine(u.out _).mono ?_;rintro e w' ⟨rfl,rfl⟩;go_wp2_with fail;have B:IntKind.i64.wrap ((l:Int)+1)=(l:Int)+1:=by rw[IntKind.wrap_i64];omega
   go_quiet (fail)
   clear B;have e3:∀a b,IntKind.i64.wrap (2^l)=a->IntKind.i64.wrap (2^(l+1))=b->bits .andNot .i64 (bits .or .i64 (m:Int) a) b=((anc m (l+1):Nat):Int):=by
    rintro _ _ rfl rfl;rw[Td (show l<=17 by omega),Td (show l+1<=17 by omega),s.out,t.out]
   rw[e3]
   rotate_left
   ·first|with_reducible rfl|exact IntWalk.i64_left _
   ·first|with_reducible rfl|exact IntWalk.i64_left _
   clear e3;go_wp2_with fail;go_ret;exact⟨rfl,_,rfl⟩
 ·have e:Kt x n= -1:=(by rw[Kt,iN (by intro h;exact hf h.1)]);have c:Kp x n=false:=(by rw[<-Bool.not_eq_true];exact hf);rw[e];rw[c]at F;have f:=Hd (F · g h2);clear F hf c g h2 e;go_in;go_wp2_with fail;refine(f.out _).mono ?_;rintro e w' ⟨rfl,rfl⟩;go_wp2_with fail;go_ret;exact⟨rfl,0,rfl⟩
theorem Zkt (x n:Int): -1<=Kt x n/\(0<=Kt x n->Kp x n=true/\x≠n-1):=by
 unfold Kt
 split
 ·rename_i h;exact⟨by omega,fun _=>h⟩
 ·exact⟨by omega,fun h=>absurd h (by omega)⟩
def Zku (x n:Int):Int:=if Kt x n<0 then-1 else if x<Kt x n then Cq (Kt x n)else Em (Kt x n)
