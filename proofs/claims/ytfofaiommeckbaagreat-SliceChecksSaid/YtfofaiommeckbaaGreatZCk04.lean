import Derived.Test.YtfofaiommeckbaaGreatZCk02
open Go.Ending renaming returned -> rK
open Go.Value renaming int -> rD
set_option linter.unusedVariables false
set_option maxRecDepth 100000
set_option maxHeartbeats 40000000
namespace Go.Proofs.YtfofaiommeckbaaGreat
open Go.RowKit WalkM
theorem Tj {m:Nat}(h:m<=17):IntKind.i64.wrap (2^m)=((2^m:Nat):Int):=by
 have h1:=As h;have h2:=two_pow_pos m;have e:(2:Int)^m=((2^m:Nat):Int):=(by simp);rw[e];obtain⟨p,hp⟩:=eX (2^m);rw[<-hp]at h1 h2|-;rw[IntKind.wrap_i64];omega
def La (x n:Int):Int:=if Kw x n=true/\x≠n-1 then((anc x.toNat (lev x.toNat+1):Nat):Int)else-1
theorem Zcn {x n:Int}(h:Kw x n=true):0<=x/\x<=2*n-2/\1<=n/\n<=65536:=by
 unfold Kw at h;rw[Bool.and_eq_true]at h;have h1:=Fs h.1;have h2:=oD h.2;omega
theorem Gn {x:Nat}(h:x<=131070):Mh (x:Int)=(lev x:Nat):=by
 rw[Mh,iP (by rw[Bk,dT];omega),Int.toNat_natCast]
theorem Pr (x n:Int)(w:World)(h1: -9223372036854775808<=n)(h2:n<=9223372036854775807):
  Calls Tryz.prog 288 #[rD .i64 x,rD .i64 n] w fun e w'=>e=rK (rD .i64 (La x n))/\∃k,w'=w.drewN k:=by
 have F:=Zlu x n
 by_cases hf:Kw x n=true
 ·have D:=Zcn hf;rw[hf]at F;have f:=Hd (F · h1 h2);clear F h1 h2
  by_cases hr:x=n-1
  ·have e:La x n= -1:=(by rw[La,iN (by omega)]);rw[e];subst hr;clear e hf;go_in;go_wp2_with fail;refine(f.out _).mono ?_;rintro e w' ⟨rfl,rfl⟩;go_wp2_with fail;go_ret;exact⟨rfl,0,rfl⟩
  ·have e:La x n=((anc x.toNat (lev x.toNat+1):Nat):Int):=(by rw[La,iP ⟨hf,hr⟩]);rw[e];have C:(x==n-1)=false:=(by simp[hr]);clear e hf hr;obtain⟨m,rfl⟩:∃m:Nat,x=(m:Int):=⟨x.toNat,by omega⟩;rw[Int.toNat_natCast];have i:m<=131070:=(by omega);have L:=Nk (m:Int);rw[Gn i]at L;have u:=lev_le i;have j:=Zgo (lev_is i) (by omega) (by omega);obtain⟨l,d⟩:∃l,l=lev m:=⟨_,rfl⟩;rw[<-d]at L u j|-;have v:=As (show l<=16 by omega);have y:=As (show l+1<=17 by omega);have o:=Mq (show l<=17 by omega);have p:=Mq (show l+1<=17 by omega);have t:m|||2^l<2^17:=Nat.or_lt_two_pow (by omega) (by omega)
   have b1:=Zak m (2^l) (by omega) (by omega);have g:=Pe (m|||2^l) (2^(l+1)) (by omega) (by omega);rw[j]at g;have s:=Hd L;have A:=Hd o;have B:=Hd p;have q:=Hd b1;have r:=Hd g;clear d L o p b1 g t v y j;go_in;go_wp2_with fail;refine(f.out _).mono ?_;rintro e w' ⟨rfl,rfl⟩;go_wp2_with fail;refine(s.out _).mono ?_;rintro e w' ⟨rfl,rfl⟩;go_wp2_with fail;have z:IntKind.i64.wrap ((l:Int)+1)=(l:Int)+1:=by rw[IntKind.wrap_i64];omega
   go_quiet (fail)
   clear z;have e3:∀a b,IntKind.i64.wrap (2^l)=a->IntKind.i64.wrap (2^(l+1))=b->bits .andNot .i64 (bits .or .i64 (m:Int) a) b=((anc m (l+1):Nat):Int):=by
    rintro _ _ rfl rfl;rw[Tj (show l<=17 by omega),Tj (show l+1<=17 by omega),q.out,r.out]
   rw[e3]
   rotate_left
   ·first|with_reducible rfl|exact IntWalk.i64_left _
   ·first|with_reducible rfl|exact IntWalk.i64_left _
   clear e3;go_wp2_with fail;go_ret;exact⟨rfl,_,rfl⟩
 ·have e:La x n= -1:=(by rw[La,iN (by intro h;exact hf h.1)]);have c:Kw x n=false:=(by rw[<-Bool.not_eq_true];exact hf);rw[e];rw[c]at F;have f:=Hd (F · h1 h2);clear F hf c h1 h2 e;go_in;go_wp2_with fail;refine(f.out _).mono ?_;rintro e w' ⟨rfl,rfl⟩;go_wp2_with fail;go_ret;exact⟨rfl,0,rfl⟩
theorem Zj8 (x n:Int): -1<=La x n/\(0<=La x n->Kw x n=true/\x≠n-1):=by
 unfold La
 split
 ·rename_i h;exact⟨by omega,fun _=>h⟩
 ·exact⟨by omega,fun h=>absurd h (by omega)⟩
def Zjd (x n:Int):Int:=if La x n<0 then-1 else if x<La x n then Cb (La x n)else Dt (La x n)
