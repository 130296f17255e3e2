import Derived.ProofKit
import Derived.OpenShut
import Derived.ShutString
import Derived.ChangeOld
import Derived.Laws.BitsAllLaws
import Derived.Test.YtfofaiommeckbaaGreatProg
import Derived.WalkSpells
import Derived.WalkLawsBesides
import Derived.Deep.QuietTactic
import Derived.BigQuiet
import Derived.Test.YtfofaiommeckbaaGreatZCk01
import Derived.Deep.LoopGhost
import Derived.WalkMore
import Derived.ScopeJumps
open Go.Ending renaming returned -> rK
open Go.Value renaming slice -> rC, pointer -> rE
open Option renaming none -> rI
open Go.Proofs.Tryz
open Nat renaming zero_le -> aA, lt_or_ge -> aB, mod_eq_of_lt -> bK, or_lt_two_pow -> cC, pow_le_pow_right -> bQ, and_le_left -> cD, mod_mul_right_div_self -> cE, pow_succ -> bF, div_eq_of_lt -> bN, div_le_self -> cF, mul_comm -> bL, testBit_two_pow -> cG, lt_of_lt_of_le -> cH, and_two_pow_sub_one_eq_mod -> cI, lt_of_le_of_lt -> cJ, lt_irrefl -> cK
open List renaming mem_of_mem_take -> cL, getElem?_eq_none -> aQ, getD_eq_getElem?_getD -> aS, getElem?_eq_getElem -> bB, take_succ_eq_append_getElem -> cM, eq_nil_of_length_eq_zero -> cN, length_nil -> cO, take_of_length_le -> cP, length_take -> cQ, getElem?_toArray -> cR, getElem?_cons_zero -> cS, getElem?_cons_succ -> aP
open Int renaming toNat -> cT, natCast_ediv -> cU, toNat_natCast -> cV, natCast_pow -> cW
open Bool renaming not_eq_true -> cX
set_option linter.unusedVariables false
set_option maxRecDepth 100000
set_option maxHeartbeats 40000000
namespace Go.Proofs.YtfofaiommeckbaaGreat
open Go.ChangeShapes Go.WideShapes Go.ChangeAt Go.RowKit
section
def bvs (L:List Nat):List Value:=L.map fun n:Nat=> .int .u8 (n:Int)
def ivs (k:IntKind)(L:List Int):List Value:=L.map fun n=> .int k n
theorem Zjc {a:Int}(h:(Lit.int .u8 a).wf=true):∃n:Nat,n<256/\a=(n:Int):=by
 have:=bounds_u8 h;exact⟨a.toNat,by omega,by omega⟩
theorem Zlt {a:Int}(h:(Lit.int .i64 a).wf=true): -9223372036854775808<=a/\a<=9223372036854775807:=by
 have:=bounds_i64 h;omega
section
variable {H:Type} {enc:TypeId×Value->H} {P:Program}
theorem Zgj {T E:TypeId} {k:IntKind} (z:P.underlying T=some (.slice E)) (A:P.underlying E=some (.int k)) (B:P.cellsOf E=1) {W:World} {v:Value} {d:DataW H} {p:List MemPlace}
  {o:Nat} (ok:Value.okWide P W .any o T v) (h:DataW.Trod enc P W 0 (fun _=>true) true T v d p):
  ∃m:List Int,(∀n∈m,(Lit.int k n).wf=true)/\Rd W v (ivs k m):=by
 obtain⟨a,len,cap,rfl⟩:=okWide_slice z ok;obtain⟨y,C⟩:=h;rcases open_ints z A B C with⟨f,_⟩|⟨x,l,c,m,f,_,F,G,J,_,e,t⟩
 ·simp[Value.cells]at f;obtain⟨rfl,rfl,rfl⟩:=f;exact⟨[],by simp,none,0,rfl,lR,aA _,.inl ⟨rfl,fun _=>rfl⟩⟩
 ·simp[Value.cells]at f;obtain⟨rfl,rfl,rfl⟩:=f;have K:m.length=cap:=(by simpa using J);have g:(ivs k (m.take len)).length=len:=(by simp[ivs];omega);refine⟨m.take len,fun n I=>t n (cL I),some x,cap,by rw[g],by rw[g];exact F,G,?_⟩
  by_cases h0:len=0
  ·left;subst h0;simp[ivs]
  ·right
   obtain⟨b,w,q⟩:=x;have r:=e 0 (by omega);have i:q=none:=(by simpa [Addr.add]using World.cell?_spot r);subst i;refine⟨b,w,rfl,?_⟩;intro j u s;have D:j<len:=by
    rcases aB j len with h|h
    ·exact h
    ·rw[aQ (by rw[g];exact h)]at s;cases s
   have:=e j (by omega);rw[Addr.add_lit]at this;rw[this,<-s];simp[ivs,D,show j<m.length from by omega]
theorem Pq {T E:TypeId} (i:P.underlying T=some (.slice E)) (g:P.underlying E=some (.int .u8)) (j:P.cellsOf E=1) {W:World} {v:Value} {d:DataW H} {p:List MemPlace}
  {b:Nat} (ok:Value.okWide P W .any b T v) (h:DataW.Trod enc P W 0 (fun _=>true) true T v d p):
  ∃L:List Nat,(∀n∈L,n<256)/\Rd W v (bvs L):=by
 obtain⟨c,f,k⟩:=Zgj i g j ok h;refine⟨c.map cT,?_,?_⟩
 ·intro n e;obtain⟨z,a,rfl⟩:=List.mem_map.1 e;obtain⟨n,e,rfl⟩:=Zjc (f z a);omega
 ·have:bvs (c.map cT)=ivs .u8 c:=by
   simp only[bvs,ivs,List.map_map];apply List.map_congr_left;intro z a;obtain⟨n,_,rfl⟩:=Zjc (f z a);simp
  rw[this];exact k
end
end
end Go.Proofs.YtfofaiommeckbaaGreat
namespace Go.Proofs.YtfofaiommeckbaaGreat
open Go.RowKit
theorem Zce {k:IntKind} {a b:Int}(h:a=b):Ending.returned (.int k a)=rK (.int k b):=by rw[h]
theorem Ae {a b:Bool}(h:a=b):Ending.returned (.bool a)=rK (.bool b):=by rw[h]
theorem Gk {k:IntKind} {a b:Int}(h:a=b):Value.int k a=.int k b:=by rw[h]
theorem Ic (a:Nat)(ha:a<9223372036854775808):(BitVec.ofInt 64 (a:Int)).toNat=a:=by
 rw[BitVec.ofInt_natCast,BitVec.toNat_ofNat];exact bK (by omega)
theorem Nh (a b:Nat)(c:a<9223372036854775808)(d:b<9223372036854775808):bits .and .i64 (a:Int) (b:Int)=((a&&&b:Nat):Int):=by
 have hx:a&&&b<2^63:=Nat.and_lt_two_pow _ (by omega);show IntKind.i64.wrap ((BitVec.ofInt 64 (a:Int)&&&BitVec.ofInt 64 (b:Int)).toNat:Int)=_;rw[BitVec.toNat_and,Ic a c,Ic b d,IntKind.wrap_i64];omega
theorem Zak (a b:Nat)(c:a<9223372036854775808)(d:b<9223372036854775808):bits .or .i64 (a:Int) (b:Int)=((a|||b:Nat):Int):=by
 have hx:a|||b<2^63:=cC (by omega) (by omega)
 show IntKind.i64.wrap ((BitVec.ofInt 64 (a:Int)|||BitVec.ofInt 64 (b:Int)).toNat:Int)=_;rw[BitVec.toNat_or,Ic a c,Ic b d,IntKind.wrap_i64];omega
theorem As {k n:Nat}(h:k<=n):2^k<=2^n:=bQ (by omega) h
theorem two_pow_pos (k:Nat):1<=2^k:=Nat.one_le_two_pow
@[simp] theorem bvs_len (L:List Nat):(bvs L).length=L.length:=by simp[bvs]
theorem Zj4 {L:List Nat} {i:Nat}(h:i<L.length):(bvs L)[i]? =some (.int .u8 ((L[i]:Nat):Int)):=by simp[bvs,h]
theorem Rc {L:List Nat} {i:Nat}(h:i<L.length):(bvs L)[i]? =some (.int .u8 ((L.getD i 0:Nat):Int)):=by simp[bvs,h]
theorem Cl (L M:List Nat):bvs (L++M)=bvs L++bvs M:=by simp[bvs]
theorem Ch (L:List Nat):∀u∈bvs L,u.oneCell'=true:=by
 intro u hu;obtain⟨n,_,rfl⟩:=List.mem_map.1 hu
 rfl
theorem Gl {L:List Nat} {m:Nat}(h:∀n∈L,n<m)(h0:0<m)(i:Nat):L.getD i 0<m:=by
 rcases aB i L.length with hi|hi
 ·rw[aS,bB hi];exact h _ (List.getElem_mem hi)
 ·rw[aS,aQ hi];exact h0
theorem Rd.cases {w:World} {v:Value} {L:List Nat}(h:Rd w v (bvs L)):
  (∃a cap,v=.slice a 0 cap/\L=[])\/∃b c cap,0<L.length/\L.length<=cap/\cap<=maxLen/\v=rC (some ⟨b,c,rI⟩) L.length cap/\b<w.heap.size/\
   ∀i,i<L.length->w.cell? ⟨b,c+i,rI⟩=some (.int .u8 ((L.getD i 0:Nat):Int)):=by
 have f:=h.lt;obtain⟨a,cap,rfl,h1,h2,h3⟩:=h
 by_cases hL:L=[]
 ·subst hL;exact .inl ⟨a,cap,rfl,rfl⟩
 ·right
  have e:0<L.length:=List.length_pos_iff.2 hL;have d:bvs L≠[]:=(by intro h;apply hL;simpa [bvs]using h);rcases h3 with h|⟨b,c,rfl,g⟩
  ·exact absurd h.1 d
  ·rcases f with h|⟨l,off',cap',j,m⟩
   ·exact absurd h d
   ·simp only[Value.slice.injEq,Option.some.injEq,Addr.mk.injEq]at j;refine⟨b,c,cap,e,by simpa using h1,h2,by simp,by omega,?_⟩;intro i k;exact g i _ (Rc k)
theorem Zgk {L M:List Nat} {i:Nat}(hi:i<L.length)(hm:i<M.length)(h:L.take i=M.take i)(he:L.getD i 0=M.getD i 0):L.take (i+1)=M.take (i+1):=by
 rw[cM hi,cM hm,h];simp only[aS,bB hi,bB hm,Option.getD_some]at he;rw[he]
theorem Zj5 {L M:List Nat} {i:Nat}(he:L.getD i 0≠M.getD i 0):L≠M:=by
 intro h;subst h;exact he rfl
theorem Re (v F:Value)(L M:List Nat)(w:World)(h:Rd w v (bvs L))(g:Rd w F (bvs M))(A:∀n∈L,n<256)(B:∀n∈M,n<256):
  Calls prog 19 #[v,F] w fun e w'=>e=rK (.bool (decide (L=M)))/\∃n,w'=w.drewN n:=by
 by_cases hlen:L.length=M.length
 ·rcases h.cases with⟨a,cap,rfl,rfl⟩|⟨b,P,cap,l,o,p,rfl,Q,d⟩
  ·have:M=[]:=cN hlen.symm;subst this;rcases g.cases with⟨z,cap',rfl,_⟩|⟨I,off',cap',f,_⟩
   ·clear h g A B hlen;go_in;go_wp2;refine wp_loop_rounds 1 ?_;rw[rounds_succ];go_wp2;go_ret;exact⟨rfl,0,rfl⟩
   ·simp at f
  ·rcases g.cases with⟨z,cap',rfl,rfl⟩|⟨I,off',cap',f,j,C,rfl,K,c⟩
   ·simp only[cO]at hlen;omega
   ·obtain⟨k,hk⟩:=eX L.length;rw[<-hlen,<-hk]at f j c|-;rw[<-hk]at l o d;have r:=Hd hk;have s:Hid (M.length=k):=Hd (by omega);have G:=Hd d;have m:=Hd c;have N:k<=9223372036854775807:=(by unfold maxLen at p;omega);clear hlen hk h g d c;go_in;go_wp2
    go_loopw [5] (fun i wr=>∃i' n:Nat,i'<=k/\L.take i'=M.take i'/\i=.int .i64 i'/\wr=w.drewN n) (fun i _=>k-(intOf i).toNat)
    case atStart=>exact⟨0,0,by omega,rfl,rfl,rfl⟩
    case round=>
     obtain⟨i,n,R,D,rfl,rfl⟩:=hrel;have H:=Hd D;clear D
     by_cases hlt:i<k
     ·have J:=G.out i hlt;have g2:=m.out i hlt;have x1:=Gl A (by omega) i;have x2:=Gl B (by omega) i;obtain⟨x,hx⟩:∃x,L.getD i 0=x:=⟨_,rfl⟩;obtain⟨y,q⟩:∃y,M.getD i 0=y:=⟨_,rfl⟩;rw[hx]at J x1;rw[q]at g2 x2;have t:=Hd hx;have u:=Hd q;clear hx q
      by_cases hxy:x=y
      ·subst hxy;go_wp2
       go_quiet (fail)
       go_wp2
       go_roundw
       case rel=>exact⟨i+1,_,by omega,Zgk (by have:=r.out;omega) (by have:=s.out;omega) H.out (t.out.trans u.out.symm),by go_num,rfl⟩
       case measure=>simp[intOf];omega
      ·have E:((x:Int) !=(y:Int))=true:=(by simp;omega);go_wp2
       go_quiet (fail)
       go_wp2;go_ret;exact⟨Ae (by rw[dF];exact Zj5 (by rw[t.out,u.out];exact hxy)),_,World.drewN_drewN _ _ _⟩
     ·obtain rfl:i=k:=(by omega);go_wp2;go_ret;have e:=H.out;rw[cP (by have:=r.out;omega),cP (by have:=s.out;omega)]at e;exact⟨Ae (by rw[dT];exact e),_,rfl⟩
 ·have O:((L.length:Int) !=(M.length:Int))=true:=(by simp;omega);obtain⟨a,cap,rfl,_⟩:=h;obtain⟨z,cap',rfl,_⟩:=g;rw[bvs_len,bvs_len];go_in;go_wp2;go_ret;exact⟨Ae (by rw[dF];intro h;apply hlen;rw[h]),0,rfl⟩
open WireM
theorem Cq:Elem prog 28 5 (.int .u8 0) 1:=⟨underlying28,by kernel_rfl,rfl,by omega⟩
theorem Rd.nilOr {w:World} {v:Value} {xs:List Value}(h:Rd w v xs):v=rC rI 0 0\/∃a cap,v=.slice (some a) xs.length cap:=by
 obtain⟨a,cap,rfl,h1,h2,⟨rfl,h3⟩|⟨b,off,rfl,_⟩⟩:=h
 ·cases a with
  |none=>left;rw[h3 rfl];rfl
  |some a=>exact .inr ⟨a,cap,rfl⟩
 ·exact .inr ⟨_,cap,rfl⟩
theorem Th (v:Value)(L:List Nat)(w:World)(h:Rd w v (bvs L))(m:L.length<1099511627776):
  Calls prog 111 #[v] w fun e w'=>∃f,e=rK f/\Own w' w.heap.size 5 f (bvs L)/\Below w.heap.size w w':=by
 have d:(bvs L).length=L.length:=bvs_len L;have h1:=Ch L;rcases h.nilOr with rfl|⟨a,cap,rfl⟩
 ·have h0:bvs L=[]:=by
   obtain⟨a,cap,e,_⟩:=h;simp only[Value.slice.injEq]at e;exact cN e.2.1.symm
  rw[h0];clear h h0 d h1;have q:∀w,(binOp .eql 28 (rC rI 0 0) (rC rI 0 0)).run prog w=.ok (.bool true) w:=fun w=>Lib.run_eql_slice_nil w _ 5 none 0 0 0 0 underlying28;go_in;go_wp2_with fail;go_ret;exact⟨_,rfl,Own.nil _ _ _,bR⟩
 ·obtain⟨xs,c⟩:=eX (bvs L);rw[<-c]at h h1 d|-;have hx:xs.length<1099511627776:=(by omega);have l:=Hd h;have i:=Hd h1;clear h h1 d c m;have q:∀w,(binOp .eql 28 (.slice (some a) xs.length cap) (rC rI 0 0)).run prog w=.ok (.bool false) w:=fun w=>Lib.run_eql_slice_nil w _ 5 (some a) _ _ 0 0 underlying28;go_in;go_wp2_with (at_builtin;refine Ak rfl (.tmp 5) (.tmp 6) 28 rfl w.heap.size 5 _ 1 Cq _ [] rfl (Own.lit0 rfl lR) _ xs rfl (l.out.alloc _) i.out ?c2 ?c3 ?_);case c2=>simpa using hx
  case c3=>simp
  rintro f n b-g;have k:=Hd b;have j:=Hd g;clear b g;go_wp2_with fail;go_ret;exact⟨_,rfl,k.out,(bR.alloc lR _).trans j.out⟩
theorem Cm (v:Value)(L:List Nat)(w:World)(h:Rd w v (bvs L))(m:L.length<1099511627776):
  Calls prog 127 #[v] w fun e w'=>∃f,e=rK f/\Own w' w.heap.size 5 f (bvs L)/\Below w.heap.size w w':=by
 have d:(bvs L).length=L.length:=bvs_len L;have h1:=Ch L;rcases h.nilOr with rfl|⟨a,cap,rfl⟩
 ·have h0:bvs L=[]:=by
   obtain⟨a,cap,e,_⟩:=h;simp only[Value.slice.injEq]at e;exact cN e.2.1.symm
  rw[h0];clear h h0 d h1;have q:∀w,(binOp .eql 28 (rC rI 0 0) (rC rI 0 0)).run prog w=.ok (.bool true) w:=fun w=>Lib.run_eql_slice_nil w _ 5 none 0 0 0 0 underlying28;go_in;go_wp2_with fail;go_ret;exact⟨_,rfl,Own.nil _ _ _,bR⟩
 ·obtain⟨xs,c⟩:=eX (bvs L);rw[<-c]at h h1 d|-;have hx:xs.length<1099511627776:=(by omega);have l:=Hd h;have i:=Hd h1;clear h h1 d c m;have q:∀w,(binOp .eql 28 (.slice (some a) xs.length cap) (rC rI 0 0)).run prog w=.ok (.bool false) w:=fun w=>Lib.run_eql_slice_nil w _ 5 (some a) _ _ 0 0 underlying28;go_in;go_wp2_with (at_builtin;refine Ak rfl (.tmp 5) (.tmp 6) 28 rfl w.heap.size 5 _ 1 Cq _ [] rfl (Own.lit0 rfl lR) _ xs rfl (l.out.alloc _) i.out ?c2 ?c3 ?_);case c2=>simpa using hx
  case c3=>simp
  rintro f n b-g;have k:=Hd b;have j:=Hd g;clear b g;go_wp2_with fail;go_ret;exact⟨_,rfl,k.out,(bR.alloc lR _).trans j.out⟩
def Zgd (n:Int):Bool:=decide (n=1\/n=2\/n=4\/n=8)
theorem Zcf (n:Int)(w:World):Calls prog 112 #[.int .i64 n] w fun e w'=>e=rK (.bool (Zgd n))/\w=w':=by
 have b:n=1\/n=2\/n=4\/n=8\/(n≠1/\n≠2/\n≠4/\n≠8):=(by omega);rcases b with rfl|rfl|rfl|rfl|⟨h1,h2,h3,a⟩
 ·go_in;go_wp2_with fail;go_ret;exact⟨rfl,rfl⟩
 ·go_in;go_wp2_with fail;go_ret;exact⟨rfl,rfl⟩
 ·go_in;go_wp2_with fail;go_ret;exact⟨rfl,rfl⟩
 ·go_in;go_wp2_with fail;go_ret;exact⟨rfl,rfl⟩
 ·have e:Zgd n=false:=(by rw[Zgd,dF];omega);rw[e];have e1:(n==1)=false:=(by simp[h1]);have e2:(n==2)=false:=(by simp[h2]);have e3:(n==4)=false:=(by simp[h3]);have c:(n==8)=false:=(by simp[a]);clear h1 h2 h3 a e;go_in;go_wp2_with fail;go_ret;exact⟨rfl,rfl⟩
theorem Ni (n:Int)(w:World):Calls prog 253 #[.int .i64 n] w fun e w'=>e=rK (.int .i64 (lenS n:Nat))/\w=w':=by
 have b:n<0\/(0<=n/\1073741823<n)\/(0<=n/\n<64)\/(64<=n/\n<16384)\/(16384<=n/\n<=1073741823):=(by omega);rcases b with h|⟨h,a⟩|⟨h,a⟩|⟨h,a⟩|⟨h,a⟩
 ·rw[lenS,iP (by omega)];go_in;go_wp2_with fail;go_ret;exact⟨rfl,rfl⟩
 ·rw[lenS,iP (by omega)];go_in;go_wp2_with fail;go_ret;exact⟨rfl,rfl⟩
 ·rw[lenS,iN (by omega),iP (by omega)];have h2:n<=1073741823:=(by omega);go_in;go_wp2_with fail;go_ret;exact⟨rfl,rfl⟩
 ·rw[lenS,iN (by omega),iN (by omega),iP (by omega)];have h2:n<=1073741823:=(by omega);have h3:0<=n:=(by omega);go_in;go_wp2_with fail;go_ret;exact⟨rfl,rfl⟩
 ·rw[lenS,iN (by omega),iN (by omega),iN (by omega)];have h2:64<=n:=(by omega);have h3:0<=n:=(by omega);go_in;go_wp2_with fail;go_ret;exact⟨rfl,rfl⟩
theorem Zgl (n:Nat)(L:List Nat):bvs (n::L)=.int .u8 (n:Int)::bvs L:=rfl
theorem Xx (n:Nat)(L:List Nat):bvs (L++[n])=bvs L++[.int .u8 (n:Int)]:=by simp[bvs]
theorem Xy (k n:Nat)(w:World)(hk:k<=8)(y:n<18446744073709551616):
  Calls prog 64 #[.int .i64 (k:Nat),.int .u64 (n:Nat)] w fun e w'=>∃v,e=rK v/\Own w' w.heap.size 5 v (bvs (beN k n))/\Below w.heap.size w w':=by
 obtain⟨o,d⟩:=eX n;have s:=Hd d;clear d;go_in;go_wp2_with fail
 go_loopg [1,5,6] k (fun q m out i wr=>∃(r:Nat) (x:Nat),r+q=k/\x<18446744073709551616/\x=o/256^r/\m=.int .u64 (x:Nat)/\i=.int .i64 (r:Nat)/\Own wr w.heap.size 5 out (bvs (beN r o))/\Below w.heap.size w wr)
 case atStart=>
  refine⟨0,n,by omega,y,by rw[s.out];simp,rfl,rfl,Own.nil _ _ _,bR⟩
 case round=>
  obtain⟨r,x,z,hx,g,rfl,rfl,b,l⟩:=hrel;have t:=Hd b;have p:=Hd l;have u:=Hd g;have f:=l.size;clear b l g
  by_cases hrk:r<k
  ·go_wp2_with (at_builtin;refine Ak rfl (.tmp 15) (.tmp 16) 28 rfl w.heap.size 5 _ 1 Cq _ [.int .u8 ((x%256:Nat):Int)] rfl ?c1 _ (bvs (beN r o)) rfl (t.out.rd.alloc _) (Ch _) ?c2 ?c3 ?_);case c1=>exact Own.full (cs:=#[.int .u8 ((x%256:Nat):Int)]) rfl f (by unfold maxLen;simp) rfl
   case c2=>simp[bvs_len,beN_len];omega
   case c3=>simp;omega
   rintro A B a-c;have j:=Hd a;have h:=Hd ((p.out.alloc f _).trans c);clear a c;go_wp2_with fail;go_roundg (gk-1);case measure=>omega
   case rel=>
    refine⟨r+1,x/256,by omega,by omega,by rw[u.out,beN_step],?_,by go_num,?_,h.out⟩
    ·exact Gk (by omega)
    ·rw[beN,Zgl,<-u.out];exact j.out
  ·obtain rfl:r=k:=(by omega);go_wp2_with fail;go_ret;refine⟨_,rfl,?_,p.out⟩;rw[<-s.out];exact t.out
theorem Hk (v:Value)(L:List Nat)(k n:Nat)(w:World)(h:Rd w v (bvs L))(B:L.length<549755813888)(hk:Zgd (k:Int)=true)(_:n<18446744073709551616):
  Calls prog 60 #[v,.int .i64 (k:Nat),.int .u64 (n:Nat)] w fun e w'=>∃s,e=rK s/\Own w' w.heap.size 5 s (bvs (L++beN k n))/\Below w.heap.size w w':=by
 have C:=Th v L w h (by omega);have M:=fun w=>Zcf (k:Int) w;rw[hk]at M;have g:k<=8/\1<=k:=(by have:=oD hk;omega);obtain⟨g,A⟩:=g;have y:=Hd C;have z:=Hd M;clear C M h hk;go_in;go_wp2_with fail;refine(y.out).mono ?_;rintro e F ⟨E,rfl,a,d⟩;have m:=Hd a;have l:=Hd d;clear a d;go_wp2_with fail;refine(z.out _).mono ?_;rintro e w' ⟨rfl,rfl⟩;go_wp2_with fail
 go_loopg [0,7] k (fun q out i wr=>∃pre:List Nat,q<=k/\i=.int .i64 ((q:Int)-1)/\pre.length+q=L.length+k/\pre++beN q n=L++beN k n/\Own wr w.heap.size 5 out (bvs pre)/\Below w.heap.size w wr)
 case atStart=>exact⟨L,lR,rfl,rfl,rfl,m.out,l.out⟩
 case round=>
  obtain⟨pre,D,rfl,x,c,a,d⟩:=hrel;have m:=Hd a;have l:=Hd d;have t:=Hd c;have r:=d.size;clear a d c
  by_cases h0:gk=0
  ·subst h0;go_wp2_with fail;go_ret;refine⟨_,rfl,?_,l.out⟩;rw[<-t.out,beN,List.append_nil];exact m.out
  ·obtain⟨j,rfl⟩:∃j,gk=j+1:=⟨gk-1,by omega⟩;have u:((j+1:Nat):Int)-1=(j:Int):=(by omega);rw[u];clear u h0;go_wp2_with (at_builtin;refine An rfl (.tmp 20) (.tmp 26) 28 rfl w.heap.size 5 _ 1 Cq _ _ rfl (m.out.alloc _) ⟨wr.heap.size,0,rI⟩ (.int .u8 ((n:Int)/2^(8*j)%256)) rfl ?c1 rfl ?c2 ?c3 ?_);case c1=>exact Aq rfl
   case c2=>rw[bvs_len];omega
   case c3=>simp;omega
   rintro s G b-f;have p:=Hd b;have o:=Hd ((l.out.alloc r _).trans f);clear b f;go_wp2_with fail;go_roundg j;case measure=>omega
   case rel=>
    refine⟨pre++[n/256^j%256],by omega,rfl,by simp;omega,?_,?_,o.out⟩
    ·rw[List.append_assoc];exact t.out
    ·rw[Xx];have e:((n/256^j%256:Nat):Int)=(n:Int)/2^(8*j)%256:=by
      rw[<-shift_pow];simp
     rw[e];exact p.out
theorem Zcg (v:Value)(L:List Nat)(n:Nat)(w:World)(h:Rd w v (bvs L))(i:L.length<549755813888)(j:n<1073741824):
  Calls prog 212 #[v,.int .i64 (n:Nat)] w fun e w'=>∃v',e=rK v'/\Own w' w.heap.size 5 v' (bvs (L++lenB n))/\Below w.heap.size w w':=by
 have S:=fun w=>Ni (n:Int) w
 by_cases h1:n<64
 ·rw[lenS1 h1]at S;have P:=Hk v L 1 n w h i rfl (by omega);rw[be1 n h1]at P;have g:=Hd S;have f:=Hd P;have e:bits .or .u64 0 (n:Int)=(n:Int):=by
   have:=u64_or_nat 0 n (by omega) (by omega);simpa using this
  clear S P h;go_in;go_wp2_with fail;refine(g.out _).mono ?_;rintro e w' ⟨rfl,rfl⟩;go_wp2_with fail;refine(f.out).mono ?_;rintro e l ⟨k,rfl,a,b⟩;have d:=Hd a;have c:=Hd b;clear a b;go_wp2_with fail;go_ret;exact⟨_,rfl,d.out,c.out⟩
 ·by_cases h2:n<16384
  ·rw[lenS2 (by omega) h2]at S;have P:=Hk v L 2 (16384+n) w h i rfl (by omega);rw[be2 n (by omega) h2]at P;have g:=Hd S;have f:=Hd P;have e:bits .or .u64 16384 (n:Int)=((16384+n:Nat):Int):=by
    have:=u64_or_nat 16384 n (by omega) (by omega);rw[or2 n h2]at this;exact this
   clear S P h;go_in;go_wp2_with fail;refine(g.out _).mono ?_;rintro e w' ⟨rfl,rfl⟩;go_wp2_with fail;refine(f.out).mono ?_;rintro e l ⟨k,rfl,a,b⟩;have d:=Hd a;have c:=Hd b;clear a b;go_wp2_with fail;go_ret;exact⟨_,rfl,d.out,c.out⟩
  ·rw[lenS4 (by omega) j]at S;have P:=Hk v L 4 (2147483648+n) w h i rfl (by omega);rw[be4 n (by omega) j]at P;have g:=Hd S;have f:=Hd P;have e:bits .or .u64 2147483648 (n:Int)=((2147483648+n:Nat):Int):=by
    have:=u64_or_nat 2147483648 n (by omega) (by omega);rw[or4 n j]at this;exact this
   clear S P h;go_in;go_wp2_with fail;refine(g.out _).mono ?_;rintro e w' ⟨rfl,rfl⟩;go_wp2_with fail;refine(f.out).mono ?_;rintro e l ⟨k,rfl,a,b⟩;have d:=Hd a;have c:=Hd b;clear a b;go_wp2_with fail;go_ret;exact⟨_,rfl,d.out,c.out⟩
theorem Mo (n:Nat)(w:World)(a:n<1073741824):
  Calls prog 197 #[.int .i64 (n:Nat)] w fun e w'=>∃v',e=rK v'/\Own w' w.heap.size 5 v' (bvs (lenB n))/\Below w.heap.size w w':=by
 by_cases h1:n<64
 ·have e:lenB n=[n]:=(by unfold lenB;rw[iP h1]);rw[e];clear e;go_in;go_wp2_with fail;go_ret;exact⟨_,rfl,Own.full (cs:=#[.int .u8 (n:Int)]) rfl lR (by unfold maxLen;simp) rfl,bR.alloc lR _⟩
 ·by_cases h2:n<16384
  ·have e:lenB n=[64+n/256,n%256]:=(by unfold lenB;rw[iN h1,iP h2]);rw[e];clear e;have h3:64<=n:=(by omega);go_in;go_wp2_with fail;go_ret;exact⟨_,rfl,Own.full (cs:=#[.int .u8 ((64+n/256:Nat):Int),.int .u8 ((n%256:Nat):Int)]) rfl lR (by unfold maxLen;simp) rfl,bR.alloc lR _⟩
  ·have e:lenB n=[128+n/16777216,n/65536%256,n/256%256,n%256]:=(by unfold lenB;rw[iN h1,iN h2]);rw[e];clear e;have h3:16384<=n:=(by omega);go_in;go_wp2_with fail;go_ret;exact⟨_,rfl,Own.full (cs:=#[.int .u8 ((128+n/16777216:Nat):Int),.int .u8 ((n/65536%256:Nat):Int),.int .u8 ((n/256%256:Nat):Int),.int .u8 ((n%256:Nat):Int)]) rfl lR (by unfold maxLen;simp) rfl,bR.alloc lR _⟩
theorem Xz {w:World} {cs:Array Value} {L:List Nat} {N:Nat}(a:N=w.heap.size)(h:cs.toList=bvs L)(b:L.length<=1000):Rd (w.alloc (.cells cs 5)) (rC (some ⟨N,0,rI⟩) L.length L.length) (bvs L):=by
 have e:cs.size=L.length:=(by rw[<-Array.length_toList,h,bvs_len]);have:=(Own.full (w:=w) (B:=w.heap.size) (e:=5) (cs:=cs) a (by omega) (by unfold maxLen;omega) (n:=L.length) e.symm).rd;rw[h]at this;exact this
end Go.Proofs.YtfofaiommeckbaaGreat
namespace Go.Proofs.YtfofaiommeckbaaGreat
open Go.RowKit
theorem Fi (k:IntKind)(L:List Int):(ivs k L).length=L.length:=by simp[ivs]
theorem Rd.icases {w:World} {v:Value} {g:IntKind} {L:List Int}(h:Rd w v (ivs g L)):
  (∃a cap,v=.slice a 0 cap/\L=[])\/∃b c cap,0<L.length/\L.length<=cap/\cap<=maxLen/\v=rC (some ⟨b,c,rI⟩) L.length cap/\b<w.heap.size/\
   ∀i,i<L.length->w.cell? ⟨b,c+i,rI⟩=some (.int g (L.getD i 0)):=by
 have f:=h.lt;obtain⟨a,cap,rfl,h1,h2,h3⟩:=h
 by_cases hL:L=[]
 ·subst hL;exact .inl ⟨a,cap,rfl,rfl⟩
 ·right
  have e:0<L.length:=List.length_pos_iff.2 hL;have d:ivs g L≠[]:=(by intro h;apply hL;simpa [ivs]using h);rcases h3 with h|⟨b,c,rfl,j⟩
  ·exact absurd h.1 d
  ·rcases f with h|⟨m,off',cap',k,n⟩
   ·exact absurd h d
   ·simp only[Value.slice.injEq,Option.some.injEq,Addr.mk.injEq]at k;refine⟨b,c,cap,e,by simpa [ivs]using h1,h2,by simp[ivs],by omega,?_⟩;intro i l;refine j i _ ?_;simp[ivs,l]
theorem Zch {L M:List Int} {i:Nat}(hi:i<L.length)(hm:i<M.length)(h:L.take i=M.take i)(he:L.getD i 0=M.getD i 0):L.take (i+1)=M.take (i+1):=by
 rw[cM hi,cM hm,h];simp only[aS,bB hi,bB hm,Option.getD_some]at he;rw[he]
theorem Zgm {L M:List Int} {i:Nat}(he:L.getD i 0≠M.getD i 0):L≠M:=by
 intro h;subst h;exact he rfl
theorem Nj (v D:Value)(L M:List Int)(w:World)(h:Rd w v (ivs .i64 L))(g:Rd w D (ivs .i64 M)):
  Calls prog 49 #[v,D] w fun e w'=>e=rK (.bool (decide (L=M)))/\∃n,w'=w.drewN n:=by
 by_cases hlen:L.length=M.length
 ·rcases h.icases with⟨a,cap,rfl,rfl⟩|⟨b,N,cap,l,o,p,rfl,O,d⟩
  ·have:M=[]:=cN hlen.symm;subst this;rcases g.icases with⟨z,cap',rfl,_⟩|⟨F,off',cap',f,_⟩
   ·clear h g hlen;go_in;go_wp2;refine wp_loop_rounds 1 ?_;rw[rounds_succ];go_wp2;go_ret;exact⟨rfl,0,rfl⟩
   ·simp at f
  ·rcases g.icases with⟨z,cap',rfl,rfl⟩|⟨F,off',cap',f,j,A,rfl,I,c⟩
   ·simp only[cO]at hlen;omega
   ·obtain⟨k,hk⟩:=eX L.length;rw[<-hlen,<-hk]at f j c|-;rw[<-hk]at l o d;have r:=Hd hk;have s:Hid (M.length=k):=Hd (by omega);have E:=Hd d;have m:=Hd c;have J:k<=9223372036854775807:=(by unfold maxLen at p;omega);clear hlen hk h g d c;go_in;go_wp2
    go_loopw [5] (fun i wr=>∃i' n:Nat,i'<=k/\L.take i'=M.take i'/\i=.int .i64 i'/\wr=w.drewN n) (fun i _=>k-(intOf i).toNat)
    case atStart=>exact⟨0,0,by omega,rfl,rfl,rfl⟩
    case round=>
     obtain⟨i,n,P,B,rfl,rfl⟩:=hrel;have H:=Hd B;clear B
     by_cases hlt:i<k
     ·have G:=E.out i hlt;have g2:=m.out i hlt;obtain⟨x,hx⟩:∃x,L.getD i 0=x:=⟨_,rfl⟩;obtain⟨y,q⟩:∃y,M.getD i 0=y:=⟨_,rfl⟩;rw[hx]at G;rw[q]at g2;have t:=Hd hx;have u:=Hd q;clear hx q
      by_cases hxy:x=y
      ·subst hxy;go_wp2
       go_quiet (fail)
       go_wp2
       go_roundw
       case rel=>exact⟨i+1,_,by omega,Zch (by have:=r.out;omega) (by have:=s.out;omega) H.out (t.out.trans u.out.symm),by go_num,rfl⟩
       case measure=>simp[intOf];omega
      ·have C:(x !=y)=true:=(by simp[hxy]);go_wp2
       go_quiet (fail)
       go_wp2;go_ret;exact⟨Ae (by rw[dF];exact Zgm (by rw[t.out,u.out];exact hxy)),_,World.drewN_drewN _ _ _⟩
     ·obtain rfl:i=k:=(by omega);go_wp2;go_ret;have e:=H.out;rw[cP (by have:=r.out;omega),cP (by have:=s.out;omega)]at e;exact⟨Ae (by rw[dT];exact e),_,rfl⟩
 ·have K:((L.length:Int) !=(M.length:Int))=true:=(by simp;omega);obtain⟨a,cap,rfl,_⟩:=h;obtain⟨z,cap',rfl,_⟩:=g;rw[Fi,Fi];go_in;go_wp2;go_ret;exact⟨Ae (by rw[dF];intro h;apply hlen;rw[h]),0,rfl⟩
theorem Rd.get {w:World} {a:Option Addr} {n cap r:Nat} {xs:List Value} {u:Value}(h:Rd w (rC a n cap) xs)(d:xs[r]? =some u):∃b c,a=some ⟨b,c,rI⟩/\b<w.heap.size/\w.cell? ⟨b,c+r,rI⟩=some u:=by
 have g:=h.lt;obtain⟨i,cap',e,h1,h2,⟨h0,_⟩|⟨b,c,rfl,f⟩⟩:=h
 ·rw[h0]at d;simp at d
 ·simp only[Value.slice.injEq]at e;obtain⟨rfl,_,_⟩:=e;have:=f r u d;exact⟨b,c,rfl,World.block_lt_of_cell? w _ this,this⟩
theorem Es {P:Program} {a:Act} {w:World} {Q:Exit->Act->World->Prop} {c rest:Code} (l:Nat) (J:Act->World->Prop) (μ:Act->World->Nat) (f:findLabel c l=some (Code.skip.seq rest))
  (pass:∀a w,J a w->rest.wp P (Exit.jump l (fun b w'=>J b w'/\μ b w'< μ a w) Q) a w)
  (first:(∀a w,J a w->rest.wp P (Exit.jump l J Q) a w)->c.wp P (Exit.jump l J Q) a w):(Code.scope c).wp P Q a w:=by
 refine wp_scope_jumps l J μ f (first ?_) (fun a w h=>wp_seq (wp_skip (pass a w h)));intro a w h;refine Code.wp_mono ?_ (pass a w h);intro e b w' d;cases e with
 |goto l'=>exact⟨d.1,d.2.1⟩
 |_=>exact d
open WalkM
theorem Jv (n m:Nat):n&&&m<=n:=cD
theorem Zgn (n:Nat)(t:n<=65536)(w:World):
  Calls prog 174 #[.int .u64 n] w fun e w'=>e=rK (.int .i64 (popc n:Nat))/\w=w':=by
 have b1:=Jv (n/2) 6148914691236517205;have o:=Jv n 6148914691236517205;have e1:=u64_and_nat (n/2) 6148914691236517205 (by omega) (by omega);have g:=u64_and_nat n 6148914691236517205 (by omega) (by omega);have d1:pop1 n=((n/2)&&&6148914691236517205)+(n&&&6148914691236517205):=rfl;obtain⟨b,i⟩:=eX ((n/2)&&&6148914691236517205);obtain⟨d,l⟩:=eX (n&&&6148914691236517205);rw[<-i]at b1 e1 d1;rw[<-l]at o g d1;have r:=Jv ((b+d)/4) 3689348814741910323;have p:=Jv (b+d) 3689348814741910323;have e2:=u64_and_nat ((b+d)/4) 3689348814741910323 (by omega) (by omega);have h:=u64_and_nat (b+d) 3689348814741910323 (by omega) (by omega);have d2:pop2 (b+d)=(((b+d)/4)&&&3689348814741910323)+((b+d)&&&3689348814741910323):=rfl;obtain⟨c,j⟩:=eX (((b+d)/4)&&&3689348814741910323);obtain⟨f,m⟩:=eX ((b+d)&&&3689348814741910323);rw[<-j]at r e2 d2;rw[<-m]at p h d2;have s:=Jv ((c+f)/16+(c+f)) 1085102592571150095;have e3:=u64_and_nat ((c+f)/16+(c+f)) 1085102592571150095 (by omega) (by omega);have d3:pop3 (c+f)=((c+f)/16+(c+f))&&&1085102592571150095:=rfl;obtain⟨a,k⟩:=eX (((c+f)/16+(c+f))&&&1085102592571150095);rw[<-k]at s e3 d3;have q:=Nh (a+a/256+(a+a/256)/65536+(a+a/256+(a+a/256)/65536)/4294967296) 127 (by omega) (by omega);have d4:popc n=(a+a/256+(a+a/256)/65536+(a+a/256+(a+a/256)/65536)/4294967296)&&&127:=by
  rw[popc,d1,d2,d3];rfl
 rw[<-d4]at q;simp only[Int.natCast_add,cU,Int.cast_ofNat_Int]at e1 g e2 h e3 q;have D:=Hd d4;clear d1 d2 d3 d4 i l j m k;go_in;go_wp2;go_ret;exact⟨rfl,rfl⟩
theorem Fs {n:Nat}(h:fits n=true):1<=n/\n<=65536:=by
 obtain⟨d,hd,rfl⟩:=(fits_iff n).1 h;have h1:=pow_pos' d;have h2:2^d<=2^16:=bQ (by omega) hd;omega
theorem Jw (n:Int)(w:World)(h1: -9223372036854775808<=n)(h2:n<=9223372036854775807):
  Calls prog 113 #[.int .i64 n] w fun e w'=>e=rK (.bool (fits n.toNat))/\w=w':=by
 by_cases hr:1<=n/\n<=65536
 ·obtain⟨m,rfl⟩:∃m:Nat,n=(m:Int):=⟨n.toNat,by omega⟩;have d:m<=65536:=(by omega);have O:=Zgn m d;have g:=popc_fits m d;have e:(((popc m:Nat):Int)==1)=fits m:=by
   rw[<-g,Bool.eq_iff_iff];simp only[beq_iff_eq];omega
  obtain⟨c,b⟩:=eX (popc m);obtain⟨f,a⟩:=eX (fits m);rw[<-b]at O e;rw[<-a]at e;rw[cV,<-a];have j:=Hd O;clear O g b a h1 h2;go_in;go_wp2_with fail;refine(j.out _).mono ?_;rintro e w' ⟨rfl,rfl⟩;go_wp2_with fail;go_ret;exact⟨rfl,rfl⟩
 ·have i:fits n.toNat=false:=by
   rw[<-cX];intro h;have:=Fs h;omega
  rw[i];have k:n<1\/(1<=n/\65536<n):=(by omega);clear i hr;rcases k with h|⟨h,l⟩
  all_goals
   go_in;go_wp2_with fail;go_ret;exact⟨rfl,rfl⟩
def Bk (x:Int):Bool:=decide (0<=x/\x<=131070)
theorem Mp (x:Int)(w:World):
  Calls prog 229 #[.int .i64 x] w fun e w'=>e=rK (.bool (Bk x))/\w=w':=by
 have b:x<0\/(0<=x/\131070<x)\/(0<=x/\x<=131070):=(by omega);rcases b with h|⟨h,a⟩|⟨h,a⟩
 ·have e:Bk x=false:=(by rw[Bk,dF];omega);rw[e];clear e;go_in;go_wp2_with fail;go_ret;exact⟨rfl,rfl⟩
 ·have e:Bk x=false:=(by rw[Bk,dF];omega);rw[e];clear e;go_in;go_wp2_with fail;go_ret;exact⟨Ae (dF (by omega)),rfl⟩
 ·have e:Bk x=true:=(by rw[Bk,dT];omega);rw[e];clear e;go_in;go_wp2_with fail;go_ret;exact⟨rfl,rfl⟩
def Kw (x n:Int):Bool:=fits n.toNat&&decide (0<=x/\x<=2*n-2)
theorem Zlu (x n:Int)(w:World)(h1: -9223372036854775808<=n)(h2:n<=9223372036854775807):
  Calls prog 294 #[.int .i64 x,.int .i64 n] w fun e w'=>e=rK (.bool (Kw x n))/\w=w':=by
 have F:=Jw n
 by_cases hf:fits n.toNat=true
 ·have i:=Fs hf;have f:1<=n:=(by omega);have g:n<=65536:=(by omega);simp only[Kw,hf,Bool.true_and];rw[hf]at F;have b:=Hd F;clear F hf i h1 h2;have d:x<0\/(0<=x/\2*n-2<x)\/(0<=x/\x<=2*n-2):=(by omega);rcases d with h|⟨h,c⟩|⟨h,c⟩
  ·have e:decide (0<=x/\x<=2*n-2)=false:=(by rw[dF];omega);rw[e];clear e;go_in;go_wp2_with fail;refine(b.out _ (by omega) (by omega)).mono ?_;rintro e w' ⟨rfl,rfl⟩;go_wp2_with fail;go_ret;exact⟨rfl,rfl⟩
  ·have e:decide (0<=x/\x<=2*n-2)=false:=(by rw[dF];omega);rw[e];clear e;go_in;go_wp2_with fail;refine(b.out _ (by omega) (by omega)).mono ?_;rintro e w' ⟨rfl,rfl⟩;go_wp2_with fail;go_ret;exact⟨Ae (dF (by omega)),rfl⟩
  ·have e:decide (0<=x/\x<=2*n-2)=true:=(by rw[dT];omega);rw[e];clear e;go_in;go_wp2_with fail;refine(b.out _ (by omega) (by omega)).mono ?_;rintro e w' ⟨rfl,rfl⟩;go_wp2_with fail;go_ret;exact⟨rfl,rfl⟩
 ·have a:fits n.toNat=false:=(by rw[<-cX];exact hf);simp only[Kw,a,Bool.false_and];rw[a]at F;have b:=Hd (F · h1 h2);clear F hf a h1 h2;go_in;go_wp2_with fail;refine(b.out _).mono ?_;rintro e w' ⟨rfl,rfl⟩;go_wp2_with fail;go_ret;exact⟨rfl,rfl⟩
def Mh (x:Int):Int:=if Bk x=true then((lev x.toNat:Nat):Int)else-1
theorem Zj6 {x l L:Nat}(h:IsLev x L)(hl:l<L):x/2^l%2=1:=by
 have e:=cE x (2^l) 2;rw[<-bF]at e;rw[<-e,<-Nat.mod_mod_of_dvd x (Nat.pow_dvd_pow 2 (show l+1<=L+1 by omega)),h,ones_mod (show l+1<=L by omega),bF];have hp:=pow_pos' l;rw[show 2^l*2-1=2^l-1+2^l by omega,Nat.add_div_right _ hp,bN (by omega)]
theorem Zal {x L:Nat}(h:IsLev x L):x/2^L%2=0:=by
 have e:=cE x (2^L) 2;rw[<-bF]at e;have hp:=pow_pos' L;rw[<-e,h];exact bN (by omega)
def Zng (x:Nat)(w:World)(a':Act)(w':World):Prop:=
 ∃l:Nat,l<=lev x/\w=w'/\∃(x1 x2 x4 x5 x6 x7 x8 x9 x10 x11 x12 x13 x14:Value),a'= {tmps:=#[.int .i64 (x:Nat),x1,x2,.int .i64 (l:Nat),x4,x5,x6,x7,x8,x9,x10,x11,x12,x13,x14],defers:=[]}
theorem Zam (x:Nat)(hx:x<=131070)(w:World):
  Calls prog 213 #[.int .i64 (x:Nat)] w fun e w'=>e=rK (.int .i64 (lev x:Nat))/\w=w':=by
 have N:=Mp x;have d:Bk (x:Int)=true:=(by rw[Bk,dT];omega);rw[d]at N;have f:=Hd N;clear N d;have c:=lev_le hx;go_in;go_wp2_with fail;refine Es 0 (Zng x w) (fun b _=>17-(intOf (b.tmps.getD 3 undef)).toNat) rfl ?_ ?_
 ·rintro b j ⟨l,i,rfl,a⟩
  iterate 13 (obtain⟨_,a⟩:=a)
  subst a;have h:bits .and .i64 ((x:Int)/2^l) 1=(x:Int)/2^l%2:=by
   have h1:x/2^l<=x:=cF _ _;have:=Nh (x/2^l) 1 (by omega) (by omega);rw[Nat.and_one_is_mod]at this;have e2:((x:Int)/2^l)=((x/2^l:Nat):Int):=(by simp);rw[e2];exact this
  by_cases hlt:l<lev x
  ·have e:((x:Int)/2^l%2==1)=true:=by
    have:=Zj6 (lev_is hx) hlt;rw[beq_iff_eq];exact_mod_cast this
   go_wp2_with fail;refine wp_goto ⟨rfl,⟨l+1,by omega,rfl,_,_,_,_,_,_,_,_,_,_,_,_,_,rfl⟩,?_⟩;show 17-((l:Int)+1).toNat<17-(l:Int).toNat;omega
  ·obtain rfl:l=lev x:=(by omega);have e:((x:Int)/2^lev x%2==1)=false:=by
    have:=Zal (lev_is hx);rw[qN];have h2:(x:Int)/2^lev x%2=0:=(by exact_mod_cast this);omega
   go_wp2_with fail;simp only[Exit.jump];go_ret;exact⟨rfl,rfl⟩
 ·intro pass;have g:=Hd pass;clear pass;go_wp2_with fail;refine(f.out _).mono ?_;rintro e w' ⟨rfl,rfl⟩;go_wp2_with fail;go_step3;simp only[Exit.then]
  apply_assumption
  refine g.out _ _ ⟨0,by omega,rfl,_,_,_,_,_,_,_,_,_,_,_,_,_,rfl⟩
theorem Nk (x:Int)(w:World):
  Calls prog 213 #[.int .i64 x] w fun e w'=>e=rK (.int .i64 (Mh x))/\w=w':=by
 by_cases hx:0<=x/\x<=131070
 ·obtain⟨n,rfl⟩:∃n:Nat,x=(n:Int):=⟨x.toNat,by omega⟩;have e:Mh (n:Int)=(lev n:Nat):=by
   rw[Mh,iP (by rw[Bk,dT];omega),cV]
  rw[e];exact Zam n (by omega) w
 ·have a:Bk x=false:=(by rw[Bk,dF];exact hx);have e:Mh x= -1:=(by rw[Mh,iN (by rw[a];simp)]);have N:=Mp x;rw[a]at N;rw[e];have b:=Hd N;clear N a hx e;go_in;go_wp2_with fail;go_step3;go_wp2_with fail;refine(b.out _).mono ?_;rintro e w' ⟨rfl,rfl⟩;go_wp2_with fail;simp only[Exit.noGoto];go_ret;exact⟨rfl,rfl⟩
theorem Zci (x:Int): -1<=Mh x/\Mh x<=16:=by
 unfold Mh
 split
 ·rename_i h
  have h':=oD h;have:= @lev_le x.toNat (by omega);omega
 ·omega
theorem Mq {m:Nat}(h:m<=17):wrap64 (2^m)=((2^m:Nat):Int):=by
 have h1:=As h;have h2:=two_pow_pos m;have e:(2:Int)^m=((2^m:Nat):Int):=(by simp);rw[e];obtain⟨p,hp⟩:=eX (2^m);rw[<-hp]at h1 h2|-;unfold wrap64;omega
def Dw (x:Int):Int:=if 0<Mh x then 2^(Mh x-1).toNat else 0
theorem Ya (x:Int)(w:World):
  Calls prog 173 #[.int .i64 x] w fun e w'=>e=rK (.int .i64 (Dw x))/\w=w':=by
 have L:=Nk x;have d:=Zci x;have e:Dw x=if 0<Mh x then 2^(Mh x-1).toNat else 0:=rfl;obtain⟨l,c⟩:=eX (Mh x);rw[<-c]at L d e;have b:=Hd L;have a:=Hd e;clear L e c
 by_cases h0:0<l
 ·obtain⟨m,rfl⟩:∃m:Nat,l=(m:Int)+1:=⟨(l-1).toNat,by omega⟩;have e:Dw x=(2^m:Nat):=(by rw[a.out,iP h0];simp);rw[e];clear e;go_in;go_wp2_with fail;refine(b.out _).mono ?_;rintro e w' ⟨rfl,rfl⟩;go_wp2_with fail;go_ret;exact⟨Zce (Mq (by omega)),rfl⟩
 ·have e:Dw x=0:=(by rw[a.out,iN h0]);rw[e];clear e;go_in;go_wp2_with fail;refine(b.out _).mono ?_;rintro e w' ⟨rfl,rfl⟩;go_wp2_with fail;go_ret;exact⟨rfl,rfl⟩
theorem Yb (x:Int):0<=Dw x/\Dw x<=32768:=by
 unfold Dw
 split
 ·have h:=Zci x;obtain⟨m,hm⟩:=eX ((Mh x-1).toNat);rw[<-hm];have h1:=As (show m<=15 by omega);have e:(2:Int)^m=((2^m:Nat):Int):=(by simp);rw[e];obtain⟨p,hp⟩:=eX (2^m);rw[<-hp]at h1|-;omega
 ·omega
theorem Ti {x:Int}(h:Dw x≠0):0<=x/\x<=131070:=by
 by_cases hx:Bk x=true
 ·exact oD hx
 ·exfalso;apply h;rw[Dw,Mh,iN hx,iN (by omega)]
def Dt (x:Int):Int:=if Dw x=0 then-1 else x-Dw x
def Cb (x:Int):Int:=if Dw x=0 then-1 else x+Dw x
theorem Jx (x:Int)(w:World):
  Calls prog 109 #[.int .i64 x] w fun e w'=>e=rK (.int .i64 (Dt x))/\w=w':=by
 have H:=Ya x;have d:=Yb x;have a:= @Ti x;have e:Dt x=if Dw x=0 then-1 else x-Dw x:=rfl;obtain⟨l,f⟩:=eX (Dw x);rw[<-f]at H d e a;have c:=Hd H;have b:=Hd e;clear H e f
 by_cases h0:l=0
 ·subst h0;have e:Dt x= -1:=(by rw[b.out,iP rfl]);rw[e];clear e a d;go_in;go_wp2_with fail;refine(c.out _).mono ?_;rintro e w' ⟨rfl,rfl⟩;go_wp2_with fail;go_ret;exact⟨rfl,rfl⟩
 ·have e:Dt x=x-l:=(by rw[b.out,iN h0]);rw[e];have hx:=a h0;have g:(l==0)=false:=(by simp[h0]);clear e h0 a;go_in;go_wp2_with fail;refine(c.out _).mono ?_;rintro e w' ⟨rfl,rfl⟩;go_wp2_with fail;go_ret;exact⟨rfl,rfl⟩
theorem Id (x:Int)(w:World):
  Calls prog 110 #[.int .i64 x] w fun e w'=>e=rK (.int .i64 (Cb x))/\w=w':=by
 have H:=Ya x;have d:=Yb x;have a:= @Ti x;have e:Cb x=if Dw x=0 then-1 else x+Dw x:=rfl;obtain⟨l,f⟩:=eX (Dw x);rw[<-f]at H d e a;have c:=Hd H;have b:=Hd e;clear H e f
 by_cases h0:l=0
 ·subst h0;have e:Cb x= -1:=(by rw[b.out,iP rfl]);rw[e];clear e a d;go_in;go_wp2_with fail;refine(c.out _).mono ?_;rintro e w' ⟨rfl,rfl⟩;go_wp2_with fail;go_ret;exact⟨rfl,rfl⟩
 ·have e:Cb x=x+l:=(by rw[b.out,iN h0]);rw[e];have hx:=a h0;have g:(l==0)=false:=(by simp[h0]);clear e h0 a;go_in;go_wp2_with fail;refine(c.out _).mono ?_;rintro e w' ⟨rfl,rfl⟩;go_wp2_with fail;go_ret;exact⟨rfl,rfl⟩
def Nl (n:Int):Int:=if fits n.toNat=true then n-1 else-1
theorem Rf (n:Int)(w:World)(h1: -9223372036854775808<=n)(h2:n<=9223372036854775807):
  Calls prog 61 #[.int .i64 n] w fun e w'=>e=rK (.int .i64 (Nl n))/\w=w':=by
 have F:=Jw n
 by_cases hf:fits n.toNat=true
 ·have f:=Fs hf;have c:1<=n:=(by omega);have d:n<=65536:=(by omega);have e:Nl n=n-1:=(by rw[Nl,iP hf]);rw[e];rw[hf]at F;have b:=Hd (F · h1 h2);clear F hf f h1 h2 e;go_in;go_wp2_with fail;refine(b.out _).mono ?_;rintro e w' ⟨rfl,rfl⟩;go_wp2_with fail;go_ret;exact⟨rfl,rfl⟩
 ·have e:Nl n= -1:=(by rw[Nl,iN hf]);have a:fits n.toNat=false:=(by rw[<-cX];exact hf);rw[e];rw[a]at F;have b:=Hd (F · h1 h2);clear F hf a h1 h2 e;go_in;go_wp2_with fail;refine(b.out _).mono ?_;rintro e w' ⟨rfl,rfl⟩;go_wp2_with fail;go_ret;exact⟨rfl,rfl⟩
theorem Zcj (x j i:Nat):(anc x j).testBit i=if i<j+1 then decide (i<j)else x.testBit i:=by
 have hp:=pow_pos' j;unfold anc;rw[bL,Nat.testBit_two_pow_mul_add _ (show 2^j-1<2^(j+1) by rw[bF];omega)]
 split
 ·rw[Nat.testBit_two_pow_sub_one]
 ·rw[Nat.testBit_div_two_pow]
  congr 1;omega
theorem Zgo {x l:Nat}(h:IsLev x l)(c:l<=17)(hx:x<2^63):(x|||2^l)&&&(2^64-(2^(l+1)+1))=anc x (l+1):=by
 have h0:=anc_self h;apply Nat.eq_of_testBit_eq;intro i;have b:2^(l+1)<2^64:=Nat.pow_lt_pow_right (by omega) (by omega);rw[Nat.testBit_and,Nat.testBit_or,cG,Nat.testBit_two_pow_sub_succ b,cG,Zcj];have a:=Zcj x l i;rw[h0]at a
 by_cases h64:i<64
 ·by_cases h1:i<l
  ·rw[a,iP (by omega),iP (by omega)];have e2:decide (l+1=i)=false:=(by simp;omega);have e3:decide (i<l+1)=true:=(by simp;omega);rw[e2,e3];simp[h1,h64]
  ·by_cases h2:i=l
   ·subst h2;rw[a];simp;omega
   ·by_cases h3:i=l+1
    ·subst h3;simp
    ·rw[iN (by omega)];have e1:decide (l=i)=false:=(by simp;omega);have e2:decide (l+1=i)=false:=(by simp;omega);rw[e1,e2];simp[h64]
 ·have:x.testBit i=false:=Nat.testBit_lt_two_pow (cH hx (bQ (by omega) (by omega)));rw[iN (by omega),this];simp[h64]
theorem Pe (a b:Nat)(c:a<9223372036854775808)(d:b<9223372036854775808):bits .andNot .i64 (a:Int) (b:Int)=((a&&&(2^64-(b+1)):Nat):Int):=by
 have hx:a&&&(2^64-(b+1))<=a:=cD;show IntKind.i64.wrap ((BitVec.ofInt 64 (a:Int)&&& ~~~BitVec.ofInt 64 (b:Int)).toNat:Int)=_;rw[BitVec.toNat_and,BitVec.toNat_not,Ic a c,Ic b d,IntKind.wrap_i64,show 2^64-1-b=2^64-(b+1) by omega];omega
end Go.Proofs.YtfofaiommeckbaaGreat
namespace Go.Proofs.YtfofaiommeckbaaGreat
open Go.RowKit ShaM
theorem Zmz (n:Nat)(h1:1<=n)(h2:n<=31):bits .and .u64 ((18446744073709551616-n:Nat):Int) 31=((32-n:Nat):Int):=by
 show IntKind.u64.wrap ((BitVec.ofInt 64 ((18446744073709551616-n:Nat):Int)&&&BitVec.ofInt 64 ((31:Nat):Int)).toNat:Int)=_;rw[BitVec.toNat_and,BitVec.ofInt_natCast,BitVec.ofInt_natCast,BitVec.toNat_ofNat,BitVec.toNat_ofNat,bK (show 18446744073709551616-n<2^64 by omega),bK (show 31<2^64 by decide),IntKind.wrap_u64];have:=cI (18446744073709551616-n) 5;simp only[Nat.reducePow,Nat.reduceSub]at this;rw[this];omega
theorem Zmq (a b:Nat)(c:a<4294967296)(d:b<4294967296):bits .or .u32 (a:Int) (b:Int)=((a|||b:Nat):Int):=by
 have h2:a|||b<2^32:=cC (by omega) (by omega)
 show IntKind.u32.wrap ((BitVec.ofInt 32 (a:Int)|||BitVec.ofInt 32 (b:Int)).toNat:Int)=_;rw[BitVec.toNat_or,BitVec.ofInt_natCast,BitVec.ofInt_natCast,BitVec.toNat_ofNat,BitVec.toNat_ofNat,bK (show a<2^32 by omega),bK (show b<2^32 by omega),IntKind.wrap_u32];omega
theorem Mi (a b:Nat)(c:a<4294967296)(d:b<4294967296):bits .xor .u32 (a:Int) (b:Int)=((a^^^b:Nat):Int):=by
 have h2:a^^^b<2^32:=Nat.xor_lt_two_pow (by omega) (by omega);show IntKind.u32.wrap ((BitVec.ofInt 32 (a:Int)^^^BitVec.ofInt 32 (b:Int)).toNat:Int)=_;rw[BitVec.toNat_xor,BitVec.ofInt_natCast,BitVec.ofInt_natCast,BitVec.toNat_ofNat,BitVec.toNat_ofNat,bK (show a<2^32 by omega),bK (show b<2^32 by omega),IntKind.wrap_u32];omega
theorem Zck (a b:Nat)(c:a<4294967296)(d:b<4294967296):bits .and .u32 (a:Int) (b:Int)=((a&&&b:Nat):Int):=by
 have h2:a&&&b<2^32:=cJ cD c;show IntKind.u32.wrap ((BitVec.ofInt 32 (a:Int)&&&BitVec.ofInt 32 (b:Int)).toNat:Int)=_;rw[BitVec.toNat_and,BitVec.ofInt_natCast,BitVec.ofInt_natCast,BitVec.toNat_ofNat,BitVec.toNat_ofNat,bK (show a<2^32 by omega),bK (show b<2^32 by omega),IntKind.wrap_u32];omega
theorem Zgp (x n:Nat)(hx:x<4294967296)(h1:1<=n)(h2:n<=31)(w:World):
  Calls prog 290 #[.int .u32 (x:Nat),.int .i64 (-(n:Int))] w fun e w'=>e=rK (.int .u32 (rot x n:Nat))/\w'=w:=by
 obtain⟨m,b⟩:=eX (18446744073709551616-n);obtain⟨s,a⟩:=eX (32-n);have e1:IntKind.u64.wrap (-(n:Int))=(m:Int):=(by rw[IntKind.wrap_u64];omega);have e2:=Zmz n h1 h2;rw[<-b,<-a]at e2;have e3:(32:Int)-(s:Int)=(n:Int):=(by omega);have c:s<32:=(by omega);have d:=Hd a;clear b a;go_in;go_wp2_with fail;go_ret;refine⟨?_,rfl⟩;have c1:(x:Int)*2^s%4294967296=((x*2^s%4294967296:Nat):Int):=(by rw[Int.natCast_emod,Int.natCast_mul,cW];rfl);have c2:(x:Int)/2^n=((x/2^n:Nat):Int):=(by rw[cU,cW];rfl);have c3:x/2^n<4294967296:=cJ (cF _ _) hx;show Ending.returned (.int .u32 (bits BinOp.or IntKind.u32 ((x:Int)*2^s%4294967296) ((x:Int)/2^n)))=_;rw[c1,c2,Zmq _ _ (Nat.mod_lt _ (by omega)) c3,d.out,rot_or hx (by omega)]
theorem Ft (x n:Nat)(hx:x<4294967296)(h1:1<=n)(h2:n<=31)(w:World):
  Calls prog 273 #[.int .u32 (x:Nat),.int .i64 (n:Nat)] w fun e w'=>e=rK (.int .u32 (rot x n:Nat))/\w'=w:=by
 have R:=Hd (Zgp x n hx h1 h2 w);go_in;go_wp2_with fail;refine(R.out).mono ?_;rintro e w' ⟨rfl,rfl⟩;go_wp2_with fail;go_ret;exact⟨rfl,rfl⟩
end Go.Proofs.YtfofaiommeckbaaGreat
namespace Go.Proofs.YtfofaiommeckbaaGreat
open Go.RowKit WireM
def RdK (w:World)(B:Nat)(v:Value)(xs:List Value):Prop:=
 ∃a cap,v=.slice a xs.length cap/\xs.length<=cap/\cap<=maxLen/\
  ((xs=[]/\(a=none->cap=0))\/∃b off,a=some ⟨b,off,rI⟩/\b<B/\∀(j:Nat) u,xs[j]? =some u->w.cell? ⟨b,off+j,rI⟩=some u)
theorem RdK.rd {w:World} {B:Nat} {v:Value} {xs:List Value}(h:RdK w B v xs):Rd w v xs:=by
 obtain⟨a,cap,h1,h2,h3,h4|⟨b,off,h4,_,h5⟩⟩:=h
 ·exact⟨a,cap,h1,h2,h3,.inl h4⟩
 ·exact⟨a,cap,h1,h2,h3,.inr ⟨b,off,h4,h5⟩⟩
theorem Rd.k {w:World} {v:Value} {xs:List Value} {B:Nat}(h:Rd w v xs)(f:w.heap.size<=B):RdK w B v xs:=by
 obtain⟨a,cap,h1,h2,h3,c⟩:=h;refine⟨a,cap,h1,h2,h3,?_⟩;cases xs with
 |nil=>
  rcases c with c|⟨b,d,rfl,_⟩
  ·exact .inl c
  ·exact .inl ⟨rfl,fun h=>by cases h⟩
 |cons x xs=>
  rcases c with c|⟨b,d,rfl,e⟩
  ·cases c.1
  ·have:=World.block_lt_of_cell? w _ (e 0 x rfl);exact .inr ⟨b,d,rfl,by simp only at this;omega,e⟩
theorem RdK.keep {w w':World} {B:Nat} {v:Value} {xs:List Value}(h:RdK w B v xs)(hk:∀p:Addr,p.block<B->w'.cell? p=w.cell? p):RdK w' B v xs:=by
 obtain⟨a,cap,h1,h2,h3,c|⟨b,d,c,e,f⟩⟩:=h
 ·exact⟨a,cap,h1,h2,h3,.inl c⟩
 ·exact⟨a,cap,h1,h2,h3,.inr ⟨b,d,c,e,fun j u g=>(hk _ e).trans (f j u g)⟩⟩
def Only (B:Nat)(a w:World):Prop:=a.grownBy w (some B)
theorem Only.refl (B:Nat)(a:World):Only B a a:=World.grownBy.refl a _
theorem Only.trans {B:Nat} {a b c:World}(h:Only B a b)(k:Only B b c):Only B a c:=
 ⟨k.os.trans h.os,k.tape.trans h.tape,k.output.trans h.output,Nat.le_trans h.size k.size,fun i hi hne=>(k.block i (cH hi h.size) hne).trans (h.block i hi hne)⟩
theorem Only.of {B:Nat} {a w:World}(h:Below a.heap.size a w):Only B a w:=⟨h.os,h.tape,h.output,h.size,fun i hi _=>h.block i hi⟩
theorem Only.set {a:World} {B:Nat}(i:Nat)(u:Value):Only B a (a.setCell ⟨B,i,rI⟩ u):=
 ⟨rfl,rfl,rfl,by simp[World.setCell],fun k hk hne=>Below.heap_setCell _ _ _ _ (fun e=>hne (by rw[e]))⟩
theorem Only.below {B C:Nat} {a w:World}(h:Only B a w)(h1:C<=B)(h2:C<=a.heap.size):Below C a w:=
 ⟨h.os,h.tape,h.output,h.size,fun i hi=>h.block i (by omega) (fun e=>by simp at e;omega)⟩
theorem Only.cell {B:Nat} {a w:World}(h:Only B a w) {p:Addr}(hp:p.block<B)(hs:B<=a.heap.size):w.cell? p=a.cell? p:=
 World.cell?_of_block (h.block p.block (by omega) (fun e=>by simp at e;omega))
def RS (w:World)(B:Nat)(L:List Nat)(er:Nat):Prop:=∃v,Blk w B 189 #[v,.int .u8 (er:Nat)]/\RdK w B v (bvs L)
theorem RS.lt {w:World} {B:Nat} {L:List Nat} {er:Nat}(h:RS w B L er):B<w.heap.size:=by obtain⟨v,h,_⟩:=h;exact h.lt
theorem RS.below {w w':World} {B:Nat} {L:List Nat} {er:Nat}(h:RS w B L er)(hb:Below w.heap.size w w'):RS w' B L er:=by
 obtain⟨v,h1,h2⟩:=h;exact⟨v,h1.below hb h1.lt,h2.keep fun p hp=>hb.cell (Nat.lt_trans hp h1.lt)⟩
theorem Yc (L:List Nat)(n:Nat):bvs (L.take n)=(bvs L).take n:=by simp[bvs,List.map_take]
theorem Yd (L:List Nat)(n:Nat):bvs (L.drop n)=(bvs L).drop n:=by simp[bvs,List.map_drop]
theorem RdK.front {w:World} {B:Nat} {a:Option Addr} {cap n:Nat} {L:List Nat}(h:RdK w B (.slice a L.length cap) (bvs L))(m:n<=L.length):RdK w B (rC a n cap) (bvs (L.take n)):=by
 obtain⟨l,cap',g,h2,h3,c⟩:=h;simp only[Value.slice.injEq]at g;obtain⟨rfl,_,rfl⟩:=g;have i:(bvs (L.take n)).length=n:=(by rw[bvs_len,cQ];omega);rw[bvs_len]at h2;refine⟨a,cap,by rw[i],by rw[i];omega,h3,?_⟩;rcases c with⟨c,e⟩|⟨b,f,c,e,k⟩
 ·left
  refine⟨by rw[Yc,c];simp,e⟩
 ·right
  refine⟨b,f,c,e,?_⟩;intro j u d;rw[Yc,List.getElem?_take]at d
  split at d
  ·exact k j u d
  ·cases d
theorem RdK.rest {w:World} {B:Nat} {a:Option Addr} {cap n:Nat} {L:List Nat}(h:RdK w B (.slice a L.length cap) (bvs L))(m:n<=L.length):RdK w B (.slice (a.map (·.add n)) (L.length-n) (cap-n)) (bvs (L.drop n)):=by
 obtain⟨l,cap',f,h2,h3,c⟩:=h;simp only[Value.slice.injEq]at f;obtain⟨rfl,_,rfl⟩:=f;have g:(bvs (L.drop n)).length=L.length-n:=(by rw[bvs_len,List.length_drop]);rw[bvs_len]at h2;refine⟨_,cap-n,by rw[g],by rw[g];omega,by omega,?_⟩;rcases c with⟨c,d⟩|⟨b,e,rfl,d,k⟩
 ·left
  refine⟨by rw[Yd,c];simp,?_⟩;intro h;have:a=none:=by cases a with
   |none=>rfl
   |some a=>simp at h
  rw[d this];omega
 ·right
  refine⟨b,e+n,by simp[Addr.add_lit],d,?_⟩;intro j u i;rw[Yd,List.getElem?_drop]at i;rw[Nat.add_assoc];exact k _ u i
theorem RdK.rest0 {w:World} {B:Nat} {a:Option Addr} {n:Nat} {L:List Nat}(hn:L.length<=n):RdK w B (.slice a (L.length-n) 0) (bvs (L.drop n)):=by
 have hl:bvs (L.drop n)=[]:=(by rw[List.drop_eq_nil_of_le hn];rfl);rw[hl];refine⟨a,0,by simp;omega,by simp,aA _,.inl ⟨rfl,fun _=>rfl⟩⟩
theorem Fu (B:Nat)(L:List Nat)(b:Nat)(w:World)(h:RS w B L 0)(j:b<256):
  Calls prog 217 #[rE (some ⟨B,0,rI⟩),.int .u8 (b:Nat)] w fun e w'=>e=rK (.tuple #[])/\RS w' B L b/\Only B w w'/\w'.heap.size=w.heap.size:=by
 obtain⟨v,a,c⟩:=h;have i:=a.cell 1;have k:=a.frozen 1;simp only[cR,cS,aP]at i;have d:=Hd a;have f:=Hd c;clear a c;go_in;go_wp2_with fail
 go_end0
 refine⟨rfl,⟨v,?_,?_⟩,Only.set _ _,by simp[World.setCell]⟩
 ·exact d.out.set 1 _
 ·exact f.out.keep fun p g=>World.cell?_setCell_other _ _ _ _ (fun e=>by subst e;exact absurd g (cK _))
theorem Rg (B:Nat)(L:List Nat)(er:Nat)(n:Int)(w:World)(h:RS w B L er)(b:er≠0):
  Calls prog 200 #[rE (some ⟨B,0,rI⟩),.int .i64 n] w fun e w'=>e=rK (.tuple #[rC rI 0 0,.bool false])/\w=w':=by
 obtain⟨v,a,d⟩:=h;have f:=a.cell 1;have c:((er:Int) !=0)=true:=(by simp;omega);simp only[cR,cS,aP]at f;clear a d b;go_in;go_wp2_with fail;go_ret2;exact⟨rfl,rfl⟩
theorem Zgq (B:Nat)(L:List Nat)(n:Int)(w:World)(h:RS w B L 0)(j:n<0):
  Calls prog 200 #[rE (some ⟨B,0,rI⟩),.int .i64 n] w fun e w'=>e=rK (.tuple #[rC rI 0 0,.bool false])/\RS w' B L 1/\Only B w w'/\w'.heap.size=w.heap.size:=by
 have f:=Hd (Fu B L 1 w h (by omega));obtain⟨v,a,g⟩:=h;have i:=a.cell 1;simp only[cR,cS,aP]at i;clear a g;go_in;go_wp2_with fail;refine f.out.mono ?_;rintro e k ⟨rfl,h1,h2,h3⟩;have b:=Hd h1;have c:=Hd h2;have d:=Hd h3;clear h1 h2 h3;go_wp2_with fail;go_ret2;exact⟨rfl,b.out,c.out,d.out⟩
theorem Mr (B:Nat)(L:List Nat)(n:Int)(w:World)(h:RS w B L 0)(m:(L.length:Int)<n):
  Calls prog 200 #[rE (some ⟨B,0,rI⟩),.int .i64 n] w fun e w'=>e=rK (.tuple #[rC rI 0 0,.bool false])/\RS w' B L 4/\Only B w w'/\w'.heap.size=w.heap.size:=by
 have g:=Hd (Fu B L 4 w h (by omega));obtain⟨v,b,j⟩:=h;obtain⟨a,cap,rfl,_⟩:=j;rw[bvs_len]at b;have k:=b.cell 0;have l:=b.cell 1;simp only[cR,cS,aP]at k l;have i:0<=n:=(by omega);clear b;go_in;go_wp2_with fail;refine g.out.mono ?_;rintro e o ⟨rfl,h1,h2,h3⟩;have c:=Hd h1;have d:=Hd h2;have f:=Hd h3;clear h1 h2 h3;go_wp2_with fail;go_ret2;exact⟨rfl,c.out,d.out,f.out⟩
theorem Rh (B:Nat)(L:List Nat)(n:Nat)(w:World)(h:RS w B L 0)(l:n<=L.length):
  Calls prog 200 #[rE (some ⟨B,0,rI⟩),.int .i64 (n:Nat)] w fun e w'=>(∃v',e=rK (.tuple #[v',.bool true])/\RdK w' B v' (bvs (L.take n)))/\RS w' B (L.drop n) 0/\Only B w w'/\w'.heap.size=w.heap.size:=by
 obtain⟨v,b,d⟩:=h;obtain⟨a,cap,rfl,g,i,j⟩:=id d;rw[bvs_len]at b g d;have s:=b.cell 0;have t:=b.cell 1;have x:=b.frozen 0;simp only[cR,cS,aP]at s t;have q:L.length<=9223372036854775807:=(by unfold maxLen at i;omega);have o:=Hd b;have f:=Hd d;have keep:Hid (∀u (p:Addr),p.block<B->(w.setCell ⟨B,0,rI⟩ u).cell? p=w.cell? p):=Hd (fun u p r=>World.cell?_setCell_other _ _ _ _ (fun e=>by subst e;exact absurd r (cK _)));clear b d j;go_in;go_wp2_with fail;all_goals go_ret2
 ·have k:cap=n:=(by assumption);have c:=f.out.front l;have m:=RdK.rest0 (w:=w.setCell ⟨B,0,rI⟩ (Value.slice a (L.length-n) 0)) (B:=B) (a:=a) (n:=n) (L:=L) (by omega);rw[k]at c;refine⟨⟨_,rfl,c.keep (keep.out _)⟩,⟨_,o.out.set 0 _,m⟩,Only.set _ _,by simp[World.setCell]⟩
 ·refine⟨⟨_,rfl,(f.out.front l).keep (keep.out _)⟩,⟨_,o.out.set 0 _,?_⟩,Only.set _ _,by simp[World.setCell]⟩;exact(f.out.rest l).keep (keep.out _)
def Du (L:List Nat):Nat:=L.foldl (fun a c=>a*256+c) 0
theorem Nm (L:List Nat)(c:Nat):Du (L++[c])=Du L*256+c:=by simp[Du]
theorem Nn:∀(k:Nat) (L:List Nat),L.length=k->(∀n∈L,n<256)->Du L<256^k:=by
 intro k
 induction k with
 |zero=>intro L h _;rw[cN h];decide
 |succ k ih=>
  intro L h b;have a:L≠[]:=(by intro e;subst e;simp at h);rw[<-List.dropLast_concat_getLast a,Nm];have h1:=ih L.dropLast (by simp[h]) (fun n c=>b n (List.dropLast_subset _ c));have h2:=b _ (List.getLast_mem a);rw[bF];omega
theorem Zm0 (a c:Nat)(hc:c<256):a*256|||c=a*256+c:=by
 have:=Nat.two_pow_add_eq_or_of_lt (i:=8) (b:=c) hc a;rw[bL]at this;exact this.symm
theorem Zan {L:List Nat} {r:Nat}(h:r<L.length):L.take (r+1)=L.take r++[L.getD r 0]:=by
 rw[cM h,aS,bB h];rfl
theorem Zlv {r:Nat}(h:r<=7):256^r<=72057594037927936:=by
 have:=bQ (show 0<256 by omega) h;exact this
theorem Kz (v:Value)(L:List Nat)(w:World)(h:Rd w v (bvs L))(I:L.length<=8)(B:∀n∈L,n<256):
  Calls prog 201 #[v] w fun e w'=>e=rK (.int .u64 (Du L:Nat))/\w=w':=by
 have d:=h.cases;obtain⟨a,cap,rfl,j,H,t⟩:=h;rw[bvs_len]at j d|-;obtain⟨k,hk⟩:=eX L.length;rw[<-hk]at j I d|-;have D:=Hd d;have z:=Hd hk;have A:=Hd B;clear d t hk B;go_in;go_wp2_with fail
 go_loopg [3,8] k (fun q m i wr=>∃r:Nat,r+q=k/\i=.int .i64 (r:Int)/\m=.int .u64 (Du (L.take r):Nat)/\wr=w)
 case atStart=>exact⟨0,by omega,rfl,rfl,rfl⟩
 case round=>
  obtain⟨r,M,rfl,rfl,rfl⟩:=hrel
  by_cases hrk:r<k
  ·have g:r<L.length:=(by have:=z.out;omega);have o:=Nn r (L.take r) (by rw[cQ];omega) (fun n s=>A.out n (cL s));have J:=Zlv (show r<=7 by omega);have y:=Zan g;have p:=Gl A.out (by omega) r;obtain⟨b,f,rfl,G⟩:∃b f,a=some ⟨b,f,rI⟩/\wr.cell? ⟨b,f+r,rI⟩=some (.int .u8 ((L.getD r 0:Nat):Int)):=by
    rcases D.out with⟨_,_,u,h0⟩|⟨b,f,cap',_,_,_,u,_,p⟩
    ·rw[h0]at g;simp at g
    ·simp only[Value.slice.injEq]at u;exact⟨b,f,u.1,p r hrk⟩
   obtain⟨c,l⟩:=eX (L.getD r 0);obtain⟨x,hx⟩:=eX (Du (L.take r));rw[<-l]at y G p;rw[<-hx]at o|-;have K:x<72057594037927936:=(by omega);have C:=u64_or_nat (x*256) c (by omega) (by omega);rw[Zm0 x c p]at C;have s:((x*256:Nat):Int)=(x:Int)*256:=(by omega);rw[s]at C;have F:=Hd hx;have E:=Hd y;clear l hx y o J s;go_wp2_with fail;go_roundg (gk-1);case measure=>omega
   case rel=>
    refine⟨r+1,by omega,by go_num,?_,rfl⟩;rw[E.out,Nm,<-F.out];exact Gk (by omega)
  ·obtain rfl:r=k:=(by omega);go_wp2_with fail;go_ret;refine⟨Zce ?_,rfl⟩;rw[z.out,List.take_length]
theorem Jy (v:Value)(L:List Nat)(w:World)(h:Rd w v (bvs L)):
  Calls prog 101 #[v] w fun e w'=>e=rK (rE (some ⟨w.heap.size,0,rI⟩))/\RS w' w.heap.size L 0/\Below w.heap.size w w':=by
 have b:=bvs_len L;obtain⟨a,cap,rfl,_⟩:=id h;rw[b]at h|-;have c:=Hd h;clear h b;go_in;go_wp2_with fail;go_ret;exact⟨rfl,⟨_,Blk.new _ _ _,(c.out.k lR).keep fun p d=>World.cell?_alloc_lt w _ p d⟩,bR.alloc lR _⟩
theorem Gm (B:Nat)(L:List Nat)(er:Nat)(w:World)(h:RS w B L er):
  Calls prog 155 #[rE (some ⟨B,0,rI⟩)] w fun e w'=>e=rK (.int .u8 (er:Nat))/\w=w':=by
 obtain⟨v,a,b⟩:=h;have c:=a.cell 1;simp only[cR,cS,aP]at c;clear a b;go_in;go_wp2_with fail;go_ret;exact⟨rfl,rfl⟩
def Zgr (L:List Nat)(er:Nat):Nat:=if er≠0 then er else if L=[]then 0 else 5
theorem Zj7 (B:Nat)(L:List Nat)(er:Nat)(w:World)(h:RS w B L er):
  Calls prog 122 #[rE (some ⟨B,0,rI⟩)] w fun e w'=>e=rK (.int .u8 (Zgr L er:Nat))/\w=w':=by
 have c:=Hd (Gm B L er w h);obtain⟨v,b,g⟩:=h;obtain⟨a,cap,rfl,_⟩:=g;rw[bvs_len]at b;have f:=b.cell 0;have i:=b.cell 1;simp only[cR,cS,aP]at f i;clear b;unfold Zgr
 by_cases he:er=0
 ·subst he
  by_cases hl:L=[]
  ·subst hl;rw[iN (by simp),iP rfl];simp only[cO]at f;go_in;go_wp2_with fail;refine c.out.mono ?_;rintro e w' ⟨rfl,rfl⟩;go_wp2_with fail;go_ret;exact⟨rfl,rfl⟩
  ·rw[iN (by simp),iN hl];have d:0<L.length:=List.length_pos_iff.2 hl;clear hl;go_in;go_wp2_with fail;refine c.out.mono ?_;rintro e w' ⟨rfl,rfl⟩;go_wp2_with fail;go_ret;exact⟨rfl,rfl⟩
 ·rw[iP he];have j:((er:Int) !=0)=true:=(by simp;omega);clear he;go_in;go_wp2_with fail;refine c.out.mono ?_;rintro e w' ⟨rfl,rfl⟩;go_wp2_with fail;go_ret;exact⟨rfl,rfl⟩
def Sy (b:Nat)(M:List Nat):Option Nat×List Nat×Nat:=
 if b/64=3 then(none,M,3)
 else if M.length<2^(b/64)-1 then(none,M,4)
 else if lenS (Du (b%64::M.take (2^(b/64)-1)):Nat)=2^(b/64)then(some (Du (b%64::M.take (2^(b/64)-1))),M.drop (2^(b/64)-1),0)
 else(none,M.drop (2^(b/64)-1),3)
def Znh (B b k:Nat)(M:List Nat)(w:World)(a':Act)(w':World):Prop:=
 ∃(i:Nat) (v:Value) (sz kd:Int),i<=k/\RdK w' B v (bvs [b])/\RS w' B M 0/\Only B w w'/\sz=((2^i:Nat):Int)/\kd=((k-i:Nat):Int)/\
  ∃(x1 x2 x3 x5 x8 x9 x10 x11 x12 x13 x14 x15 x16 x17 x18 x19 x20 x21 x22 x23 x24 x25 x26 x27 x28 x29 x30 x31 x32 x33 x34 x35 x36 x37 x38 x39 x40 x41 x42 x43 x44 x45 x46 x47 x48 x49 x50 x51 x52 x53 x54 x55:Value),a'= {tmps:=#[rE (some ⟨B,0,rI⟩),x1,x2,x3,v,x5,.int .i64 sz,.int .u8 kd,x8,x9,x10,x11,x12,x13,x14,x15,x16,x17,x18,x19,x20,x21,x22,x23,x24,x25,x26,x27,x28,x29,x30,x31,x32,x33,x34,x35,x36,x37,x38,x39,x40,x41,x42,x43,x44,x45,x46,x47,x48,x49,x50,x51,x52,x53,x54,x55],defers:=[]}
def Znb (B:Nat)(w:World)(r:Option Nat×List Nat×Nat)(e:Ending)(w':World):Prop:=
 e=rK (.tuple #[.int .i64 ((r.1.getD 0:Nat):Int),.bool r.1.isSome])/\RS w' B r.2.1 r.2.2/\Only B w w'
theorem Vw (B b:Nat)(M:List Nat)(w:World)(h:RS w B (b::M) 0)(hL:∀n∈b::M,n<256):
  Calls prog 282 #[rE (some ⟨B,0,rI⟩)] w (Znb B w (Sy b M)):=by
 have hb:b<256:=hL b (by simp);have hM:∀n∈M,n<256:=fun n G=>hL n (by simp[G]);have T1:=Rh B (b::M) 1 w h (by simp);simp only[List.take_succ_cons,List.take_zero,List.drop_succ_cons,List.drop_zero]at T1;obtain⟨k,hk⟩:=eX (b/64);have aI:k<=3:=(by omega);have aJ:(b:Int)/64=(k:Int):=(by omega);have l:bits .and .u8 (b:Int) 63=((b%64:Nat):Int):=by
  have:=u8_and_nat b 63 hb (by omega);rw[show(63:Nat)=2^6-1 from rfl,cI]at this;exact this
 have aA:=Hd T1;have J:=Hd l;have HM:=Hd hM;have W:=Hd hk;clear T1 hk hL h l hM;go_in;go_wp2_with fail;refine Es 0 (Znh B b k M w) (fun ac _=>(intOf (ac.tmps.getD 7 undef)).toNat) rfl ?_ ?_
 ·rintro ac X ⟨i,v,sz,kd,hi,f,u,a,d,D,hf⟩
  iterate 52 (obtain⟨_,hf⟩:=hf)
  subst hf;have x:=Hd f;have c:=Hd u;have F:=Hd a;clear f u a
  by_cases hik:i<k
  ·have hp:2^i<=2^2:=As (by omega);have he:2^(i+1)=2^i*2:=bF _ _;obtain⟨p,T⟩:=eX (2^i);obtain⟨j,hj⟩:∃j,k-i=j+1:=⟨k-i-1,by omega⟩;rw[<-T]at hp he d;rw[hj]at D;have o:kd=(j:Int)+1:=(by omega);have aH:j<=3:=(by omega);subst d o;have HE:=Hd he;have HJ:=Hd hj;clear T he hj D;go_wp2_with fail;refine wp_goto ⟨rfl,⟨i+1,v,_,_,by omega,x.out,c.out,F.out,?c1,?c2,_,_,_,_,_,_,_,_,_,_,_,_,_,_,_,_,_,_,_,_,_,_,_,_,_,_,_,_,_,_,_,_,_,_,_,_,_,_,_,_,_,_,_,_,_,_,_,_,_,_,_,_,rfl⟩,?_⟩;case c1=>rw[HE.out];omega
   case c2=>have:=HJ.out;omega
   show(j:Int).toNat<((j:Int)+1).toNat;omega
  ·obtain rfl:i=k:=(by omega);have o:kd=0:=(by omega);subst o;clear D hik;obtain⟨b1,g,c1,_,_,_,rfl,_,C⟩:∃b1 g c1,0<(1:Nat)/\1<=c1/\c1<=maxLen/\v=rC (some ⟨b1,g,rI⟩) 1 c1/\b1<B/\X.cell? ⟨b1,g,rI⟩=some (.int .u8 (b:Nat)):=by
    obtain⟨a',cap',e1,e2,e3,e4|⟨b1,g,e4,e5,e6⟩⟩:=x.out
    ·exact absurd e4.1 (by simp[bvs])
    ·exact⟨b1,g,cap',by omega,by simpa using e2,e3,by rw[e1,e4];rfl,e5,e6 0 _ rfl⟩
   by_cases h3:i=3
   ·have e8:sz=8:=(by rw[d,h3];rfl);subst e8;have hF:=Hd (Fu B M 3 X c.out (by omega));have A:Hid (Sy b M=(none,M,3)):=Hd (by rw[Sy,iP (by have:=W.out;omega)]);clear d h3;go_wp2_with fail;refine hF.out.mono ?_;rintro e V ⟨rfl,h1,h2,-⟩;have H:=Hd h1;have I:=Hd h2;clear h1 h2;go_wp2_with fail;simp only[Exit.jump];go_ret2;rw[A.out];exact⟨rfl,H.out,F.out.trans I.out⟩
   ·obtain⟨s,hs⟩:=eX (2^i-1);have aF:=two_pow_pos i;have aD:2^i<=2^2:=As (by omega);have es:sz=(s:Int)+1:=(by omega);have N:2^i=s+1:=(by omega);subst es;have aL:s<=3:=(by omega);have R:¬b/64=3:=(by have:=W.out;omega);have Y:=Hd N;have HS:=Hd hs;have K:=Hd R;clear d h3 hs aF aD N R
    by_cases hMs:M.length<s
    ·have hT:=Hd (Mr B M (s:Int) X c.out (by omega));have A:Hid (Sy b M=(none,M,4)):=Hd (by rw[Sy,iN K.out,iP (by rw[<-W.out,<-HS.out];exact hMs)]);go_wp2_with fail;refine hT.out.mono ?_;rintro e V ⟨rfl,h1,h2,-⟩;have H:=Hd h1;have I:=Hd h2;clear h1 h2;go_wp2_with fail;simp only[Exit.jump];go_ret2;rw[A.out];exact⟨rfl,H.out,F.out.trans I.out⟩
    ·have hT:=Hd (Rh B M s X c.out (by omega));go_wp2_with fail;refine hT.out.mono ?_;rintro e V ⟨⟨v2,rfl,y⟩,h1,h2,U⟩;have aC:=c.out.lt;have aG:=(h2.cell (p:=⟨b1,g,rI⟩) (by assumption) (by omega)).trans C;have H:=Hd h1;have I:=Hd (F.out.trans h2);have L:=Hd y;clear h1 h2 y U aC C;have P:=J.out;go_wp2_with (at_builtin;refine Ak rfl (.tmp 44) (.tmp 45) 28 rfl V.heap.size 5 _ 1 Cq _ [.int .u8 ((b%64:Nat):Int)] rfl ?c1 _ (bvs (M.take s)) rfl (L.out.rd.alloc _) (Ch _) ?c2 ?c3 ?_);case c1=>exact Own.full (cs:=#[.int .u8 ((b%64:Nat):Int)]) rfl lR (by unfold maxLen;simp) rfl
     case c2=>simp[bvs_len];omega
     case c3=>simp
     rintro v3 w3 t-Q;have m:Below V.heap.size V w3:=(bR.alloc lR _).trans Q;have O:=HM.out;have q:(b%64::M.take s).length=s+1:=(by rw[List.length_cons,cQ];omega);have r:∀n∈b%64::M.take s,n<256:=by
      intro n G;simp only[List.mem_cons]at G;rcases G with rfl|G
      ·omega
      ·exact O n (cL G)
     have hN:=Kz v3 (b%64::M.take s) w3 t.rd (by omega) r;have S:=Nn (s+1) _ q r;have aE:256^(s+1)<=256^4:=bQ (by omega) (by omega);obtain⟨n',E⟩:∃n',n'=Du (b%64::M.take s):=⟨_,rfl⟩;rw[<-E]at hN S;have aK:n'<=4294967295:=(by omega);have hS:=Ni (n':Int);have A:Hid (Sy b M=if lenS (n':Nat)=s+1 then(some n',M.drop s,0)else(none,M.drop s,3)):=Hd (by
      have e1:2^(b/64)=s+1:=(by rw[<-W.out,Y.out]);rw[Sy,iN K.out,e1,Nat.add_sub_cancel,iN hMs,<-E])
     obtain⟨z,U⟩:=eX (lenS (n':Int));rw[<-U]at hS A;have aM:z<=4:=(by rw[U];unfold lenS;split<;>(try split)<;>(try split)<;>omega);have H3:=Hd (H.out.below m);have H4:=Hd (I.out.trans (Only.of m));have HN:=Hd hN;have Z:=Hd hS;clear t Q m O r q hN S aE E hS U P;go_wp2_with fail;refine HN.out.mono ?_;rintro e w' ⟨rfl,rfl⟩;go_wp2_with fail;refine(Z.out _).mono ?_;rintro e w' ⟨rfl,rfl⟩
     by_cases hzs:z=s+1
     ·subst hzs;go_wp2_with fail;simp only[Exit.jump];go_ret2;rw[A.out,iP trivial];exact⟨rfl,H3.out,H4.out⟩
     ·have hc:((z:Int) !=(s:Int)+1)=true:=(by simp;omega);have hF:=Hd (Fu B (M.drop s) 3 _ H3.out (by omega));have aB:=Hd hzs;clear hzs;go_wp2_with fail;refine hF.out.mono ?_;rintro e w5 ⟨rfl,h1,h2,-⟩;have H5:=Hd h1;have H6:=Hd h2;clear h1 h2;go_wp2_with fail;simp only[Exit.jump];go_ret2;rw[A.out,iN aB.out];exact⟨rfl,H5.out,H4.out.trans H6.out⟩
 ·intro pass;have HP:=Hd pass;clear pass;go_wp2_with fail;refine aA.out.mono ?_;rintro e w1 ⟨⟨v1,rfl,f⟩,u,a,d⟩;have x:=Hd f;have c:=Hd u;have F:=Hd a;obtain⟨b1,g,c1,_,_,_,rfl,_,C⟩:∃b1 g c1,0<(1:Nat)/\1<=c1/\c1<=maxLen/\v1=rC (some ⟨b1,g,rI⟩) 1 c1/\b1<w1.heap.size/\w1.cell? ⟨b1,g,rI⟩=some (.int .u8 (b:Nat)):=by
   rcases f.rd.cases with⟨_,_,_,h0⟩|⟨b1,g,c1,h1,h2,h3,h4,h5,h6⟩
   ·simp at h0
   ·exact⟨b1,g,c1,h1,h2,h3,h4,h5,h6 0 (by simp)⟩
  clear f u a d;go_wp2_with fail;go_step3;simp only[Exit.then]
  apply_assumption
  refine HP.out _ _ ⟨0,_,_,_,by omega,x.out,c.out,F.out,rfl,rfl,_,_,_,_,_,_,_,_,_,_,_,_,_,_,_,_,_,_,_,_,_,_,_,_,_,_,_,_,_,_,_,_,_,_,_,_,_,_,_,_,_,_,_,_,_,_,_,_,_,_,_,_,rfl⟩
open ShaM
def qvs (L:List Nat):List Value:=L.map fun n:Nat=> .int .u64 (n:Int)
@[simp] theorem qvs_len (L:List Nat):(qvs L).length=L.length:=by simp[qvs]
theorem Hl {L:List Nat} {i:Nat}(h:i<L.length):(qvs L)[i]? =some (.int .u64 ((L.getD i 0:Nat):Int)):=by simp[qvs,aS,h]
theorem Zao (L M:List Nat):qvs (L++M)=qvs L++qvs M:=by simp[qvs]
theorem Zgs (L:List Nat)(d:Nat):qvs (L++[d])=qvs L++[.int .u64 (d:Int)]:=by simp[qvs]
theorem Vx (L:List Nat):∀u∈qvs L,u.oneCell'=true:=by
 intro u hu;simp only[qvs,List.mem_map]at hu;obtain⟨n,_,rfl⟩:=hu
 rfl
theorem Zmr:Elem prog 181 92 (.int .u64 0) 8:=⟨underlying181,by kernel_rfl,rfl,by omega⟩
theorem Rd.lit' (w:World)(N:Nat)(cs:Array Value)(t:TypeId)(xs:List Value)(n:Nat)(a:N=w.heap.size)(h:cs.toList=xs)(b:n=xs.length)(c:n<=maxLen):Rd (w.alloc (.cells cs t)) (rC (some ⟨N,0,rI⟩) n n) xs:=by
 subst a;have e:n=cs.size:=(by rw[b,<-h,Array.length_toList]);have:=(Own.full (w:=w) (B:=0) (e:=t) (cs:=cs) rfl (aA _) (by omega) e).rd;rw[h]at this;exact this
theorem Rd.lit (w:World)(cs:Array Value)(t:TypeId)(xs:List Value)(n:Nat)(h:cs.toList=xs)(hn:n=xs.length)(hm:n<=maxLen):Rd (w.alloc (.cells cs t)) (rC (some ⟨w.heap.size,0,rI⟩) n n) xs:=Rd.lit' w _ cs t xs n rfl h hn hm
theorem Zgt (x n:Nat)(w:World)(hx:x<4294967296)(j:n<=32):
  Calls prog 195 #[.int .u64 (x:Nat),.int .i64 (n:Nat)] w fun e w'=>e=rK (.int .u64 (rot x n:Nat))/\w'=w:=by
 go_in;go_wp2_with fail
 go_loopg [0,5] n (fun q h iv wr=>∃i y:Nat,i+q=n/\iv=.int .i64 (i:Nat)/\h=.int .u64 (y:Nat)/\y=rot x i/\wr=w)
 case atStart=>exact⟨0,x,by omega,rfl,rfl,(rot_zero x).symm,rfl⟩
 case round=>
  obtain⟨i,y,c,rfl,rfl,b,rfl⟩:=hrel;have d:=rot_lt hx (show i<=32 by omega);rw[<-b]at d;have f:=Hd c;have g:=Hd b
  by_cases hlt:i<n
  ·have a:decide ((i:Int)<(n:Int))=true:=(by rw[dI];omega);clear c b;go_wp2_with fail;go_roundg (gk-1);case measure=>have:=f.out;omega
   case rel=>exact⟨i+1,y/2+y%2*2147483648,by have:=f.out;omega,by go_num,by go_num,by rw[rot_succ hx (by omega),g.out],rfl⟩
  ·have a:decide ((i:Int)<(n:Int))=false:=(by rw[dN];omega);obtain rfl:i=n:=(by omega);clear c b;go_wp2_with fail;go_ret;exact⟨by rw[g.out];rfl,rfl⟩
theorem Zcl (x n:Nat)(w:World)(hx:x<4294967296)(k:n<=32):
  Calls prog 196 #[.int .u64 (x:Nat),.int .i64 (n:Nat)] w fun e w'=>e=rK (.int .u64 (x/2^n:Nat))/\w'=w:=by
 go_in;go_wp2_with fail
 go_loopg [0,5] n (fun q j iv wr=>∃i y:Nat,i+q=n/\iv=.int .i64 (i:Nat)/\j=.int .u64 (y:Nat)/\y=x/2^i/\wr=w)
 case atStart=>exact⟨0,x,by omega,rfl,rfl,by simp,rfl⟩
 case round=>
  obtain⟨i,y,d,rfl,rfl,c,rfl⟩:=hrel;have b:y<=x:=(by rw[c];exact cF _ _);have h:y<4294967296:=(by omega);have f:=Hd d;have g:=Hd c
  by_cases hlt:i<n
  ·have a:decide ((i:Int)<(n:Int))=true:=(by rw[dI];omega);clear d c b;go_wp2_with fail;go_roundg (gk-1);case measure=>have:=f.out;omega
   case rel=>exact⟨i+1,y/2,by have:=f.out;omega,by go_num,by go_num,by rw[g.out,Nat.div_div_eq_div_mul,bF],rfl⟩
  ·have a:decide ((i:Int)<(n:Int))=false:=(by rw[dN];omega);obtain rfl:i=n:=(by omega);clear d c b;go_wp2_with fail;go_ret;exact⟨by rw[g.out];rfl,rfl⟩
theorem Zcm (w:World):
  Calls prog 143 #[] w fun e w'=>∃v1 v2,e=rK (.tuple #[v1,v2])/\Rd w' v1 (qvs HL0)/\Rd w' v2 (qvs KL)/\Below w.heap.size w w':=by
 go_in;go_wp2_with fail;go_ret2;have a:(w.alloc (.cells (qvs HL0).toArray 92)).heap.size=w.heap.size+1:=(by simp);refine⟨_,_,rfl,(Rd.lit w _ 92 (qvs HL0) 8 (by kernel_rfl) (by kernel_rfl) (by unfold maxLen;omega)).alloc _,?_,((Below.refl w.heap.size w).alloc lR _).alloc (by simp) _⟩;refine Rd.lit' _ _ _ 92 (qvs KL) 64 (by simp) (by kernel_rfl) (by kernel_rfl) (by unfold maxLen;omega)
