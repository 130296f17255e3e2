import Derived.Test.YtfofaiommeckbaaGreatZSliceProves00
import Derived.ProofKit
import Derived.OpenShut
import Derived.ShutString
import Derived.ChangeOld
import Derived.Test.YtfofaiommeckbaaGreatZSliceProves02
import Derived.Deep.QuietTactic
import Derived.BigQuiet
import Derived.Deep.LoopGhost
import Derived.Deep.RegionWith
open Go.Value renaming slice → q9, int → rA, pointer → rB
open Go.IntKind renaming i64 → rC, u8 → rD, u64 → rE
open Option renaming none → rF
open Go.Proofs.Tryz
open Nat renaming lt_or_ge → aB, zero_le → aA, le_trans → bM, mod_eq_of_lt → aS, lt_of_le_of_lt → bN, div_le_self → bO, lt_irrefl → bP, pow_succ → aN
open List renaming getD_eq_getElem?_getD → aH, getElem?_eq_getElem → aI, getElem_mem → aJ, take_succ_eq_append_getElem → bQ, eq_nil_of_length_eq_zero → bS, length_nil → bT, take_of_length_le → bU, append_nil → bV, append_assoc → bW, length_append → aG, length_cons → bY, getElem?_toArray → bZ, getElem?_cons_zero → cA, getElem?_cons_succ → cB, mem_of_mem_take → cC, length_take → cD, take_length → cE
set_option linter.unusedVariables false
set_option maxRecDepth 100000
set_option maxHeartbeats 40000000
namespace Go.Proofs.YtfofaiommeckbaaGreat
open Go.ChangeShapes Go.WideShapes Go.ChangeAt Go.RowKit
section
def bvs (L:List Nat):List Value:=L.map fun n:Nat=> rA rD (n:Int)
def ivs (k:IntKind)(L:List Int):List Value:=L.map fun n=> .int k n
theorem Yn {a:Int}(h:(Lit.int .u8 a).wf=true):∃n:Nat,n<256∧a=(n:Int):=by
 have:=bounds_u8 h;exact⟨a.toNat,by omega,by omega⟩
theorem Zj1 {a:Int}(h:(Lit.int .i64 a).wf=true): -9223372036854775808≤a∧a≤9223372036854775807:=by
 have:=bounds_i64 h;omega
section
variable {H:Type} {enc:TypeId×Value→H} {P:Program}
end
end
end Go.Proofs.YtfofaiommeckbaaGreat
namespace Go.Proofs.YtfofaiommeckbaaGreat
open Go.RowKit
@[simp] theorem bvs_len (L:List Nat):(bvs L).length=L.length:=by simp[bvs]
theorem Zkk {L:List Nat} {i:Nat}(h:i<L.length):(bvs L)[i]? =some (rA rD ((L[i]:Nat):Int)):=by simp[bvs,h]
theorem Rk {L:List Nat} {i:Nat}(h:i<L.length):(bvs L)[i]? =some (rA rD ((L.getD i 0:Nat):Int)):=by simp[bvs,h]
theorem Cf (L M:List Nat):bvs (L++M)=bvs L++bvs M:=by simp[bvs]
theorem Bu (L:List Nat):∀u∈bvs L,u.oneCell'=true:=by
 intro u hu;obtain⟨n,_,rfl⟩:=List.mem_map.1 hu
 rfl
theorem Hh {L:List Nat} {m:Nat}(h:∀n∈L,n<m)(h0:0<m)(i:Nat):L.getD i 0<m:=by
 rcases aB i L.length with hi|hi
 ·rw[aH,aI hi];exact h _ (aJ hi)
 ·rw[aH,List.getElem?_eq_none hi];exact h0
theorem Rd.cases {w:World} {v:Value} {L:List Nat}(h:Rd w v (bvs L)):
  (∃a cap,v=.slice a 0 cap∧L=[])∨∃b c cap,0<L.length∧L.length≤cap∧cap≤maxLen∧v=q9 (some ⟨b,c,rF⟩) L.length cap∧b<w.heap.size∧
   ∀i,i<L.length→w.cell? ⟨b,c+i,rF⟩=some (rA rD ((L.getD i 0:Nat):Int)):=by
 have f:=h.lt;obtain⟨a,cap,rfl,h1,h2,h3⟩:=h
 by_cases hL:L=[]
 ·subst hL;exact .inl ⟨a,cap,rfl,rfl⟩
 ·right
  have d:0<L.length:=List.length_pos_iff.2 hL;have e:bvs L≠[]:=(by intro h;apply hL;simpa [bvs]using h);rcases h3 with h|⟨b,c,rfl,j⟩
  ·exact absurd h.1 e
  ·rcases f with h|⟨l,off',cap',g,m⟩
   ·exact absurd h e
   ·simp only[Value.slice.injEq,Option.some.injEq,Addr.mk.injEq]at g;refine⟨b,c,cap,d,by simpa using h1,h2,by simp,by omega,?_⟩;intro i k;exact j i _ (Rk k)
theorem Zg5 {L M:List Nat} {i:Nat}(hi:i<L.length)(hm:i<M.length)(h:L.take i=M.take i)(he:L.getD i 0=M.getD i 0):L.take (i+1)=M.take (i+1):=by
 rw[bQ hi,bQ hm,h];simp only[aH,aI hi,aI hm,Option.getD_some]at he;rw[he]
theorem Zkl {L M:List Nat} {i:Nat}(he:L.getD i 0≠M.getD i 0):L≠M:=by
 intro h;subst h;exact he rfl
theorem Yo (v B:Value)(L M:List Nat)(w:World)(h:Rd w v (bvs L))(g:Rd w B (bvs M))(u:∀n∈L,n<256)(C:∀n∈M,n<256):
  Calls prog 19 #[v,B] w fun e w'=>e=.returned (.bool (decide (L=M)))∧∃n,w'=w.drewN n:=by
 by_cases hlen:L.length=M.length
 ·rcases h.cases with⟨a,cap,rfl,rfl⟩|⟨b,K,cap,j,p,q,rfl,R,f⟩
  ·have:M=[]:=bS hlen.symm;subst this;rcases g.cases with⟨D,cap',rfl,_⟩|⟨I,off',cap',d,_⟩
   ·clear h g u C hlen;go_enter func19,ntmps19;go_wp2;refine wp_loop_rounds 1 ?_;rw[rounds_succ];go_wp2;go_ret;exact⟨rfl,0,rfl⟩
   ·simp at d
  ·rcases g.cases with⟨D,cap',rfl,rfl⟩|⟨I,off',cap',d,l,A,rfl,G,c⟩
   ·simp only[bT]at hlen;omega
   ·obtain⟨k,hk⟩:=eX L.length;rw[←hlen,←hk]at d l c⊢;rw[←hk]at j p f;have F:=Hd hk;have t:Hid (M.length=k):=Hd (by omega);have P:=Hd f;have m:=Hd c;have J:k≤9223372036854775807:=(by unfold maxLen at q;omega);clear hlen hk h g f c;go_enter func19,ntmps19;go_wp2
    go_loopw [5] (fun i wr=>∃i' n:Nat,i'≤k∧L.take i'=M.take i'∧i=rA rC i'∧wr=w.drewN n) (fun i _=>k-(intOf i).toNat)
    case atStart=>exact⟨0,0,by omega,rfl,rfl,rfl⟩
    case round=>
     obtain⟨i,n,Q,z,rfl,rfl⟩:=hrel;have H:=Hd z;clear z
     by_cases hlt:i<k
     ·have O:=P.out i hlt;have g2:=m.out i hlt;have x1:=Hh u (by omega) i;have x2:=Hh C (by omega) i;obtain⟨x,hx⟩:∃x,L.getD i 0=x:=⟨_,rfl⟩;obtain⟨y,o⟩:∃y,M.getD i 0=y:=⟨_,rfl⟩;rw[hx]at O x1;rw[o]at g2 x2;have E:=Hd hx;have s:=Hd o;clear hx o
      by_cases hxy:x=y
      ·subst hxy;go_wp2
       go_quiet (fail)
       go_wp2
       go_roundw
       case rel=>exact⟨i+1,_,by omega,Zg5 (by have:=F.out;omega) (by have:=t.out;omega) H.out (E.out.trans s.out.symm),by go_num,rfl⟩
       case measure=>simp[intOf];omega
      ·have r:((x:Int) !=(y:Int))=true:=(by simp;omega);go_wp2
       go_quiet (fail)
       go_wp2;go_ret;exact⟨Ae (by rw[decide_eq_false];exact Zkl (by rw[E.out,s.out];exact hxy)),_,World.drewN_drewN _ _ _⟩
     ·obtain rfl:i=k:=(by omega);go_wp2;go_ret;have e:=H.out;rw[bU (by have:=F.out;omega),bU (by have:=t.out;omega)]at e;exact⟨Ae (by rw[decide_eq_true];exact e),_,rfl⟩
 ·have N:((L.length:Int) !=(M.length:Int))=true:=(by simp;omega);obtain⟨a,cap,rfl,_⟩:=h;obtain⟨D,cap',rfl,_⟩:=g;rw[bvs_len,bvs_len];go_enter func19,ntmps19;go_wp2;go_ret;exact⟨Ae (by rw[decide_eq_false];intro h;apply hlen;rw[h]),0,rfl⟩
open WireM
theorem Bz:Elem prog 28 5 (rA rD 0) 1:=⟨underlying28,by kernel_rfl,rfl,by omega⟩
theorem Rd.nilOr {w:World} {v:Value} {xs:List Value}(h:Rd w v xs):v=q9 rF 0 0∨∃a cap,v=.slice (some a) xs.length cap:=by
 obtain⟨a,cap,rfl,h1,h2,⟨rfl,h3⟩|⟨b,off,rfl,_⟩⟩:=h
 ·cases a with
  |none=>left;rw[h3 rfl];rfl
  |some a=>exact .inr ⟨a,cap,rfl⟩
 ·exact .inr ⟨_,cap,rfl⟩
theorem Tl (v:Value)(L:List Nat)(w:World)(h:Rd w v (bvs L))(l:L.length<1099511627776):
  Calls prog 111 #[v] w fun e w'=>∃d,e=.returned d∧Own w' w.heap.size 5 d (bvs L)∧Below w.heap.size w w':=by
 have f:(bvs L).length=L.length:=bvs_len L;have h1:=Bu L;rcases h.nilOr with rfl|⟨a,cap,rfl⟩
 ·have h0:bvs L=[]:=by
   obtain⟨a,cap,e,_⟩:=h;simp only[Value.slice.injEq]at e;exact bS e.2.1.symm
  rw[h0];clear h h0 f h1;have q:∀w,(binOp .eql 28 (q9 rF 0 0) (q9 rF 0 0)).run prog w=.ok (.bool true) w:=fun w=>Lib.run_eql_slice_nil w _ 5 none 0 0 0 0 underlying28;go_enter func111,ntmps111;go_wp2_with fail;go_ret;exact⟨_,rfl,Own.nil _ _ _,bR⟩
 ·obtain⟨xs,c⟩:=eX (bvs L);rw[←c]at h h1 f⊢;have hx:xs.length<1099511627776:=(by omega);have m:=Hd h;have j:=Hd h1;clear h h1 f c l;have q:∀w,(binOp .eql 28 (.slice (some a) xs.length cap) (q9 rF 0 0)).run prog w=.ok (.bool false) w:=fun w=>Lib.run_eql_slice_nil w _ 5 (some a) _ _ 0 0 underlying28;go_enter func111,ntmps111;go_wp2_with (at_builtin;refine Aj rfl (.tmp 5) (.tmp 6) 28 rfl w.heap.size 5 _ 1 Bz _ [] rfl (Own.lit0 rfl lR) _ xs rfl (m.out.alloc _) j.out ?c2 ?c3 ?_);case c2=>simpa using hx
  case c3=>simp
  rintro d n b-g;have i:=Hd b;have k:=Hd g;clear b g;go_wp2_with fail;go_ret;exact⟨_,rfl,i.out,(bR.alloc lR _).trans k.out⟩
theorem Cu (v:Value)(L:List Nat)(w:World)(h:Rd w v (bvs L))(l:L.length<1099511627776):
  Calls prog 127 #[v] w fun e w'=>∃d,e=.returned d∧Own w' w.heap.size 5 d (bvs L)∧Below w.heap.size w w':=by
 have f:(bvs L).length=L.length:=bvs_len L;have h1:=Bu L;rcases h.nilOr with rfl|⟨a,cap,rfl⟩
 ·have h0:bvs L=[]:=by
   obtain⟨a,cap,e,_⟩:=h;simp only[Value.slice.injEq]at e;exact bS e.2.1.symm
  rw[h0];clear h h0 f h1;have q:∀w,(binOp .eql 28 (q9 rF 0 0) (q9 rF 0 0)).run prog w=.ok (.bool true) w:=fun w=>Lib.run_eql_slice_nil w _ 5 none 0 0 0 0 underlying28;go_enter func127,ntmps127;go_wp2_with fail;go_ret;exact⟨_,rfl,Own.nil _ _ _,bR⟩
 ·obtain⟨xs,c⟩:=eX (bvs L);rw[←c]at h h1 f⊢;have hx:xs.length<1099511627776:=(by omega);have m:=Hd h;have j:=Hd h1;clear h h1 f c l;have q:∀w,(binOp .eql 28 (.slice (some a) xs.length cap) (q9 rF 0 0)).run prog w=.ok (.bool false) w:=fun w=>Lib.run_eql_slice_nil w _ 5 (some a) _ _ 0 0 underlying28;go_enter func127,ntmps127;go_wp2_with (at_builtin;refine Aj rfl (.tmp 5) (.tmp 6) 28 rfl w.heap.size 5 _ 1 Bz _ [] rfl (Own.lit0 rfl lR) _ xs rfl (m.out.alloc _) j.out ?c2 ?c3 ?_);case c2=>simpa using hx
  case c3=>simp
  rintro d n b-g;have i:=Hd b;have k:=Hd g;clear b g;go_wp2_with fail;go_ret;exact⟨_,rfl,i.out,(bR.alloc lR _).trans k.out⟩
def Zcy (n:Int):Bool:=decide (n=1∨n=2∨n=4∨n=8)
theorem Zcz (n:Int)(w:World):Calls prog 112 #[rA rC n] w fun e w'=>e=.returned (.bool (Zcy n))∧w=w':=by
 have b:n=1∨n=2∨n=4∨n=8∨(n≠1∧n≠2∧n≠4∧n≠8):=(by omega);rcases b with rfl|rfl|rfl|rfl|⟨h1,h2,h3,a⟩
 ·go_enter func112,ntmps112;go_wp2_with fail;go_ret;exact⟨rfl,rfl⟩
 ·go_enter func112,ntmps112;go_wp2_with fail;go_ret;exact⟨rfl,rfl⟩
 ·go_enter func112,ntmps112;go_wp2_with fail;go_ret;exact⟨rfl,rfl⟩
 ·go_enter func112,ntmps112;go_wp2_with fail;go_ret;exact⟨rfl,rfl⟩
 ·have e:Zcy n=false:=(by rw[Zcy,decide_eq_false];omega);rw[e];have e1:(n==1)=false:=(by simp[h1]);have e2:(n==2)=false:=(by simp[h2]);have e3:(n==4)=false:=(by simp[h3]);have c:(n==8)=false:=(by simp[a]);clear h1 h2 h3 a e;go_enter func112,ntmps112;go_wp2_with fail;go_ret;exact⟨rfl,rfl⟩
theorem Nv (n:Int)(w:World):Calls prog 253 #[rA rC n] w fun e w'=>e=.returned (rA rC (lenS n:Nat))∧w=w':=by
 have b:n<0∨(0≤n∧1073741823<n)∨(0≤n∧n<64)∨(64≤n∧n<16384)∨(16384≤n∧n≤1073741823):=(by omega);rcases b with h|⟨h,a⟩|⟨h,a⟩|⟨h,a⟩|⟨h,a⟩
 ·rw[lenS,if_pos (by omega)];go_enter func253,ntmps253;go_wp2_with fail;go_ret;exact⟨rfl,rfl⟩
 ·rw[lenS,if_pos (by omega)];go_enter func253,ntmps253;go_wp2_with fail;go_ret;exact⟨rfl,rfl⟩
 ·rw[lenS,if_neg (by omega),if_pos (by omega)];have h2:n≤1073741823:=(by omega);go_enter func253,ntmps253;go_wp2_with fail;go_ret;exact⟨rfl,rfl⟩
 ·rw[lenS,if_neg (by omega),if_neg (by omega),if_pos (by omega)];have h2:n≤1073741823:=(by omega);have h3:0≤n:=(by omega);go_enter func253,ntmps253;go_wp2_with fail;go_ret;exact⟨rfl,rfl⟩
 ·rw[lenS,if_neg (by omega),if_neg (by omega),if_neg (by omega)];have h2:64≤n:=(by omega);have h3:0≤n:=(by omega);go_enter func253,ntmps253;go_wp2_with fail;go_ret;exact⟨rfl,rfl⟩
theorem Zg6 (n:Nat)(L:List Nat):bvs (n::L)=rA rD (n:Int)::bvs L:=rfl
theorem Yp (n:Nat)(L:List Nat):bvs (L++[n])=bvs L++[rA rD (n:Int)]:=by simp[bvs]
theorem Rl (k n:Nat)(w:World)(hk:k≤8)(y:n<18446744073709551616):
  Calls prog 64 #[rA rC (k:Nat),rA rE (n:Nat)] w fun e w'=>∃v,e=.returned v∧Own w' w.heap.size 5 v (bvs (beN k n))∧Below w.heap.size w w':=by
 obtain⟨l,f⟩:=eX n;have p:=Hd f;clear f;go_enter func64,ntmps64;go_wp2_with fail
 go_loopg [1,5,6] k (fun q m out i wr=>∃(r:Nat) (x:Nat),r+q=k∧x<18446744073709551616∧x=l/256^r∧m=rA rE (x:Nat)∧i=rA rC (r:Nat)∧Own wr w.heap.size 5 out (bvs (beN r l))∧Below w.heap.size w wr)
 case atStart=>
  refine⟨0,n,by omega,y,by rw[p.out];simp,rfl,rfl,Own.nil _ _ _,bR⟩
 case round=>
  obtain⟨r,x,B,hx,d,rfl,rfl,b,o⟩:=hrel;have s:=Hd b;have t:=Hd o;have u:=Hd d;have c:=o.size;clear b o d
  by_cases hrk:r<k
  ·go_wp2_with (at_builtin;refine Aj rfl (.tmp 15) (.tmp 16) 28 rfl w.heap.size 5 _ 1 Bz _ [rA rD ((x%256:Nat):Int)] rfl ?c1 _ (bvs (beN r l)) rfl (s.out.rd.alloc _) (Bu _) ?c2 ?c3 ?_);case c1=>exact Own.full (cs:=#[rA rD ((x%256:Nat):Int)]) rfl c (by unfold maxLen;simp) rfl
   case c2=>simp[bvs_len,beN_len];omega
   case c3=>simp;omega
   rintro A z a-g;have h:=Hd a;have j:=Hd ((t.out.alloc c _).trans g);clear a g;go_wp2_with fail;go_roundg (gk-1);case measure=>omega
   case rel=>
    refine⟨r+1,x/256,by omega,by omega,by rw[u.out,beN_step],?_,by go_num,?_,j.out⟩
    ·exact Hg (by omega)
    ·rw[beN,Zg6,←u.out];exact h.out
  ·obtain rfl:r=k:=(by omega);go_wp2_with fail;go_ret;refine⟨_,rfl,?_,t.out⟩;rw[←p.out];exact s.out
theorem Fl (v:Value)(L:List Nat)(k n:Nat)(w:World)(h:Rd w v (bvs L))(F:L.length<549755813888)(hk:Zcy (k:Int)=true)(_:n<18446744073709551616):
  Calls prog 60 #[v,rA rC (k:Nat),rA rE (n:Nat)] w fun e w'=>∃s,e=.returned s∧Own w' w.heap.size 5 s (bvs (L++beN k n))∧Below w.heap.size w w':=by
 have C:=Tl v L w h (by omega);have M:=fun w=>Zcz (k:Int) w;rw[hk]at M;have g:k≤8∧1≤k:=(by have:=of_decide_eq_true hk;omega);obtain⟨g,y⟩:=g;have A:=Hd C;have z:=Hd M;clear C M h hk;go_enter func60,ntmps60;go_wp2_with fail;refine(A.out).mono ?_;rintro e B ⟨E,rfl,a,d⟩;have l:=Hd a;have m:=Hd d;clear a d;go_wp2_with fail;refine(z.out _).mono ?_;rintro e w' ⟨rfl,rfl⟩;go_wp2_with fail
 go_loopg [0,7] k (fun q out i wr=>∃pre:List Nat,q≤k∧i=rA rC ((q:Int)-1)∧pre.length+q=L.length+k∧pre++beN q n=L++beN k n∧Own wr w.heap.size 5 out (bvs pre)∧Below w.heap.size w wr)
 case atStart=>exact⟨L,lR,rfl,rfl,rfl,l.out,m.out⟩
 case round=>
  obtain⟨pre,G,rfl,x,c,a,d⟩:=hrel;have l:=Hd a;have m:=Hd d;have u:=Hd c;have o:=d.size;clear a d c
  by_cases h0:gk=0
  ·subst h0;go_wp2_with fail;go_ret;refine⟨_,rfl,?_,m.out⟩;rw[←u.out,beN,bV];exact l.out
  ·obtain⟨j,rfl⟩:∃j,gk=j+1:=⟨gk-1,by omega⟩;have t:((j+1:Nat):Int)-1=(j:Int):=(by omega);rw[t];clear t h0;go_wp2_with (at_builtin;refine An rfl (.tmp 20) (.tmp 26) 28 rfl w.heap.size 5 _ 1 Bz _ _ rfl (l.out.alloc _) ⟨wr.heap.size,0,rF⟩ (rA rD ((n:Int)/2^(8*j)%256)) rfl ?c1 rfl ?c2 ?c3 ?_);case c1=>exact Ar rfl
   case c2=>rw[bvs_len];omega
   case c3=>simp;omega
   rintro s D b-f;have p:=Hd b;have r:=Hd ((m.out.alloc o _).trans f);clear b f;go_wp2_with fail;go_roundg j;case measure=>omega
   case rel=>
    refine⟨pre++[n/256^j%256],by omega,rfl,by simp;omega,?_,?_,r.out⟩
    ·rw[bW];exact u.out
    ·rw[Yp];have e:((n/256^j%256:Nat):Int)=(n:Int)/2^(8*j)%256:=by
      rw[←shift_pow];simp
     rw[e];exact p.out
theorem Zc0 (v:Value)(L:List Nat)(n:Nat)(w:World)(h:Rd w v (bvs L))(i:L.length<549755813888)(j:n<1073741824):
  Calls prog 212 #[v,rA rC (n:Nat)] w fun e w'=>∃v',e=.returned v'∧Own w' w.heap.size 5 v' (bvs (L++lenB n))∧Below w.heap.size w w':=by
 have S:=fun w=>Nv (n:Int) w
 by_cases h1:n<64
 ·rw[lenS1 h1]at S;have P:=Fl v L 1 n w h i rfl (by omega);rw[be1 n h1]at P;have f:=Hd S;have d:=Hd P;have e:bits .or .u64 0 (n:Int)=(n:Int):=by
   have:=u64_or_nat 0 n (by omega) (by omega);simpa using this
  clear S P h;go_enter func212,ntmps212;go_wp2_with fail;refine(f.out _).mono ?_;rintro e w' ⟨rfl,rfl⟩;go_wp2_with fail;refine(d.out).mono ?_;rintro e k ⟨l,rfl,a,b⟩;have c:=Hd a;have g:=Hd b;clear a b;go_wp2_with fail;go_ret;exact⟨_,rfl,c.out,g.out⟩
 ·by_cases h2:n<16384
  ·rw[lenS2 (by omega) h2]at S;have P:=Fl v L 2 (16384+n) w h i rfl (by omega);rw[be2 n (by omega) h2]at P;have f:=Hd S;have d:=Hd P;have e:bits .or .u64 16384 (n:Int)=((16384+n:Nat):Int):=by
    have:=u64_or_nat 16384 n (by omega) (by omega);rw[or2 n h2]at this;exact this
   clear S P h;go_enter func212,ntmps212;go_wp2_with fail;refine(f.out _).mono ?_;rintro e w' ⟨rfl,rfl⟩;go_wp2_with fail;refine(d.out).mono ?_;rintro e k ⟨l,rfl,a,b⟩;have c:=Hd a;have g:=Hd b;clear a b;go_wp2_with fail;go_ret;exact⟨_,rfl,c.out,g.out⟩
  ·rw[lenS4 (by omega) j]at S;have P:=Fl v L 4 (2147483648+n) w h i rfl (by omega);rw[be4 n (by omega) j]at P;have f:=Hd S;have d:=Hd P;have e:bits .or .u64 2147483648 (n:Int)=((2147483648+n:Nat):Int):=by
    have:=u64_or_nat 2147483648 n (by omega) (by omega);rw[or4 n j]at this;exact this
   clear S P h;go_enter func212,ntmps212;go_wp2_with fail;refine(f.out _).mono ?_;rintro e w' ⟨rfl,rfl⟩;go_wp2_with fail;refine(d.out).mono ?_;rintro e k ⟨l,rfl,a,b⟩;have c:=Hd a;have g:=Hd b;clear a b;go_wp2_with fail;go_ret;exact⟨_,rfl,c.out,g.out⟩
theorem Zg7 (n:Nat)(w:World)(a:n<1073741824):
  Calls prog 197 #[rA rC (n:Nat)] w fun e w'=>∃v',e=.returned v'∧Own w' w.heap.size 5 v' (bvs (lenB n))∧Below w.heap.size w w':=by
 by_cases h1:n<64
 ·have e:lenB n=[n]:=(by unfold lenB;rw[if_pos h1]);rw[e];clear e;go_enter func197,ntmps197;go_wp2_with fail;go_ret;exact⟨_,rfl,Own.full (cs:=#[rA rD (n:Int)]) rfl lR (by unfold maxLen;simp) rfl,bR.alloc lR _⟩
 ·by_cases h2:n<16384
  ·have e:lenB n=[64+n/256,n%256]:=(by unfold lenB;rw[if_neg h1,if_pos h2]);rw[e];clear e;have h3:64≤n:=(by omega);go_enter func197,ntmps197;go_wp2_with fail;go_ret;exact⟨_,rfl,Own.full (cs:=#[rA rD ((64+n/256:Nat):Int),rA rD ((n%256:Nat):Int)]) rfl lR (by unfold maxLen;simp) rfl,bR.alloc lR _⟩
  ·have e:lenB n=[128+n/16777216,n/65536%256,n/256%256,n%256]:=(by unfold lenB;rw[if_neg h1,if_neg h2]);rw[e];clear e;have h3:16384≤n:=(by omega);go_enter func197,ntmps197;go_wp2_with fail;go_ret;exact⟨_,rfl,Own.full (cs:=#[rA rD ((128+n/16777216:Nat):Int),rA rD ((n/65536%256:Nat):Int),rA rD ((n/256%256:Nat):Int),rA rD ((n%256:Nat):Int)]) rfl lR (by unfold maxLen;simp) rfl,bR.alloc lR _⟩
theorem Tm (w:World):Rd w (q9 rF 0 0) (bvs []):=⟨none,0,rfl,lR,aA _,.inl ⟨rfl,fun _=>rfl⟩⟩
theorem Yq {w:World} {cs:Array Value} {L:List Nat} {N:Nat}(a:N=w.heap.size)(h:cs.toList=bvs L)(b:L.length≤1000):Rd (w.alloc (.cells cs 5)) (q9 (some ⟨N,0,rF⟩) L.length L.length) (bvs L):=by
 have e:cs.size=L.length:=(by rw[←Array.length_toList,h,bvs_len]);have:=(Own.full (w:=w) (B:=w.heap.size) (e:=5) (cs:=cs) a (by omega) (by unfold maxLen;omega) (n:=L.length) e.symm).rd;rw[h]at this;exact this
def Bf (v:List Nat):List Nat:=lenB v.length++v
def Pe (l:List (List Nat)):List Nat:=(l.map Bf).flatten
def RdL (w:World)(v:Value)(rows:List (List Nat)):Prop:=
 ∃vs:List Value,Rd w v vs∧vs.length=rows.length∧∀(i:Nat) r,rows[i]? =some r→∃u,vs[i]? =some u∧Rd w u (bvs r)
theorem RdL.below {w w':World} {B:Nat} {v:Value} {rows:List (List Nat)}(h:RdL w v rows)(hb:Below B w w')(hB:w.heap.size≤B):RdL w' v rows:=by
 obtain⟨vs,h1,h2,h3⟩:=h;refine⟨vs,h1.below hb hB,h2,?_⟩;intro i r hr;obtain⟨u,h4,h5⟩:=h3 i r hr;exact⟨u,h4,h5.below hb hB⟩
theorem Bk (v:List Nat)(h:v.length<1073741824):(Bf v).length≤v.length+4:=by
 rw[Bf,aG,lenB_len h];unfold lenS
 split<;>(try split)<;>(try split)<;>omega
theorem Gh {v:List Nat}(h:v.length<1073741824)(hv:∀n∈v,n<256):∀n∈Bf v,n<256:=by
 intro n hn;rw[Bf,List.mem_append]at hn;rcases hn with hn|hn
 ·exact lenB_lt h n hn
 ·exact hv n hn
theorem Em (v:Value)(L:List Nat)(w:World)(h:Rd w v (bvs L))(k:L.length<1073741824):
  Calls prog 147 #[v] w fun e w'=>∃v',e=.returned v'∧Own w' w.heap.size 5 v' (bvs (Bf L))∧Below w.heap.size w w':=by
 have l:=Hd (Zg7 L.length w k);have e2:(lenB L.length).length≤4:=by
  rw[lenB_len k];unfold lenS;split<;>(try split)<;>(try split)<;>omega
 obtain⟨a,cap,rfl,_⟩:=id h;rw[bvs_len]at h⊢;have o:=Hd h;clear h;go_enter func147,ntmps147;go_wp2_with fail;refine l.out.mono ?_;rintro e p ⟨r,rfl,b,d⟩;have m:=Hd b;have n:=Hd d;have i:=Hd (o.out.below d lR);have f:=d.size;clear b d;go_wp2_with (at_builtin;refine Aj rfl (.tmp 5) (.tmp 6) 28 rfl w.heap.size 5 _ 1 Bz _ _ rfl m.out _ (bvs L) rfl i.out (Bu _) ?c2 ?c3 ?_);case c2=>rw[bvs_len,bvs_len];omega
 case c3=>exact f
 rintro s q b-c;have g:=Hd b;have j:=Hd (n.out.trans c);clear b c;go_wp2_with fail;go_ret;refine⟨_,rfl,?_,j.out⟩;rw[Bf,Cf];exact g.out
theorem Dr (b v:Value)(B L:List Nat)(w:World)(d:Rd w b (bvs B))(h:Rd w v (bvs L))(s:B.length<274877906944)(l:L.length<1073741824):
  Calls prog 170 #[b,v] w fun e w'=>∃v',e=.returned v'∧Own w' w.heap.size 5 v' (bvs (B++Bf L))∧Below w.heap.size w w':=by
 have m:=Hd (Zc0 b B L.length w d (by omega) l);have e2:(lenB L.length).length≤4:=by
  rw[lenB_len l];unfold lenS;split<;>(try split)<;>(try split)<;>omega
 obtain⟨a,cap,rfl,_⟩:=id h;rw[bvs_len]at h⊢;have p:=Hd h;clear h d;go_enter func170,ntmps170;go_wp2_with fail;refine m.out.mono ?_;rintro e q ⟨t,rfl,c,d⟩;have n:=Hd c;have o:=Hd d;have j:=Hd (p.out.below d lR);have g:=d.size;clear c d;go_wp2_with (at_builtin;refine Aj rfl (.tmp 8) (.tmp 9) 28 rfl w.heap.size 5 _ 1 Bz _ _ rfl n.out _ (bvs L) rfl j.out (Bu _) ?c2 ?c3 ?_);case c2=>rw[bvs_len,bvs_len,aG];omega
 case c3=>exact g
 rintro u r c-f;have i:=Hd c;have k:=Hd (o.out.trans f);clear c f;go_wp2_with fail;go_ret;refine⟨_,rfl,?_,k.out⟩;rw[Bf,←bW,Cf];exact i.out
theorem Tn (l:List (List Nat))(r:List Nat):Pe (l++[r])=Pe l++Bf r:=by simp[Pe]
theorem Yr:∀(l:List (List Nat)),(∀r∈l,r.length≤200)→(Pe l).length≤l.length*204:=by
 intro l
 induction l with
 |nil=>intro _;simp[Pe]
 |cons r l ih=>
  intro h;have h1:=ih fun q a=>h q (by simp[a]);have h2:=Bk r (by have:=h r (by simp);omega);have h3:=h r (by simp);simp only[Pe,List.map_cons,List.flatten_cons,aG,bY]at h1⊢;omega
theorem Zc1 {l:List (List Nat)} {r:Nat}(h:r<l.length):l.take (r+1)=l.take r++[l[r]]:=bQ h
theorem RdL.cases {w:World} {v:Value} {c:List (List Nat)}(h:RdL w v c):
  ∃a cap,v=.slice a c.length cap∧c.length≤cap∧cap≤maxLen∧∀i (g:i<c.length),∃b d u,a=some ⟨b,d,rF⟩∧b<w.heap.size∧w.cell? ⟨b,d+i,rF⟩=some u∧Rd w u (bvs c[i]):=by
 obtain⟨n,h1,h2,h3⟩:=h;obtain⟨a,cap,rfl,f,j,e⟩:=h1;rw[h2]at f;refine⟨a,cap,by rw[h2],f,j,?_⟩;intro i g;obtain⟨u,l,m⟩:=h3 i _ (aI g);rcases e with⟨e,_⟩|⟨b,d,rfl,k⟩
 ·rw[e]at h2;simp at h2;omega
 ·have:=k i u l;exact⟨b,d,u,rfl,World.block_lt_of_cell? w _ this,this,m⟩
end Go.Proofs.YtfofaiommeckbaaGreat
namespace Go.Proofs.YtfofaiommeckbaaGreat
open Go.RowKit
theorem Ga (k:IntKind)(L:List Int):(ivs k L).length=L.length:=by simp[ivs]
theorem Rd.icases {w:World} {v:Value} {g:IntKind} {L:List Int}(h:Rd w v (ivs g L)):
  (∃a cap,v=.slice a 0 cap∧L=[])∨∃b c cap,0<L.length∧L.length≤cap∧cap≤maxLen∧v=q9 (some ⟨b,c,rF⟩) L.length cap∧b<w.heap.size∧
   ∀i,i<L.length→w.cell? ⟨b,c+i,rF⟩=some (.int g (L.getD i 0)):=by
 have f:=h.lt;obtain⟨a,cap,rfl,h1,h2,h3⟩:=h
 by_cases hL:L=[]
 ·subst hL;exact .inl ⟨a,cap,rfl,rfl⟩
 ·right
  have d:0<L.length:=List.length_pos_iff.2 hL;have e:ivs g L≠[]:=(by intro h;apply hL;simpa [ivs]using h);rcases h3 with h|⟨b,c,rfl,k⟩
  ·exact absurd h.1 e
  ·rcases f with h|⟨m,off',cap',j,n⟩
   ·exact absurd h e
   ·simp only[Value.slice.injEq,Option.some.injEq,Addr.mk.injEq]at j;refine⟨b,c,cap,d,by simpa [ivs]using h1,h2,by simp[ivs],by omega,?_⟩;intro i l;refine k i _ ?_;simp[ivs,l]
theorem Zc2 {L M:List Int} {i:Nat}(hi:i<L.length)(hm:i<M.length)(h:L.take i=M.take i)(he:L.getD i 0=M.getD i 0):L.take (i+1)=M.take (i+1):=by
 rw[bQ hi,bQ hm,h];simp only[aH,aI hi,aI hm,Option.getD_some]at he;rw[he]
theorem Zg8 {L M:List Int} {i:Nat}(he:L.getD i 0≠M.getD i 0):L≠M:=by
 intro h;subst h;exact he rfl
theorem Zc3 (v A:Value)(L M:List Int)(w:World)(h:Rd w v (ivs .i64 L))(g:Rd w A (ivs .i64 M)):
  Calls prog 49 #[v,A] w fun e w'=>e=.returned (.bool (decide (L=M)))∧∃n,w'=w.drewN n:=by
 by_cases hlen:L.length=M.length
 ·rcases h.icases with⟨a,cap,rfl,rfl⟩|⟨b,I,cap,j,p,q,rfl,P,f⟩
  ·have:M=[]:=bS hlen.symm;subst this;rcases g.icases with⟨B,cap',rfl,_⟩|⟨F,off',cap',d,_⟩
   ·clear h g hlen;go_enter func49,ntmps49;go_wp2;refine wp_loop_rounds 1 ?_;rw[rounds_succ];go_wp2;go_ret;exact⟨rfl,0,rfl⟩
   ·simp at d
  ·rcases g.icases with⟨B,cap',rfl,rfl⟩|⟨F,off',cap',d,l,z,rfl,E,c⟩
   ·simp only[bT]at hlen;omega
   ·obtain⟨k,hk⟩:=eX L.length;rw[←hlen,←hk]at d l c⊢;rw[←hk]at j p f;have D:=Hd hk;have t:Hid (M.length=k):=Hd (by omega);have N:=Hd f;have m:=Hd c;have G:k≤9223372036854775807:=(by unfold maxLen at q;omega);clear hlen hk h g f c;go_enter func49,ntmps49;go_wp2
    go_loopw [5] (fun i wr=>∃i' n:Nat,i'≤k∧L.take i'=M.take i'∧i=rA rC i'∧wr=w.drewN n) (fun i _=>k-(intOf i).toNat)
    case atStart=>exact⟨0,0,by omega,rfl,rfl,rfl⟩
    case round=>
     obtain⟨i,n,O,u,rfl,rfl⟩:=hrel;have H:=Hd u;clear u
     by_cases hlt:i<k
     ·have K:=N.out i hlt;have g2:=m.out i hlt;obtain⟨x,hx⟩:∃x,L.getD i 0=x:=⟨_,rfl⟩;obtain⟨y,o⟩:∃y,M.getD i 0=y:=⟨_,rfl⟩;rw[hx]at K;rw[o]at g2;have C:=Hd hx;have s:=Hd o;clear hx o
      by_cases hxy:x=y
      ·subst hxy;go_wp2
       go_quiet (fail)
       go_wp2
       go_roundw
       case rel=>exact⟨i+1,_,by omega,Zc2 (by have:=D.out;omega) (by have:=t.out;omega) H.out (C.out.trans s.out.symm),by go_num,rfl⟩
       case measure=>simp[intOf];omega
      ·have r:(x !=y)=true:=(by simp[hxy]);go_wp2
       go_quiet (fail)
       go_wp2;go_ret;exact⟨Ae (by rw[decide_eq_false];exact Zg8 (by rw[C.out,s.out];exact hxy)),_,World.drewN_drewN _ _ _⟩
     ·obtain rfl:i=k:=(by omega);go_wp2;go_ret;have e:=H.out;rw[bU (by have:=D.out;omega),bU (by have:=t.out;omega)]at e;exact⟨Ae (by rw[decide_eq_true];exact e),_,rfl⟩
 ·have J:((L.length:Int) !=(M.length:Int))=true:=(by simp;omega);obtain⟨a,cap,rfl,_⟩:=h;obtain⟨B,cap',rfl,_⟩:=g;rw[Ga,Ga];go_enter func49,ntmps49;go_wp2;go_ret;exact⟨Ae (by rw[decide_eq_false];intro h;apply hlen;rw[h]),0,rfl⟩
theorem Rd.get {w:World} {a:Option Addr} {n cap r:Nat} {xs:List Value} {u:Value}(h:Rd w (q9 a n cap) xs)(d:xs[r]? =some u):∃b c,a=some ⟨b,c,rF⟩∧b<w.heap.size∧w.cell? ⟨b,c+r,rF⟩=some u:=by
 have f:=h.lt;obtain⟨i,cap',e,h1,h2,⟨h0,_⟩|⟨b,c,rfl,g⟩⟩:=h
 ·rw[h0]at d;simp at d
 ·simp only[Value.slice.injEq]at e;obtain⟨rfl,_,_⟩:=e;have:=g r u d;exact⟨b,c,rfl,World.block_lt_of_cell? w _ this,this⟩
open WireM
structure LeafD where
 box:List Nat
 sign:List Nat
 ident:List Nat
 source:Nat
 par:List Nat
 sig:List Nat
structure ParD where
 box:List Nat
 hash:List Nat
 late:List Int
structure NodeD where
 kind:Nat
 leaf:LeafD
 par:ParD
def rlB (n1 n2 n3 s n4 n5:Nat):Bool:=decide (n1=32∧n2=32∧n5=64∧1≤n3∧n3≤64∧1≤s∧s≤3∧(n4=0∨(s=3∧n4=32)))
def nlB (n1 n2 n3 s n4 n5:Nat):Bool:=decide (s=0∧n1+n2+n3+n4+n5=0)
def npB (n1 n2 n3:Nat):Bool:=decide (n1+n2+n3=0)
theorem Kh (r j n o u:Option Addr)(g f c b d c1 c2 c3 c4 c5 s:Nat)(w:World):
  Calls prog 210 #[.agg #[q9 r g c1,q9 j f c2,q9 n c c3,rA rD (s:Nat),q9 o b c4,q9 u d c5]] w fun e w'=>e=.returned (.bool (rlB g f c s b d))∧Below w.heap.size w w':=by
 by_cases k0:g≠32
 ·have a:Hid (rlB g f c s b d=false):=Hd (by rw[rlB,decide_eq_false_iff_not];omega);have i:((g:Int) !=32)=true:=(by rw[bne_iff_ne];omega);clear k0;go_enter func210,ntmps210;go_wp2_with fail;go_ret;exact⟨Ae a.out.symm,bR.alloc lR _⟩
 ·have i:((g:Int) !=32)=false:=by rw[bne_eq_false_iff_eq];omega
  by_cases k1:f≠32
  ·have a:Hid (rlB g f c s b d=false):=Hd (by rw[rlB,decide_eq_false_iff_not];omega);have l:((f:Int) !=32)=true:=(by rw[bne_iff_ne];omega);clear k1;go_enter func210,ntmps210;go_wp2_with fail;go_ret;exact⟨Ae a.out.symm,bR.alloc lR _⟩
  ·have l:((f:Int) !=32)=false:=by rw[bne_eq_false_iff_eq];omega
   by_cases k2:d≠64
   ·have a:Hid (rlB g f c s b d=false):=Hd (by rw[rlB,decide_eq_false_iff_not];omega);have x:((d:Int) !=64)=true:=(by rw[bne_iff_ne];omega);clear k2;go_enter func210,ntmps210;go_wp2_with fail;go_ret;exact⟨Ae a.out.symm,bR.alloc lR _⟩
   ·have x:((d:Int) !=64)=false:=by rw[bne_eq_false_iff_eq];omega
    by_cases k3:c<1
    ·have a:Hid (rlB g f c s b d=false):=Hd (by rw[rlB,decide_eq_false_iff_not];omega);have q:decide ((c:Int)<1)=true:=(by rw[decide_eq_true_iff];omega);clear k3;go_enter func210,ntmps210;go_wp2_with fail;go_ret;exact⟨Ae a.out.symm,bR.alloc lR _⟩
    ·have q:decide ((c:Int)<1)=false:=by rw[decide_eq_false_iff_not];omega
     by_cases k4:64<c
     ·have a:Hid (rlB g f c s b d=false):=Hd (by rw[rlB,decide_eq_false_iff_not];omega);have v:decide (64<(c:Int))=true:=(by rw[decide_eq_true_iff];omega);clear k4;go_enter func210,ntmps210;go_wp2_with fail;go_ret;exact⟨Ae a.out.symm,bR.alloc lR _⟩
     ·have v:decide (64<(c:Int))=false:=by rw[decide_eq_false_iff_not];omega
      by_cases k5:s<1
      ·have a:Hid (rlB g f c s b d=false):=Hd (by rw[rlB,decide_eq_false_iff_not];omega);have h:decide ((s:Int)<1)=true:=(by rw[decide_eq_true_iff];omega);clear k5;go_enter func210,ntmps210;go_wp2_with fail;go_ret;exact⟨Ae a.out.symm,bR.alloc lR _⟩
      ·have h:decide ((s:Int)<1)=false:=by rw[decide_eq_false_iff_not];omega
       by_cases k6:3<s
       ·have a:Hid (rlB g f c s b d=false):=Hd (by rw[rlB,decide_eq_false_iff_not];omega);have t:decide (3<(s:Int))=true:=(by rw[decide_eq_true_iff];omega);clear k6;go_enter func210,ntmps210;go_wp2_with fail;go_ret;exact⟨Ae a.out.symm,bR.alloc lR _⟩
       ·have t:decide (3<(s:Int))=false:=by rw[decide_eq_false_iff_not];omega
        by_cases k7:b=0
        ·have a:Hid (rlB g f c s b d=true):=Hd (by rw[rlB,decide_eq_true_iff];omega);have k:((b:Int)==0)=true:=(by rw[beq_iff_eq];omega);clear k0 k1 k2 k3 k4 k5 k6 k7;go_enter func210,ntmps210;go_wp2_with fail;go_ret;exact⟨Ae a.out.symm,bR.alloc lR _⟩
        ·have k:((b:Int)==0)=false:=by rw[beq_eq_false_iff_ne];omega
         by_cases k8:s=3
         ·have m:((s:Int)==3)=true:=by rw[beq_iff_eq];omega
          by_cases k9:b=32
          ·have a:Hid (rlB g f c s b d=true):=Hd (by rw[rlB,decide_eq_true_iff];omega);have p:((b:Int)==32)=true:=(by rw[beq_iff_eq];omega);clear k0 k1 k2 k3 k4 k5 k6 k7 k8 k9;go_enter func210,ntmps210;go_wp2_with fail;go_ret;exact⟨Ae a.out.symm,bR.alloc lR _⟩
          ·have a:Hid (rlB g f c s b d=false):=Hd (by rw[rlB,decide_eq_false_iff_not];omega);have p:((b:Int)==32)=false:=(by rw[beq_eq_false_iff_ne];omega);clear k0 k1 k2 k3 k4 k5 k6 k7 k8 k9;go_enter func210,ntmps210;go_wp2_with fail;go_ret;exact⟨Ae a.out.symm,bR.alloc lR _⟩
         ·have a:Hid (rlB g f c s b d=false):=Hd (by rw[rlB,decide_eq_false_iff_not];omega);have m:((s:Int)==3)=false:=(by rw[beq_eq_false_iff_ne];omega);clear k0 k1 k2 k3 k4 k5 k6 k7 k8;go_enter func210,ntmps210;go_wp2_with fail;go_ret;exact⟨Ae a.out.symm,bR.alloc lR _⟩
theorem Za5 (m i k l n:Option Addr)(a d c f b c1 c2 c3 c4 c5 s:Nat)(h1:a≤maxLen)(o:a+d+c+f+b<4611686018427387904)(w:World):
  Calls prog 208 #[.agg #[q9 m a c1,q9 i d c2,q9 k c c3,rA rD (s:Nat),q9 l f c4,q9 n b c5]] w fun e w'=>e=.returned (.bool (nlB a d c s f b))∧Below w.heap.size w w':=by
 by_cases k0:s=0
 ·have h:((s:Int)==0)=true:=by rw[beq_iff_eq];omega
  by_cases k1:a+d+c+f+b=0
  ·have g:Hid (nlB a d c s f b=true):=Hd (by rw[nlB,decide_eq_true_iff];omega);have j:((a:Int)+(d:Int)+(c:Int)+(f:Int)+(b:Int)==0)=true:=(by rw[beq_iff_eq];omega);clear k0 k1 h1;go_enter func208,ntmps208;go_wp2_with fail;go_ret;exact⟨Ae g.out.symm,bR.alloc lR _⟩
  ·have g:Hid (nlB a d c s f b=false):=Hd (by rw[nlB,decide_eq_false_iff_not];omega);have j:((a:Int)+(d:Int)+(c:Int)+(f:Int)+(b:Int)==0)=false:=(by rw[beq_eq_false_iff_ne];omega);clear k0 k1 h1;go_enter func208,ntmps208;go_wp2_with fail;go_ret;exact⟨Ae g.out.symm,bR.alloc lR _⟩
 ·have g:Hid (nlB a d c s f b=false):=Hd (by rw[nlB,decide_eq_false_iff_not];omega);have h:((s:Int)==0)=false:=(by rw[beq_eq_false_iff_ne];omega);clear k0 h1;go_enter func208,ntmps208;go_wp2_with fail;go_ret;exact⟨Ae g.out.symm,bR.alloc lR _⟩
theorem To (i h f:Option Addr)(a b c c1 c2 c3:Nat)(j:a+b+c<4611686018427387904)(w:World):
  Calls prog 209 #[.agg #[q9 i a c1,q9 h b c2,q9 f c c3]] w fun e w'=>e=.returned (.bool (npB a b c))∧Below w.heap.size w w':=by
 by_cases k1:a+b+c=0
 ·have d:Hid (npB a b c=true):=Hd (by rw[npB,decide_eq_true_iff];omega);have g:((a:Int)+(b:Int)+(c:Int)==0)=true:=(by rw[beq_iff_eq];omega);clear k1;go_enter func209,ntmps209;go_wp2_with fail;go_ret;exact⟨Ae d.out.symm,bR.alloc lR _⟩
 ·have d:Hid (npB a b c=false):=Hd (by rw[npB,decide_eq_false_iff_not];omega);have g:((a:Int)+(b:Int)+(c:Int)==0)=false:=(by rw[beq_eq_false_iff_ne];omega);clear k1;go_enter func209,ntmps209;go_wp2_with fail;go_ret;exact⟨Ae d.out.symm,bR.alloc lR _⟩
def Hi (L:List Int)(i:Nat):Int:=if i=0 then-1 else L.getD (i-1) 0
def Nw (L:List Int)(r:Nat):Prop:=∀i,i<r→Hi L i<L.getD i 0∧L.getD i 0<65536
def Ki (L:List Int):Bool:=(List.range L.length).all fun i=>decide (Hi L i<L.getD i 0∧L.getD i 0<65536)
theorem Fm (L:List Int):Ki L=true↔Nw L L.length:=by
 unfold Ki Nw;rw[List.all_eq_true];constructor
 ·intro h i hi;have:=h i (List.mem_range.2 hi);exact of_decide_eq_true this
 ·intro h i hi;exact decide_eq_true (h i (List.mem_range.1 hi))
theorem Nx {L:List Int} {r:Nat}(hr:r<L.length)(h:¬(Hi L r<L.getD r 0∧L.getD r 0<65536)):Ki L=false:=by
 rw[←Bool.not_eq_true,Fm];intro hl;exact h (hl r hr)
def rpB (n1 n2:Nat)(late:List Int):Bool:=Ki late&&decide (n1=32∧(n2=0∨n2=32))
theorem Ib (J H u:Option Addr)(c a c1 c2 c3:Nat)(L:List Int)(w:World)(z:Rd w (.slice u L.length c3) (ivs .i64 L)):
  Calls prog 211 #[.agg #[q9 J c c1,q9 H a c2,.slice u L.length c3]] w fun e w'=>e=.returned (.bool (rpB c a L))∧Below w.heap.size w w':=by
 have p:=z.icases;obtain⟨P,cap,g,l,F,-⟩:=id z;rw[Ga]at l;simp only[Value.slice.injEq]at g;obtain⟨rfl,-,rfl⟩:=g;obtain⟨k,hk⟩:=eX L.length;have d:∀r,r<k→∃b o,u=some ⟨b,o,rF⟩∧b<w.heap.size∧w.cell? ⟨b,o+r,rF⟩=some (rA rC (L.getD r 0)):=by
  intro r j;rcases p with⟨_,_,g,h0⟩|⟨b,B,cap',_,_,_,g,M,U⟩
  ·rw[h0]at hk;simp at hk;omega
  ·simp only[Value.slice.injEq]at g;exact⟨b,B,g.1,M,U r (by omega)⟩
 rw[←hk]at l⊢;have Q:k≤9223372036854775807:=(by unfold maxLen at F;omega);have W:=Hd d;have N:=Hd hk;clear p d hk z;go_enter func211,ntmps211;go_wp2_with fail
 go_loopg [3,9] k (fun q s i wr=>∃r:Nat,r+q=k∧i=rA rC (r:Int)∧s=rA rC (Hi L r)∧Nw L r∧wr=w.alloc (.cells #[q9 J c c1,q9 H a c2,q9 u k c3] 50))
 case atStart=>exact⟨0,by omega,rfl,rfl,fun i h=>absurd h (by omega),rfl⟩
 case round=>
  obtain⟨r,z,rfl,rfl,n,rfl⟩:=hrel;have m:=Hd n;clear n
  by_cases j:r<k
  ·obtain⟨b,o,rfl,M,T⟩:=W.out r j;have E:Hi L (r+1)=L.getD r 0:=(by rw[Hi,if_neg (by omega),Nat.add_sub_cancel]);have t:= @Nx L r (by have:=N.out;omega);obtain⟨x,hx⟩:=eX (L.getD r 0);rw[←hx]at T E t;obtain⟨y,A⟩:=eX (Hi L r);rw[←A]at t⊢;have Y:=Hd hx;have O:=Hd A;have S:=Hd E;have G:=Hd t;clear hx A E t
   by_cases k1:x≤y
   ·have f:=Hd (G.out (by omega));go_wp2_with fail;go_ret;exact⟨by rw[rpB,f.out];rfl,bR.alloc lR _⟩
   ·have C:y<x:=by omega
    by_cases k2:65536≤x
    ·have f:=Hd (G.out (by omega));clear k1;go_wp2_with fail;go_ret;exact⟨by rw[rpB,f.out];rfl,bR.alloc lR _⟩
    ·have D:x<65536:=(by omega);clear k1 k2;go_wp2_with fail;go_roundg (gk-1);case measure=>omega
     case rel=>
      refine⟨r+1,by omega,by go_num,by rw[S.out],?_,rfl⟩;intro i Z;rcases aB i r with h|h
      ·exact m.out i h
      ·obtain rfl:i=r:=(by omega);rw[←Y.out,←O.out];exact⟨C,D⟩
  ·obtain rfl:r=k:=(by omega);have K:Ki L=true:=(by rw[Fm,←N.out];exact m.out);have I:rpB c a L=decide (c=32∧(a=0∨a=32)):=(by rw[rpB,K,Bool.true_and]);have v:=Hd I;clear K I
   by_cases k1:c=32
   ·have R:((c:Int)==32)=true:=by rw[beq_iff_eq];omega
    by_cases k2:a=0
    ·have X:((a:Int)==0)=true:=(by rw[beq_iff_eq];omega);have f:=Hd (decide_eq_true (show c=32∧(a=0∨a=32)from⟨k1,.inl k2⟩));clear k1 k2;go_wp2_with fail;go_ret;exact⟨Ae (v.out.trans f.out).symm,bR.alloc lR _⟩
    ·have X:((a:Int)==0)=false:=by rw[beq_eq_false_iff_ne];omega
     by_cases k3:a=32
     ·have V:((a:Int)==32)=true:=(by rw[beq_iff_eq];omega);have f:=Hd (decide_eq_true (show c=32∧(a=0∨a=32)from⟨k1,.inr k3⟩));clear k1 k2 k3;go_wp2_with fail;go_ret;exact⟨Ae (v.out.trans f.out).symm,bR.alloc lR _⟩
     ·have V:((a:Int)==32)=false:=(by rw[beq_eq_false_iff_ne];omega);have f:=Hd (decide_eq_false (show¬(c=32∧(a=0∨a=32)) by omega));clear k1 k2 k3;go_wp2_with fail;go_ret;exact⟨Ae (v.out.trans f.out).symm,bR.alloc lR _⟩
   ·have R:((c:Int)==32)=false:=(by rw[beq_eq_false_iff_ne];omega);have f:=Hd (decide_eq_false (show¬(c=32∧(a=0∨a=32)) by omega));clear k1;go_wp2_with fail;go_ret;exact⟨Ae (v.out.trans f.out).symm,bR.alloc lR _⟩
def At (d:NodeD):Bool:=
 let l:=d.leaf
 let p:=d.par
 if d.kind=0 then nlB l.box.length l.sign.length l.ident.length l.source l.par.length l.sig.length&&npB p.box.length p.hash.length p.late.length
 else if d.kind=1 then rlB l.box.length l.sign.length l.ident.length l.source l.par.length l.sig.length&&npB p.box.length p.hash.length p.late.length
 else if d.kind=2 then nlB l.box.length l.sign.length l.ident.length l.source l.par.length l.sig.length&&rpB p.box.length p.hash.length p.late
 else false
def NodeC (w:World)(d:NodeD)(c:Array Value):Prop:=
 ∃a1 c1 a2 c2 a3 c3 a4 c4 a5 c5 b1 e1 b2 e2 b3 e3,c=#[rA rD (d.kind:Nat),.slice a1 d.leaf.box.length c1,.slice a2 d.leaf.sign.length c2,.slice a3 d.leaf.ident.length c3,rA rD (d.leaf.source:Nat),.slice a4 d.leaf.par.length c4,.slice a5 d.leaf.sig.length c5,
  .slice b1 d.par.box.length e1,.slice b2 d.par.hash.length e2,.slice b3 d.par.late.length e3]∧
  Rd w (.slice a1 d.leaf.box.length c1) (bvs d.leaf.box)∧Rd w (.slice a2 d.leaf.sign.length c2) (bvs d.leaf.sign)∧Rd w (.slice a3 d.leaf.ident.length c3) (bvs d.leaf.ident)∧
  Rd w (.slice a4 d.leaf.par.length c4) (bvs d.leaf.par)∧Rd w (.slice a5 d.leaf.sig.length c5) (bvs d.leaf.sig)∧
  Rd w (.slice b1 d.par.box.length e1) (bvs d.par.box)∧Rd w (.slice b2 d.par.hash.length e2) (bvs d.par.hash)∧Rd w (.slice b3 d.par.late.length e3) (ivs .i64 d.par.late)
structure NodeOk (d:NodeD):Prop where
 kind:d.kind<256
 source:d.leaf.source<256
 box:∀n∈d.leaf.box,n<256
 sign:∀n∈d.leaf.sign,n<256
 ident:∀n∈d.leaf.ident,n<256
 par:∀n∈d.leaf.par,n<256
 sig:∀n∈d.leaf.sig,n<256
 pbox:∀n∈d.par.box,n<256
 hash:∀n∈d.par.hash,n<256
 late:∀n∈d.par.late,-9223372036854775808≤n∧n≤9223372036854775807
def Cd (d:NodeD):Bool:=decide (d.leaf.box.length≤200∧d.leaf.sign.length≤200∧d.leaf.ident.length≤200∧d.leaf.par.length≤200∧d.leaf.sig.length≤200∧d.par.box.length≤200∧d.par.hash.length≤200∧d.par.late.length≤1000)
def exB (d:NodeD):Bool:=decide (d.leaf.box.length≤200∧d.leaf.sign.length≤200∧d.leaf.ident.length≤200∧d.leaf.par.length≤200∧d.leaf.sig.length≤200∧d.par.box.length≤200∧d.par.hash.length≤200∧d.par.late.length≤60)
theorem Tp {d:NodeD}(h:exB d=true):Cd d=true:=by
 have:=of_decide_eq_true h;exact decide_eq_true ⟨this.1,this.2.1,this.2.2.1,this.2.2.2.1,this.2.2.2.2.1,this.2.2.2.2.2.1,this.2.2.2.2.2.2.1,bM this.2.2.2.2.2.2.2 (by decide)⟩
theorem NodeC.below {w w':World} {B:Nat} {d:NodeD} {c:Array Value}(h:NodeC w d c)(b:Below B w w')(a:w.heap.size≤B):NodeC w' d c:=by
 obtain⟨m,c1,f,c2,i,c3,k,c4,n,c5,l,e1,q,e2,o,e3,rfl,h1,h2,h3,j,g,e,p,r⟩:=h;exact⟨m,c1,f,c2,i,c3,k,c4,n,c5,l,e1,q,e2,o,e3,rfl,h1.below b a,h2.below b a,h3.below b a,j.below b a,g.below b a,e.below b a,p.below b a,r.below b a⟩
theorem Gn {w:World} {a:Option Addr} {n c:Nat} {xs:List Value}(h:Rd w (q9 a n c) xs):n≤c∧c≤9223372036854775807:=by
 obtain⟨a',c',he,h1,h2,_⟩:=h;simp only[Value.slice.injEq]at he;obtain⟨_,rfl,rfl⟩:=he;unfold maxLen at h2;exact⟨h1,h2⟩
theorem Tq (d:NodeD)(c:Array Value)(w:World)(h:NodeC w d c)(hs:Cd d=true):
  Calls prog 169 #[.agg c] w fun e w'=>e=.returned (.bool (At d))∧Below w.heap.size w w':=by
 have L:=of_decide_eq_true hs;obtain⟨a1,c1,Q,c2,X,c3,a4,c4,a5,c5,b1,e1,Y,e2,b3,e3,rfl,h1,h2,h3,T,S,Z,h7,M⟩:=h;obtain⟨kind,leaf,par⟩:=d;simp only at h1 h2 h3 T S Z h7 M L⊢;have v:=fun w=>Kh a1 Q X a4 a5 leaf.box.length leaf.sign.length leaf.ident.length leaf.par.length leaf.sig.length c1 c2 c3 c4 c5 leaf.source w;have B:=fun w=>Za5 a1 Q X a4 a5 leaf.box.length leaf.sign.length leaf.ident.length leaf.par.length leaf.sig.length c1 c2 c3 c4 c5 leaf.source (by unfold maxLen;omega) (by omega) w;have D:=fun w=>To b1 Y b3 par.box.length par.hash.length par.late.length e1 e2 e3 (by omega) w;have G:=fun w h=>Ib b1 Y b3 par.box.length par.hash.length e1 e2 e3 par.late w h;have V:At ⟨kind,leaf,par⟩=(if kind=0 then nlB leaf.box.length leaf.sign.length leaf.ident.length leaf.source leaf.par.length leaf.sig.length&&npB par.box.length par.hash.length par.late.length
  else if kind=1 then rlB leaf.box.length leaf.sign.length leaf.ident.length leaf.source leaf.par.length leaf.sig.length&&npB par.box.length par.hash.length par.late.length
  else if kind=2 then nlB leaf.box.length leaf.sign.length leaf.ident.length leaf.source leaf.par.length leaf.sig.length&&rpB par.box.length par.hash.length par.late else false):=rfl
 rw[V];obtain⟨m1,s⟩:=eX leaf.box.length;obtain⟨U,o⟩:=eX leaf.sign.length;obtain⟨m3,n⟩:=eX leaf.ident.length;obtain⟨R,q⟩:=eX leaf.par.length;obtain⟨m5,r⟩:=eX leaf.sig.length;obtain⟨W,p⟩:=eX par.box.length;obtain⟨m7,t⟩:=eX par.hash.length;rw[←s,←o,←n,←q,←r]at v B;rw[←p,←t]at D G;rw[←s,←o,←n,←q,←r,←p,←t];obtain⟨m8,F⟩:=eX par.late.length;rw[←F]at D G M⊢;obtain⟨x,m⟩:=eX leaf.source;rw[←m]at v B⊢;obtain⟨rl,H⟩:=eX (rlB m1 U m3 x R m5);rw[←H]at v⊢;obtain⟨nl,I⟩:=eX (nlB m1 U m3 x R m5);rw[←I]at B⊢;obtain⟨np,E⟩:=eX (npB W m7 m8);rw[←E]at D⊢;obtain⟨rp,A⟩:=eX (rpB W m7 par.late);rw[←A]at G⊢;have P:=Hd v;have y:=Hd B;have C:=Hd D;have N:=Hd G;have O:=Hd M;clear v B D G h1 h2 h3 T S Z h7 M s o n q r p t F m H I E A V hs L;have K:∀cs:Array Value,Below w.heap.size w (w.alloc (.cells cs 52)):=fun cs=>bR.alloc lR _;have l:=Hd K;clear K
 by_cases k0:kind=0
 ·subst k0;rw[if_pos rfl];go_enter func169,ntmps169;go_wp2_with fail;refine(y.out _).mono ?_;rintro e z ⟨rfl,b⟩;have k:=b.size;simp only[World.alloc]at k;have J:w.heap.size<z.heap.size:=(by simp at k;omega);have a:=(Blk.new w 52 _).below b (by simp);have x7:=a.cell 7;have x8:=a.cell 8;have x9:=a.cell 9;simp only[bZ,cA,cB]at x7 x8 x9;have f:=(l.out _).trans (b.mono (by simp));have g:=Hd f;have u:=Hd (O.out.below f lR);clear b k a f;cases nl with
  |true=>
   go_wp2_with fail;refine(C.out _).mono ?_;rintro e w2 ⟨rfl,i⟩;have j:=Hd (g.out.trans (i.mono (by omega)));clear i;go_wp2_with fail;go_ret;exact⟨rfl,j.out⟩
  |false=>
   go_wp2_with fail;go_ret;exact⟨rfl,g.out⟩
 ·by_cases k1:kind=1
  ·subst k1;rw[if_neg (by omega),if_pos rfl];go_enter func169,ntmps169;go_wp2_with fail;refine(P.out _).mono ?_;rintro e z ⟨rfl,b⟩;have k:=b.size;simp only[World.alloc]at k;have J:w.heap.size<z.heap.size:=(by simp at k;omega);have a:=(Blk.new w 52 _).below b (by simp);have x7:=a.cell 7;have x8:=a.cell 8;have x9:=a.cell 9;simp only[bZ,cA,cB]at x7 x8 x9;have f:=(l.out _).trans (b.mono (by simp));have g:=Hd f;have u:=Hd (O.out.below f lR);clear b k a f;cases rl with
   |true=>
    go_wp2_with fail;refine(C.out _).mono ?_;rintro e w2 ⟨rfl,i⟩;have j:=Hd (g.out.trans (i.mono (by omega)));clear i;go_wp2_with fail;go_ret;exact⟨rfl,j.out⟩
   |false=>
    go_wp2_with fail;go_ret;exact⟨rfl,g.out⟩
  ·by_cases k2:kind=2
   ·subst k2;rw[if_neg (by omega),if_neg (by omega),if_pos rfl];go_enter func169,ntmps169;go_wp2_with fail;refine(y.out _).mono ?_;rintro e z ⟨rfl,b⟩;have k:=b.size;simp only[World.alloc]at k;have J:w.heap.size<z.heap.size:=(by simp at k;omega);have a:=(Blk.new w 52 _).below b (by simp);have x7:=a.cell 7;have x8:=a.cell 8;have x9:=a.cell 9;simp only[bZ,cA,cB]at x7 x8 x9;have f:=(l.out _).trans (b.mono (by simp));have g:=Hd f;have u:=Hd (O.out.below f lR);clear b k a f;cases nl with
    |true=>
     go_wp2_with fail;refine(N.out _ u.out).mono ?_;rintro e w2 ⟨rfl,i⟩;have j:=Hd (g.out.trans (i.mono (by omega)));clear i;go_wp2_with fail;go_ret;exact⟨rfl,j.out⟩
    |false=>
     go_wp2_with fail;go_ret;exact⟨rfl,g.out⟩
   ·rw[if_neg k0,if_neg k1,if_neg k2];have t0:((kind:Int)==0)=false:=(by rw[beq_eq_false_iff_ne];omega);have t1:((kind:Int)==1)=false:=(by rw[beq_eq_false_iff_ne];omega);have t2:((kind:Int)==2)=false:=(by rw[beq_eq_false_iff_ne];omega);clear k0 k1 k2;go_enter func169,ntmps169;go_wp2_with fail;go_ret;exact⟨rfl,l.out _⟩
def Kj (d:LeafD):List Nat:=Pe [d.box,d.sign,d.ident]++[d.source]++(if d.source=3 then Bf d.par else [])
def Ny (d:LeafD):Prop:=d.box.length≤200∧d.sign.length≤200∧d.ident.length≤200∧d.par.length≤200∧d.sig.length≤200
theorem Tr (b:Value) (B:List Nat) (d:LeafD) (k o p a4 a5:Option Addr) (c1 c2 c3 c4 c5:Nat) (w:World) (hb:Rd w b (bvs B)) (hB:B.length<1000000000) (hs:Ny d) (aX:d.source<256)
  (h1:Rd w (.slice k d.box.length c1) (bvs d.box)) (h2:Rd w (.slice o d.sign.length c2) (bvs d.sign)) (h3:Rd w (.slice p d.ident.length c3) (bvs d.ident)) (h4:Rd w (.slice a4 d.par.length c4) (bvs d.par)):
  Calls prog 171 #[b,.agg #[.slice k d.box.length c1,.slice o d.sign.length c2,.slice p d.ident.length c3,rA rD (d.source:Nat),.slice a4 d.par.length c4,.slice a5 d.sig.length c5]] w
   fun e w'=>∃v,e=.returned v∧Own w' w.heap.size 5 v (bvs (B++Kj d))∧Below w.heap.size w w':=by
 obtain⟨s1,s2,s3,s4,s5⟩:=hs;have j:∀r∈[d.box,d.sign,d.ident],r.length≤200:=by
  intro r hr;simp only[List.mem_cons,List.not_mem_nil,or_false]at hr;rcases hr with rfl|rfl|rfl<;>assumption
 have s:∀r,(Pe ([d.box,d.sign,d.ident].take r)).length≤612:=by
  intro r;have h:=Yr ([d.box,d.sign,d.ident].take r) (fun x hx=>j x (cC hx));have:([d.box,d.sign,d.ident].take r).length≤3:=(by rw[cD];simp only[bY,bT];omega);omega
 have V:Kj d=Pe [d.box,d.sign,d.ident]++[d.source]++(if d.source=3 then Bf d.par else []):=rfl;obtain⟨f,O⟩:=eX ([d.box,d.sign,d.ident]);rw[←O]at s V j;have I:f.length=3:=(by rw[O];rfl);obtain⟨V1,bD⟩:=eX (Value.slice k d.box.length c1);have aW:∀W:World,∀N,N=W.heap.size→Below w.heap.size w W→RdL (W.alloc (.cells #[.slice k d.box.length c1,.slice o d.sign.length c2,.slice p d.ident.length c3] 28)) (q9 (some ⟨N,0,rF⟩) 3 3) f:=by
  intro W N hN hW;refine⟨[.slice k d.box.length c1,.slice o d.sign.length c2,.slice p d.ident.length c3],?_,by rw[I];rfl,?_⟩
  ·exact(Own.full (w:=W) (B:=W.heap.size) (e:=28) (cs:=#[.slice k d.box.length c1,.slice o d.sign.length c2,.slice p d.ident.length c3]) hN (by omega) (by unfold maxLen;simp) (n:=3) rfl).rd
  ·intro i r z;rw[O]at z;have k1:=(h1.below hW lR).alloc (.cells #[.slice k d.box.length c1,.slice o d.sign.length c2,.slice p d.ident.length c3] 28);have k2:=(h2.below hW lR).alloc (.cells #[.slice k d.box.length c1,.slice o d.sign.length c2,.slice p d.ident.length c3] 28);have k3:=(h3.below hW lR).alloc (.cells #[.slice k d.box.length c1,.slice o d.sign.length c2,.slice p d.ident.length c3] 28)
   match i,z with
   |0,z=>simp only[cA,Option.some.injEq]at z;subst z;exact⟨_,rfl,k1⟩
   |1,z=>simp only[cB,cA,Option.some.injEq]at z;subst z;exact⟨_,rfl,k2⟩
   |2,z=>simp only[cB,cA,Option.some.injEq]at z;subst z;exact⟨_,rfl,k3⟩
   |n+3,z=>simp at z
 clear V1 bD;have y:=fun(r:Nat) (h:r<f.length)=>Zc1 (l:=f) h;have G:Below w.heap.size w (w.alloc (.cells #[.slice k d.box.length c1,.slice o d.sign.length c2,.slice p d.ident.length c3,rA rD (d.source:Nat),.slice a4 d.par.length c4,.slice a5 d.sig.length c5] 44)):=bR.alloc lR _;have hM:=aW _ (w.heap.size+1) (by simp) G;have R:=h4;have t:=Blk.new w 44 #[.slice k d.box.length c1,.slice o d.sign.length c2,.slice p d.ident.length c3,rA rD (d.source:Nat),.slice a4 d.par.length c4,.slice a5 d.sig.length c5];obtain⟨n1,aQ⟩:=eX d.box.length;obtain⟨n2,aT⟩:=eX d.sign.length;obtain⟨n3,aM⟩:=eX d.ident.length;obtain⟨n5,aL⟩:=eX d.sig.length;rw[←aQ,←aT,←aM]at hM G t⊢;rw[←aL]at hM G t⊢;have C:=t.alloc (.cells #[q9 k n1 c1,q9 o n2 c2,q9 p n3 c3] 28);have A:=G.alloc (by simp) (.cells #[q9 k n1 c1,q9 o n2 c2,q9 p n3 c3] 28);have hz:((w.alloc (.cells #[q9 k n1 c1,q9 o n2 c2,q9 p n3 c3,rA rD (d.source:Nat),.slice a4 d.par.length c4,q9 a5 n5 c5] 44)).alloc (.cells #[q9 k n1 c1,q9 o n2 c2,q9 p n3 c3] 28)).heap.size=w.heap.size+2:=(by simp);have aE:=hb.below A lR;have Y:=R.below A lR;obtain⟨W1,aH⟩:=eX (((w.alloc (.cells #[q9 k n1 c1,q9 o n2 c2,q9 p n3 c3,rA rD (d.source:Nat),.slice a4 d.par.length c4,q9 a5 n5 c5] 44)).alloc (.cells #[q9 k n1 c1,q9 o n2 c2,q9 p n3 c3] 28)));rw[←aH]at hM C A hz aE Y;have HM:=Hd hM;have aV:=Hd C;have bH:=Hd A;have HZ:=Hd hz;have bN:=Hd aE;have bG:=Hd Y;have bA:=Hd aH;have HU:=Hd V;have bI:=Hd y;have aK:=Hd s;have HR:=Hd j;have H:=Hd I;clear hM t C G A hz aE Y aH V y s j I R aW h1 h2 h3 h4 hb O aQ aT aM aL;go_enter func171,ntmps171;go_wp2_with fail;rw[←bA.out]
 go_loopg [0,15] 3 (fun q bv i wr=>∃r:Nat,r+q=3∧i=rA rC (r:Int)∧Rd wr bv (bvs (B++Pe (f.take r)))∧(0<r→Own wr (w.heap.size+2) 5 bv (bvs (B++Pe (f.take r))))∧Below (w.heap.size+2) W1 wr)
 case atStart=>exact⟨0,by omega,rfl,by simpa [Pe]using bN.out,fun h=>absurd h (by omega),bR⟩
 case round=>
  obtain⟨r,hr,rfl,aS,T,M⟩:=hrel;have bC:=Hd aS;have HO:=Hd T;have aD:=Hd M;have P:=M.size;rw[HZ.out]at P;have hm:=HM.out.below M (by rw[HZ.out];exact lR);obtain⟨am,bP,he,a9,bE,S⟩:=hm.cases;rw[H.out]at he;simp only[Value.slice.injEq]at he;obtain⟨rfl,-,rfl⟩:=he;have aP:=Hd S;clear aS T M S hm a9 bE
  by_cases hrk:r<3
  ·have aB:r<f.length:=(by have:=H.out;omega);obtain⟨b2,o2,u,aR,bX,c0,V⟩:=aP.out r aB;simp only[Option.some.injEq,Addr.mk.injEq,and_true]at aR;obtain⟨rfl,rfl⟩:=aR;rw[Nat.zero_add]at c0;have D:=HR.out _ (aJ aB);have y:=bI.out r aB;have s:=aK.out r;obtain⟨x,hx⟩:=eX (f[r]);rw[←hx]at V D y;obtain⟨au,nu,cu,rfl⟩:∃a n c,u=.slice a n c:=(by obtain⟨a,cap,e,_⟩:=V;exact⟨a,_,cap,e⟩);have aF:=Hd (fun b' (a8:Rd wr b' (bvs (B++Pe (f.take r))))=>Dr b' (q9 au nu cu) _ x wr a8 V (by rw[aG];omega) (by omega));have aI:=Hd y;have a7:decide ((r:Int)<3)=true:=(by rw[decide_eq_true_iff];omega);clear hx V y D s;go_wp2_with fail;refine(aF.out _ bC.out).mono ?_;rintro e w5 ⟨v5,rfl,J,aU⟩;have a6:=Hd (J.mono P);have bJ:=Hd (aD.out.trans (aU.mono P));clear J aU;go_wp2_with fail;go_roundg (gk-1);case measure=>omega
   case rel=>
    refine⟨r+1,by omega,by go_num,?_,fun _=> ?_,bJ.out⟩
    ·rw[aI.out,Tn,←bW];exact a6.out.rd
    ·rw[aI.out,Tn,←bW];exact a6.out
  ·obtain rfl:r=3:=(by omega);have ho:=HO.out (by omega);have ht:f.take 3=f:=(by rw[←H.out,cE]);rw[ht]at ho;have s:=aK.out 3;rw[ht]at s;have bB:=Hd ho;have L:=aV.out.below aD.out (by omega);have x3:=L.cell 3;have x4:=L.cell 4;simp only[bZ,cA,cB]at x3 x4;have bU:w.heap.size<wr.heap.size:=(by omega);have bO:=Hd L;have a7:decide (((3:Nat):Int)<3)=false:=(by decide);obtain⟨g,X⟩:=eX d.source;rw[←X]at x3 aX;have aC:=Hd X;clear ho ht L X;go_wp2_with (at_builtin;refine An rfl (.tmp 23) (.tmp 26) 28 rfl (w.heap.size+2) 5 _ 1 Bz _ _ rfl (bB.out.alloc _) ⟨wr.heap.size,0,rF⟩ (rA rD (g:Nat)) rfl ?c1 rfl ?c2 ?c3 ?_);case c1=>exact Ar rfl
   case c2=>rw[bvs_len,aG];omega
   case c3=>simp;omega
   rintro v6 w6 E-Z;have m:=(aD.out.alloc P (.cells #[rA rD (g:Nat)] 5)).trans Z;have aO:=Hd E;have bQ:=Hd m;have bS:w.heap.size+2≤w6.heap.size:=(by have:=Z.size;simp at this;omega);have K:=aV.out.below m (by omega);have y3:=K.cell 3;have y4:=K.cell 4;simp only[bZ,cA,cB]at y3 y4;rw[←aC.out]at y3;have a0:=bG.out.below m (by rw[HZ.out];exact lR);have bK:=Hd a0;have U:=(bH.out.trans (m.mono (by omega)));have Q:=Hd U;clear E Z m K a0 U x3 x4;have aY:bvs (B++Pe f)++[rA rD (g:Nat)]=bvs (B++Pe f++[g]):=(Yp _ _).symm;have aZ:=Hd aY;clear aY
   by_cases k3:g=3
   ·have t3:((g:Int)==3)=true:=(by rw[beq_iff_eq];omega);have aA:Hid (Kj d=Pe f++[g]++Bf d.par):=Hd (by rw[HU.out,←aC.out,if_pos k3]);have bL:Hid (Rd w6 v6 (bvs (B++Pe f++[g]))):=Hd (by rw[←aZ.out];exact aO.out.rd);have aF:=Hd (Dr v6 _ _ d.par w6 bL.out bK.out (by rw[aG,aG];simp;omega) (by omega));clear k3;go_wp2_with fail;refine aF.out.mono ?_;rintro e w7 ⟨v7,rfl,F,aN⟩;have bM:=Hd (F.mono (show w.heap.size≤w6.heap.size by omega));have bF:=Hd (Q.out.trans (aN.mono (by omega)));clear F aN;go_wp2_with fail;go_ret;refine⟨_,rfl,?_,bF.out⟩;rw[aA.out,←bW,←bW];exact bM.out
   ·have t3:((g:Int)==3)=false:=(by rw[beq_eq_false_iff_ne];omega);have aA:Hid (Kj d=Pe f++[g]):=Hd (by rw[HU.out,←aC.out,if_neg k3,bV]);clear k3;go_wp2_with fail;go_ret;refine⟨_,rfl,?_,Q.out⟩;rw[aA.out,←bW,←aZ.out];exact aO.out.mono (by omega)
end Go.Proofs.YtfofaiommeckbaaGreat
namespace Go.Proofs.YtfofaiommeckbaaGreat
open Go.RowKit ShaM
theorem Znb (n:Nat)(h1:1≤n)(h2:n≤31):bits .and .u64 ((18446744073709551616-n:Nat):Int) 31=((32-n:Nat):Int):=by
 show IntKind.u64.wrap ((BitVec.ofInt 64 ((18446744073709551616-n:Nat):Int)&&&BitVec.ofInt 64 ((31:Nat):Int)).toNat:Int)=_;rw[BitVec.toNat_and,BitVec.ofInt_natCast,BitVec.ofInt_natCast,BitVec.toNat_ofNat,BitVec.toNat_ofNat,aS (show 18446744073709551616-n<2^64 by omega),aS (show 31<2^64 by decide),IntKind.wrap_u64];have:=Nat.and_two_pow_sub_one_eq_mod (18446744073709551616-n) 5;simp only[Nat.reducePow,Nat.reduceSub]at this;rw[this];omega
theorem Zm6 (a b:Nat)(d:a<4294967296)(c:b<4294967296):bits .or .u32 (a:Int) (b:Int)=((a|||b:Nat):Int):=by
 have h2:a|||b<2^32:=Nat.or_lt_two_pow (by omega) (by omega)
 show IntKind.u32.wrap ((BitVec.ofInt 32 (a:Int)|||BitVec.ofInt 32 (b:Int)).toNat:Int)=_;rw[BitVec.toNat_or,BitVec.ofInt_natCast,BitVec.ofInt_natCast,BitVec.toNat_ofNat,BitVec.toNat_ofNat,aS (show a<2^32 by omega),aS (show b<2^32 by omega),IntKind.wrap_u32];omega
theorem Mq (a b:Nat)(d:a<4294967296)(c:b<4294967296):bits .xor .u32 (a:Int) (b:Int)=((a^^^b:Nat):Int):=by
 have h2:a^^^b<2^32:=Nat.xor_lt_two_pow (by omega) (by omega);show IntKind.u32.wrap ((BitVec.ofInt 32 (a:Int)^^^BitVec.ofInt 32 (b:Int)).toNat:Int)=_;rw[BitVec.toNat_xor,BitVec.ofInt_natCast,BitVec.ofInt_natCast,BitVec.toNat_ofNat,BitVec.toNat_ofNat,aS (show a<2^32 by omega),aS (show b<2^32 by omega),IntKind.wrap_u32];omega
theorem Zc4 (a b:Nat)(c:a<4294967296)(d:b<4294967296):bits .and .u32 (a:Int) (b:Int)=((a&&&b:Nat):Int):=by
 have h2:a&&&b<2^32:=bN Nat.and_le_left c;show IntKind.u32.wrap ((BitVec.ofInt 32 (a:Int)&&&BitVec.ofInt 32 (b:Int)).toNat:Int)=_;rw[BitVec.toNat_and,BitVec.ofInt_natCast,BitVec.ofInt_natCast,BitVec.toNat_ofNat,BitVec.toNat_ofNat,aS (show a<2^32 by omega),aS (show b<2^32 by omega),IntKind.wrap_u32];omega
theorem Zg9 (x n:Nat)(hx:x<4294967296)(h1:1≤n)(h2:n≤31)(w:World):
  Calls prog 290 #[.int .u32 (x:Nat),rA rC (-(n:Int))] w fun e w'=>e=.returned (.int .u32 (rot x n:Nat))∧w'=w:=by
 obtain⟨m,c⟩:=eX (18446744073709551616-n);obtain⟨s,a⟩:=eX (32-n);have e1:IntKind.u64.wrap (-(n:Int))=(m:Int):=(by rw[IntKind.wrap_u64];omega);have e2:=Znb n h1 h2;rw[←c,←a]at e2;have e3:(32:Int)-(s:Int)=(n:Int):=(by omega);have b:s<32:=(by omega);have d:=Hd a;clear c a;go_enter func290,ntmps290;go_wp2_with fail;go_ret;refine⟨?_,rfl⟩;have c1:(x:Int)*2^s%4294967296=((x*2^s%4294967296:Nat):Int):=(by rw[Int.natCast_emod,Int.natCast_mul,Int.natCast_pow];rfl);have c2:(x:Int)/2^n=((x/2^n:Nat):Int):=(by rw[Int.natCast_ediv,Int.natCast_pow];rfl);have c3:x/2^n<4294967296:=bN (bO _ _) hx;show Ending.returned (.int .u32 (bits BinOp.or IntKind.u32 ((x:Int)*2^s%4294967296) ((x:Int)/2^n)))=_;rw[c1,c2,Zm6 _ _ (Nat.mod_lt _ (by omega)) c3,d.out,rot_or hx (by omega)]
theorem Gp (x n:Nat)(hx:x<4294967296)(h1:1≤n)(h2:n≤31)(w:World):
  Calls prog 273 #[.int .u32 (x:Nat),rA rC (n:Nat)] w fun e w'=>e=.returned (.int .u32 (rot x n:Nat))∧w'=w:=by
 have R:=Hd (Zg9 x n hx h1 h2 w);go_enter func273,ntmps273;go_wp2_with fail;refine(R.out).mono ?_;rintro e w' ⟨rfl,rfl⟩;go_wp2_with fail;go_ret;exact⟨rfl,rfl⟩
end Go.Proofs.YtfofaiommeckbaaGreat
namespace Go.Proofs.YtfofaiommeckbaaGreat
open Go.RowKit WireM
def RdK (w:World)(B:Nat)(v:Value)(xs:List Value):Prop:=
 ∃a cap,v=.slice a xs.length cap∧xs.length≤cap∧cap≤maxLen∧
  ((xs=[]∧(a=none→cap=0))∨∃b off,a=some ⟨b,off,rF⟩∧b<B∧∀(j:Nat) u,xs[j]? =some u→w.cell? ⟨b,off+j,rF⟩=some u)
theorem RdK.rd {w:World} {B:Nat} {v:Value} {xs:List Value}(h:RdK w B v xs):Rd w v xs:=by
 obtain⟨a,cap,h1,h2,h3,h4|⟨b,off,h4,_,h5⟩⟩:=h
 ·exact⟨a,cap,h1,h2,h3,.inl h4⟩
 ·exact⟨a,cap,h1,h2,h3,.inr ⟨b,off,h4,h5⟩⟩
theorem Rd.k {w:World} {v:Value} {xs:List Value} {B:Nat}(h:Rd w v xs)(f:w.heap.size≤B):RdK w B v xs:=by
 obtain⟨a,cap,h1,h2,h3,c⟩:=h;refine⟨a,cap,h1,h2,h3,?_⟩;cases xs with
 |nil=>
  rcases c with c|⟨b,d,rfl,_⟩
  ·exact .inl c
  ·exact .inl ⟨rfl,fun h=>by cases h⟩
 |cons x xs=>
  rcases c with c|⟨b,d,rfl,e⟩
  ·cases c.1
  ·have:=World.block_lt_of_cell? w _ (e 0 x rfl);exact .inr ⟨b,d,rfl,by simp only at this;omega,e⟩
theorem RdK.keep {w w':World} {B:Nat} {v:Value} {xs:List Value}(h:RdK w B v xs)(hk:∀p:Addr,p.block<B→w'.cell? p=w.cell? p):RdK w' B v xs:=by
 obtain⟨a,cap,h1,h2,h3,d|⟨b,c,d,e,f⟩⟩:=h
 ·exact⟨a,cap,h1,h2,h3,.inl d⟩
 ·exact⟨a,cap,h1,h2,h3,.inr ⟨b,c,d,e,fun j u g=>(hk _ e).trans (f j u g)⟩⟩
def Only (B:Nat)(a w:World):Prop:=a.grownBy w (some B)
theorem Only.refl (B:Nat)(a:World):Only B a a:=World.grownBy.refl a _
theorem Only.trans {B:Nat} {a b c:World}(h:Only B a b)(k:Only B b c):Only B a c:=
 ⟨k.os.trans h.os,k.tape.trans h.tape,k.output.trans h.output,bM h.size k.size,fun i hi hne=>(k.block i (Nat.lt_of_lt_of_le hi h.size) hne).trans (h.block i hi hne)⟩
theorem Only.of {B:Nat} {a w:World}(h:Below a.heap.size a w):Only B a w:=⟨h.os,h.tape,h.output,h.size,fun i hi _=>h.block i hi⟩
theorem Only.set {a:World} {B:Nat}(i:Nat)(u:Value):Only B a (a.setCell ⟨B,i,rF⟩ u):=
 ⟨rfl,rfl,rfl,by simp[World.setCell],fun k hk hne=>Below.heap_setCell _ _ _ _ (fun e=>hne (by rw[e]))⟩
theorem Only.below {B C:Nat} {a w:World}(h:Only B a w)(h1:C≤B)(h2:C≤a.heap.size):Below C a w:=
 ⟨h.os,h.tape,h.output,h.size,fun i hi=>h.block i (by omega) (fun e=>by simp at e;omega)⟩
theorem Only.cell {B:Nat} {a w:World}(h:Only B a w) {p:Addr}(hp:p.block<B)(hs:B≤a.heap.size):w.cell? p=a.cell? p:=
 World.cell?_of_block (h.block p.block (by omega) (fun e=>by simp at e;omega))
def RS (w:World)(B:Nat)(L:List Nat)(er:Nat):Prop:=∃v,Blk w B 189 #[v,rA rD (er:Nat)]∧RdK w B v (bvs L)
theorem RS.lt {w:World} {B:Nat} {L:List Nat} {er:Nat}(h:RS w B L er):B<w.heap.size:=by obtain⟨v,h,_⟩:=h;exact h.lt
theorem RS.below {w w':World} {B:Nat} {L:List Nat} {er:Nat}(h:RS w B L er)(hb:Below w.heap.size w w'):RS w' B L er:=by
 obtain⟨v,h1,h2⟩:=h;exact⟨v,h1.below hb h1.lt,h2.keep fun p hp=>hb.cell (Nat.lt_trans hp h1.lt)⟩
theorem Ys (L:List Nat)(n:Nat):bvs (L.take n)=(bvs L).take n:=by simp[bvs,List.map_take]
theorem Yt (L:List Nat)(n:Nat):bvs (L.drop n)=(bvs L).drop n:=by simp[bvs,List.map_drop]
theorem RdK.front {w:World} {B:Nat} {a:Option Addr} {cap n:Nat} {L:List Nat}(h:RdK w B (.slice a L.length cap) (bvs L))(m:n≤L.length):RdK w B (q9 a n cap) (bvs (L.take n)):=by
 obtain⟨l,cap',g,h2,h3,c⟩:=h;simp only[Value.slice.injEq]at g;obtain⟨rfl,_,rfl⟩:=g;have i:(bvs (L.take n)).length=n:=(by rw[bvs_len,cD];omega);rw[bvs_len]at h2;refine⟨a,cap,by rw[i],by rw[i];omega,h3,?_⟩;rcases c with⟨c,f⟩|⟨b,e,c,f,k⟩
 ·left
  refine⟨by rw[Ys,c];simp,f⟩
 ·right
  refine⟨b,e,c,f,?_⟩;intro j u d;rw[Ys,List.getElem?_take]at d
  split at d
  ·exact k j u d
  ·cases d
theorem RdK.rest {w:World} {B:Nat} {a:Option Addr} {cap n:Nat} {L:List Nat}(h:RdK w B (.slice a L.length cap) (bvs L))(m:n≤L.length):RdK w B (.slice (a.map (·.add n)) (L.length-n) (cap-n)) (bvs (L.drop n)):=by
 obtain⟨l,cap',f,h2,h3,e⟩:=h;simp only[Value.slice.injEq]at f;obtain⟨rfl,_,rfl⟩:=f;have g:(bvs (L.drop n)).length=L.length-n:=(by rw[bvs_len,List.length_drop]);rw[bvs_len]at h2;refine⟨_,cap-n,by rw[g],by rw[g];omega,by omega,?_⟩;rcases e with⟨e,d⟩|⟨b,c,rfl,d,k⟩
 ·left
  refine⟨by rw[Yt,e];simp,?_⟩;intro h;have:a=none:=by cases a with
   |none=>rfl
   |some a=>simp at h
  rw[d this];omega
 ·right
  refine⟨b,c+n,by simp[Addr.add_lit],d,?_⟩;intro j u i;rw[Yt,List.getElem?_drop]at i;rw[Nat.add_assoc];exact k _ u i
theorem RdK.rest0 {w:World} {B:Nat} {a:Option Addr} {n:Nat} {L:List Nat}(hn:L.length≤n):RdK w B (.slice a (L.length-n) 0) (bvs (L.drop n)):=by
 have hl:bvs (L.drop n)=[]:=(by rw[List.drop_eq_nil_of_le hn];rfl);rw[hl];refine⟨a,0,by simp;omega,by simp,aA _,.inl ⟨rfl,fun _=>rfl⟩⟩
theorem Gq (B:Nat)(L:List Nat)(b:Nat)(w:World)(h:RS w B L 0)(k:b<256):
  Calls prog 217 #[rB (some ⟨B,0,rF⟩),rA rD (b:Nat)] w fun e w'=>e=.returned (.tuple #[])∧RS w' B L b∧Only B w w'∧w'.heap.size=w.heap.size:=by
 obtain⟨v,a,c⟩:=h;have g:=a.cell 1;have j:=a.frozen 1;simp only[bZ,cA,cB]at g;have f:=Hd a;have d:=Hd c;clear a c;go_enter func217,ntmps217;go_wp2_with fail
 go_end0
 refine⟨rfl,⟨v,?_,?_⟩,Only.set _ _,by simp[World.setCell]⟩
 ·exact f.out.set 1 _
 ·exact d.out.keep fun p i=>World.cell?_setCell_other _ _ _ _ (fun e=>by subst e;exact absurd i (bP _))
theorem Rm (B:Nat)(L:List Nat)(er:Nat)(n:Int)(w:World)(h:RS w B L er)(d:er≠0):
  Calls prog 200 #[rB (some ⟨B,0,rF⟩),rA rC n] w fun e w'=>e=.returned (.tuple #[q9 rF 0 0,.bool false])∧w=w':=by
 obtain⟨v,a,c⟩:=h;have b:=a.cell 1;have f:((er:Int) !=0)=true:=(by simp;omega);simp only[bZ,cA,cB]at b;clear a c d;go_enter func200,ntmps200;go_wp2_with fail;go_ret2;exact⟨rfl,rfl⟩
theorem Zha (B:Nat)(L:List Nat)(n:Int)(w:World)(h:RS w B L 0)(k:n<0):
  Calls prog 200 #[rB (some ⟨B,0,rF⟩),rA rC n] w fun e w'=>e=.returned (.tuple #[q9 rF 0 0,.bool false])∧RS w' B L 1∧Only B w w'∧w'.heap.size=w.heap.size:=by
 have b:=Hd (Gq B L 1 w h (by omega));obtain⟨v,a,i⟩:=h;have f:=a.cell 1;simp only[bZ,cA,cB]at f;clear a i;go_enter func200,ntmps200;go_wp2_with fail;refine b.out.mono ?_;rintro e j ⟨rfl,h1,h2,h3⟩;have d:=Hd h1;have g:=Hd h2;have c:=Hd h3;clear h1 h2 h3;go_wp2_with fail;go_ret2;exact⟨rfl,d.out,g.out,c.out⟩
theorem My (B:Nat)(L:List Nat)(n:Int)(w:World)(h:RS w B L 0)(o:(L.length:Int)<n):
  Calls prog 200 #[rB (some ⟨B,0,rF⟩),rA rC n] w fun e w'=>e=.returned (.tuple #[q9 rF 0 0,.bool false])∧RS w' B L 4∧Only B w w'∧w'.heap.size=w.heap.size:=by
 have c:=Hd (Gq B L 4 w h (by omega));obtain⟨v,b,l⟩:=h;obtain⟨a,cap,rfl,_⟩:=l;rw[bvs_len]at b;have d:=b.cell 0;have i:=b.cell 1;simp only[bZ,cA,cB]at d i;have k:0≤n:=(by omega);clear b;go_enter func200,ntmps200;go_wp2_with fail;refine c.out.mono ?_;rintro e m ⟨rfl,h1,h2,h3⟩;have g:=Hd h1;have j:=Hd h2;have f:=Hd h3;clear h1 h2 h3;go_wp2_with fail;go_ret2;exact⟨rfl,g.out,j.out,f.out⟩
theorem Rn (B:Nat)(L:List Nat)(n:Nat)(w:World)(h:RS w B L 0)(l:n≤L.length):
  Calls prog 200 #[rB (some ⟨B,0,rF⟩),rA rC (n:Nat)] w fun e w'=>(∃v',e=.returned (.tuple #[v',.bool true])∧RdK w' B v' (bvs (L.take n)))∧RS w' B (L.drop n) 0∧Only B w w'∧w'.heap.size=w.heap.size:=by
 obtain⟨v,b,d⟩:=h;obtain⟨a,cap,rfl,f,j,g⟩:=id d;rw[bvs_len]at b f d;have r:=b.cell 0;have s:=b.cell 1;have x:=b.frozen 0;simp only[bZ,cA,cB]at r s;have o:L.length≤9223372036854775807:=(by unfold maxLen at j;omega);have q:=Hd b;have m:=Hd d;have keep:Hid (∀u (p:Addr),p.block<B→(w.setCell ⟨B,0,rF⟩ u).cell? p=w.cell? p):=Hd (fun u p t=>World.cell?_setCell_other _ _ _ _ (fun e=>by subst e;exact absurd t (bP _)));clear b d g;go_enter func200,ntmps200;go_wp2_with fail;all_goals go_ret2
 ·have k:cap=n:=(by assumption);have c:=m.out.front l;have i:=RdK.rest0 (w:=w.setCell ⟨B,0,rF⟩ (Value.slice a (L.length-n) 0)) (B:=B) (a:=a) (n:=n) (L:=L) (by omega);rw[k]at c;refine⟨⟨_,rfl,c.keep (keep.out _)⟩,⟨_,q.out.set 0 _,i⟩,Only.set _ _,by simp[World.setCell]⟩
 ·refine⟨⟨_,rfl,(m.out.front l).keep (keep.out _)⟩,⟨_,q.out.set 0 _,?_⟩,Only.set _ _,by simp[World.setCell]⟩;exact(m.out.rest l).keep (keep.out _)
def Gr (L:List Nat):Nat:=L.foldl (fun a c=>a*256+c) 0
theorem Ts (L:List Nat)(c:Nat):Gr (L++[c])=Gr L*256+c:=by simp[Gr]
theorem Ro:∀(k:Nat) (L:List Nat),L.length=k→(∀n∈L,n<256)→Gr L<256^k:=by
 intro k
 induction k with
 |zero=>intro L h _;rw[bS h];decide
 |succ k ih=>
  intro L h b;have a:L≠[]:=(by intro e;subst e;simp at h);rw[←List.dropLast_concat_getLast a,Ts];have h1:=ih L.dropLast (by simp[h]) (fun n c=>b n (List.dropLast_subset _ c));have h2:=b _ (List.getLast_mem a);rw[aN];omega
theorem Znc (a c:Nat)(hc:c<256):a*256|||c=a*256+c:=by
 have:=Nat.two_pow_add_eq_or_of_lt (i:=8) (b:=c) hc a;rw[Nat.mul_comm]at this;exact this.symm
theorem Za6 {L:List Nat} {r:Nat}(h:r<L.length):L.take (r+1)=L.take r++[L.getD r 0]:=by
 rw[bQ h,aH,aI h];rfl
theorem Zme {r:Nat}(h:r≤7):256^r≤72057594037927936:=by
 have:=Nat.pow_le_pow_right (show 0<256 by omega) h;exact this
theorem Lj (v:Value)(L:List Nat)(w:World)(h:Rd w v (bvs L))(H:L.length≤8)(z:∀n∈L,n<256):
  Calls prog 201 #[v] w fun e w'=>e=.returned (rA rE (Gr L:Nat))∧w=w':=by
 have d:=h.cases;obtain⟨a,cap,rfl,l,J,y⟩:=h;rw[bvs_len]at l d⊢;obtain⟨k,hk⟩:=eX L.length;rw[←hk]at l H d⊢;have G:=Hd d;have C:=Hd hk;have B:=Hd z;clear d y hk z;go_enter func201,ntmps201;go_wp2_with fail
 go_loopg [3,8] k (fun q m i wr=>∃r:Nat,r+q=k∧i=rA rC (r:Int)∧m=rA rE (Gr (L.take r):Nat)∧wr=w)
 case atStart=>exact⟨0,by omega,rfl,rfl,rfl⟩
 case round=>
  obtain⟨r,M,rfl,rfl,rfl⟩:=hrel
  by_cases hrk:r<k
  ·have g:r<L.length:=(by have:=C.out;omega);have o:=Ro r (L.take r) (by rw[cD];omega) (fun n s=>B.out n (cC s));have I:=Zme (show r≤7 by omega);have u:=Za6 g;have p:=Hh B.out (by omega) r;obtain⟨b,f,rfl,E⟩:∃b f,a=some ⟨b,f,rF⟩∧wr.cell? ⟨b,f+r,rF⟩=some (rA rD ((L.getD r 0:Nat):Int)):=by
    rcases G.out with⟨_,_,t,h0⟩|⟨b,f,cap',_,_,_,t,_,p⟩
    ·rw[h0]at g;simp at g
    ·simp only[Value.slice.injEq]at t;exact⟨b,f,t.1,p r hrk⟩
   obtain⟨c,j⟩:=eX (L.getD r 0);obtain⟨x,hx⟩:=eX (Gr (L.take r));rw[←j]at u E p;rw[←hx]at o⊢;have F:x<72057594037927936:=(by omega);have A:=u64_or_nat (x*256) c (by omega) (by omega);rw[Znc x c p]at A;have s:((x*256:Nat):Int)=(x:Int)*256:=(by omega);rw[s]at A;have K:=Hd hx;have D:=Hd u;clear j hx u o I s;go_wp2_with fail;go_roundg (gk-1);case measure=>omega
   case rel=>
    refine⟨r+1,by omega,by go_num,?_,rfl⟩;rw[D.out,Ts,←K.out];exact Hg (by omega)
  ·obtain rfl:r=k:=(by omega);go_wp2_with fail;go_ret;refine⟨Zcv ?_,rfl⟩;rw[C.out,cE]
theorem Kk (v:Value)(L:List Nat)(w:World)(h:Rd w v (bvs L)):
  Calls prog 101 #[v] w fun e w'=>e=.returned (rB (some ⟨w.heap.size,0,rF⟩))∧RS w' w.heap.size L 0∧Below w.heap.size w w':=by
 have b:=bvs_len L;obtain⟨a,cap,rfl,_⟩:=id h;rw[b]at h⊢;have d:=Hd h;clear h b;go_enter func101,ntmps101;go_wp2_with fail;go_ret;exact⟨rfl,⟨_,Blk.new _ _ _,(d.out.k lR).keep fun p c=>World.cell?_alloc_lt w _ p c⟩,bR.alloc lR _⟩
theorem Hj (B:Nat)(L:List Nat)(er:Nat)(w:World)(h:RS w B L er):
  Calls prog 155 #[rB (some ⟨B,0,rF⟩)] w fun e w'=>e=.returned (rA rD (er:Nat))∧w=w':=by
 obtain⟨v,a,c⟩:=h;have b:=a.cell 1;simp only[bZ,cA,cB]at b;clear a c;go_enter func155,ntmps155;go_wp2_with fail;go_ret;exact⟨rfl,rfl⟩
def Zhb (L:List Nat)(er:Nat):Nat:=if er≠0 then er else if L=[]then 0 else 5
theorem Zkm (B:Nat)(L:List Nat)(er:Nat)(w:World)(h:RS w B L er):
  Calls prog 122 #[rB (some ⟨B,0,rF⟩)] w fun e w'=>e=.returned (rA rD (Zhb L er:Nat))∧w=w':=by
 have c:=Hd (Hj B L er w h);obtain⟨v,b,i⟩:=h;obtain⟨a,cap,rfl,_⟩:=i;rw[bvs_len]at b;have d:=b.cell 0;have g:=b.cell 1;simp only[bZ,cA,cB]at d g;clear b;unfold Zhb
 by_cases he:er=0
 ·subst he
  by_cases hl:L=[]
  ·subst hl;rw[if_neg (by simp),if_pos rfl];simp only[bT]at d;go_enter func122,ntmps122;go_wp2_with fail;refine c.out.mono ?_;rintro e w' ⟨rfl,rfl⟩;go_wp2_with fail;go_ret;exact⟨rfl,rfl⟩
  ·rw[if_neg (by simp),if_neg hl];have f:0<L.length:=List.length_pos_iff.2 hl;clear hl;go_enter func122,ntmps122;go_wp2_with fail;refine c.out.mono ?_;rintro e w' ⟨rfl,rfl⟩;go_wp2_with fail;go_ret;exact⟨rfl,rfl⟩
 ·rw[if_pos he];have j:((er:Int) !=0)=true:=(by simp;omega);clear he;go_enter func122,ntmps122;go_wp2_with fail;refine c.out.mono ?_;rintro e w' ⟨rfl,rfl⟩;go_wp2_with fail;go_ret;exact⟨rfl,rfl⟩
open ShaM
def qvs (L:List Nat):List Value:=L.map fun n:Nat=> rA rE (n:Int)
@[simp] theorem qvs_len (L:List Nat):(qvs L).length=L.length:=by simp[qvs]
theorem Ic {L:List Nat} {i:Nat}(h:i<L.length):(qvs L)[i]? =some (rA rE ((L.getD i 0:Nat):Int)):=by simp[qvs,aH,h]
theorem Za7 (L M:List Nat):qvs (L++M)=qvs L++qvs M:=by simp[qvs]
theorem Zhc (L:List Nat)(d:Nat):qvs (L++[d])=qvs L++[rA rE (d:Int)]:=by simp[qvs]
theorem Wd (L:List Nat):∀u∈qvs L,u.oneCell'=true:=by
 intro u hu;simp only[qvs,List.mem_map]at hu;obtain⟨n,_,rfl⟩:=hu
 rfl
theorem Zm7:Elem prog 181 92 (rA rE 0) 8:=⟨underlying181,by kernel_rfl,rfl,by omega⟩
theorem Rd.lit' (w:World)(N:Nat)(cs:Array Value)(t:TypeId)(xs:List Value)(n:Nat)(a:N=w.heap.size)(h:cs.toList=xs)(b:n=xs.length)(c:n≤maxLen):Rd (w.alloc (.cells cs t)) (q9 (some ⟨N,0,rF⟩) n n) xs:=by
 subst a;have e:n=cs.size:=(by rw[b,←h,Array.length_toList]);have:=(Own.full (w:=w) (B:=0) (e:=t) (cs:=cs) rfl (aA _) (by omega) e).rd;rw[h]at this;exact this
theorem Rd.lit (w:World)(cs:Array Value)(t:TypeId)(xs:List Value)(n:Nat)(h:cs.toList=xs)(hn:n=xs.length)(hm:n≤maxLen):Rd (w.alloc (.cells cs t)) (q9 (some ⟨w.heap.size,0,rF⟩) n n) xs:=Rd.lit' w _ cs t xs n rfl h hn hm
theorem Zhd (x n:Nat)(w:World)(hx:x<4294967296)(j:n≤32):
  Calls prog 195 #[rA rE (x:Nat),rA rC (n:Nat)] w fun e w'=>e=.returned (rA rE (rot x n:Nat))∧w'=w:=by
 go_enter func195,ntmps195;go_wp2_with fail
 go_loopg [0,5] n (fun q h iv wr=>∃i y:Nat,i+q=n∧iv=rA rC (i:Nat)∧h=rA rE (y:Nat)∧y=rot x i∧wr=w)
 case atStart=>exact⟨0,x,by omega,rfl,rfl,(rot_zero x).symm,rfl⟩
 case round=>
  obtain⟨i,y,d,rfl,rfl,b,rfl⟩:=hrel;have c:=rot_lt hx (show i≤32 by omega);rw[←b]at c;have g:=Hd d;have f:=Hd b
  by_cases hlt:i<n
  ·have a:decide ((i:Int)<(n:Int))=true:=(by rw[decide_eq_true_iff];omega);clear d b;go_wp2_with fail;go_roundg (gk-1);case measure=>have:=g.out;omega
   case rel=>exact⟨i+1,y/2+y%2*2147483648,by have:=g.out;omega,by go_num,by go_num,by rw[rot_succ hx (by omega),f.out],rfl⟩
  ·have a:decide ((i:Int)<(n:Int))=false:=(by rw[decide_eq_false_iff_not];omega);obtain rfl:i=n:=(by omega);clear d b;go_wp2_with fail;go_ret;exact⟨by rw[f.out];rfl,rfl⟩
theorem Zc5 (x n:Nat)(w:World)(hx:x<4294967296)(k:n≤32):
  Calls prog 196 #[rA rE (x:Nat),rA rC (n:Nat)] w fun e w'=>e=.returned (rA rE (x/2^n:Nat))∧w'=w:=by
 go_enter func196,ntmps196;go_wp2_with fail
 go_loopg [0,5] n (fun q j iv wr=>∃i y:Nat,i+q=n∧iv=rA rC (i:Nat)∧j=rA rE (y:Nat)∧y=x/2^i∧wr=w)
 case atStart=>exact⟨0,x,by omega,rfl,rfl,by simp,rfl⟩
 case round=>
  obtain⟨i,y,d,rfl,rfl,c,rfl⟩:=hrel;have b:y≤x:=(by rw[c];exact bO _ _);have h:y<4294967296:=(by omega);have g:=Hd d;have f:=Hd c
  by_cases hlt:i<n
  ·have a:decide ((i:Int)<(n:Int))=true:=(by rw[decide_eq_true_iff];omega);clear d c b;go_wp2_with fail;go_roundg (gk-1);case measure=>have:=g.out;omega
   case rel=>exact⟨i+1,y/2,by have:=g.out;omega,by go_num,by go_num,by rw[f.out,Nat.div_div_eq_div_mul,aN],rfl⟩
  ·have a:decide ((i:Int)<(n:Int))=false:=(by rw[decide_eq_false_iff_not];omega);obtain rfl:i=n:=(by omega);clear d c b;go_wp2_with fail;go_ret;exact⟨by rw[f.out];rfl,rfl⟩
theorem Zc6 (w:World):
  Calls prog 143 #[] w fun e w'=>∃v1 v2,e=.returned (.tuple #[v1,v2])∧Rd w' v1 (qvs HL0)∧Rd w' v2 (qvs KL)∧Below w.heap.size w w':=by
 go_enter func143,ntmps143;go_wp2_with fail;go_ret2;have a:(w.alloc (.cells (qvs HL0).toArray 92)).heap.size=w.heap.size+1:=(by simp);refine⟨_,_,rfl,(Rd.lit w _ 92 (qvs HL0) 8 (by kernel_rfl) (by kernel_rfl) (by unfold maxLen;omega)).alloc _,?_,((Below.refl w.heap.size w).alloc lR _).alloc (by simp) _⟩;refine Rd.lit' _ _ _ 92 (qvs KL) 64 (by simp) (by kernel_rfl) (by kernel_rfl) (by unfold maxLen;omega)
end Go.Proofs.YtfofaiommeckbaaGreat
