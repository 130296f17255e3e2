/- Arguments as they come in, in the vocabulary of Mem: lists of numbers. -/
import Derived.Test.YtfofaiommeckbaaGreatZSliceSoundB
import Derived.Test.YtfofaiommeckbaaGreatZSliceSound00
import Derived.ProofKit
import Derived.OpenShut
import Derived.ShutString
import Derived.ChangeOld
import Derived.Test.YtfofaiommeckbaaGreatZSliceSound02
import Derived.Deep.QuietTactic
import Derived.BigQuiet
import Derived.Deep.LoopGhost
import Derived.Deep.RegionWith
open Nat renaming zero_le → aA, lt_or_ge → aB, le_trans → bO, mod_eq_of_lt → aU, lt_of_le_of_lt → bP, div_le_self → bQ, lt_irrefl → bS, pow_succ → aP
open List renaming mem_of_mem_take → bT, getElem?_eq_none → aM, getD_eq_getElem?_getD → aJ, getElem?_eq_getElem → aK, getElem_mem → aL, take_succ_eq_append_getElem → bU, eq_nil_of_length_eq_zero → bV, length_nil → bW, take_of_length_le → bY, append_nil → bZ, append_assoc → cA, length_append → aI, length_cons → cB, getElem?_toArray → cC, getElem?_cons_zero → cD, getElem?_cons_succ → cE, length_take → cF, take_length → cG
set_option linter.unusedVariables false
set_option maxRecDepth 100000
set_option maxHeartbeats 40000000
namespace Go.Proofs.YtfofaiommeckbaaGreat
open Go.ChangeShapes Go.WideShapes Go.ChangeAt Go.RowKit
section
def bvs (L:List Nat):List Value:=L.map fun n:Nat=> .int .u8 (n:Int)
def ivs (k:IntKind)(L:List Int):List Value:=L.map fun n=> .int k n
theorem Ou {a:Int}(h:(Lit.int .u8 a).wf=true):∃n:Nat,n<256∧a=(n:Int):=by
 have:=bounds_u8 h;exact⟨a.toNat,by omega,by omega⟩
theorem Zjd {a:Int}(h:(Lit.int .i64 a).wf=true): -9223372036854775808≤a∧a≤9223372036854775807:=by
 have:=bounds_i64 h;omega
section
variable {H:Type} {enc:TypeId×Value→H} {P:Program}
theorem Zge {T E:TypeId} {k:IntKind} (z:P.underlying T=some (.slice E)) (F:P.underlying E=some (.int k)) (D:P.cellsOf E=1) {W:World} {v:Value} {d:DataW H} {p:List MemPlace}
  {q:Nat} (ok:Value.okWide P W .any q T v) (h:DataW.Trod enc P W 0 (fun _=>true) true T v d p):
  ∃m:List Int,(∀n∈m,(Lit.int k n).wf=true)∧Rd W v (ivs k m):=by
 obtain⟨a,len,cap,rfl⟩:=okWide_slice z ok;obtain⟨y,I⟩:=h;rcases open_ints z F D I with⟨f,_⟩|⟨x,l,c,m,f,_,K,A,J,_,g,t⟩
 ·simp[Value.cells]at f;obtain⟨rfl,rfl,rfl⟩:=f;exact⟨[],by simp,none,0,rfl,lR,aA _,.inl ⟨rfl,fun _=>rfl⟩⟩
 ·simp[Value.cells]at f;obtain⟨rfl,rfl,rfl⟩:=f;have B:m.length=cap:=(by simpa using J);have e:(ivs k (m.take len)).length=len:=(by simp[ivs];omega);refine⟨m.take len,fun n G=>t n (bT G),some x,cap,by rw[e],by rw[e];exact K,A,?_⟩
  by_cases h0:len=0
  ·left;subst h0;simp[ivs]
  ·right
   obtain⟨b,r,o⟩:=x;have s:=g 0 (by omega);have i:o=none:=(by simpa [Addr.add]using World.cell?_spot s);subst i;refine⟨b,r,rfl,?_⟩;intro j u w;have C:j<len:=by
    rcases aB j len with h|h
    ·exact h
    ·rw[aM (by rw[e];exact h)]at w;cases w
   have:=g j (by omega);rw[Addr.add_lit]at this;rw[this,←w];simp[ivs,C,show j<m.length from by omega]
theorem Zai {T E:TypeId} (k:P.underlying T=some (.slice E)) (j:P.underlying E=some (.int .u8)) (i:P.cellsOf E=1) {W:World} {v:Value} {d:DataW H} {p:List MemPlace}
  {b:Nat} (ok:Value.okWide P W .any b T v) (h:DataW.Trod enc P W 0 (fun _=>true) true T v d p):
  ∃L:List Nat,(∀n∈L,n<256)∧Rd W v (bvs L):=by
 obtain⟨c,f,g⟩:=Zge k j i ok h;refine⟨c.map Int.toNat,?_,?_⟩
 ·intro n e;obtain⟨z,a,rfl⟩:=List.mem_map.1 e;obtain⟨n,e,rfl⟩:=Ou (f z a);omega
 ·have:bvs (c.map Int.toNat)=ivs .u8 c:=by
   simp only[bvs,ivs,List.map_map];apply List.map_congr_left;intro z a;obtain⟨n,_,rfl⟩:=Ou (f z a);simp
  rw[this];exact g
end
end
end Go.Proofs.YtfofaiommeckbaaGreat
namespace Go.Proofs.YtfofaiommeckbaaGreat
open Go.RowKit
@[simp] theorem bvs_len (L:List Nat):(bvs L).length=L.length:=by simp[bvs]
theorem Zjv {L:List Nat} {i:Nat}(h:i<L.length):(bvs L)[i]? =some (.int .u8 ((L[i]:Nat):Int)):=by simp[bvs,h]
theorem Qj {L:List Nat} {i:Nat}(h:i<L.length):(bvs L)[i]? =some (.int .u8 ((L.getD i 0:Nat):Int)):=by simp[bvs,h]
theorem Cd (L M:List Nat):bvs (L++M)=bvs L++bvs M:=by simp[bvs]
theorem Bp (L:List Nat):∀u∈bvs L,u.oneCell'=true:=by
 intro u hu;obtain⟨n,_,rfl⟩:=List.mem_map.1 hu
 rfl
theorem Gz {L:List Nat} {m:Nat}(h:∀n∈L,n<m)(h0:0<m)(i:Nat):L.getD i 0<m:=by
 rcases aB i L.length with hi|hi
 ·rw[aJ,aK hi];exact h _ (aL hi)
 ·rw[aJ,aM hi];exact h0
theorem Rd.cases {w:World} {v:Value} {L:List Nat}(h:Rd w v (bvs L)):
  (∃a cap,v=.slice a 0 cap∧L=[])∨∃b c cap,0<L.length∧L.length≤cap∧cap≤maxLen∧v=.slice (some ⟨b,c,none⟩) L.length cap∧b<w.heap.size∧
   ∀i,i<L.length→w.cell? ⟨b,c+i,none⟩=some (.int .u8 ((L.getD i 0:Nat):Int)):=by
 have f:=h.lt;obtain⟨a,cap,rfl,k,h2,h3⟩:=h
 by_cases hL:L=[]
 ·subst hL;exact .inl ⟨a,cap,rfl,rfl⟩
 ·right
  have e:0<L.length:=List.length_pos_iff.2 hL;have d:bvs L≠[]:=(by intro h;apply hL;simpa [bvs]using h);rcases h3 with h|⟨b,c,rfl,j⟩
  ·exact absurd h.1 d
  ·rcases f with h|⟨n,off',cap',g,m⟩
   ·exact absurd h d
   ·simp only[Value.slice.injEq,Option.some.injEq,Addr.mk.injEq]at g;refine⟨b,c,cap,e,by simpa using k,h2,by simp,by omega,?_⟩;intro i l;exact j i _ (Qj l)
theorem Zgf {L M:List Nat} {i:Nat}(hi:i<L.length)(hm:i<M.length)(h:L.take i=M.take i)(he:L.getD i 0=M.getD i 0):L.take (i+1)=M.take (i+1):=by
 rw[bU hi,bU hm,h];simp only[aJ,aK hi,aK hm,Option.getD_some]at he;rw[he]
theorem Zjw {L M:List Nat} {i:Nat}(he:L.getD i 0≠M.getD i 0):L≠M:=by
 intro h;subst h;exact he rfl
theorem Qk (v v':Value)(L M:List Nat)(w:World)(h:Rd w v (bvs L))(g:Rd w v' (bvs M))(z:∀n∈L,n<256)(r:∀n∈M,n<256):
  Calls Tryz.prog 19 #[v,v'] w fun e w'=>e=.returned (.bool (decide (L=M)))∧∃n,w'=w.drewN n:=by
 by_cases hlen:L.length=M.length
 ·rcases h.cases with⟨a,cap,rfl,rfl⟩|⟨b,K,cap,j,m,o,rfl,P,d⟩
  ·have:M=[]:=bV hlen.symm;subst this;rcases g.cases with⟨B,cap',rfl,_⟩|⟨I,off',cap',f,_⟩
   ·clear h g z r hlen;go_enter Tryz.func19,Tryz.ntmps19;go_wp2;refine wp_loop_rounds 1 ?_;rw[rounds_succ];go_wp2;go_ret;exact⟨rfl,0,rfl⟩
   ·simp at f
  ·rcases g.cases with⟨B,cap',rfl,rfl⟩|⟨I,off',cap',f,l,C,rfl,O,c⟩
   ·simp only[bW]at hlen;omega
   ·obtain⟨k,hk⟩:=eX L.length;rw[←hlen,←hk]at f l c⊢;rw[←hk]at j m d;have E:=Hd hk;have A:Hid (M.length=k):=Hd (by omega);have J:=Hd d;have q:=Hd c;have N:k≤9223372036854775807:=(by unfold maxLen at o;omega);clear hlen hk h g d c;go_enter Tryz.func19,Tryz.ntmps19;go_wp2
    go_loopw [5] (fun i wr=>∃i' n:Nat,i'≤k∧L.take i'=M.take i'∧i=.int .i64 i'∧wr=w.drewN n) (fun i _=>k-(intOf i).toNat)
    case atStart=>exact⟨0,0,by omega,rfl,rfl,rfl⟩
    case round=>
     obtain⟨i,n,Q,u,rfl,rfl⟩:=hrel;have H:=Hd u;clear u
     by_cases hlt:i<k
     ·have G:=J.out i hlt;have g2:=q.out i hlt;have x1:=Gz z (by omega) i;have x2:=Gz r (by omega) i;obtain⟨x,hx⟩:∃x,L.getD i 0=x:=⟨_,rfl⟩;obtain⟨y,p⟩:∃y,M.getD i 0=y:=⟨_,rfl⟩;rw[hx]at G x1;rw[p]at g2 x2;have t:=Hd hx;have s:=Hd p;clear hx p
      by_cases hxy:x=y
      ·subst hxy;go_wp2
       go_quiet (fail)
       go_wp2
       go_roundw
       case rel=>exact⟨i+1,_,by omega,Zgf (by have:=E.out;omega) (by have:=A.out;omega) H.out (t.out.trans s.out.symm),by go_num,rfl⟩
       case measure=>simp[intOf];omega
      ·have D:((x:Int) !=(y:Int))=true:=(by simp;omega);go_wp2
       go_quiet (fail)
       go_wp2;go_ret;exact⟨Ac (by rw[decide_eq_false];exact Zjw (by rw[t.out,s.out];exact hxy)),_,World.drewN_drewN _ _ _⟩
     ·obtain rfl:i=k:=(by omega);go_wp2;go_ret;have e:=H.out;rw[bY (by have:=E.out;omega),bY (by have:=A.out;omega)]at e;exact⟨Ac (by rw[decide_eq_true];exact e),_,rfl⟩
 ·have F:((L.length:Int) !=(M.length:Int))=true:=(by simp;omega);obtain⟨a,cap,rfl,_⟩:=h;obtain⟨B,cap',rfl,_⟩:=g;rw[bvs_len,bvs_len];go_enter Tryz.func19,Tryz.ntmps19;go_wp2;go_ret;exact⟨Ac (by rw[decide_eq_false];intro h;apply hlen;rw[h]),0,rfl⟩
open WireM
theorem Bu:Elem Tryz.prog 28 5 (.int .u8 0) 1:=⟨Tryz.underlying28,by kernel_rfl,rfl,by omega⟩
theorem Rd.nilOr {w:World} {v:Value} {xs:List Value}(h:Rd w v xs):v=.slice none 0 0∨∃a cap,v=.slice (some a) xs.length cap:=by
 obtain⟨a,cap,rfl,h1,h2,⟨rfl,h3⟩|⟨b,off,rfl,_⟩⟩:=h
 ·cases a with
  |none=>left;rw[h3 rfl];rfl
  |some a=>exact .inr ⟨a,cap,rfl⟩
 ·exact .inr ⟨_,cap,rfl⟩
theorem Sj (v:Value)(L:List Nat)(w:World)(h:Rd w v (bvs L))(n:L.length<1099511627776):
  Calls Tryz.prog 111 #[v] w fun e w'=>∃v',e=.returned v'∧Own w' w.heap.size 5 v' (bvs L)∧Below w.heap.size w w':=by
 have f:(bvs L).length=L.length:=bvs_len L;have d:=Bp L;rcases h.nilOr with rfl|⟨a,cap,rfl⟩
 ·have g:bvs L=[]:=by
   obtain⟨a,cap,e,_⟩:=h;simp only[Value.slice.injEq]at e;exact bV e.2.1.symm
  rw[g];clear h g f d;have q:∀w,(binOp .eql 28 (.slice none 0 0) (.slice none 0 0)).run Tryz.prog w=.ok (.bool true) w:=fun w=>Lib.run_eql_slice_nil w _ 5 none 0 0 0 0 Tryz.underlying28;go_enter Tryz.func111,Tryz.ntmps111;go_wp2_with fail;go_ret;exact⟨_,rfl,Own.nil _ _ _,bR⟩
 ·obtain⟨xs,c⟩:=eX (bvs L);rw[←c]at h d f⊢;have hx:xs.length<1099511627776:=(by omega);have k:=Hd h;have l:=Hd d;clear h d f c n;have q:∀w,(binOp .eql 28 (.slice (some a) xs.length cap) (.slice none 0 0)).run Tryz.prog w=.ok (.bool false) w:=fun w=>Lib.run_eql_slice_nil w _ 5 (some a) _ _ 0 0 Tryz.underlying28;go_enter Tryz.func111,Tryz.ntmps111;go_wp2_with (at_builtin;refine At rfl (.tmp 5) (.tmp 6) 28 rfl w.heap.size 5 _ 1 Bu _ [] rfl (Own.lit0 rfl lR) _ xs rfl (k.out.alloc _) l.out ?c2 ?c3 ?_);case c2=>simpa using hx
  case c3=>simp
  rintro v' o b-i;have m:=Hd b;have j:=Hd i;clear b i;go_wp2_with fail;go_ret;exact⟨_,rfl,m.out,(bR.alloc lR _).trans j.out⟩
theorem Cq (v:Value)(L:List Nat)(w:World)(h:Rd w v (bvs L))(n:L.length<1099511627776):
  Calls Tryz.prog 127 #[v] w fun e w'=>∃v',e=.returned v'∧Own w' w.heap.size 5 v' (bvs L)∧Below w.heap.size w w':=by
 have f:(bvs L).length=L.length:=bvs_len L;have d:=Bp L;rcases h.nilOr with rfl|⟨a,cap,rfl⟩
 ·have g:bvs L=[]:=by
   obtain⟨a,cap,e,_⟩:=h;simp only[Value.slice.injEq]at e;exact bV e.2.1.symm
  rw[g];clear h g f d;have q:∀w,(binOp .eql 28 (.slice none 0 0) (.slice none 0 0)).run Tryz.prog w=.ok (.bool true) w:=fun w=>Lib.run_eql_slice_nil w _ 5 none 0 0 0 0 Tryz.underlying28;go_enter Tryz.func127,Tryz.ntmps127;go_wp2_with fail;go_ret;exact⟨_,rfl,Own.nil _ _ _,bR⟩
 ·obtain⟨xs,c⟩:=eX (bvs L);rw[←c]at h d f⊢;have hx:xs.length<1099511627776:=(by omega);have k:=Hd h;have l:=Hd d;clear h d f c n;have q:∀w,(binOp .eql 28 (.slice (some a) xs.length cap) (.slice none 0 0)).run Tryz.prog w=.ok (.bool false) w:=fun w=>Lib.run_eql_slice_nil w _ 5 (some a) _ _ 0 0 Tryz.underlying28;go_enter Tryz.func127,Tryz.ntmps127;go_wp2_with (at_builtin;refine At rfl (.tmp 5) (.tmp 6) 28 rfl w.heap.size 5 _ 1 Bu _ [] rfl (Own.lit0 rfl lR) _ xs rfl (k.out.alloc _) l.out ?c2 ?c3 ?_);case c2=>simpa using hx
  case c3=>simp
  rintro v' o b-i;have m:=Hd b;have j:=Hd i;clear b i;go_wp2_with fail;go_ret;exact⟨_,rfl,m.out,(bR.alloc lR _).trans j.out⟩
def Zf8 (n:Int):Bool:=decide (n=1∨n=2∨n=4∨n=8)
theorem Zcb (n:Int)(w:World):Calls Tryz.prog 112 #[.int .i64 n] w fun e w'=>e=.returned (.bool (Zf8 n))∧w=w':=by
 have c:n=1∨n=2∨n=4∨n=8∨(n≠1∧n≠2∧n≠4∧n≠8):=(by omega);rcases c with rfl|rfl|rfl|rfl|⟨a,h2,h3,b⟩
 ·go_enter Tryz.func112,Tryz.ntmps112;go_wp2_with fail;go_ret;exact⟨rfl,rfl⟩
 ·go_enter Tryz.func112,Tryz.ntmps112;go_wp2_with fail;go_ret;exact⟨rfl,rfl⟩
 ·go_enter Tryz.func112,Tryz.ntmps112;go_wp2_with fail;go_ret;exact⟨rfl,rfl⟩
 ·go_enter Tryz.func112,Tryz.ntmps112;go_wp2_with fail;go_ret;exact⟨rfl,rfl⟩
 ·have e:Zf8 n=false:=(by rw[Zf8,decide_eq_false];omega);rw[e];have f:(n==1)=false:=(by simp[a]);have e2:(n==2)=false:=(by simp[h2]);have e3:(n==4)=false:=(by simp[h3]);have d:(n==8)=false:=(by simp[b]);clear a h2 h3 b e;go_enter Tryz.func112,Tryz.ntmps112;go_wp2_with fail;go_ret;exact⟨rfl,rfl⟩
theorem Mp (n:Int)(w:World):Calls Tryz.prog 253 #[.int .i64 n] w fun e w'=>e=.returned (.int .i64 (lenS n:Nat))∧w=w':=by
 have b:n<0∨(0≤n∧1073741823<n)∨(0≤n∧n<64)∨(64≤n∧n<16384)∨(16384≤n∧n≤1073741823):=(by omega);rcases b with h|⟨h,a⟩|⟨h,a⟩|⟨h,a⟩|⟨h,a⟩
 ·rw[lenS,if_pos (by omega)];go_enter Tryz.func253,Tryz.ntmps253;go_wp2_with fail;go_ret;exact⟨rfl,rfl⟩
 ·rw[lenS,if_pos (by omega)];go_enter Tryz.func253,Tryz.ntmps253;go_wp2_with fail;go_ret;exact⟨rfl,rfl⟩
 ·rw[lenS,if_neg (by omega),if_pos (by omega)];have h2:n≤1073741823:=(by omega);go_enter Tryz.func253,Tryz.ntmps253;go_wp2_with fail;go_ret;exact⟨rfl,rfl⟩
 ·rw[lenS,if_neg (by omega),if_neg (by omega),if_pos (by omega)];have h2:n≤1073741823:=(by omega);have h3:0≤n:=(by omega);go_enter Tryz.func253,Tryz.ntmps253;go_wp2_with fail;go_ret;exact⟨rfl,rfl⟩
 ·rw[lenS,if_neg (by omega),if_neg (by omega),if_neg (by omega)];have h2:64≤n:=(by omega);have h3:0≤n:=(by omega);go_enter Tryz.func253,Tryz.ntmps253;go_wp2_with fail;go_ret;exact⟨rfl,rfl⟩
theorem Zgg (n:Nat)(L:List Nat):bvs (n::L)=.int .u8 (n:Int)::bvs L:=rfl
theorem Xv (n:Nat)(L:List Nat):bvs (L++[n])=bvs L++[.int .u8 (n:Int)]:=by simp[bvs]
theorem Ql (k n:Nat)(w:World)(hk:k≤8)(y:n<18446744073709551616):
  Calls Tryz.prog 64 #[.int .i64 (k:Nat),.int .u64 (n:Nat)] w fun e w'=>∃v,e=.returned v∧Own w' w.heap.size 5 v (bvs (beN k n))∧Below w.heap.size w w':=by
 obtain⟨j,c⟩:=eX n;have t:=Hd c;clear c;go_enter Tryz.func64,Tryz.ntmps64;go_wp2_with fail
 go_loopg [1,5,6] k (fun q m out i wr=>∃(r:Nat) (x:Nat),r+q=k∧x<18446744073709551616∧x=j/256^r∧m=.int .u64 (x:Nat)∧i=.int .i64 (r:Nat)∧Own wr w.heap.size 5 out (bvs (beN r j))∧Below w.heap.size w wr)
 case atStart=>
  refine⟨0,n,by omega,y,by rw[t.out];simp,rfl,rfl,Own.nil _ _ _,bR⟩
 case round=>
  obtain⟨r,x,z,hx,f,rfl,rfl,b,h⟩:=hrel;have u:=Hd b;have p:=Hd h;have s:=Hd f;have g:=h.size;clear b h f
  by_cases hrk:r<k
  ·go_wp2_with (at_builtin;refine At rfl (.tmp 15) (.tmp 16) 28 rfl w.heap.size 5 _ 1 Bu _ [.int .u8 ((x%256:Nat):Int)] rfl ?c1 _ (bvs (beN r j)) rfl (u.out.rd.alloc _) (Bp _) ?c2 ?c3 ?_);case c1=>exact Own.full (cs:=#[.int .u8 ((x%256:Nat):Int)]) rfl g (by unfold maxLen;simp) rfl
   case c2=>simp[bvs_len,beN_len];omega
   case c3=>simp;omega
   rintro v' A a-d;have o:=Hd a;have l:=Hd ((p.out.alloc g _).trans d);clear a d;go_wp2_with fail;go_roundg (gk-1);case measure=>omega
   case rel=>
    refine⟨r+1,x/256,by omega,by omega,by rw[s.out,beN_step],?_,by go_num,?_,l.out⟩
    ·exact Ml (by omega)
    ·rw[beN,Zgg,←s.out];exact o.out
  ·obtain rfl:r=k:=(by omega);go_wp2_with fail;go_ret;refine⟨_,rfl,?_,p.out⟩;rw[←t.out];exact u.out
theorem Fj (v:Value)(L:List Nat)(k n:Nat)(w:World)(h:Rd w v (bvs L))(F:L.length<549755813888)(hk:Zf8 (k:Int)=true)(_:n<18446744073709551616):
  Calls Tryz.prog 60 #[v,.int .i64 (k:Nat),.int .u64 (n:Nat)] w fun e w'=>∃v',e=.returned v'∧Own w' w.heap.size 5 v' (bvs (L++beN k n))∧Below w.heap.size w w':=by
 have C:=Sj v L w h (by omega);have M:=fun w=>Zcb (k:Int) w;rw[hk]at M;have f:k≤8∧1≤k:=(by have:=of_decide_eq_true hk;omega);obtain⟨f,z⟩:=f;have x:=Hd C;have y:=Hd M;clear C M h hk;go_enter Tryz.func60,Tryz.ntmps60;go_wp2_with fail;refine(x.out).mono ?_;rintro e A ⟨D,rfl,a,d⟩;have m:=Hd a;have l:=Hd d;clear a d;go_wp2_with fail;refine(y.out _).mono ?_;rintro e w' ⟨rfl,rfl⟩;go_wp2_with fail
 go_loopg [0,7] k (fun q out i wr=>∃pre:List Nat,q≤k∧i=.int .i64 ((q:Int)-1)∧pre.length+q=L.length+k∧pre++beN q n=L++beN k n∧Own wr w.heap.size 5 out (bvs pre)∧Below w.heap.size w wr)
 case atStart=>exact⟨L,lR,rfl,rfl,rfl,m.out,l.out⟩
 case round=>
  obtain⟨pre,B,rfl,s,c,a,d⟩:=hrel;have m:=Hd a;have l:=Hd d;have t:=Hd c;have r:=d.size;clear a d c
  by_cases h0:gk=0
  ·subst h0;go_wp2_with fail;go_ret;refine⟨_,rfl,?_,l.out⟩;rw[←t.out,beN,bZ];exact m.out
  ·obtain⟨j,rfl⟩:∃j,gk=j+1:=⟨gk-1,by omega⟩;have u:((j+1:Nat):Int)-1=(j:Int):=(by omega);rw[u];clear u h0;go_wp2_with (at_builtin;refine Dj rfl (.tmp 20) (.tmp 26) 28 rfl w.heap.size 5 _ 1 Bu _ _ rfl (m.out.alloc _) ⟨wr.heap.size,0,none⟩ (.int .u8 ((n:Int)/2^(8*j)%256)) rfl ?c1 rfl ?c2 ?c3 ?_);case c1=>exact Bz rfl
   case c2=>rw[bvs_len];omega
   case c3=>simp;omega
   rintro v' E b-g;have p:=Hd b;have o:=Hd ((l.out.alloc r _).trans g);clear b g;go_wp2_with fail;go_roundg j;case measure=>omega
   case rel=>
    refine⟨pre++[n/256^j%256],by omega,rfl,by simp;omega,?_,?_,o.out⟩
    ·rw[cA];exact t.out
    ·rw[Xv];have e:((n/256^j%256:Nat):Int)=(n:Int)/2^(8*j)%256:=by
      rw[←shift_pow];simp
     rw[e];exact p.out
theorem Zcc (v:Value)(L:List Nat)(n:Nat)(w:World)(h:Rd w v (bvs L))(j:L.length<549755813888)(i:n<1073741824):
  Calls Tryz.prog 212 #[v,.int .i64 (n:Nat)] w fun e w'=>∃v',e=.returned v'∧Own w' w.heap.size 5 v' (bvs (L++lenB n))∧Below w.heap.size w w':=by
 have S:=fun w=>Mp (n:Int) w
 by_cases h1:n<64
 ·rw[lenS1 h1]at S;have P:=Fj v L 1 n w h j rfl (by omega);rw[be1 n h1]at P;have c:=Hd S;have f:=Hd P;have e:bits .or .u64 0 (n:Int)=(n:Int):=by
   have:=u64_or_nat 0 n (by omega) (by omega);simpa using this
  clear S P h;go_enter Tryz.func212,Tryz.ntmps212;go_wp2_with fail;refine(c.out _).mono ?_;rintro e w' ⟨rfl,rfl⟩;go_wp2_with fail;refine(f.out).mono ?_;rintro e k ⟨l,rfl,a,b⟩;have g:=Hd a;have d:=Hd b;clear a b;go_wp2_with fail;go_ret;exact⟨_,rfl,g.out,d.out⟩
 ·by_cases h2:n<16384
  ·rw[lenS2 (by omega) h2]at S;have P:=Fj v L 2 (16384+n) w h j rfl (by omega);rw[be2 n (by omega) h2]at P;have c:=Hd S;have f:=Hd P;have e:bits .or .u64 16384 (n:Int)=((16384+n:Nat):Int):=by
    have:=u64_or_nat 16384 n (by omega) (by omega);rw[or2 n h2]at this;exact this
   clear S P h;go_enter Tryz.func212,Tryz.ntmps212;go_wp2_with fail;refine(c.out _).mono ?_;rintro e w' ⟨rfl,rfl⟩;go_wp2_with fail;refine(f.out).mono ?_;rintro e k ⟨l,rfl,a,b⟩;have g:=Hd a;have d:=Hd b;clear a b;go_wp2_with fail;go_ret;exact⟨_,rfl,g.out,d.out⟩
  ·rw[lenS4 (by omega) i]at S;have P:=Fj v L 4 (2147483648+n) w h j rfl (by omega);rw[be4 n (by omega) i]at P;have c:=Hd S;have f:=Hd P;have e:bits .or .u64 2147483648 (n:Int)=((2147483648+n:Nat):Int):=by
    have:=u64_or_nat 2147483648 n (by omega) (by omega);rw[or4 n i]at this;exact this
   clear S P h;go_enter Tryz.func212,Tryz.ntmps212;go_wp2_with fail;refine(c.out _).mono ?_;rintro e w' ⟨rfl,rfl⟩;go_wp2_with fail;refine(f.out).mono ?_;rintro e k ⟨l,rfl,a,b⟩;have g:=Hd a;have d:=Hd b;clear a b;go_wp2_with fail;go_ret;exact⟨_,rfl,g.out,d.out⟩
theorem Zgh (n:Nat)(w:World)(a:n<1073741824):
  Calls Tryz.prog 197 #[.int .i64 (n:Nat)] w fun e w'=>∃v',e=.returned v'∧Own w' w.heap.size 5 v' (bvs (lenB n))∧Below w.heap.size w w':=by
 by_cases h1:n<64
 ·have e:lenB n=[n]:=(by unfold lenB;rw[if_pos h1]);rw[e];clear e;go_enter Tryz.func197,Tryz.ntmps197;go_wp2_with fail;go_ret;exact⟨_,rfl,Own.full (cs:=#[.int .u8 (n:Int)]) rfl lR (by unfold maxLen;simp) rfl,bR.alloc lR _⟩
 ·by_cases h2:n<16384
  ·have e:lenB n=[64+n/256,n%256]:=(by unfold lenB;rw[if_neg h1,if_pos h2]);rw[e];clear e;have h3:64≤n:=(by omega);go_enter Tryz.func197,Tryz.ntmps197;go_wp2_with fail;go_ret;exact⟨_,rfl,Own.full (cs:=#[.int .u8 ((64+n/256:Nat):Int),.int .u8 ((n%256:Nat):Int)]) rfl lR (by unfold maxLen;simp) rfl,bR.alloc lR _⟩
  ·have e:lenB n=[128+n/16777216,n/65536%256,n/256%256,n%256]:=(by unfold lenB;rw[if_neg h1,if_neg h2]);rw[e];clear e;have h3:16384≤n:=(by omega);go_enter Tryz.func197,Tryz.ntmps197;go_wp2_with fail;go_ret;exact⟨_,rfl,Own.full (cs:=#[.int .u8 ((128+n/16777216:Nat):Int),.int .u8 ((n/65536%256:Nat):Int),.int .u8 ((n/256%256:Nat):Int),.int .u8 ((n%256:Nat):Int)]) rfl lR (by unfold maxLen;simp) rfl,bR.alloc lR _⟩
theorem Xw {w:World} {cs:Array Value} {L:List Nat} {N:Nat}(a:N=w.heap.size)(h:cs.toList=bvs L)(b:L.length≤1000):Rd (w.alloc (.cells cs 5)) (.slice (some ⟨N,0,none⟩) L.length L.length) (bvs L):=by
 have e:cs.size=L.length:=(by rw[←Array.length_toList,h,bvs_len]);have:=(Own.full (w:=w) (B:=w.heap.size) (e:=5) (cs:=cs) a (by omega) (by unfold maxLen;omega) (n:=L.length) e.symm).rd;rw[h]at this;exact this
def Av (v:List Nat):List Nat:=lenB v.length++v
def Oe (l:List (List Nat)):List Nat:=(l.map Av).flatten
def RdL (w:World)(v:Value)(rows:List (List Nat)):Prop:=
 ∃vs:List Value,Rd w v vs∧vs.length=rows.length∧∀(i:Nat) r,rows[i]? =some r→∃u,vs[i]? =some u∧Rd w u (bvs r)
theorem RdL.below {w w':World} {B:Nat} {v:Value} {rows:List (List Nat)}(h:RdL w v rows)(hb:Below B w w')(hB:w.heap.size≤B):RdL w' v rows:=by
 obtain⟨vs,h1,h2,h3⟩:=h;refine⟨vs,h1.below hb hB,h2,?_⟩;intro i r hr;obtain⟨u,h4,h5⟩:=h3 i r hr;exact⟨u,h4,h5.below hb hB⟩
theorem Bd (v:List Nat)(h:v.length<1073741824):(Av v).length≤v.length+4:=by
 rw[Av,aI,lenB_len h];unfold lenS
 split<;>(try split)<;>(try split)<;>omega
theorem Gb {v:List Nat}(h:v.length<1073741824)(hv:∀n∈v,n<256):∀n∈Av v,n<256:=by
 intro n hn;rw[Av,List.mem_append]at hn;rcases hn with hn|hn
 ·exact lenB_lt h n hn
 ·exact hv n hn
theorem Dg (v:Value)(L:List Nat)(w:World)(h:Rd w v (bvs L))(k:L.length<1073741824):
  Calls Tryz.prog 147 #[v] w fun e w'=>∃v',e=.returned v'∧Own w' w.heap.size 5 v' (bvs (Av L))∧Below w.heap.size w w':=by
 have m:=Hd (Zgh L.length w k);have e2:(lenB L.length).length≤4:=by
  rw[lenB_len k];unfold lenS;split<;>(try split)<;>(try split)<;>omega
 obtain⟨a,cap,rfl,_⟩:=id h;rw[bvs_len]at h⊢;have n:=Hd h;clear h;go_enter Tryz.func147,Tryz.ntmps147;go_wp2_with fail;refine m.out.mono ?_;rintro e p ⟨q,rfl,b,d⟩;have o:=Hd b;have l:=Hd d;have f:=Hd (n.out.below d lR);have j:=d.size;clear b d;go_wp2_with (at_builtin;refine At rfl (.tmp 5) (.tmp 6) 28 rfl w.heap.size 5 _ 1 Bu _ _ rfl o.out _ (bvs L) rfl f.out (Bp _) ?c2 ?c3 ?_);case c2=>rw[bvs_len,bvs_len];omega
 case c3=>exact j
 rintro s r b-c;have i:=Hd b;have g:=Hd (l.out.trans c);clear b c;go_wp2_with fail;go_ret;refine⟨_,rfl,?_,g.out⟩;rw[Av,Cd];exact i.out
theorem Dm (b v:Value)(B L:List Nat)(w:World)(d:Rd w b (bvs B))(h:Rd w v (bvs L))(r:B.length<274877906944)(l:L.length<1073741824):
  Calls Tryz.prog 170 #[b,v] w fun e w'=>∃v',e=.returned v'∧Own w' w.heap.size 5 v' (bvs (B++Av L))∧Below w.heap.size w w':=by
 have n:=Hd (Zcc b B L.length w d (by omega) l);have e2:(lenB L.length).length≤4:=by
  rw[lenB_len l];unfold lenS;split<;>(try split)<;>(try split)<;>omega
 obtain⟨a,cap,rfl,_⟩:=id h;rw[bvs_len]at h⊢;have o:=Hd h;clear h d;go_enter Tryz.func170,Tryz.ntmps170;go_wp2_with fail;refine n.out.mono ?_;rintro e q ⟨s,rfl,c,d⟩;have p:=Hd c;have m:=Hd d;have g:=Hd (o.out.below d lR);have k:=d.size;clear c d;go_wp2_with (at_builtin;refine At rfl (.tmp 8) (.tmp 9) 28 rfl w.heap.size 5 _ 1 Bu _ _ rfl p.out _ (bvs L) rfl g.out (Bp _) ?c2 ?c3 ?_);case c2=>rw[bvs_len,bvs_len,aI];omega
 case c3=>exact k
 rintro u t c-f;have j:=Hd c;have i:=Hd (m.out.trans f);clear c f;go_wp2_with fail;go_ret;refine⟨_,rfl,?_,i.out⟩;rw[Av,←cA,Cd];exact j.out
theorem Sk (l:List (List Nat))(r:List Nat):Oe (l++[r])=Oe l++Av r:=by simp[Oe]
theorem Xx:∀(l:List (List Nat)),(∀r∈l,r.length≤200)→(Oe l).length≤l.length*204:=by
 intro l
 induction l with
 |nil=>intro _;simp[Oe]
 |cons r l ih=>
  intro h;have a:=ih fun q b=>h q (by simp[b]);have h2:=Bd r (by have:=h r (by simp);omega);have h3:=h r (by simp);simp only[Oe,List.map_cons,List.flatten_cons,aI,cB]at a⊢;omega
theorem Zcd {l:List (List Nat)} {r:Nat}(h:r<l.length):l.take (r+1)=l.take r++[l[r]]:=bU h
theorem RdL.cases {w:World} {v:Value} {c:List (List Nat)}(h:RdL w v c):
  ∃a cap,v=.slice a c.length cap∧c.length≤cap∧cap≤maxLen∧∀i (g:i<c.length),∃b d u,a=some ⟨b,d,none⟩∧b<w.heap.size∧w.cell? ⟨b,d+i,none⟩=some u∧Rd w u (bvs c[i]):=by
 obtain⟨o,n,h2,h3⟩:=h;obtain⟨a,cap,rfl,f,k,e⟩:=n;rw[h2]at f;refine⟨a,cap,by rw[h2],f,k,?_⟩;intro i g;obtain⟨u,m,j⟩:=h3 i _ (aK g);rcases e with⟨e,_⟩|⟨b,d,rfl,l⟩
 ·rw[e]at h2;simp at h2;omega
 ·have:=l i u m;exact⟨b,d,u,rfl,World.block_lt_of_cell? w _ this,this,j⟩
end Go.Proofs.YtfofaiommeckbaaGreat
namespace Go.Proofs.YtfofaiommeckbaaGreat
open Go.RowKit
theorem Ha (k:IntKind)(L:List Int):(ivs k L).length=L.length:=by simp[ivs]
theorem Rd.icases {w:World} {v:Value} {g:IntKind} {L:List Int}(h:Rd w v (ivs g L)):
  (∃a cap,v=.slice a 0 cap∧L=[])∨∃b c cap,0<L.length∧L.length≤cap∧cap≤maxLen∧v=.slice (some ⟨b,c,none⟩) L.length cap∧b<w.heap.size∧
   ∀i,i<L.length→w.cell? ⟨b,c+i,none⟩=some (.int g (L.getD i 0)):=by
 have f:=h.lt;obtain⟨a,cap,rfl,l,h2,h3⟩:=h
 by_cases hL:L=[]
 ·subst hL;exact .inl ⟨a,cap,rfl,rfl⟩
 ·right
  have e:0<L.length:=List.length_pos_iff.2 hL;have d:ivs g L≠[]:=(by intro h;apply hL;simpa [ivs]using h);rcases h3 with h|⟨b,c,rfl,k⟩
  ·exact absurd h.1 d
  ·rcases f with h|⟨o,off',cap',j,n⟩
   ·exact absurd h d
   ·simp only[Value.slice.injEq,Option.some.injEq,Addr.mk.injEq]at j;refine⟨b,c,cap,e,by simpa [ivs]using l,h2,by simp[ivs],by omega,?_⟩;intro i m;refine k i _ ?_;simp[ivs,m]
theorem Zce {L M:List Int} {i:Nat}(hi:i<L.length)(hm:i<M.length)(h:L.take i=M.take i)(he:L.getD i 0=M.getD i 0):L.take (i+1)=M.take (i+1):=by
 rw[bU hi,bU hm,h];simp only[aJ,aK hi,aK hm,Option.getD_some]at he;rw[he]
theorem Zgi {L M:List Int} {i:Nat}(he:L.getD i 0≠M.getD i 0):L≠M:=by
 intro h;subst h;exact he rfl
theorem Zcf (v v':Value)(L M:List Int)(w:World)(h:Rd w v (ivs .i64 L))(g:Rd w v' (ivs .i64 M)):
  Calls Tryz.prog 49 #[v,v'] w fun e w'=>e=.returned (.bool (decide (L=M)))∧∃n,w'=w.drewN n:=by
 by_cases hlen:L.length=M.length
 ·rcases h.icases with⟨a,cap,rfl,rfl⟩|⟨b,I,cap,j,m,o,rfl,N,d⟩
  ·have:M=[]:=bV hlen.symm;subst this;rcases g.icases with⟨z,cap',rfl,_⟩|⟨F,off',cap',f,_⟩
   ·clear h g hlen;go_enter Tryz.func49,Tryz.ntmps49;go_wp2;refine wp_loop_rounds 1 ?_;rw[rounds_succ];go_wp2;go_ret;exact⟨rfl,0,rfl⟩
   ·simp at f
  ·rcases g.icases with⟨z,cap',rfl,rfl⟩|⟨F,off',cap',f,l,A,rfl,K,c⟩
   ·simp only[bW]at hlen;omega
   ·obtain⟨k,hk⟩:=eX L.length;rw[←hlen,←hk]at f l c⊢;rw[←hk]at j m d;have C:=Hd hk;have u:Hid (M.length=k):=Hd (by omega);have G:=Hd d;have q:=Hd c;have J:k≤9223372036854775807:=(by unfold maxLen at o;omega);clear hlen hk h g d c;go_enter Tryz.func49,Tryz.ntmps49;go_wp2
    go_loopw [5] (fun i wr=>∃i' n:Nat,i'≤k∧L.take i'=M.take i'∧i=.int .i64 i'∧wr=w.drewN n) (fun i _=>k-(intOf i).toNat)
    case atStart=>exact⟨0,0,by omega,rfl,rfl,rfl⟩
    case round=>
     obtain⟨i,n,O,t,rfl,rfl⟩:=hrel;have H:=Hd t;clear t
     by_cases hlt:i<k
     ·have E:=G.out i hlt;have g2:=q.out i hlt;obtain⟨x,hx⟩:∃x,L.getD i 0=x:=⟨_,rfl⟩;obtain⟨y,p⟩:∃y,M.getD i 0=y:=⟨_,rfl⟩;rw[hx]at E;rw[p]at g2;have s:=Hd hx;have r:=Hd p;clear hx p
      by_cases hxy:x=y
      ·subst hxy;go_wp2
       go_quiet (fail)
       go_wp2
       go_roundw
       case rel=>exact⟨i+1,_,by omega,Zce (by have:=C.out;omega) (by have:=u.out;omega) H.out (s.out.trans r.out.symm),by go_num,rfl⟩
       case measure=>simp[intOf];omega
      ·have B:(x !=y)=true:=(by simp[hxy]);go_wp2
       go_quiet (fail)
       go_wp2;go_ret;exact⟨Ac (by rw[decide_eq_false];exact Zgi (by rw[s.out,r.out];exact hxy)),_,World.drewN_drewN _ _ _⟩
     ·obtain rfl:i=k:=(by omega);go_wp2;go_ret;have e:=H.out;rw[bY (by have:=C.out;omega),bY (by have:=u.out;omega)]at e;exact⟨Ac (by rw[decide_eq_true];exact e),_,rfl⟩
 ·have D:((L.length:Int) !=(M.length:Int))=true:=(by simp;omega);obtain⟨a,cap,rfl,_⟩:=h;obtain⟨z,cap',rfl,_⟩:=g;rw[Ha,Ha];go_enter Tryz.func49,Tryz.ntmps49;go_wp2;go_ret;exact⟨Ac (by rw[decide_eq_false];intro h;apply hlen;rw[h]),0,rfl⟩
theorem Rd.get {w:World} {a:Option Addr} {n cap r:Nat} {xs:List Value} {u:Value}(h:Rd w (.slice a n cap) xs)(d:xs[r]? =some u):∃b c,a=some ⟨b,c,none⟩∧b<w.heap.size∧w.cell? ⟨b,c+r,none⟩=some u:=by
 have g:=h.lt;obtain⟨j,cap',e,k,h2,⟨f,_⟩|⟨b,c,rfl,i⟩⟩:=h
 ·rw[f]at d;simp at d
 ·simp only[Value.slice.injEq]at e;obtain⟨rfl,_,_⟩:=e;have:=i r u d;exact⟨b,c,rfl,World.block_lt_of_cell? w _ this,this⟩
open WireM
structure LeafD where
 box:List Nat
 sign:List Nat
 ident:List Nat
 source:Nat
 par:List Nat
 sig:List Nat
structure ParD where
 box:List Nat
 hash:List Nat
 late:List Int
structure NodeD where
 kind:Nat
 leaf:LeafD
 par:ParD
def rlB (n1 n2 n3 s n4 n5:Nat):Bool:=decide (n1=32∧n2=32∧n5=64∧1≤n3∧n3≤64∧1≤s∧s≤3∧(n4=0∨(s=3∧n4=32)))
def nlB (n1 n2 n3 s n4 n5:Nat):Bool:=decide (s=0∧n1+n2+n3+n4+n5=0)
def npB (n1 n2 n3:Nat):Bool:=decide (n1+n2+n3=0)
theorem Jm (o x v u q:Option Addr)(f g b c d c1 c2 c3 c4 c5 s:Nat)(w:World):
  Calls Tryz.prog 210 #[.agg #[.slice o f c1,.slice x g c2,.slice v b c3,.int .u8 (s:Nat),.slice u c c4,.slice q d c5]] w fun e w'=>e=.returned (.bool (rlB f g b s c d))∧Below w.heap.size w w':=by
 by_cases k0:f≠32
 ·have a:Hid (rlB f g b s c d=false):=Hd (by rw[rlB,decide_eq_false_iff_not];omega);have l:((f:Int) !=32)=true:=(by rw[bne_iff_ne];omega);clear k0;go_enter Tryz.func210,Tryz.ntmps210;go_wp2_with fail;go_ret;exact⟨Ac a.out.symm,bR.alloc lR _⟩
 ·have l:((f:Int) !=32)=false:=by rw[bne_eq_false_iff_eq];omega
  by_cases k1:g≠32
  ·have a:Hid (rlB f g b s c d=false):=Hd (by rw[rlB,decide_eq_false_iff_not];omega);have n:((g:Int) !=32)=true:=(by rw[bne_iff_ne];omega);clear k1;go_enter Tryz.func210,Tryz.ntmps210;go_wp2_with fail;go_ret;exact⟨Ac a.out.symm,bR.alloc lR _⟩
  ·have n:((g:Int) !=32)=false:=by rw[bne_eq_false_iff_eq];omega
   by_cases k2:d≠64
   ·have a:Hid (rlB f g b s c d=false):=Hd (by rw[rlB,decide_eq_false_iff_not];omega);have h:((d:Int) !=64)=true:=(by rw[bne_iff_ne];omega);clear k2;go_enter Tryz.func210,Tryz.ntmps210;go_wp2_with fail;go_ret;exact⟨Ac a.out.symm,bR.alloc lR _⟩
   ·have h:((d:Int) !=64)=false:=by rw[bne_eq_false_iff_eq];omega
    by_cases k3:b<1
    ·have a:Hid (rlB f g b s c d=false):=Hd (by rw[rlB,decide_eq_false_iff_not];omega);have r:decide ((b:Int)<1)=true:=(by rw[decide_eq_true_iff];omega);clear k3;go_enter Tryz.func210,Tryz.ntmps210;go_wp2_with fail;go_ret;exact⟨Ac a.out.symm,bR.alloc lR _⟩
    ·have r:decide ((b:Int)<1)=false:=by rw[decide_eq_false_iff_not];omega
     by_cases k4:64<b
     ·have a:Hid (rlB f g b s c d=false):=Hd (by rw[rlB,decide_eq_false_iff_not];omega);have i:decide (64<(b:Int))=true:=(by rw[decide_eq_true_iff];omega);clear k4;go_enter Tryz.func210,Tryz.ntmps210;go_wp2_with fail;go_ret;exact⟨Ac a.out.symm,bR.alloc lR _⟩
     ·have i:decide (64<(b:Int))=false:=by rw[decide_eq_false_iff_not];omega
      by_cases k5:s<1
      ·have a:Hid (rlB f g b s c d=false):=Hd (by rw[rlB,decide_eq_false_iff_not];omega);have p:decide ((s:Int)<1)=true:=(by rw[decide_eq_true_iff];omega);clear k5;go_enter Tryz.func210,Tryz.ntmps210;go_wp2_with fail;go_ret;exact⟨Ac a.out.symm,bR.alloc lR _⟩
      ·have p:decide ((s:Int)<1)=false:=by rw[decide_eq_false_iff_not];omega
       by_cases k6:3<s
       ·have a:Hid (rlB f g b s c d=false):=Hd (by rw[rlB,decide_eq_false_iff_not];omega);have k:decide (3<(s:Int))=true:=(by rw[decide_eq_true_iff];omega);clear k6;go_enter Tryz.func210,Tryz.ntmps210;go_wp2_with fail;go_ret;exact⟨Ac a.out.symm,bR.alloc lR _⟩
       ·have k:decide (3<(s:Int))=false:=by rw[decide_eq_false_iff_not];omega
        by_cases k7:c=0
        ·have a:Hid (rlB f g b s c d=true):=Hd (by rw[rlB,decide_eq_true_iff];omega);have m:((c:Int)==0)=true:=(by rw[beq_iff_eq];omega);clear k0 k1 k2 k3 k4 k5 k6 k7;go_enter Tryz.func210,Tryz.ntmps210;go_wp2_with fail;go_ret;exact⟨Ac a.out.symm,bR.alloc lR _⟩
        ·have m:((c:Int)==0)=false:=by rw[beq_eq_false_iff_ne];omega
         by_cases k8:s=3
         ·have j:((s:Int)==3)=true:=by rw[beq_iff_eq];omega
          by_cases k9:c=32
          ·have a:Hid (rlB f g b s c d=true):=Hd (by rw[rlB,decide_eq_true_iff];omega);have t:((c:Int)==32)=true:=(by rw[beq_iff_eq];omega);clear k0 k1 k2 k3 k4 k5 k6 k7 k8 k9;go_enter Tryz.func210,Tryz.ntmps210;go_wp2_with fail;go_ret;exact⟨Ac a.out.symm,bR.alloc lR _⟩
          ·have a:Hid (rlB f g b s c d=false):=Hd (by rw[rlB,decide_eq_false_iff_not];omega);have t:((c:Int)==32)=false:=(by rw[beq_eq_false_iff_ne];omega);clear k0 k1 k2 k3 k4 k5 k6 k7 k8 k9;go_enter Tryz.func210,Tryz.ntmps210;go_wp2_with fail;go_ret;exact⟨Ac a.out.symm,bR.alloc lR _⟩
         ·have a:Hid (rlB f g b s c d=false):=Hd (by rw[rlB,decide_eq_false_iff_not];omega);have j:((s:Int)==3)=false:=(by rw[beq_eq_false_iff_ne];omega);clear k0 k1 k2 k3 k4 k5 k6 k7 k8;go_enter Tryz.func210,Tryz.ntmps210;go_wp2_with fail;go_ret;exact⟨Ac a.out.symm,bR.alloc lR _⟩
theorem Zaj (k l o n m:Option Addr)(a f c d b c1 c2 c3 c4 c5 s:Nat)(h:a≤maxLen)(p:a+f+c+d+b<4611686018427387904)(w:World):
  Calls Tryz.prog 208 #[.agg #[.slice k a c1,.slice l f c2,.slice o c c3,.int .u8 (s:Nat),.slice n d c4,.slice m b c5]] w fun e w'=>e=.returned (.bool (nlB a f c s d b))∧Below w.heap.size w w':=by
 by_cases k0:s=0
 ·have i:((s:Int)==0)=true:=by rw[beq_iff_eq];omega
  by_cases k1:a+f+c+d+b=0
  ·have g:Hid (nlB a f c s d b=true):=Hd (by rw[nlB,decide_eq_true_iff];omega);have j:((a:Int)+(f:Int)+(c:Int)+(d:Int)+(b:Int)==0)=true:=(by rw[beq_iff_eq];omega);clear k0 k1 h;go_enter Tryz.func208,Tryz.ntmps208;go_wp2_with fail;go_ret;exact⟨Ac g.out.symm,bR.alloc lR _⟩
  ·have g:Hid (nlB a f c s d b=false):=Hd (by rw[nlB,decide_eq_false_iff_not];omega);have j:((a:Int)+(f:Int)+(c:Int)+(d:Int)+(b:Int)==0)=false:=(by rw[beq_eq_false_iff_ne];omega);clear k0 k1 h;go_enter Tryz.func208,Tryz.ntmps208;go_wp2_with fail;go_ret;exact⟨Ac g.out.symm,bR.alloc lR _⟩
 ·have g:Hid (nlB a f c s d b=false):=Hd (by rw[nlB,decide_eq_false_iff_not];omega);have i:((s:Int)==0)=false:=(by rw[beq_eq_false_iff_ne];omega);clear k0 h;go_enter Tryz.func208,Tryz.ntmps208;go_wp2_with fail;go_ret;exact⟨Ac g.out.symm,bR.alloc lR _⟩
theorem Sl (h i f:Option Addr)(a b c c1 c2 c3:Nat)(j:a+b+c<4611686018427387904)(w:World):
  Calls Tryz.prog 209 #[.agg #[.slice h a c1,.slice i b c2,.slice f c c3]] w fun e w'=>e=.returned (.bool (npB a b c))∧Below w.heap.size w w':=by
 by_cases k1:a+b+c=0
 ·have d:Hid (npB a b c=true):=Hd (by rw[npB,decide_eq_true_iff];omega);have g:((a:Int)+(b:Int)+(c:Int)==0)=true:=(by rw[beq_iff_eq];omega);clear k1;go_enter Tryz.func209,Tryz.ntmps209;go_wp2_with fail;go_ret;exact⟨Ac d.out.symm,bR.alloc lR _⟩
 ·have d:Hid (npB a b c=false):=Hd (by rw[npB,decide_eq_false_iff_not];omega);have g:((a:Int)+(b:Int)+(c:Int)==0)=false:=(by rw[beq_eq_false_iff_ne];omega);clear k1;go_enter Tryz.func209,Tryz.ntmps209;go_wp2_with fail;go_ret;exact⟨Ac d.out.symm,bR.alloc lR _⟩
def Ht (L:List Int)(i:Nat):Int:=if i=0 then-1 else L.getD (i-1) 0
def Mq (L:List Int)(r:Nat):Prop:=∀i,i<r→Ht L i<L.getD i 0∧L.getD i 0<65536
def Km (L:List Int):Bool:=(List.range L.length).all fun i=>decide (Ht L i<L.getD i 0∧L.getD i 0<65536)
theorem Hu (L:List Int):Km L=true↔Mq L L.length:=by
 unfold Km Mq;rw[List.all_eq_true];constructor
 ·intro h i hi;have:=h i (List.mem_range.2 hi);exact of_decide_eq_true this
 ·intro h i hi;exact decide_eq_true (h i (List.mem_range.1 hi))
theorem Mr {L:List Int} {r:Nat}(hr:r<L.length)(h:¬(Ht L r<L.getD r 0∧L.getD r 0<65536)):Km L=false:=by
 rw[←Bool.not_eq_true,Hu];intro hl;exact h (hl r hr)
def rpB (n1 n2:Nat)(late:List Int):Bool:=Km late&&decide (n1=32∧(n2=0∨n2=32))
theorem Hv (I K z:Option Addr)(c a c1 c2 c3:Nat)(L:List Int)(w:World)(t:Rd w (.slice z L.length c3) (ivs .i64 L)):
  Calls Tryz.prog 211 #[.agg #[.slice I c c1,.slice K a c2,.slice z L.length c3]] w fun e w'=>e=.returned (.bool (rpB c a L))∧Below w.heap.size w w':=by
 have m:=t.icases;obtain⟨Y,cap,g,p,A,-⟩:=id t;rw[Ha]at p;simp only[Value.slice.injEq]at g;obtain⟨rfl,-,rfl⟩:=g;obtain⟨k,hk⟩:=eX L.length;have f:∀r,r<k→∃b o,z=some ⟨b,o,none⟩∧b<w.heap.size∧w.cell? ⟨b,o+r,none⟩=some (.int .i64 (L.getD r 0)):=by
  intro r n;rcases m with⟨_,_,g,P⟩|⟨b,D,cap',_,_,_,g,H,V⟩
  ·rw[P]at hk;simp at hk;omega
  ·simp only[Value.slice.injEq]at g;exact⟨b,D,g.1,H,V r (by omega)⟩
 rw[←hk]at p⊢;have Z:k≤9223372036854775807:=(by unfold maxLen at A;omega);have S:=Hd f;have M:=Hd hk;clear m f hk t;go_enter Tryz.func211,Tryz.ntmps211;go_wp2_with fail
 go_loopg [3,9] k (fun q j i wr=>∃r:Nat,r+q=k∧i=.int .i64 (r:Int)∧j=.int .i64 (Ht L r)∧Mq L r∧wr=w.alloc (.cells #[.slice I c c1,.slice K a c2,.slice z k c3] 50))
 case atStart=>exact⟨0,by omega,rfl,rfl,fun i h=>absurd h (by omega),rfl⟩
 case round=>
  obtain⟨r,t,rfl,rfl,s,rfl⟩:=hrel;have l:=Hd s;clear s
  by_cases n:r<k
  ·obtain⟨b,o,rfl,H,W⟩:=S.out r n;have B:Ht L (r+1)=L.getD r 0:=(by rw[Ht,if_neg (by omega),Nat.add_sub_cancel]);have v:= @Mr L r (by have:=M.out;omega);obtain⟨x,hx⟩:=eX (L.getD r 0);rw[←hx]at W B v;obtain⟨y,E⟩:=eX (Ht L r);rw[←E]at v⊢;have R:=Hd hx;have Q:=Hd E;have U:=Hd B;have J:=Hd v;clear hx E B v
   by_cases k1:x≤y
   ·have d:=Hd (J.out (by omega));go_wp2_with fail;go_ret;exact⟨by rw[rpB,d.out];rfl,bR.alloc lR _⟩
   ·have F:y<x:=by omega
    by_cases k2:65536≤x
    ·have d:=Hd (J.out (by omega));clear k1;go_wp2_with fail;go_ret;exact⟨by rw[rpB,d.out];rfl,bR.alloc lR _⟩
    ·have C:x<65536:=(by omega);clear k1 k2;go_wp2_with fail;go_roundg (gk-1);case measure=>omega
     case rel=>
      refine⟨r+1,by omega,by go_num,by rw[U.out],?_,rfl⟩;intro i hi;rcases aB i r with h|h
      ·exact l.out i h
      ·obtain rfl:i=r:=(by omega);rw[←R.out,←Q.out];exact⟨F,C⟩
  ·obtain rfl:r=k:=(by omega);have N:Km L=true:=(by rw[Hu,←M.out];exact l.out);have G:rpB c a L=decide (c=32∧(a=0∨a=32)):=(by rw[rpB,N,Bool.true_and]);have u:=Hd G;clear N G
   by_cases k1:c=32
   ·have T:((c:Int)==32)=true:=by rw[beq_iff_eq];omega
    by_cases k2:a=0
    ·have O:((a:Int)==0)=true:=(by rw[beq_iff_eq];omega);have d:=Hd (decide_eq_true (show c=32∧(a=0∨a=32)from⟨k1,.inl k2⟩));clear k1 k2;go_wp2_with fail;go_ret;exact⟨Ac (u.out.trans d.out).symm,bR.alloc lR _⟩
    ·have O:((a:Int)==0)=false:=by rw[beq_eq_false_iff_ne];omega
     by_cases k3:a=32
     ·have X:((a:Int)==32)=true:=(by rw[beq_iff_eq];omega);have d:=Hd (decide_eq_true (show c=32∧(a=0∨a=32)from⟨k1,.inr k3⟩));clear k1 k2 k3;go_wp2_with fail;go_ret;exact⟨Ac (u.out.trans d.out).symm,bR.alloc lR _⟩
     ·have X:((a:Int)==32)=false:=(by rw[beq_eq_false_iff_ne];omega);have d:=Hd (decide_eq_false (show¬(c=32∧(a=0∨a=32)) by omega));clear k1 k2 k3;go_wp2_with fail;go_ret;exact⟨Ac (u.out.trans d.out).symm,bR.alloc lR _⟩
   ·have T:((c:Int)==32)=false:=(by rw[beq_eq_false_iff_ne];omega);have d:=Hd (decide_eq_false (show¬(c=32∧(a=0∨a=32)) by omega));clear k1;go_wp2_with fail;go_ret;exact⟨Ac (u.out.trans d.out).symm,bR.alloc lR _⟩
def Ao (d:NodeD):Bool:=
 let l:=d.leaf
 let p:=d.par
 if d.kind=0 then nlB l.box.length l.sign.length l.ident.length l.source l.par.length l.sig.length&&npB p.box.length p.hash.length p.late.length
 else if d.kind=1 then rlB l.box.length l.sign.length l.ident.length l.source l.par.length l.sig.length&&npB p.box.length p.hash.length p.late.length
 else if d.kind=2 then nlB l.box.length l.sign.length l.ident.length l.source l.par.length l.sig.length&&rpB p.box.length p.hash.length p.late
 else false
def NodeC (w:World)(d:NodeD)(c:Array Value):Prop:=
 ∃a1 c1 a2 c2 a3 c3 a4 c4 a5 c5 b1 e1 b2 e2 b3 e3,c=#[.int .u8 (d.kind:Nat),.slice a1 d.leaf.box.length c1,.slice a2 d.leaf.sign.length c2,.slice a3 d.leaf.ident.length c3,.int .u8 (d.leaf.source:Nat),.slice a4 d.leaf.par.length c4,.slice a5 d.leaf.sig.length c5,
  .slice b1 d.par.box.length e1,.slice b2 d.par.hash.length e2,.slice b3 d.par.late.length e3]∧
  Rd w (.slice a1 d.leaf.box.length c1) (bvs d.leaf.box)∧Rd w (.slice a2 d.leaf.sign.length c2) (bvs d.leaf.sign)∧Rd w (.slice a3 d.leaf.ident.length c3) (bvs d.leaf.ident)∧
  Rd w (.slice a4 d.leaf.par.length c4) (bvs d.leaf.par)∧Rd w (.slice a5 d.leaf.sig.length c5) (bvs d.leaf.sig)∧
  Rd w (.slice b1 d.par.box.length e1) (bvs d.par.box)∧Rd w (.slice b2 d.par.hash.length e2) (bvs d.par.hash)∧Rd w (.slice b3 d.par.late.length e3) (ivs .i64 d.par.late)
structure NodeOk (d:NodeD):Prop where
 kind:d.kind<256
 source:d.leaf.source<256
 box:∀n∈d.leaf.box,n<256
 sign:∀n∈d.leaf.sign,n<256
 ident:∀n∈d.leaf.ident,n<256
 par:∀n∈d.leaf.par,n<256
 sig:∀n∈d.leaf.sig,n<256
 pbox:∀n∈d.par.box,n<256
 hash:∀n∈d.par.hash,n<256
 late:∀n∈d.par.late,-9223372036854775808≤n∧n≤9223372036854775807
def Bm (d:NodeD):Bool:=decide (d.leaf.box.length≤200∧d.leaf.sign.length≤200∧d.leaf.ident.length≤200∧d.leaf.par.length≤200∧d.leaf.sig.length≤200∧d.par.box.length≤200∧d.par.hash.length≤200∧d.par.late.length≤1000)
def exB (d:NodeD):Bool:=decide (d.leaf.box.length≤200∧d.leaf.sign.length≤200∧d.leaf.ident.length≤200∧d.leaf.par.length≤200∧d.leaf.sig.length≤200∧d.par.box.length≤200∧d.par.hash.length≤200∧d.par.late.length≤60)
theorem Sm {d:NodeD}(h:exB d=true):Bm d=true:=by
 have:=of_decide_eq_true h;exact decide_eq_true ⟨this.1,this.2.1,this.2.2.1,this.2.2.2.1,this.2.2.2.2.1,this.2.2.2.2.2.1,this.2.2.2.2.2.2.1,bO this.2.2.2.2.2.2.2 (by decide)⟩
theorem NodeC.below {w w':World} {B:Nat} {d:NodeD} {c:Array Value}(h:NodeC w d c)(a:Below B w w')(b:w.heap.size≤B):NodeC w' d c:=by
 obtain⟨g,c1,r,c2,o,c3,l,c4,i,c5,t,s,j,e2,q,e3,rfl,p,h2,h3,e,f,m,k,n⟩:=h;exact⟨g,c1,r,c2,o,c3,l,c4,i,c5,t,s,j,e2,q,e3,rfl,p.below a b,h2.below a b,h3.below a b,e.below a b,f.below a b,m.below a b,k.below a b,n.below a b⟩
theorem Gi {w:World} {a:Option Addr} {n c:Nat} {xs:List Value}(h:Rd w (.slice a n c) xs):n≤c∧c≤9223372036854775807:=by
 obtain⟨a',c',he,h1,h2,_⟩:=h;simp only[Value.slice.injEq]at he;obtain⟨_,rfl,rfl⟩:=he;unfold maxLen at h2;exact⟨h1,h2⟩
theorem Sn (d:NodeD)(c:Array Value)(w:World)(h:NodeC w d c)(hs:Bm d=true):
  Calls Tryz.prog 169 #[.agg c] w fun e w'=>e=.returned (.bool (Ao d))∧Below w.heap.size w w':=by
 have B:=of_decide_eq_true hs;obtain⟨Q,c1,a2,c2,a3,c3,Y,c4,a5,c5,b1,e1,R,e2,T,e3,rfl,Z,h2,h3,h4,h5,S,X,M⟩:=h;obtain⟨kind,leaf,par⟩:=d;simp only at Z h2 h3 h4 h5 S X M B⊢;have K:=fun w=>Jm Q a2 a3 Y a5 leaf.box.length leaf.sign.length leaf.ident.length leaf.par.length leaf.sig.length c1 c2 c3 c4 c5 leaf.source w;have F:=fun w=>Zaj Q a2 a3 Y a5 leaf.box.length leaf.sign.length leaf.ident.length leaf.par.length leaf.sig.length c1 c2 c3 c4 c5 leaf.source (by unfold maxLen;omega) (by omega) w;have H:=fun w=>Sl b1 R T par.box.length par.hash.length par.late.length e1 e2 e3 (by omega) w;have J:=fun w h=>Hv b1 R T par.box.length par.hash.length e1 e2 e3 par.late w h;have hB:Ao ⟨kind,leaf,par⟩=(if kind=0 then nlB leaf.box.length leaf.sign.length leaf.ident.length leaf.source leaf.par.length leaf.sig.length&&npB par.box.length par.hash.length par.late.length
  else if kind=1 then rlB leaf.box.length leaf.sign.length leaf.ident.length leaf.source leaf.par.length leaf.sig.length&&npB par.box.length par.hash.length par.late.length
  else if kind=2 then nlB leaf.box.length leaf.sign.length leaf.ident.length leaf.source leaf.par.length leaf.sig.length&&rpB par.box.length par.hash.length par.late else false):=rfl
 rw[hB];obtain⟨V,u⟩:=eX leaf.box.length;obtain⟨m2,q⟩:=eX leaf.sign.length;obtain⟨U,t⟩:=eX leaf.ident.length;obtain⟨W,p⟩:=eX leaf.par.length;obtain⟨m5,r⟩:=eX leaf.sig.length;obtain⟨m6,o⟩:=eX par.box.length;obtain⟨m7,n⟩:=eX par.hash.length;rw[←u,←q,←t,←p,←r]at K F;rw[←o,←n]at H J;rw[←u,←q,←t,←p,←r,←o,←n];obtain⟨m8,G⟩:=eX par.late.length;rw[←G]at H J M⊢;obtain⟨L,m⟩:=eX leaf.source;rw[←m]at K F⊢;obtain⟨rl,C⟩:=eX (rlB V m2 U L W m5);rw[←C]at K⊢;obtain⟨nl,y⟩:=eX (nlB V m2 U L W m5);rw[←y]at F⊢;obtain⟨np,I⟩:=eX (npB m6 m7 m8);rw[←I]at H⊢;obtain⟨rp,A⟩:=eX (rpB m6 m7 par.late);rw[←A]at J⊢;have O:=Hd K;have D:=Hd F;have v:=Hd H;have N:=Hd J;have P:=Hd M;clear K F H J Z h2 h3 h4 h5 S X M u q t p r o n G m C y I A hB hs B;have x:∀cs:Array Value,Below w.heap.size w (w.alloc (.cells cs 52)):=fun cs=>bR.alloc lR _;have l:=Hd x;clear x
 by_cases k0:kind=0
 ·subst k0;rw[if_pos rfl];go_enter Tryz.func169,Tryz.ntmps169;go_wp2_with fail;refine(D.out _).mono ?_;rintro e E ⟨rfl,b⟩;have k:=b.size;simp only[World.alloc]at k;have z:w.heap.size<E.heap.size:=(by simp at k;omega);have a:=(Blk.new w 52 _).below b (by simp);have x7:=a.cell 7;have x8:=a.cell 8;have x9:=a.cell 9;simp only[cC,cD,cE]at x7 x8 x9;have f:=(l.out _).trans (b.mono (by simp));have i:=Hd f;have s:=Hd (P.out.below f lR);clear b k a f;cases nl with
  |true=>
   go_wp2_with fail;refine(v.out _).mono ?_;rintro e w2 ⟨rfl,g⟩;have j:=Hd (i.out.trans (g.mono (by omega)));clear g;go_wp2_with fail;go_ret;exact⟨rfl,j.out⟩
  |false=>
   go_wp2_with fail;go_ret;exact⟨rfl,i.out⟩
 ·by_cases k1:kind=1
  ·subst k1;rw[if_neg (by omega),if_pos rfl];go_enter Tryz.func169,Tryz.ntmps169;go_wp2_with fail;refine(O.out _).mono ?_;rintro e E ⟨rfl,b⟩;have k:=b.size;simp only[World.alloc]at k;have z:w.heap.size<E.heap.size:=(by simp at k;omega);have a:=(Blk.new w 52 _).below b (by simp);have x7:=a.cell 7;have x8:=a.cell 8;have x9:=a.cell 9;simp only[cC,cD,cE]at x7 x8 x9;have f:=(l.out _).trans (b.mono (by simp));have i:=Hd f;have s:=Hd (P.out.below f lR);clear b k a f;cases rl with
   |true=>
    go_wp2_with fail;refine(v.out _).mono ?_;rintro e w2 ⟨rfl,g⟩;have j:=Hd (i.out.trans (g.mono (by omega)));clear g;go_wp2_with fail;go_ret;exact⟨rfl,j.out⟩
   |false=>
    go_wp2_with fail;go_ret;exact⟨rfl,i.out⟩
  ·by_cases k2:kind=2
   ·subst k2;rw[if_neg (by omega),if_neg (by omega),if_pos rfl];go_enter Tryz.func169,Tryz.ntmps169;go_wp2_with fail;refine(D.out _).mono ?_;rintro e E ⟨rfl,b⟩;have k:=b.size;simp only[World.alloc]at k;have z:w.heap.size<E.heap.size:=(by simp at k;omega);have a:=(Blk.new w 52 _).below b (by simp);have x7:=a.cell 7;have x8:=a.cell 8;have x9:=a.cell 9;simp only[cC,cD,cE]at x7 x8 x9;have f:=(l.out _).trans (b.mono (by simp));have i:=Hd f;have s:=Hd (P.out.below f lR);clear b k a f;cases nl with
    |true=>
     go_wp2_with fail;refine(N.out _ s.out).mono ?_;rintro e w2 ⟨rfl,g⟩;have j:=Hd (i.out.trans (g.mono (by omega)));clear g;go_wp2_with fail;go_ret;exact⟨rfl,j.out⟩
    |false=>
     go_wp2_with fail;go_ret;exact⟨rfl,i.out⟩
   ·rw[if_neg k0,if_neg k1,if_neg k2];have t0:((kind:Int)==0)=false:=(by rw[beq_eq_false_iff_ne];omega);have t1:((kind:Int)==1)=false:=(by rw[beq_eq_false_iff_ne];omega);have t2:((kind:Int)==2)=false:=(by rw[beq_eq_false_iff_ne];omega);clear k0 k1 k2;go_enter Tryz.func169,Tryz.ntmps169;go_wp2_with fail;go_ret;exact⟨rfl,l.out _⟩
def Jn (d:LeafD):List Nat:=Oe [d.box,d.sign,d.ident]++[d.source]++(if d.source=3 then Av d.par else [])
def Ms (d:LeafD):Prop:=d.box.length≤200∧d.sign.length≤200∧d.ident.length≤200∧d.par.length≤200∧d.sig.length≤200
theorem So (b:Value) (B:List Nat) (d:LeafD) (m p o a4 a5:Option Addr) (c1 c2 c3 c4 c5:Nat) (w:World) (hb:Rd w b (bvs B)) (hB:B.length<1000000000) (hs:Ms d) (aS:d.source<256)
  (h1:Rd w (.slice m d.box.length c1) (bvs d.box)) (h2:Rd w (.slice p d.sign.length c2) (bvs d.sign)) (h3:Rd w (.slice o d.ident.length c3) (bvs d.ident)) (h4:Rd w (.slice a4 d.par.length c4) (bvs d.par)):
  Calls Tryz.prog 171 #[b,.agg #[.slice m d.box.length c1,.slice p d.sign.length c2,.slice o d.ident.length c3,.int .u8 (d.source:Nat),.slice a4 d.par.length c4,.slice a5 d.sig.length c5]] w
   fun e w'=>∃v,e=.returned v∧Own w' w.heap.size 5 v (bvs (B++Jn d))∧Below w.heap.size w w':=by
 obtain⟨s1,s2,s3,s4,s5⟩:=hs;have j:∀r∈[d.box,d.sign,d.ident],r.length≤200:=by
  intro r hr;simp only[List.mem_cons,List.not_mem_nil,or_false]at hr;rcases hr with rfl|rfl|rfl<;>assumption
 have s:∀r,(Oe ([d.box,d.sign,d.ident].take r)).length≤612:=by
  intro r;have h:=Xx ([d.box,d.sign,d.ident].take r) (fun x hx=>j x (bT hx));have:([d.box,d.sign,d.ident].take r).length≤3:=(by rw[cF];simp only[cB,bW];omega);omega
 have U:Jn d=Oe [d.box,d.sign,d.ident]++[d.source]++(if d.source=3 then Av d.par else []):=rfl;obtain⟨f,L⟩:=eX ([d.box,d.sign,d.ident]);rw[←L]at s U j;have D:f.length=3:=(by rw[L];rfl);obtain⟨V1,bB⟩:=eX (Value.slice m d.box.length c1);have a0:∀W:World,∀N,N=W.heap.size→Below w.heap.size w W→RdL (W.alloc (.cells #[.slice m d.box.length c1,.slice p d.sign.length c2,.slice o d.ident.length c3] 28)) (.slice (some ⟨N,0,none⟩) 3 3) f:=by
  intro W N hN hW;refine⟨[.slice m d.box.length c1,.slice p d.sign.length c2,.slice o d.ident.length c3],?_,by rw[D];rfl,?_⟩
  ·exact(Own.full (w:=W) (B:=W.heap.size) (e:=28) (cs:=#[.slice m d.box.length c1,.slice p d.sign.length c2,.slice o d.ident.length c3]) hN (by omega) (by unfold maxLen;simp) (n:=3) rfl).rd
  ·intro i r y;rw[L]at y;have k1:=(h1.below hW lR).alloc (.cells #[.slice m d.box.length c1,.slice p d.sign.length c2,.slice o d.ident.length c3] 28);have k2:=(h2.below hW lR).alloc (.cells #[.slice m d.box.length c1,.slice p d.sign.length c2,.slice o d.ident.length c3] 28);have k3:=(h3.below hW lR).alloc (.cells #[.slice m d.box.length c1,.slice p d.sign.length c2,.slice o d.ident.length c3] 28)
   match i,y with
   |0,y=>simp only[cD,Option.some.injEq]at y;subst y;exact⟨_,rfl,k1⟩
   |1,y=>simp only[cE,cD,Option.some.injEq]at y;subst y;exact⟨_,rfl,k2⟩
   |2,y=>simp only[cE,cD,Option.some.injEq]at y;subst y;exact⟨_,rfl,k3⟩
   |n+3,y=>simp at y
 clear V1 bB;have z:=fun(r:Nat) (h:r<f.length)=>Zcd (l:=f) h;have A:Below w.heap.size w (w.alloc (.cells #[.slice m d.box.length c1,.slice p d.sign.length c2,.slice o d.ident.length c3,.int .u8 (d.source:Nat),.slice a4 d.par.length c4,.slice a5 d.sig.length c5] 44)):=bR.alloc lR _;have hM:=a0 _ (w.heap.size+1) (by simp) A;have R:=h4;have t:=Blk.new w 44 #[.slice m d.box.length c1,.slice p d.sign.length c2,.slice o d.ident.length c3,.int .u8 (d.source:Nat),.slice a4 d.par.length c4,.slice a5 d.sig.length c5];obtain⟨n1,aQ⟩:=eX d.box.length;obtain⟨n2,aV⟩:=eX d.sign.length;obtain⟨n3,a7⟩:=eX d.ident.length;obtain⟨n5,aZ⟩:=eX d.sig.length;rw[←aQ,←aV,←a7]at hM A t⊢;rw[←aZ]at hM A t⊢;have G:=t.alloc (.cells #[.slice m n1 c1,.slice p n2 c2,.slice o n3 c3] 28);have C:=A.alloc (by simp) (.cells #[.slice m n1 c1,.slice p n2 c2,.slice o n3 c3] 28);have hz:((w.alloc (.cells #[.slice m n1 c1,.slice p n2 c2,.slice o n3 c3,.int .u8 (d.source:Nat),.slice a4 d.par.length c4,.slice a5 n5 c5] 44)).alloc (.cells #[.slice m n1 c1,.slice p n2 c2,.slice o n3 c3] 28)).heap.size=w.heap.size+2:=(by simp);have aG:=hb.below C lR;have aC:=R.below C lR;obtain⟨W1,X⟩:=eX (((w.alloc (.cells #[.slice m n1 c1,.slice p n2 c2,.slice o n3 c3,.int .u8 (d.source:Nat),.slice a4 d.par.length c4,.slice a5 n5 c5] 44)).alloc (.cells #[.slice m n1 c1,.slice p n2 c2,.slice o n3 c3] 28)));rw[←X]at hM G C hz aG aC;have HM:=Hd hM;have aN:=Hd G;have a8:=Hd C;have HZ:=Hd hz;have bL:=Hd aG;have bD:=Hd aC;have bC:=Hd X;have HU:=Hd U;have bG:=Hd z;have aP:=Hd s;have HR:=Hd j;have H:=Hd D;clear hM t G A C hz aG aC X U z s j D R a0 h1 h2 h3 h4 hb L aQ aV a7 aZ;go_enter Tryz.func171,Tryz.ntmps171;go_wp2_with fail;rw[←bC.out]
 go_loopg [0,15] 3 (fun q bv i wr=>∃r:Nat,r+q=3∧i=.int .i64 (r:Int)∧Rd wr bv (bvs (B++Oe (f.take r)))∧(0<r→Own wr (w.heap.size+2) 5 bv (bvs (B++Oe (f.take r))))∧Below (w.heap.size+2) W1 wr)
 case atStart=>exact⟨0,by omega,rfl,by simpa [Oe]using bL.out,fun h=>absurd h (by omega),bR⟩
 case round=>
  obtain⟨r,hr,rfl,a6,T,M⟩:=hrel;have bI:=Hd a6;have HO:=Hd T;have aB:=Hd M;have P:=M.size;rw[HZ.out]at P;have hm:=HM.out.below M (by rw[HZ.out];exact lR);obtain⟨am,bP,he,bM,bH,S⟩:=hm.cases;rw[H.out]at he;simp only[Value.slice.injEq]at he;obtain⟨rfl,-,rfl⟩:=he;have aH:=Hd S;clear a6 T M S hm bM bH
  by_cases hrk:r<3
  ·have aA:r<f.length:=(by have:=H.out;omega);obtain⟨b2,o2,u,aW,bQ,c0,U⟩:=aH.out r aA;simp only[Option.some.injEq,Addr.mk.injEq,and_true]at aW;obtain⟨rfl,rfl⟩:=aW;rw[Nat.zero_add]at c0;have E:=HR.out _ (aL aA);have z:=bG.out r aA;have s:=aP.out r;obtain⟨x,hx⟩:=eX (f[r]);rw[←hx]at U E z;obtain⟨au,nu,cu,rfl⟩:∃a n c,u=.slice a n c:=(by obtain⟨a,cap,e,_⟩:=U;exact⟨a,_,cap,e⟩);have aF:=Hd (fun b' (bE:Rd wr b' (bvs (B++Oe (f.take r))))=>Dm b' (.slice au nu cu) _ x wr bE U (by rw[aI];omega) (by omega));have aU:=Hd z;have aM:decide ((r:Int)<3)=true:=(by rw[decide_eq_true_iff];omega);clear hx U z E s;go_wp2_with fail;refine(aF.out _ bI.out).mono ?_;rintro e w5 ⟨v5,rfl,J,aY⟩;have aX:=Hd (J.mono P);have bJ:=Hd (aB.out.trans (aY.mono P));clear J aY;go_wp2_with fail;go_roundg (gk-1);case measure=>omega
   case rel=>
    refine⟨r+1,by omega,by go_num,?_,fun _=> ?_,bJ.out⟩
    ·rw[aU.out,Sk,←cA];exact aX.out.rd
    ·rw[aU.out,Sk,←cA];exact aX.out
  ·obtain rfl:r=3:=(by omega);have ho:=HO.out (by omega);have ht:f.take 3=f:=(by rw[←H.out,cG]);rw[ht]at ho;have s:=aP.out 3;rw[ht]at s;have a9:=Hd ho;have O:=aN.out.below aB.out (by omega);have x3:=O.cell 3;have x4:=O.cell 4;simp only[cC,cD,cE]at x3 x4;have bS:w.heap.size<wr.heap.size:=(by omega);have bO:=Hd O;have aM:decide (((3:Nat):Int)<3)=false:=(by decide);obtain⟨g,aD⟩:=eX d.source;rw[←aD]at x3 aS;have Y:=Hd aD;clear ho ht O aD;go_wp2_with (at_builtin;refine Dj rfl (.tmp 23) (.tmp 26) 28 rfl (w.heap.size+2) 5 _ 1 Bu _ _ rfl (a9.out.alloc _) ⟨wr.heap.size,0,none⟩ (.int .u8 (g:Nat)) rfl ?c1 rfl ?c2 ?c3 ?_);case c1=>exact Bz rfl
   case c2=>rw[bvs_len,aI];omega
   case c3=>simp;omega
   rintro v6 w6 I-aE;have k:=(aB.out.alloc P (.cells #[.int .u8 (g:Nat)] 5)).trans aE;have aJ:=Hd I;have bV:=Hd k;have bU:w.heap.size+2≤w6.heap.size:=(by have:=aE.size;simp at this;omega);have F:=aN.out.below k (by omega);have y3:=F.cell 3;have y4:=F.cell 4;simp only[cC,cD,cE]at y3 y4;rw[←Y.out]at y3;have aO:=bD.out.below k (by rw[HZ.out];exact lR);have bA:=Hd aO;have V:=(a8.out.trans (k.mono (by omega)));have Q:=Hd V;clear I aE k F aO V x3 x4;have aT:bvs (B++Oe f)++[.int .u8 (g:Nat)]=bvs (B++Oe f++[g]):=(Xv _ _).symm;have aK:=Hd aT;clear aT
   by_cases k3:g=3
   ·have t3:((g:Int)==3)=true:=(by rw[beq_iff_eq];omega);have Z:Hid (Jn d=Oe f++[g]++Av d.par):=Hd (by rw[HU.out,←Y.out,if_pos k3]);have bN:Hid (Rd w6 v6 (bvs (B++Oe f++[g]))):=Hd (by rw[←aK.out];exact aJ.out.rd);have aF:=Hd (Dm v6 _ _ d.par w6 bN.out bA.out (by rw[aI,aI];simp;omega) (by omega));clear k3;go_wp2_with fail;refine aF.out.mono ?_;rintro e w7 ⟨v7,rfl,K,aR⟩;have bK:=Hd (K.mono (show w.heap.size≤w6.heap.size by omega));have bF:=Hd (Q.out.trans (aR.mono (by omega)));clear K aR;go_wp2_with fail;go_ret;refine⟨_,rfl,?_,bF.out⟩;rw[Z.out,←cA,←cA];exact bK.out
   ·have t3:((g:Int)==3)=false:=(by rw[beq_eq_false_iff_ne];omega);have Z:Hid (Jn d=Oe f++[g]):=Hd (by rw[HU.out,←Y.out,if_neg k3,bZ]);clear k3;go_wp2_with fail;go_ret;refine⟨_,rfl,?_,Q.out⟩;rw[Z.out,←cA,←aK.out];exact aJ.out.mono (by omega)
end Go.Proofs.YtfofaiommeckbaaGreat
namespace Go.Proofs.YtfofaiommeckbaaGreat
open Go.RowKit ShaM
theorem Zmp (n:Nat)(a:1≤n)(h2:n≤31):bits .and .u64 ((18446744073709551616-n:Nat):Int) 31=((32-n:Nat):Int):=by
 show IntKind.u64.wrap ((BitVec.ofInt 64 ((18446744073709551616-n:Nat):Int)&&&BitVec.ofInt 64 ((31:Nat):Int)).toNat:Int)=_;rw[BitVec.toNat_and,BitVec.ofInt_natCast,BitVec.ofInt_natCast,BitVec.toNat_ofNat,BitVec.toNat_ofNat,aU (show 18446744073709551616-n<2^64 by omega),aU (show 31<2^64 by decide),IntKind.wrap_u64];have:=Nat.and_two_pow_sub_one_eq_mod (18446744073709551616-n) 5;simp only[Nat.reducePow,Nat.reduceSub]at this;rw[this];omega
theorem Zmi (a b:Nat)(d:a<4294967296)(c:b<4294967296):bits .or .u32 (a:Int) (b:Int)=((a|||b:Nat):Int):=by
 have h2:a|||b<2^32:=Nat.or_lt_two_pow (by omega) (by omega)
 show IntKind.u32.wrap ((BitVec.ofInt 32 (a:Int)|||BitVec.ofInt 32 (b:Int)).toNat:Int)=_;rw[BitVec.toNat_or,BitVec.ofInt_natCast,BitVec.ofInt_natCast,BitVec.toNat_ofNat,BitVec.toNat_ofNat,aU (show a<2^32 by omega),aU (show b<2^32 by omega),IntKind.wrap_u32];omega
theorem Lq (a b:Nat)(d:a<4294967296)(c:b<4294967296):bits .xor .u32 (a:Int) (b:Int)=((a^^^b:Nat):Int):=by
 have h2:a^^^b<2^32:=Nat.xor_lt_two_pow (by omega) (by omega);show IntKind.u32.wrap ((BitVec.ofInt 32 (a:Int)^^^BitVec.ofInt 32 (b:Int)).toNat:Int)=_;rw[BitVec.toNat_xor,BitVec.ofInt_natCast,BitVec.ofInt_natCast,BitVec.toNat_ofNat,BitVec.toNat_ofNat,aU (show a<2^32 by omega),aU (show b<2^32 by omega),IntKind.wrap_u32];omega
theorem Zcg (a b:Nat)(c:a<4294967296)(d:b<4294967296):bits .and .u32 (a:Int) (b:Int)=((a&&&b:Nat):Int):=by
 have h2:a&&&b<2^32:=bP Nat.and_le_left c;show IntKind.u32.wrap ((BitVec.ofInt 32 (a:Int)&&&BitVec.ofInt 32 (b:Int)).toNat:Int)=_;rw[BitVec.toNat_and,BitVec.ofInt_natCast,BitVec.ofInt_natCast,BitVec.toNat_ofNat,BitVec.toNat_ofNat,aU (show a<2^32 by omega),aU (show b<2^32 by omega),IntKind.wrap_u32];omega
theorem Zgj (x n:Nat)(hx:x<4294967296)(f:1≤n)(h2:n≤31)(w:World):
  Calls Tryz.prog 290 #[.int .u32 (x:Nat),.int .i64 (-(n:Int))] w fun e w'=>e=.returned (.int .u32 (rot x n:Nat))∧w'=w:=by
 obtain⟨m,c⟩:=eX (18446744073709551616-n);obtain⟨s,a⟩:=eX (32-n);have g:IntKind.u64.wrap (-(n:Int))=(m:Int):=(by rw[IntKind.wrap_u64];omega);have e2:=Zmp n f h2;rw[←c,←a]at e2;have e3:(32:Int)-(s:Int)=(n:Int):=(by omega);have b:s<32:=(by omega);have d:=Hd a;clear c a;go_enter Tryz.func290,Tryz.ntmps290;go_wp2_with fail;go_ret;refine⟨?_,rfl⟩;have c1:(x:Int)*2^s%4294967296=((x*2^s%4294967296:Nat):Int):=(by rw[Int.natCast_emod,Int.natCast_mul,Int.natCast_pow];rfl);have c2:(x:Int)/2^n=((x/2^n:Nat):Int):=(by rw[Int.natCast_ediv,Int.natCast_pow];rfl);have c3:x/2^n<4294967296:=bP (bQ _ _) hx;show Ending.returned (.int .u32 (bits BinOp.or IntKind.u32 ((x:Int)*2^s%4294967296) ((x:Int)/2^n)))=_;rw[c1,c2,Zmi _ _ (Nat.mod_lt _ (by omega)) c3,d.out,rot_or hx (by omega)]
theorem Gj (x n:Nat)(hx:x<4294967296)(a:1≤n)(h2:n≤31)(w:World):
  Calls Tryz.prog 273 #[.int .u32 (x:Nat),.int .i64 (n:Nat)] w fun e w'=>e=.returned (.int .u32 (rot x n:Nat))∧w'=w:=by
 have R:=Hd (Zgj x n hx a h2 w);go_enter Tryz.func273,Tryz.ntmps273;go_wp2_with fail;refine(R.out).mono ?_;rintro e w' ⟨rfl,rfl⟩;go_wp2_with fail;go_ret;exact⟨rfl,rfl⟩
end Go.Proofs.YtfofaiommeckbaaGreat
namespace Go.Proofs.YtfofaiommeckbaaGreat
open Go.RowKit WireM
def RdK (w:World)(B:Nat)(v:Value)(xs:List Value):Prop:=
 ∃a cap,v=.slice a xs.length cap∧xs.length≤cap∧cap≤maxLen∧
  ((xs=[]∧(a=none→cap=0))∨∃b off,a=some ⟨b,off,none⟩∧b<B∧∀(j:Nat) u,xs[j]? =some u→w.cell? ⟨b,off+j,none⟩=some u)
theorem RdK.rd {w:World} {B:Nat} {v:Value} {xs:List Value}(h:RdK w B v xs):Rd w v xs:=by
 obtain⟨a,cap,h1,h2,h3,h4|⟨b,off,h4,_,h5⟩⟩:=h
 ·exact⟨a,cap,h1,h2,h3,.inl h4⟩
 ·exact⟨a,cap,h1,h2,h3,.inr ⟨b,off,h4,h5⟩⟩
theorem Rd.k {w:World} {v:Value} {xs:List Value} {B:Nat}(h:Rd w v xs)(g:w.heap.size≤B):RdK w B v xs:=by
 obtain⟨a,cap,f,h2,h3,c⟩:=h;refine⟨a,cap,f,h2,h3,?_⟩;cases xs with
 |nil=>
  rcases c with c|⟨b,d,rfl,_⟩
  ·exact .inl c
  ·exact .inl ⟨rfl,fun h=>by cases h⟩
 |cons x xs=>
  rcases c with c|⟨b,d,rfl,e⟩
  ·cases c.1
  ·have:=World.block_lt_of_cell? w _ (e 0 x rfl);exact .inr ⟨b,d,rfl,by simp only at this;omega,e⟩
theorem RdK.keep {w w':World} {B:Nat} {v:Value} {xs:List Value}(h:RdK w B v xs)(hk:∀p:Addr,p.block<B→w'.cell? p=w.cell? p):RdK w' B v xs:=by
 obtain⟨a,cap,f,h2,h3,c|⟨b,d,c,e,i⟩⟩:=h
 ·exact⟨a,cap,f,h2,h3,.inl c⟩
 ·exact⟨a,cap,f,h2,h3,.inr ⟨b,d,c,e,fun j u g=>(hk _ e).trans (i j u g)⟩⟩
def Only (B:Nat)(a w:World):Prop:=a.grownBy w (some B)
theorem Only.refl (B:Nat)(a:World):Only B a a:=World.grownBy.refl a _
theorem Only.trans {B:Nat} {a b c:World}(h:Only B a b)(k:Only B b c):Only B a c:=
 ⟨k.os.trans h.os,k.tape.trans h.tape,k.output.trans h.output,bO h.size k.size,fun i hi hne=>(k.block i (Nat.lt_of_lt_of_le hi h.size) hne).trans (h.block i hi hne)⟩
theorem Only.of {B:Nat} {a w:World}(h:Below a.heap.size a w):Only B a w:=⟨h.os,h.tape,h.output,h.size,fun i hi _=>h.block i hi⟩
theorem Only.set {a:World} {B:Nat}(i:Nat)(u:Value):Only B a (a.setCell ⟨B,i,none⟩ u):=
 ⟨rfl,rfl,rfl,by simp[World.setCell],fun k hk hne=>Below.heap_setCell _ _ _ _ (fun e=>hne (by rw[e]))⟩
theorem Only.below {B C:Nat} {a w:World}(h:Only B a w)(h1:C≤B)(h2:C≤a.heap.size):Below C a w:=
 ⟨h.os,h.tape,h.output,h.size,fun i hi=>h.block i (by omega) (fun e=>by simp at e;omega)⟩
theorem Only.cell {B:Nat} {a w:World}(h:Only B a w) {p:Addr}(hp:p.block<B)(hs:B≤a.heap.size):w.cell? p=a.cell? p:=
 World.cell?_of_block (h.block p.block (by omega) (fun e=>by simp at e;omega))
def RS (w:World)(B:Nat)(L:List Nat)(er:Nat):Prop:=∃v,Blk w B 189 #[v,.int .u8 (er:Nat)]∧RdK w B v (bvs L)
theorem RS.lt {w:World} {B:Nat} {L:List Nat} {er:Nat}(h:RS w B L er):B<w.heap.size:=by obtain⟨v,h,_⟩:=h;exact h.lt
theorem RS.below {w w':World} {B:Nat} {L:List Nat} {er:Nat}(h:RS w B L er)(hb:Below w.heap.size w w'):RS w' B L er:=by
 obtain⟨v,h1,h2⟩:=h;exact⟨v,h1.below hb h1.lt,h2.keep fun p hp=>hb.cell (Nat.lt_trans hp h1.lt)⟩
theorem Xy (L:List Nat)(n:Nat):bvs (L.take n)=(bvs L).take n:=by simp[bvs,List.map_take]
theorem Xz (L:List Nat)(n:Nat):bvs (L.drop n)=(bvs L).drop n:=by simp[bvs,List.map_drop]
theorem RdK.front {w:World} {B:Nat} {a:Option Addr} {cap n:Nat} {L:List Nat}(h:RdK w B (.slice a L.length cap) (bvs L))(m:n≤L.length):RdK w B (.slice a n cap) (bvs (L.take n)):=by
 obtain⟨l,cap',g,h2,h3,c⟩:=h;simp only[Value.slice.injEq]at g;obtain⟨rfl,_,rfl⟩:=g;have i:(bvs (L.take n)).length=n:=(by rw[bvs_len,cF];omega);rw[bvs_len]at h2;refine⟨a,cap,by rw[i],by rw[i];omega,h3,?_⟩;rcases c with⟨c,e⟩|⟨b,f,c,e,k⟩
 ·left
  refine⟨by rw[Xy,c];simp,e⟩
 ·right
  refine⟨b,f,c,e,?_⟩;intro j u d;rw[Xy,List.getElem?_take]at d
  split at d
  ·exact k j u d
  ·cases d
theorem RdK.rest {w:World} {B:Nat} {a:Option Addr} {cap n:Nat} {L:List Nat}(h:RdK w B (.slice a L.length cap) (bvs L))(m:n≤L.length):RdK w B (.slice (a.map (·.add n)) (L.length-n) (cap-n)) (bvs (L.drop n)):=by
 obtain⟨l,cap',f,h2,h3,c⟩:=h;simp only[Value.slice.injEq]at f;obtain⟨rfl,_,rfl⟩:=f;have i:(bvs (L.drop n)).length=L.length-n:=(by rw[bvs_len,List.length_drop]);rw[bvs_len]at h2;refine⟨_,cap-n,by rw[i],by rw[i];omega,by omega,?_⟩;rcases c with⟨c,d⟩|⟨b,e,rfl,d,k⟩
 ·left
  refine⟨by rw[Xz,c];simp,?_⟩;intro h;have:a=none:=by cases a with
   |none=>rfl
   |some a=>simp at h
  rw[d this];omega
 ·right
  refine⟨b,e+n,by simp[Addr.add_lit],d,?_⟩;intro j u g;rw[Xz,List.getElem?_drop]at g;rw[Nat.add_assoc];exact k _ u g
theorem RdK.rest0 {w:World} {B:Nat} {a:Option Addr} {n:Nat} {L:List Nat}(hn:L.length≤n):RdK w B (.slice a (L.length-n) 0) (bvs (L.drop n)):=by
 have hl:bvs (L.drop n)=[]:=(by rw[List.drop_eq_nil_of_le hn];rfl);rw[hl];refine⟨a,0,by simp;omega,by simp,aA _,.inl ⟨rfl,fun _=>rfl⟩⟩
theorem Gk (B:Nat)(L:List Nat)(b:Nat)(w:World)(h:RS w B L 0)(j:b<256):
  Calls Tryz.prog 217 #[.pointer (some ⟨B,0,none⟩),.int .u8 (b:Nat)] w fun e w'=>e=.returned (.tuple #[])∧RS w' B L b∧Only B w w'∧w'.heap.size=w.heap.size:=by
 obtain⟨v,a,c⟩:=h;have i:=a.cell 1;have k:=a.frozen 1;simp only[cC,cD,cE]at i;have f:=Hd a;have g:=Hd c;clear a c;go_enter Tryz.func217,Tryz.ntmps217;go_wp2_with fail
 go_end0
 refine⟨rfl,⟨v,?_,?_⟩,Only.set _ _,by simp[World.setCell]⟩
 ·exact f.out.set 1 _
 ·exact g.out.keep fun p d=>World.cell?_setCell_other _ _ _ _ (fun e=>by subst e;exact absurd d (bS _))
theorem Qm (B:Nat)(L:List Nat)(er:Nat)(n:Int)(w:World)(h:RS w B L er)(c:er≠0):
  Calls Tryz.prog 200 #[.pointer (some ⟨B,0,none⟩),.int .i64 n] w fun e w'=>e=.returned (.tuple #[.slice none 0 0,.bool false])∧w=w':=by
 obtain⟨v,a,b⟩:=h;have f:=a.cell 1;have d:((er:Int) !=0)=true:=(by simp;omega);simp only[cC,cD,cE]at f;clear a b c;go_enter Tryz.func200,Tryz.ntmps200;go_wp2_with fail;go_ret2;exact⟨rfl,rfl⟩
theorem Zgk (B:Nat)(L:List Nat)(n:Int)(w:World)(h:RS w B L 0)(l:n<0):
  Calls Tryz.prog 200 #[.pointer (some ⟨B,0,none⟩),.int .i64 n] w fun e w'=>e=.returned (.tuple #[.slice none 0 0,.bool false])∧RS w' B L 1∧Only B w w'∧w'.heap.size=w.heap.size:=by
 have g:=Hd (Gk B L 1 w h (by omega));obtain⟨v,a,c⟩:=h;have d:=a.cell 1;simp only[cC,cD,cE]at d;clear a c;go_enter Tryz.func200,Tryz.ntmps200;go_wp2_with fail;refine g.out.mono ?_;rintro e k ⟨rfl,b,h2,h3⟩;have f:=Hd b;have j:=Hd h2;have i:=Hd h3;clear b h2 h3;go_wp2_with fail;go_ret2;exact⟨rfl,f.out,j.out,i.out⟩
theorem Lx (B:Nat)(L:List Nat)(n:Int)(w:World)(h:RS w B L 0)(p:(L.length:Int)<n):
  Calls Tryz.prog 200 #[.pointer (some ⟨B,0,none⟩),.int .i64 n] w fun e w'=>e=.returned (.tuple #[.slice none 0 0,.bool false])∧RS w' B L 4∧Only B w w'∧w'.heap.size=w.heap.size:=by
 have i:=Hd (Gk B L 4 w h (by omega));obtain⟨v,b,d⟩:=h;obtain⟨a,cap,rfl,_⟩:=d;rw[bvs_len]at b;have k:=b.cell 0;have f:=b.cell 1;simp only[cC,cD,cE]at k f;have j:0≤n:=(by omega);clear b;go_enter Tryz.func200,Tryz.ntmps200;go_wp2_with fail;refine i.out.mono ?_;rintro e o ⟨rfl,c,h2,h3⟩;have g:=Hd c;have m:=Hd h2;have l:=Hd h3;clear c h2 h3;go_wp2_with fail;go_ret2;exact⟨rfl,g.out,m.out,l.out⟩
theorem Qn (B:Nat)(L:List Nat)(n:Nat)(w:World)(h:RS w B L 0)(l:n≤L.length):
  Calls Tryz.prog 200 #[.pointer (some ⟨B,0,none⟩),.int .i64 (n:Nat)] w fun e w'=>(∃v',e=.returned (.tuple #[v',.bool true])∧RdK w' B v' (bvs (L.take n)))∧RS w' B (L.drop n) 0∧Only B w w'∧w'.heap.size=w.heap.size:=by
 obtain⟨v,b,d⟩:=h;obtain⟨a,cap,rfl,i,j,g⟩:=id d;rw[bvs_len]at b i d;have t:=b.cell 0;have r:=b.cell 1;have x:=b.frozen 0;simp only[cC,cD,cE]at t r;have o:L.length≤9223372036854775807:=(by unfold maxLen at j;omega);have q:=Hd b;have k:=Hd d;have keep:Hid (∀u (p:Addr),p.block<B→(w.setCell ⟨B,0,none⟩ u).cell? p=w.cell? p):=Hd (fun u p s=>World.cell?_setCell_other _ _ _ _ (fun e=>by subst e;exact absurd s (bS _)));clear b d g;go_enter Tryz.func200,Tryz.ntmps200;go_wp2_with fail;all_goals go_ret2
 ·have m:cap=n:=(by assumption);have c:=k.out.front l;have f:=RdK.rest0 (w:=w.setCell ⟨B,0,none⟩ (Value.slice a (L.length-n) 0)) (B:=B) (a:=a) (n:=n) (L:=L) (by omega);rw[m]at c;refine⟨⟨_,rfl,c.keep (keep.out _)⟩,⟨_,q.out.set 0 _,f⟩,Only.set _ _,by simp[World.setCell]⟩
 ·refine⟨⟨_,rfl,(k.out.front l).keep (keep.out _)⟩,⟨_,q.out.set 0 _,?_⟩,Only.set _ _,by simp[World.setCell]⟩;exact(k.out.rest l).keep (keep.out _)
def Ds (L:List Nat):Nat:=L.foldl (fun a c=>a*256+c) 0
theorem Sp (L:List Nat)(c:Nat):Ds (L++[c])=Ds L*256+c:=by simp[Ds]
theorem Mt:∀(k:Nat) (L:List Nat),L.length=k→(∀n∈L,n<256)→Ds L<256^k:=by
 intro k
 induction k with
 |zero=>intro L h _;rw[bV h];decide
 |succ k ih=>
  intro L h b;have a:L≠[]:=(by intro e;subst e;simp at h);rw[←List.dropLast_concat_getLast a,Sp];have d:=ih L.dropLast (by simp[h]) (fun n c=>b n (List.dropLast_subset _ c));have h2:=b _ (List.getLast_mem a);rw[aP];omega
theorem Zmq (a c:Nat)(hc:c<256):a*256|||c=a*256+c:=by
 have:=Nat.two_pow_add_eq_or_of_lt (i:=8) (b:=c) hc a;rw[Nat.mul_comm]at this;exact this.symm
theorem Zak {L:List Nat} {r:Nat}(h:r<L.length):L.take (r+1)=L.take r++[L.getD r 0]:=by
 rw[bU h,aJ,aK h];rfl
theorem Zli {r:Nat}(h:r≤7):256^r≤72057594037927936:=by
 have:=Nat.pow_le_pow_right (show 0<256 by omega) h;exact this
theorem Kn (v:Value)(L:List Nat)(w:World)(h:Rd w v (bvs L))(M:L.length≤8)(B:∀n∈L,n<256):
  Calls Tryz.prog 201 #[v] w fun e w'=>e=.returned (.int .u64 (Ds L:Nat))∧w=w':=by
 have d:=h.cases;obtain⟨a,cap,rfl,l,H,u⟩:=h;rw[bvs_len]at l d⊢;obtain⟨k,hk⟩:=eX L.length;rw[←hk]at l M d⊢;have G:=Hd d;have C:=Hd hk;have A:=Hd B;clear d u hk B;go_enter Tryz.func201,Tryz.ntmps201;go_wp2_with fail
 go_loopg [3,8] k (fun q m i wr=>∃r:Nat,r+q=k∧i=.int .i64 (r:Int)∧m=.int .u64 (Ds (L.take r):Nat)∧wr=w)
 case atStart=>exact⟨0,by omega,rfl,rfl,rfl⟩
 case round=>
  obtain⟨r,N,rfl,rfl,rfl⟩:=hrel
  by_cases hrk:r<k
  ·have g:r<L.length:=(by have:=C.out;omega);have j:=Mt r (L.take r) (by rw[cF];omega) (fun n s=>A.out n (bT s));have I:=Zli (show r≤7 by omega);have y:=Zak g;have p:=Gz A.out (by omega) r;obtain⟨b,f,rfl,J⟩:∃b f,a=some ⟨b,f,none⟩∧wr.cell? ⟨b,f+r,none⟩=some (.int .u8 ((L.getD r 0:Nat):Int)):=by
    rcases G.out with⟨_,_,t,E⟩|⟨b,f,cap',_,_,_,t,_,p⟩
    ·rw[E]at g;simp at g
    ·simp only[Value.slice.injEq]at t;exact⟨b,f,t.1,p r hrk⟩
   obtain⟨c,o⟩:=eX (L.getD r 0);obtain⟨x,hx⟩:=eX (Ds (L.take r));rw[←o]at y J p;rw[←hx]at j⊢;have K:x<72057594037927936:=(by omega);have z:=u64_or_nat (x*256) c (by omega) (by omega);rw[Zmq x c p]at z;have s:((x*256:Nat):Int)=(x:Int)*256:=(by omega);rw[s]at z;have F:=Hd hx;have D:=Hd y;clear o hx y j I s;go_wp2_with fail;go_roundg (gk-1);case measure=>omega
   case rel=>
    refine⟨r+1,by omega,by go_num,?_,rfl⟩;rw[D.out,Sp,←F.out];exact Ml (by omega)
  ·obtain rfl:r=k:=(by omega);go_wp2_with fail;go_ret;refine⟨Zb8 ?_,rfl⟩;rw[C.out,cG]
theorem Jo (v:Value)(L:List Nat)(w:World)(h:Rd w v (bvs L)):
  Calls Tryz.prog 101 #[v] w fun e w'=>e=.returned (.pointer (some ⟨w.heap.size,0,none⟩))∧RS w' w.heap.size L 0∧Below w.heap.size w w':=by
 have b:=bvs_len L;obtain⟨a,cap,rfl,_⟩:=id h;rw[b]at h⊢;have d:=Hd h;clear h b;go_enter Tryz.func101,Tryz.ntmps101;go_wp2_with fail;go_ret;exact⟨rfl,⟨_,Blk.new _ _ _,(d.out.k lR).keep fun p c=>World.cell?_alloc_lt w _ p c⟩,bR.alloc lR _⟩
theorem Hb (B:Nat)(L:List Nat)(er:Nat)(w:World)(h:RS w B L er):
  Calls Tryz.prog 155 #[.pointer (some ⟨B,0,none⟩)] w fun e w'=>e=.returned (.int .u8 (er:Nat))∧w=w':=by
 obtain⟨v,a,b⟩:=h;have c:=a.cell 1;simp only[cC,cD,cE]at c;clear a b;go_enter Tryz.func155,Tryz.ntmps155;go_wp2_with fail;go_ret;exact⟨rfl,rfl⟩
def Zgl (L:List Nat)(er:Nat):Nat:=if er≠0 then er else if L=[]then 0 else 5
theorem Zjx (B:Nat)(L:List Nat)(er:Nat)(w:World)(h:RS w B L er):
  Calls Tryz.prog 122 #[.pointer (some ⟨B,0,none⟩)] w fun e w'=>e=.returned (.int .u8 (Zgl L er:Nat))∧w=w':=by
 have c:=Hd (Hb B L er w h);obtain⟨v,b,g⟩:=h;obtain⟨a,cap,rfl,_⟩:=g;rw[bvs_len]at b;have d:=b.cell 0;have i:=b.cell 1;simp only[cC,cD,cE]at d i;clear b;unfold Zgl
 by_cases he:er=0
 ·subst he
  by_cases hl:L=[]
  ·subst hl;rw[if_neg (by simp),if_pos rfl];simp only[bW]at d;go_enter Tryz.func122,Tryz.ntmps122;go_wp2_with fail;refine c.out.mono ?_;rintro e w' ⟨rfl,rfl⟩;go_wp2_with fail;go_ret;exact⟨rfl,rfl⟩
  ·rw[if_neg (by simp),if_neg hl];have f:0<L.length:=List.length_pos_iff.2 hl;clear hl;go_enter Tryz.func122,Tryz.ntmps122;go_wp2_with fail;refine c.out.mono ?_;rintro e w' ⟨rfl,rfl⟩;go_wp2_with fail;go_ret;exact⟨rfl,rfl⟩
 ·rw[if_pos he];have j:((er:Int) !=0)=true:=(by simp;omega);clear he;go_enter Tryz.func122,Tryz.ntmps122;go_wp2_with fail;refine c.out.mono ?_;rintro e w' ⟨rfl,rfl⟩;go_wp2_with fail;go_ret;exact⟨rfl,rfl⟩
open ShaM
def qvs (L:List Nat):List Value:=L.map fun n:Nat=> .int .u64 (n:Int)
@[simp] theorem qvs_len (L:List Nat):(qvs L).length=L.length:=by simp[qvs]
theorem Hw {L:List Nat} {i:Nat}(h:i<L.length):(qvs L)[i]? =some (.int .u64 ((L.getD i 0:Nat):Int)):=by simp[qvs,aJ,h]
theorem Zal (L M:List Nat):qvs (L++M)=qvs L++qvs M:=by simp[qvs]
theorem Zgm (L:List Nat)(d:Nat):qvs (L++[d])=qvs L++[.int .u64 (d:Int)]:=by simp[qvs]
theorem Uz (L:List Nat):∀u∈qvs L,u.oneCell'=true:=by
 intro u hu;simp only[qvs,List.mem_map]at hu;obtain⟨n,_,rfl⟩:=hu
 rfl
theorem Zmj:Elem Tryz.prog 181 92 (.int .u64 0) 8:=⟨Tryz.underlying181,by kernel_rfl,rfl,by omega⟩
theorem Rd.lit' (w:World)(N:Nat)(cs:Array Value)(t:TypeId)(xs:List Value)(n:Nat)(a:N=w.heap.size)(h:cs.toList=xs)(b:n=xs.length)(c:n≤maxLen):Rd (w.alloc (.cells cs t)) (.slice (some ⟨N,0,none⟩) n n) xs:=by
 subst a;have e:n=cs.size:=(by rw[b,←h,Array.length_toList]);have:=(Own.full (w:=w) (B:=0) (e:=t) (cs:=cs) rfl (aA _) (by omega) e).rd;rw[h]at this;exact this
theorem Rd.lit (w:World)(cs:Array Value)(t:TypeId)(xs:List Value)(n:Nat)(h:cs.toList=xs)(hn:n=xs.length)(hm:n≤maxLen):Rd (w.alloc (.cells cs t)) (.slice (some ⟨w.heap.size,0,none⟩) n n) xs:=Rd.lit' w _ cs t xs n rfl h hn hm
theorem Zgn (x n:Nat)(w:World)(hx:x<4294967296)(j:n≤32):
  Calls Tryz.prog 195 #[.int .u64 (x:Nat),.int .i64 (n:Nat)] w fun e w'=>e=.returned (.int .u64 (rot x n:Nat))∧w'=w:=by
 go_enter Tryz.func195,Tryz.ntmps195;go_wp2_with fail
 go_loopg [0,5] n (fun q h iv wr=>∃i y:Nat,i+q=n∧iv=.int .i64 (i:Nat)∧h=.int .u64 (y:Nat)∧y=rot x i∧wr=w)
 case atStart=>exact⟨0,x,by omega,rfl,rfl,(rot_zero x).symm,rfl⟩
 case round=>
  obtain⟨i,y,d,rfl,rfl,b,rfl⟩:=hrel;have c:=rot_lt hx (show i≤32 by omega);rw[←b]at c;have g:=Hd d;have f:=Hd b
  by_cases hlt:i<n
  ·have a:decide ((i:Int)<(n:Int))=true:=(by rw[decide_eq_true_iff];omega);clear d b;go_wp2_with fail;go_roundg (gk-1);case measure=>have:=g.out;omega
   case rel=>exact⟨i+1,y/2+y%2*2147483648,by have:=g.out;omega,by go_num,by go_num,by rw[rot_succ hx (by omega),f.out],rfl⟩
  ·have a:decide ((i:Int)<(n:Int))=false:=(by rw[decide_eq_false_iff_not];omega);obtain rfl:i=n:=(by omega);clear d b;go_wp2_with fail;go_ret;exact⟨by rw[f.out];rfl,rfl⟩
theorem Zch (x n:Nat)(w:World)(hx:x<4294967296)(k:n≤32):
  Calls Tryz.prog 196 #[.int .u64 (x:Nat),.int .i64 (n:Nat)] w fun e w'=>e=.returned (.int .u64 (x/2^n:Nat))∧w'=w:=by
 go_enter Tryz.func196,Tryz.ntmps196;go_wp2_with fail
 go_loopg [0,5] n (fun q j iv wr=>∃i y:Nat,i+q=n∧iv=.int .i64 (i:Nat)∧j=.int .u64 (y:Nat)∧y=x/2^i∧wr=w)
 case atStart=>exact⟨0,x,by omega,rfl,rfl,by simp,rfl⟩
 case round=>
  obtain⟨i,y,d,rfl,rfl,c,rfl⟩:=hrel;have b:y≤x:=(by rw[c];exact bQ _ _);have g:y<4294967296:=(by omega);have h:=Hd d;have f:=Hd c
  by_cases hlt:i<n
  ·have a:decide ((i:Int)<(n:Int))=true:=(by rw[decide_eq_true_iff];omega);clear d c b;go_wp2_with fail;go_roundg (gk-1);case measure=>have:=h.out;omega
   case rel=>exact⟨i+1,y/2,by have:=h.out;omega,by go_num,by go_num,by rw[f.out,Nat.div_div_eq_div_mul,aP],rfl⟩
  ·have a:decide ((i:Int)<(n:Int))=false:=(by rw[decide_eq_false_iff_not];omega);obtain rfl:i=n:=(by omega);clear d c b;go_wp2_with fail;go_ret;exact⟨by rw[f.out];rfl,rfl⟩
theorem Zci (w:World):
  Calls Tryz.prog 143 #[] w fun e w'=>∃v1 v2,e=.returned (.tuple #[v1,v2])∧Rd w' v1 (qvs HL0)∧Rd w' v2 (qvs KL)∧Below w.heap.size w w':=by
 go_enter Tryz.func143,Tryz.ntmps143;go_wp2_with fail;go_ret2;have a:(w.alloc (.cells (qvs HL0).toArray 92)).heap.size=w.heap.size+1:=(by simp);refine⟨_,_,rfl,(Rd.lit w _ 92 (qvs HL0) 8 (by kernel_rfl) (by kernel_rfl) (by unfold maxLen;omega)).alloc _,?_,((Below.refl w.heap.size w).alloc lR _).alloc (by simp) _⟩;refine Rd.lit' _ _ _ 92 (qvs KL) 64 (by simp) (by kernel_rfl) (by kernel_rfl) (by unfold maxLen;omega)
end Go.Proofs.YtfofaiommeckbaaGreat
