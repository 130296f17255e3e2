/- Walks: slices.Clone, bytes.Clone, wire.may, wire.LenSize, the reference's Num, wire.PutNum. -/
import Derived.Test.YtngealmhgkoaiaaGreatZSliceResolvesB
import Derived.Test.YtngealmhgkoaiaaGreatZSliceResolves03
import Derived.Deep.LoopGhost
open List renaming eq_nil_of_length_eq_zero → bN
open Nat renaming mod_eq_of_lt → aS, lt_of_le_of_lt → bQ, div_le_self → bS
set_option linter.unusedVariables false
set_option maxRecDepth 100000
set_option maxHeartbeats 40000000
namespace Go.Proofs.YtngealmhgkoaiaaGreat
open Go.RowKit WireM
theorem Ck:Elem Tryz.prog 25 5 (.int .u8 0) 1:=⟨Tryz.underlying25,by kernel_rfl,rfl,by omega⟩
theorem Rd.nilOr {w:World} {v:Value} {xs:List Value}(h:Rd w v xs):v=.slice none 0 0∨∃a cap,v=.slice (some a) xs.length cap:=by
 obtain⟨a,cap,rfl,h1,h2,⟨rfl,h3⟩|⟨b,off,rfl,_⟩⟩:=h
 ·cases a with
  |none=>left;rw[h3 rfl];rfl
  |some a=>exact .inr ⟨a,cap,rfl⟩
 ·exact .inr ⟨_,cap,rfl⟩
theorem Qs (v:Value)(L:List Nat)(w:World)(h:Rd w v (bvs L))(hn:L.length<1099511627776):
  Calls Tryz.prog 203 #[v] w fun e w'=>∃v',e=.returned v'∧Own w' w.heap.size 5 v' (bvs L)∧Below w.heap.size w w':=by
 have hl:(bvs L).length=L.length:=bvs_len L;have h1:=Cg L;rcases h.nilOr with rfl|⟨a,cap,rfl⟩
 ·have h0:bvs L=[]:=by
   obtain⟨a,cap,e,_⟩:=h;simp only[Value.slice.injEq]at e;exact bN e.2.1.symm
  rw[h0];clear h h0 hl h1;have q:∀w,(binOp .eql 25 (.slice none 0 0) (.slice none 0 0)).run Tryz.prog w=.ok (.bool true) w:=fun w=>Lib.run_eql_slice_nil w _ 5 none 0 0 0 0 Tryz.underlying25;go_enter Tryz.func203,Tryz.ntmps203;go_wp2_with fail;go_ret;exact⟨_,rfl,Own.nil _ _ _,bR⟩
 ·obtain⟨xs,hxs⟩:=eX (bvs L);rw[←hxs]at h h1 hl⊢;have hx:xs.length<1099511627776:=(by omega);have HR:=Hd h;have H1:=Hd h1;clear h h1 hl hxs hn;have q:∀w,(binOp .eql 25 (.slice (some a) xs.length cap) (.slice none 0 0)).run Tryz.prog w=.ok (.bool false) w:=fun w=>Lib.run_eql_slice_nil w _ 5 (some a) _ _ 0 0 Tryz.underlying25;go_enter Tryz.func203,Tryz.ntmps203;go_wp2_with (at_builtin;refine Ah rfl (.tmp 5) (.tmp 6) 25 rfl w.heap.size 5 _ 1 Ck _ [] rfl (Own.lit0 rfl lR) _ xs rfl (HR.out.alloc _) H1.out ?c2 ?c3 ?_);case c2=>simpa using hx
  case c3=>simp
  rintro v' w2 hown-hb;have HO:=Hd hown;have HB:=Hd hb;clear hown hb;go_wp2_with fail;go_ret;exact⟨_,rfl,HO.out,(bR.alloc lR _).trans HB.out⟩
theorem Ce (v:Value)(L:List Nat)(w:World)(h:Rd w v (bvs L))(hn:L.length<1099511627776):
  Calls Tryz.prog 167 #[v] w fun e w'=>∃v',e=.returned v'∧Own w' w.heap.size 5 v' (bvs L)∧Below w.heap.size w w':=by
 have hl:(bvs L).length=L.length:=bvs_len L;have h1:=Cg L;rcases h.nilOr with rfl|⟨a,cap,rfl⟩
 ·have h0:bvs L=[]:=by
   obtain⟨a,cap,e,_⟩:=h;simp only[Value.slice.injEq]at e;exact bN e.2.1.symm
  rw[h0];clear h h0 hl h1;have q:∀w,(binOp .eql 25 (.slice none 0 0) (.slice none 0 0)).run Tryz.prog w=.ok (.bool true) w:=fun w=>Lib.run_eql_slice_nil w _ 5 none 0 0 0 0 Tryz.underlying25;go_enter Tryz.func167,Tryz.ntmps167;go_wp2_with fail;go_ret;exact⟨_,rfl,Own.nil _ _ _,bR⟩
 ·obtain⟨xs,hxs⟩:=eX (bvs L);rw[←hxs]at h h1 hl⊢;have hx:xs.length<1099511627776:=(by omega);have HR:=Hd h;have H1:=Hd h1;clear h h1 hl hxs hn;have q:∀w,(binOp .eql 25 (.slice (some a) xs.length cap) (.slice none 0 0)).run Tryz.prog w=.ok (.bool false) w:=fun w=>Lib.run_eql_slice_nil w _ 5 (some a) _ _ 0 0 Tryz.underlying25;go_enter Tryz.func167,Tryz.ntmps167;go_wp2_with (at_builtin;refine Ah rfl (.tmp 5) (.tmp 6) 25 rfl w.heap.size 5 _ 1 Ck _ [] rfl (Own.lit0 rfl lR) _ xs rfl (HR.out.alloc _) H1.out ?c2 ?c3 ?_);case c2=>simpa using hx
  case c3=>simp
  rintro v' w2 hown-hb;have HO:=Hd hown;have HB:=Hd hb;clear hown hb;go_wp2_with fail;go_ret;exact⟨_,rfl,HO.out,(bR.alloc lR _).trans HB.out⟩
def Zio (n:Int):Bool:=decide (n=1∨n=2∨n=4∨n=8)
theorem Zgh (n:Int)(w:World):Calls Tryz.prog 211 #[.int .i64 n] w fun e w'=>e=.returned (.bool (Zio n))∧w=w':=by
 have hd:n=1∨n=2∨n=4∨n=8∨(n≠1∧n≠2∧n≠4∧n≠8):=(by omega);rcases hd with rfl|rfl|rfl|rfl|⟨h1,h2,h3,h4⟩
 ·go_enter Tryz.func211,Tryz.ntmps211;go_wp2_with fail;go_ret;exact⟨rfl,rfl⟩
 ·go_enter Tryz.func211,Tryz.ntmps211;go_wp2_with fail;go_ret;exact⟨rfl,rfl⟩
 ·go_enter Tryz.func211,Tryz.ntmps211;go_wp2_with fail;go_ret;exact⟨rfl,rfl⟩
 ·go_enter Tryz.func211,Tryz.ntmps211;go_wp2_with fail;go_ret;exact⟨rfl,rfl⟩
 ·have e:Zio n=false:=(by rw[Zio,decide_eq_false];omega);rw[e];have e1:(n==1)=false:=(by simp[h1]);have e2:(n==2)=false:=(by simp[h2]);have e3:(n==4)=false:=(by simp[h3]);have e4:(n==8)=false:=(by simp[h4]);clear h1 h2 h3 h4 e;go_enter Tryz.func211,Tryz.ntmps211;go_wp2_with fail;go_ret;exact⟨rfl,rfl⟩
theorem Tj (n:Int)(w:World):Calls Tryz.prog 202 #[.int .i64 n] w fun e w'=>e=.returned (.int .i64 (lenS n:Nat))∧w=w':=by
 have hd:n<0∨(0≤n∧1073741823<n)∨(0≤n∧n<64)∨(64≤n∧n<16384)∨(16384≤n∧n≤1073741823):=(by omega);rcases hd with h|⟨h,h'⟩|⟨h,h'⟩|⟨h,h'⟩|⟨h,h'⟩
 ·rw[lenS,if_pos (by omega)];go_enter Tryz.func202,Tryz.ntmps202;go_wp2_with fail;go_ret;exact⟨rfl,rfl⟩
 ·rw[lenS,if_pos (by omega)];go_enter Tryz.func202,Tryz.ntmps202;go_wp2_with fail;go_ret;exact⟨rfl,rfl⟩
 ·rw[lenS,if_neg (by omega),if_pos (by omega)];have h2:n≤1073741823:=(by omega);go_enter Tryz.func202,Tryz.ntmps202;go_wp2_with fail;go_ret;exact⟨rfl,rfl⟩
 ·rw[lenS,if_neg (by omega),if_neg (by omega),if_pos (by omega)];have h2:n≤1073741823:=(by omega);have h3:0≤n:=(by omega);go_enter Tryz.func202,Tryz.ntmps202;go_wp2_with fail;go_ret;exact⟨rfl,rfl⟩
 ·rw[lenS,if_neg (by omega),if_neg (by omega),if_neg (by omega)];have h2:64≤n:=(by omega);have h3:0≤n:=(by omega);go_enter Tryz.func202,Tryz.ntmps202;go_wp2_with fail;go_ret;exact⟨rfl,rfl⟩
theorem Zdo (n:Nat)(L:List Nat):bvs (n::L)=.int .u8 (n:Int)::bvs L:=rfl
theorem Vh (n:Nat)(L:List Nat):bvs (L++[n])=bvs L++[.int .u8 (n:Int)]:=by simp[bvs]
theorem Vi (k n:Nat)(w:World)(hk:k≤8)(hn:n<18446744073709551616):
  Calls Tryz.prog 98 #[.int .i64 (k:Nat),.int .u64 (n:Nat)] w fun e w'=>∃v,e=.returned v∧Own w' w.heap.size 5 v (bvs (beN k n))∧Below w.heap.size w w':=by
 obtain⟨n0,hn0⟩:=eX n;have HN:=Hd hn0;clear hn0;go_enter Tryz.func98,Tryz.ntmps98;go_wp2_with fail
 go_loopg [1,5,6] k (fun q m out i wr=>∃(r:Nat) (x:Nat),r+q=k∧x<18446744073709551616∧x=n0/256^r∧m=.int .u64 (x:Nat)∧i=.int .i64 (r:Nat)∧Own wr w.heap.size 5 out (bvs (beN r n0))∧Below w.heap.size w wr)
 case atStart=>
  refine⟨0,n,by omega,hn,by rw[HN.out];simp,rfl,rfl,Own.nil _ _ _,bR⟩
 case round=>
  obtain⟨r,x,hr,hx,hxe,rfl,rfl,hown,hb⟩:=hrel;have HO:=Hd hown;have HB:=Hd hb;have HX:=Hd hxe;have hsz:=hb.size;clear hown hb hxe
  by_cases hrk:r<k
  ·go_wp2_with (at_builtin;refine Ah rfl (.tmp 15) (.tmp 16) 25 rfl w.heap.size 5 _ 1 Ck _ [.int .u8 ((x%256:Nat):Int)] rfl ?c1 _ (bvs (beN r n0)) rfl (HO.out.rd.alloc _) (Cg _) ?c2 ?c3 ?_);case c1=>exact Own.full (cs:=#[.int .u8 ((x%256:Nat):Int)]) rfl hsz (by unfold maxLen;simp) rfl
   case c2=>simp[bvs_len,beN_len];omega
   case c3=>simp;omega
   rintro v' w2 hown2-hb2;have HO2:=Hd hown2;have HB2:=Hd ((HB.out.alloc hsz _).trans hb2);clear hown2 hb2;go_wp2_with fail;go_roundg (gk-1);case measure=>omega
   case rel=>
    refine⟨r+1,x/256,by omega,by omega,by rw[HX.out,beN_step],?_,by go_num,?_,HB2.out⟩
    ·exact Gq (by omega)
    ·rw[beN,Zdo,←HX.out];exact HO2.out
  ·obtain rfl:r=k:=(by omega);go_wp2_with fail;go_ret;refine⟨_,rfl,?_,HB.out⟩;rw[←HN.out];exact HO.out
theorem Gt (v:Value)(L:List Nat)(k n:Nat)(w:World)(h:Rd w v (bvs L))(hl:L.length<549755813888)(hk:Zio (k:Int)=true)(_:n<18446744073709551616):
  Calls Tryz.prog 148 #[v,.int .i64 (k:Nat),.int .u64 (n:Nat)] w fun e w'=>∃v',e=.returned v'∧Own w' w.heap.size 5 v' (bvs (L++beN k n))∧Below w.heap.size w w':=by
 have C:=Qs v L w h (by omega);have M:=fun w=>Zgh (k:Int) w;rw[hk]at M;have hk8:k≤8∧1≤k:=(by have:=of_decide_eq_true hk;omega);obtain⟨hk8,hk1⟩:=hk8;have HC:=Hd C;have HM:=Hd M;clear C M h hk;go_enter Tryz.func148,Tryz.ntmps148;go_wp2_with fail;refine(HC.out).mono ?_;rintro e w1 ⟨v1,rfl,hown,hb⟩;have HO:=Hd hown;have HB:=Hd hb;clear hown hb;go_wp2_with fail;refine(HM.out _).mono ?_;rintro e w' ⟨rfl,rfl⟩;go_wp2_with fail
 go_loopg [0,7] k (fun q out i wr=>∃pre:List Nat,q≤k∧i=.int .i64 ((q:Int)-1)∧pre.length+q=L.length+k∧pre++beN q n=L++beN k n∧Own wr w.heap.size 5 out (bvs pre)∧Below w.heap.size w wr)
 case atStart=>exact⟨L,lR,rfl,rfl,rfl,HO.out,HB.out⟩
 case round=>
  obtain⟨pre,hq,rfl,hlen,hpre,hown,hb⟩:=hrel;have HO:=Hd hown;have HB:=Hd hb;have HP:=Hd hpre;have hsz:=hb.size;clear hown hb hpre
  by_cases h0:gk=0
  ·subst h0;go_wp2_with fail;go_ret;refine⟨_,rfl,?_,HB.out⟩;rw[←HP.out,beN,List.append_nil];exact HO.out
  ·obtain⟨j,rfl⟩:∃j,gk=j+1:=⟨gk-1,by omega⟩;have ej:((j+1:Nat):Int)-1=(j:Int):=(by omega);rw[ej];clear ej h0;go_wp2_with (at_builtin;refine Ak rfl (.tmp 20) (.tmp 26) 25 rfl w.heap.size 5 _ 1 Ck _ _ rfl (HO.out.alloc _) ⟨wr.heap.size,0,none⟩ (.int .u8 ((n:Int)/2^(8*j)%256)) rfl ?c1 rfl ?c2 ?c3 ?_);case c1=>exact Al rfl
   case c2=>rw[bvs_len];omega
   case c3=>simp;omega
   rintro v' w2 hown2-hb2;have HO2:=Hd hown2;have HB2:=Hd ((HB.out.alloc hsz _).trans hb2);clear hown2 hb2;go_wp2_with fail;go_roundg j;case measure=>omega
   case rel=>
    refine⟨pre++[n/256^j%256],by omega,rfl,by simp;omega,?_,?_,HB2.out⟩
    ·rw[List.append_assoc];exact HP.out
    ·rw[Vh];have e:((n/256^j%256:Nat):Int)=(n:Int)/2^(8*j)%256:=by
      rw[←shift_pow];simp
     rw[e];exact HO2.out
theorem Zu (v:Value)(L:List Nat)(n:Nat)(w:World)(h:Rd w v (bvs L))(hl:L.length<549755813888)(hn:n<1073741824):
  Calls Tryz.prog 136 #[v,.int .i64 (n:Nat)] w fun e w'=>∃v',e=.returned v'∧Own w' w.heap.size 5 v' (bvs (L++lenB n))∧Below w.heap.size w w':=by
 have S:=fun w=>Tj (n:Int) w
 by_cases h1:n<64
 ·rw[lenS1 h1]at S;have P:=Gt v L 1 n w h hl rfl (by omega);rw[be1 n h1]at P;have HS:=Hd S;have HP:=Hd P;have e:bits .or .u64 0 (n:Int)=(n:Int):=by
   have:=u64_or_nat 0 n (by omega) (by omega);simpa using this
  clear S P h;go_enter Tryz.func136,Tryz.ntmps136;go_wp2_with fail;refine(HS.out _).mono ?_;rintro e w' ⟨rfl,rfl⟩;go_wp2_with fail;refine(HP.out).mono ?_;rintro e w1 ⟨v1,rfl,hown,hb⟩;have HO:=Hd hown;have HB:=Hd hb;clear hown hb;go_wp2_with fail;go_ret;exact⟨_,rfl,HO.out,HB.out⟩
 ·by_cases h2:n<16384
  ·rw[lenS2 (by omega) h2]at S;have P:=Gt v L 2 (16384+n) w h hl rfl (by omega);rw[be2 n (by omega) h2]at P;have HS:=Hd S;have HP:=Hd P;have e:bits .or .u64 16384 (n:Int)=((16384+n:Nat):Int):=by
    have:=u64_or_nat 16384 n (by omega) (by omega);rw[or2 n h2]at this;exact this
   clear S P h;go_enter Tryz.func136,Tryz.ntmps136;go_wp2_with fail;refine(HS.out _).mono ?_;rintro e w' ⟨rfl,rfl⟩;go_wp2_with fail;refine(HP.out).mono ?_;rintro e w1 ⟨v1,rfl,hown,hb⟩;have HO:=Hd hown;have HB:=Hd hb;clear hown hb;go_wp2_with fail;go_ret;exact⟨_,rfl,HO.out,HB.out⟩
  ·rw[lenS4 (by omega) hn]at S;have P:=Gt v L 4 (2147483648+n) w h hl rfl (by omega);rw[be4 n (by omega) hn]at P;have HS:=Hd S;have HP:=Hd P;have e:bits .or .u64 2147483648 (n:Int)=((2147483648+n:Nat):Int):=by
    have:=u64_or_nat 2147483648 n (by omega) (by omega);rw[or4 n hn]at this;exact this
   clear S P h;go_enter Tryz.func136,Tryz.ntmps136;go_wp2_with fail;refine(HS.out _).mono ?_;rintro e w' ⟨rfl,rfl⟩;go_wp2_with fail;refine(HP.out).mono ?_;rintro e w1 ⟨v1,rfl,hown,hb⟩;have HO:=Hd hown;have HB:=Hd hb;clear hown hb;go_wp2_with fail;go_ret;exact⟨_,rfl,HO.out,HB.out⟩
theorem Zdp (n:Nat)(w:World)(hn:n<1073741824):
  Calls Tryz.prog 147 #[.int .i64 (n:Nat)] w fun e w'=>∃v',e=.returned v'∧Own w' w.heap.size 5 v' (bvs (lenB n))∧Below w.heap.size w w':=by
 by_cases h1:n<64
 ·have e:lenB n=[n]:=(by unfold lenB;rw[if_pos h1]);rw[e];clear e;go_enter Tryz.func147,Tryz.ntmps147;go_wp2_with fail;go_ret;exact⟨_,rfl,Own.full (cs:=#[.int .u8 (n:Int)]) rfl lR (by unfold maxLen;simp) rfl,bR.alloc lR _⟩
 ·by_cases h2:n<16384
  ·have e:lenB n=[64+n/256,n%256]:=(by unfold lenB;rw[if_neg h1,if_pos h2]);rw[e];clear e;have h3:64≤n:=(by omega);go_enter Tryz.func147,Tryz.ntmps147;go_wp2_with fail;go_ret;exact⟨_,rfl,Own.full (cs:=#[.int .u8 ((64+n/256:Nat):Int),.int .u8 ((n%256:Nat):Int)]) rfl lR (by unfold maxLen;simp) rfl,bR.alloc lR _⟩
  ·have e:lenB n=[128+n/16777216,n/65536%256,n/256%256,n%256]:=(by unfold lenB;rw[if_neg h1,if_neg h2]);rw[e];clear e;have h3:16384≤n:=(by omega);go_enter Tryz.func147,Tryz.ntmps147;go_wp2_with fail;go_ret;exact⟨_,rfl,Own.full (cs:=#[.int .u8 ((128+n/16777216:Nat):Int),.int .u8 ((n/65536%256:Nat):Int),.int .u8 ((n/256%256:Nat):Int),.int .u8 ((n%256:Nat):Int)]) rfl lR (by unfold maxLen;simp) rfl,bR.alloc lR _⟩
theorem Vj {w:World} {cs:Array Value} {L:List Nat} {N:Nat}(hN:N=w.heap.size)(h:cs.toList=bvs L)(hm:L.length≤1000):Rd (w.alloc (.cells cs 5)) (.slice (some ⟨N,0,none⟩) L.length L.length) (bvs L):=by
 have e:cs.size=L.length:=(by rw[←Array.length_toList,h,bvs_len]);have:=(Own.full (w:=w) (B:=w.heap.size) (e:=5) (cs:=cs) hN (by omega) (by unfold maxLen;omega) (n:=L.length) e.symm).rd;rw[h]at this;exact this
end Go.Proofs.YtngealmhgkoaiaaGreat
namespace Go.Proofs.YtngealmhgkoaiaaGreat
open Go.RowKit ShaM
theorem Ziu (n:Nat)(h1:1≤n)(h2:n≤31):bits .and .u64 ((18446744073709551616-n:Nat):Int) 31=((32-n:Nat):Int):=by
 show IntKind.u64.wrap ((BitVec.ofInt 64 ((18446744073709551616-n:Nat):Int)&&&BitVec.ofInt 64 ((31:Nat):Int)).toNat:Int)=_;rw[BitVec.toNat_and,BitVec.ofInt_natCast,BitVec.ofInt_natCast,BitVec.toNat_ofNat,BitVec.toNat_ofNat,aS (show 18446744073709551616-n<2^64 by omega),aS (show 31<2^64 by decide),IntKind.wrap_u64];have:=Nat.and_two_pow_sub_one_eq_mod (18446744073709551616-n) 5;simp only[Nat.reducePow,Nat.reduceSub]at this;rw[this];omega
theorem Zip (a b:Nat)(ha:a<4294967296)(hb:b<4294967296):bits .or .u32 (a:Int) (b:Int)=((a|||b:Nat):Int):=by
 have h2:a|||b<2^32:=Nat.or_lt_two_pow (by omega) (by omega)
 show IntKind.u32.wrap ((BitVec.ofInt 32 (a:Int)|||BitVec.ofInt 32 (b:Int)).toNat:Int)=_;rw[BitVec.toNat_or,BitVec.ofInt_natCast,BitVec.ofInt_natCast,BitVec.toNat_ofNat,BitVec.toNat_ofNat,aS (show a<2^32 by omega),aS (show b<2^32 by omega),IntKind.wrap_u32];omega
theorem Kv (a b:Nat)(ha:a<4294967296)(hb:b<4294967296):bits .xor .u32 (a:Int) (b:Int)=((a^^^b:Nat):Int):=by
 have h2:a^^^b<2^32:=Nat.xor_lt_two_pow (by omega) (by omega);show IntKind.u32.wrap ((BitVec.ofInt 32 (a:Int)^^^BitVec.ofInt 32 (b:Int)).toNat:Int)=_;rw[BitVec.toNat_xor,BitVec.ofInt_natCast,BitVec.ofInt_natCast,BitVec.toNat_ofNat,BitVec.toNat_ofNat,aS (show a<2^32 by omega),aS (show b<2^32 by omega),IntKind.wrap_u32];omega
theorem Zv (a b:Nat)(ha:a<4294967296)(hb:b<4294967296):bits .and .u32 (a:Int) (b:Int)=((a&&&b:Nat):Int):=by
 have h2:a&&&b<2^32:=bQ Nat.and_le_left ha;show IntKind.u32.wrap ((BitVec.ofInt 32 (a:Int)&&&BitVec.ofInt 32 (b:Int)).toNat:Int)=_;rw[BitVec.toNat_and,BitVec.ofInt_natCast,BitVec.ofInt_natCast,BitVec.toNat_ofNat,BitVec.toNat_ofNat,aS (show a<2^32 by omega),aS (show b<2^32 by omega),IntKind.wrap_u32];omega
theorem Zdq (x n:Nat)(hx:x<4294967296)(h1:1≤n)(h2:n≤31)(w:World):
  Calls Tryz.prog 275 #[.int .u32 (x:Nat),.int .i64 (-(n:Int))] w fun e w'=>e=.returned (.int .u32 (rot x n:Nat))∧w'=w:=by
 obtain⟨m,hm⟩:=eX (18446744073709551616-n);obtain⟨s,hs⟩:=eX (32-n);have e1:IntKind.u64.wrap (-(n:Int))=(m:Int):=(by rw[IntKind.wrap_u64];omega);have e2:=Ziu n h1 h2;rw[←hm,←hs]at e2;have e3:(32:Int)-(s:Int)=(n:Int):=(by omega);have hs32:s<32:=(by omega);have HS:=Hd hs;clear hm hs;go_enter Tryz.func275,Tryz.ntmps275;go_wp2_with fail;go_ret;refine⟨?_,rfl⟩;have c1:(x:Int)*2^s%4294967296=((x*2^s%4294967296:Nat):Int):=(by rw[Int.natCast_emod,Int.natCast_mul,Int.natCast_pow];rfl);have c2:(x:Int)/2^n=((x/2^n:Nat):Int):=(by rw[Int.natCast_ediv,Int.natCast_pow];rfl);have c3:x/2^n<4294967296:=bQ (bS _ _) hx;show Ending.returned (.int .u32 (bits BinOp.or IntKind.u32 ((x:Int)*2^s%4294967296) ((x:Int)/2^n)))=_;rw[c1,c2,Zip _ _ (Nat.mod_lt _ (by omega)) c3,HS.out,rot_or hx (by omega)]
theorem Fm (x n:Nat)(hx:x<4294967296)(h1:1≤n)(h2:n≤31)(w:World):
  Calls Tryz.prog 272 #[.int .u32 (x:Nat),.int .i64 (n:Nat)] w fun e w'=>e=.returned (.int .u32 (rot x n:Nat))∧w'=w:=by
 have R:=Hd (Zdq x n hx h1 h2 w);go_enter Tryz.func272,Tryz.ntmps272;go_wp2_with fail;refine(R.out).mono ?_;rintro e w' ⟨rfl,rfl⟩;go_wp2_with fail;go_ret;exact⟨rfl,rfl⟩
end Go.Proofs.YtngealmhgkoaiaaGreat
namespace Go.Proofs.YtngealmhgkoaiaaGreat
open Go.RowKit WireM
def RdK (w:World)(B:Nat)(v:Value)(xs:List Value):Prop:=
 ∃a cap,v=.slice a xs.length cap∧xs.length≤cap∧cap≤maxLen∧
  ((xs=[]∧(a=none→cap=0))∨∃b off,a=some ⟨b,off,none⟩∧b<B∧∀(j:Nat) u,xs[j]? =some u→w.cell? ⟨b,off+j,none⟩=some u)
theorem RdK.rd {w:World} {B:Nat} {v:Value} {xs:List Value}(h:RdK w B v xs):Rd w v xs:=by
 obtain⟨a,cap,h1,h2,h3,h4|⟨b,off,h4,_,h5⟩⟩:=h
 ·exact⟨a,cap,h1,h2,h3,.inl h4⟩
 ·exact⟨a,cap,h1,h2,h3,.inr ⟨b,off,h4,h5⟩⟩
theorem Rd.k {w:World} {v:Value} {xs:List Value} {B:Nat}(h:Rd w v xs)(hB:w.heap.size≤B):RdK w B v xs:=by
 obtain⟨a,cap,h1,h2,h3,h4⟩:=h;refine⟨a,cap,h1,h2,h3,?_⟩;cases xs with
 |nil=>
  rcases h4 with h4|⟨b,off,rfl,_⟩
  ·exact .inl h4
  ·exact .inl ⟨rfl,fun h=>by cases h⟩
 |cons x xs=>
  rcases h4 with h4|⟨b,off,rfl,hc⟩
  ·cases h4.1
  ·have:=World.block_lt_of_cell? w _ (hc 0 x rfl);exact .inr ⟨b,off,rfl,by simp only at this;omega,hc⟩
theorem RdK.keep {w w':World} {B:Nat} {v:Value} {xs:List Value}(h:RdK w B v xs)(hk:∀p:Addr,p.block<B→w'.cell? p=w.cell? p):RdK w' B v xs:=by
 obtain⟨a,cap,h1,h2,h3,h4|⟨b,off,h4,h5,h6⟩⟩:=h
 ·exact⟨a,cap,h1,h2,h3,.inl h4⟩
 ·exact⟨a,cap,h1,h2,h3,.inr ⟨b,off,h4,h5,fun j u hu=>(hk _ h5).trans (h6 j u hu)⟩⟩
def Only (B:Nat)(a w:World):Prop:=a.grownBy w (some B)
theorem Only.refl (B:Nat)(a:World):Only B a a:=World.grownBy.refl a _
theorem Only.trans {B:Nat} {a b c:World}(h:Only B a b)(k:Only B b c):Only B a c:=
 ⟨k.os.trans h.os,k.tape.trans h.tape,k.output.trans h.output,Nat.le_trans h.size k.size,fun i hi hne=>(k.block i (Nat.lt_of_lt_of_le hi h.size) hne).trans (h.block i hi hne)⟩
theorem Only.of {B:Nat} {a w:World}(h:Below a.heap.size a w):Only B a w:=⟨h.os,h.tape,h.output,h.size,fun i hi _=>h.block i hi⟩
theorem Only.set {a:World} {B:Nat}(i:Nat)(u:Value):Only B a (a.setCell ⟨B,i,none⟩ u):=
 ⟨rfl,rfl,rfl,by simp[World.setCell],fun k hk hne=>Below.heap_setCell _ _ _ _ (fun e=>hne (by rw[e]))⟩
theorem Only.below {B C:Nat} {a w:World}(h:Only B a w)(h1:C≤B)(h2:C≤a.heap.size):Below C a w:=
 ⟨h.os,h.tape,h.output,h.size,fun i hi=>h.block i (by omega) (fun e=>by simp at e;omega)⟩
def Vk (L:List Nat):Nat:=L.foldl (fun a c=>a*256+c) 0
open ShaM
def qvs (L:List Nat):List Value:=L.map fun n:Nat=> .int .u64 (n:Int)
@[simp] theorem qvs_len (L:List Nat):(qvs L).length=L.length:=by simp[qvs]
theorem Gu {L:List Nat} {i:Nat}(h:i<L.length):(qvs L)[i]? =some (.int .u64 ((L.getD i 0:Nat):Int)):=by simp[qvs,List.getD_eq_getElem?_getD,h]
theorem Xm (L M:List Nat):qvs (L++M)=qvs L++qvs M:=by simp[qvs]
theorem Zdr (L:List Nat)(d:Nat):qvs (L++[d])=qvs L++[.int .u64 (d:Int)]:=by simp[qvs]
theorem Tk (L:List Nat):∀u∈qvs L,u.oneCell'=true:=by
 intro u hu;simp only[qvs,List.mem_map]at hu;obtain⟨n,_,rfl⟩:=hu
 rfl
theorem Ziq:Elem Tryz.prog 192 126 (.int .u64 0) 8:=⟨Tryz.underlying192,by kernel_rfl,rfl,by omega⟩
theorem Rd.lit' (w:World)(N:Nat)(cs:Array Value)(t:TypeId)(xs:List Value)(n:Nat)(hN:N=w.heap.size)(h:cs.toList=xs)(hn:n=xs.length)(hm:n≤maxLen):Rd (w.alloc (.cells cs t)) (.slice (some ⟨N,0,none⟩) n n) xs:=by
 subst hN;have e:n=cs.size:=(by rw[hn,←h,Array.length_toList]);have:=(Own.full (w:=w) (B:=0) (e:=t) (cs:=cs) rfl (Nat.zero_le _) (by omega) e).rd;rw[h]at this;exact this
theorem Rd.lit (w:World)(cs:Array Value)(t:TypeId)(xs:List Value)(n:Nat)(h:cs.toList=xs)(hn:n=xs.length)(hm:n≤maxLen):Rd (w.alloc (.cells cs t)) (.slice (some ⟨w.heap.size,0,none⟩) n n) xs:=Rd.lit' w _ cs t xs n rfl h hn hm
theorem Zds (x n:Nat)(w:World)(hx:x<4294967296)(hn:n≤32):
  Calls Tryz.prog 233 #[.int .u64 (x:Nat),.int .i64 (n:Nat)] w fun e w'=>e=.returned (.int .u64 (rot x n:Nat))∧w'=w:=by
 go_enter Tryz.func233,Tryz.ntmps233;go_wp2_with fail
 go_loopg [0,5] n (fun q xv iv wr=>∃i y:Nat,i+q=n∧iv=.int .i64 (i:Nat)∧xv=.int .u64 (y:Nat)∧y=rot x i∧wr=w)
 case atStart=>exact⟨0,x,by omega,rfl,rfl,(rot_zero x).symm,rfl⟩
 case round=>
  obtain⟨i,y,hi,rfl,rfl,hy,rfl⟩:=hrel;have hyl:=rot_lt hx (show i≤32 by omega);rw[←hy]at hyl;have HI:=Hd hi;have HY:=Hd hy
  by_cases hlt:i<n
  ·have hltd:decide ((i:Int)<(n:Int))=true:=(by rw[decide_eq_true_iff];omega);clear hi hy;go_wp2_with fail;go_roundg (gk-1);case measure=>have:=HI.out;omega
   case rel=>exact⟨i+1,y/2+y%2*2147483648,by have:=HI.out;omega,by go_num,by go_num,by rw[rot_succ hx (by omega),HY.out],rfl⟩
  ·have hltd:decide ((i:Int)<(n:Int))=false:=(by rw[decide_eq_false_iff_not];omega);obtain rfl:i=n:=(by omega);clear hi hy;go_wp2_with fail;go_ret;exact⟨by rw[HY.out];rfl,rfl⟩
theorem Zw (x n:Nat)(w:World)(hx:x<4294967296)(hn:n≤32):
  Calls Tryz.prog 234 #[.int .u64 (x:Nat),.int .i64 (n:Nat)] w fun e w'=>e=.returned (.int .u64 (x/2^n:Nat))∧w'=w:=by
 go_enter Tryz.func234,Tryz.ntmps234;go_wp2_with fail
 go_loopg [0,5] n (fun q xv iv wr=>∃i y:Nat,i+q=n∧iv=.int .i64 (i:Nat)∧xv=.int .u64 (y:Nat)∧y=x/2^i∧wr=w)
 case atStart=>exact⟨0,x,by omega,rfl,rfl,by simp,rfl⟩
 case round=>
  obtain⟨i,y,hi,rfl,rfl,hy,rfl⟩:=hrel;have hyl:y≤x:=(by rw[hy];exact bS _ _);have hy32:y<4294967296:=(by omega);have HI:=Hd hi;have HY:=Hd hy
  by_cases hlt:i<n
  ·have hltd:decide ((i:Int)<(n:Int))=true:=(by rw[decide_eq_true_iff];omega);clear hi hy hyl;go_wp2_with fail;go_roundg (gk-1);case measure=>have:=HI.out;omega
   case rel=>exact⟨i+1,y/2,by have:=HI.out;omega,by go_num,by go_num,by rw[HY.out,Nat.div_div_eq_div_mul,Nat.pow_succ],rfl⟩
  ·have hltd:decide ((i:Int)<(n:Int))=false:=(by rw[decide_eq_false_iff_not];omega);obtain rfl:i=n:=(by omega);clear hi hy hyl;go_wp2_with fail;go_ret;exact⟨by rw[HY.out];rfl,rfl⟩
theorem Zx (w:World):
  Calls Tryz.prog 185 #[] w fun e w'=>∃v1 v2,e=.returned (.tuple #[v1,v2])∧Rd w' v1 (qvs HL0)∧Rd w' v2 (qvs KL)∧Below w.heap.size w w':=by
 go_enter Tryz.func185,Tryz.ntmps185;go_wp2_with fail;go_ret2;have hsz:(w.alloc (.cells (qvs HL0).toArray 126)).heap.size=w.heap.size+1:=(by simp);refine⟨_,_,rfl,(Rd.lit w _ 126 (qvs HL0) 8 (by kernel_rfl) (by kernel_rfl) (by unfold maxLen;omega)).alloc _,?_,((Below.refl w.heap.size w).alloc lR _).alloc (by simp) _⟩;refine Rd.lit' _ _ _ 126 (qvs KL) 64 (by simp) (by kernel_rfl) (by kernel_rfl) (by unfold maxLen;omega)
end Go.Proofs.YtngealmhgkoaiaaGreat
