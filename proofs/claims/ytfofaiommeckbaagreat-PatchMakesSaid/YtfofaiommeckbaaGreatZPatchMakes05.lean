/- Walks: slices.Clone, bytes.Clone, wire.may, wire.LenSize, the reference's Num, wire.PutNum. -/
import Derived.Test.YtfofaiommeckbaaGreatZPatchMakesB
import Derived.Test.YtfofaiommeckbaaGreatZPatchMakes03
import Derived.Deep.LoopGhost
set_option linter.unusedVariables false
set_option maxRecDepth 100000
set_option maxHeartbeats 40000000
namespace Go.Proofs.YtfofaiommeckbaaGreat
open Go.RowKit WireM
theorem Cm:Elem Tryz.prog 28 5 (.int .u8 0) 1:=⟨Tryz.underlying28,by kernel_rfl,rfl,by omega⟩
theorem Rd.nilOr {w:World} {v:Value} {xs:List Value}(h:Rd w v xs):v=.slice none 0 0∨∃a cap,v=.slice (some a) xs.length cap:=by
 obtain⟨a,cap,rfl,h1,h2,⟨rfl,h3⟩|⟨b,off,rfl,_⟩⟩:=h
 ·cases a with
  |none=>left;rw[h3 rfl];rfl
  |some a=>exact .inr ⟨a,cap,rfl⟩
 ·exact .inr ⟨_,cap,rfl⟩
theorem Yb (v:Value)(L:List Nat)(w:World)(h:Rd w v (bvs L))(hn:L.length<1099511627776):
  Calls Tryz.prog 111 #[v] w fun e w'=>∃v',e=.returned v'∧Own w' w.heap.size 5 v' (bvs L)∧Below w.heap.size w w':=by
 have hl:(bvs L).length=L.length:=bvs_len L;have h1:=Ck L;rcases h.nilOr with rfl|⟨a,cap,rfl⟩
 ·have h0:bvs L=[]:=by
   obtain⟨a,cap,e,_⟩:=h;simp only[Value.slice.injEq]at e;exact List.eq_nil_of_length_eq_zero e.2.1.symm
  rw[h0];clear h h0 hl h1;have q:∀w,(binOp .eql 28 (.slice none 0 0) (.slice none 0 0)).run Tryz.prog w=.ok (.bool true) w:=fun w=>Lib.run_eql_slice_nil w _ 5 none 0 0 0 0 Tryz.underlying28;go_enter Tryz.func111,Tryz.ntmps111;go_wp2_with fail;go_ret;exact⟨_,rfl,Own.nil _ _ _,bR⟩
 ·obtain⟨xs,hxs⟩:=eX (bvs L);rw[←hxs]at h h1 hl⊢;have hx:xs.length<1099511627776:=(by omega);have HR:=Hd h;have H1:=Hd h1;clear h h1 hl hxs hn;have q:∀w,(binOp .eql 28 (.slice (some a) xs.length cap) (.slice none 0 0)).run Tryz.prog w=.ok (.bool false) w:=fun w=>Lib.run_eql_slice_nil w _ 5 (some a) _ _ 0 0 Tryz.underlying28;go_enter Tryz.func111,Tryz.ntmps111;go_wp2_with (at_builtin;refine Am rfl (.tmp 5) (.tmp 6) 28 rfl w.heap.size 5 _ 1 Cm _ [] rfl (Own.lit0 rfl lR) _ xs rfl (HR.out.alloc _) H1.out ?c2 ?c3 ?_);case c2=>simpa using hx
  case c3=>simp
  rintro v' w2 hown-hb;have HO:=Hd hown;have HB:=Hd hb;clear hown hb;go_wp2_with fail;go_ret;exact⟨_,rfl,HO.out,(bR.alloc lR _).trans HB.out⟩
def Zgr (n:Int):Bool:=decide (n=1∨n=2∨n=4∨n=8)
theorem Zej (n:Int)(w:World):Calls Tryz.prog 112 #[.int .i64 n] w fun e w'=>e=.returned (.bool (Zgr n))∧w=w':=by
 have hd:n=1∨n=2∨n=4∨n=8∨(n≠1∧n≠2∧n≠4∧n≠8):=(by omega);rcases hd with rfl|rfl|rfl|rfl|⟨h1,h2,h3,h4⟩
 ·go_enter Tryz.func112,Tryz.ntmps112;go_wp2_with fail;go_ret;exact⟨rfl,rfl⟩
 ·go_enter Tryz.func112,Tryz.ntmps112;go_wp2_with fail;go_ret;exact⟨rfl,rfl⟩
 ·go_enter Tryz.func112,Tryz.ntmps112;go_wp2_with fail;go_ret;exact⟨rfl,rfl⟩
 ·go_enter Tryz.func112,Tryz.ntmps112;go_wp2_with fail;go_ret;exact⟨rfl,rfl⟩
 ·have e:Zgr n=false:=(by rw[Zgr,decide_eq_false];omega);rw[e];have e1:(n==1)=false:=(by simp[h1]);have e2:(n==2)=false:=(by simp[h2]);have e3:(n==4)=false:=(by simp[h3]);have e4:(n==8)=false:=(by simp[h4]);clear h1 h2 h3 h4 e;go_enter Tryz.func112,Tryz.ntmps112;go_wp2_with fail;go_ret;exact⟨rfl,rfl⟩
theorem Si (n:Int)(w:World):Calls Tryz.prog 253 #[.int .i64 n] w fun e w'=>e=.returned (.int .i64 (lenS n:Nat))∧w=w':=by
 have hd:n<0∨(0≤n∧1073741823<n)∨(0≤n∧n<64)∨(64≤n∧n<16384)∨(16384≤n∧n≤1073741823):=(by omega);rcases hd with h|⟨h,h'⟩|⟨h,h'⟩|⟨h,h'⟩|⟨h,h'⟩
 ·rw[lenS,if_pos (by omega)];go_enter Tryz.func253,Tryz.ntmps253;go_wp2_with fail;go_ret;exact⟨rfl,rfl⟩
 ·rw[lenS,if_pos (by omega)];go_enter Tryz.func253,Tryz.ntmps253;go_wp2_with fail;go_ret;exact⟨rfl,rfl⟩
 ·rw[lenS,if_neg (by omega),if_pos (by omega)];have h2:n≤1073741823:=(by omega);go_enter Tryz.func253,Tryz.ntmps253;go_wp2_with fail;go_ret;exact⟨rfl,rfl⟩
 ·rw[lenS,if_neg (by omega),if_neg (by omega),if_pos (by omega)];have h2:n≤1073741823:=(by omega);have h3:0≤n:=(by omega);go_enter Tryz.func253,Tryz.ntmps253;go_wp2_with fail;go_ret;exact⟨rfl,rfl⟩
 ·rw[lenS,if_neg (by omega),if_neg (by omega),if_neg (by omega)];have h2:64≤n:=(by omega);have h3:0≤n:=(by omega);go_enter Tryz.func253,Tryz.ntmps253;go_wp2_with fail;go_ret;exact⟨rfl,rfl⟩
theorem Zbx (n:Nat)(L:List Nat):bvs (n::L)=.int .u8 (n:Int)::bvs L:=rfl
theorem Uk (n:Nat)(L:List Nat):bvs (L++[n])=bvs L++[.int .u8 (n:Int)]:=by simp[bvs]
theorem Kn (k n:Nat)(w:World)(hk:k≤8)(hn:n<18446744073709551616):
  Calls Tryz.prog 64 #[.int .i64 (k:Nat),.int .u64 (n:Nat)] w fun e w'=>∃v,e=.returned v∧Own w' w.heap.size 5 v (bvs (beN k n))∧Below w.heap.size w w':=by
 obtain⟨n0,hn0⟩:=eX n;have HN:=Hd hn0;clear hn0;go_enter Tryz.func64,Tryz.ntmps64;go_wp2_with fail
 go_loopg [1,5,6] k (fun q m out i wr=>∃(r:Nat) (x:Nat),r+q=k∧x<18446744073709551616∧x=n0/256^r∧m=.int .u64 (x:Nat)∧i=.int .i64 (r:Nat)∧Own wr w.heap.size 5 out (bvs (beN r n0))∧Below w.heap.size w wr)
 case atStart=>
  refine⟨0,n,by omega,hn,by rw[HN.out];simp,rfl,rfl,Own.nil _ _ _,bR⟩
 case round=>
  obtain⟨r,x,hr,hx,hxe,rfl,rfl,hown,hb⟩:=hrel;have HO:=Hd hown;have HB:=Hd hb;have HX:=Hd hxe;have hsz:=hb.size;clear hown hb hxe
  by_cases hrk:r<k
  ·go_wp2_with (at_builtin;refine Am rfl (.tmp 15) (.tmp 16) 28 rfl w.heap.size 5 _ 1 Cm _ [.int .u8 ((x%256:Nat):Int)] rfl ?c1 _ (bvs (beN r n0)) rfl (HO.out.rd.alloc _) (Ck _) ?c2 ?c3 ?_);case c1=>exact Own.full (cs:=#[.int .u8 ((x%256:Nat):Int)]) rfl hsz (by unfold maxLen;simp) rfl
   case c2=>simp[bvs_len,beN_len];omega
   case c3=>simp;omega
   rintro v' w2 hown2-hb2;have HO2:=Hd hown2;have HB2:=Hd ((HB.out.alloc hsz _).trans hb2);clear hown2 hb2;go_wp2_with fail;go_roundg (gk-1);case measure=>omega
   case rel=>
    refine⟨r+1,x/256,by omega,by omega,by rw[HX.out,beN_step],?_,by go_num,?_,HB2.out⟩
    ·exact Gm (by omega)
    ·rw[beN,Zbx,←HX.out];exact HO2.out
  ·obtain rfl:r=k:=(by omega);go_wp2_with fail;go_ret;refine⟨_,rfl,?_,HB.out⟩;rw[←HN.out];exact HO.out
theorem Gn (v:Value)(L:List Nat)(k n:Nat)(w:World)(h:Rd w v (bvs L))(hl:L.length<549755813888)(hk:Zgr (k:Int)=true)(_:n<18446744073709551616):
  Calls Tryz.prog 60 #[v,.int .i64 (k:Nat),.int .u64 (n:Nat)] w fun e w'=>∃v',e=.returned v'∧Own w' w.heap.size 5 v' (bvs (L++beN k n))∧Below w.heap.size w w':=by
 have C:=Yb v L w h (by omega);have M:=fun w=>Zej (k:Int) w;rw[hk]at M;have hk8:k≤8∧1≤k:=(by have:=of_decide_eq_true hk;omega);obtain⟨hk8,hk1⟩:=hk8;have HC:=Hd C;have HM:=Hd M;clear C M h hk;go_enter Tryz.func60,Tryz.ntmps60;go_wp2_with fail;refine(HC.out).mono ?_;rintro e w1 ⟨v1,rfl,hown,hb⟩;have HO:=Hd hown;have HB:=Hd hb;clear hown hb;go_wp2_with fail;refine(HM.out _).mono ?_;rintro e w' ⟨rfl,rfl⟩;go_wp2_with fail
 go_loopg [0,7] k (fun q out i wr=>∃pre:List Nat,q≤k∧i=.int .i64 ((q:Int)-1)∧pre.length+q=L.length+k∧pre++beN q n=L++beN k n∧Own wr w.heap.size 5 out (bvs pre)∧Below w.heap.size w wr)
 case atStart=>exact⟨L,lR,rfl,rfl,rfl,HO.out,HB.out⟩
 case round=>
  obtain⟨pre,hq,rfl,hlen,hpre,hown,hb⟩:=hrel;have HO:=Hd hown;have HB:=Hd hb;have HP:=Hd hpre;have hsz:=hb.size;clear hown hb hpre
  by_cases h0:gk=0
  ·subst h0;go_wp2_with fail;go_ret;refine⟨_,rfl,?_,HB.out⟩;rw[←HP.out,beN,List.append_nil];exact HO.out
  ·obtain⟨j,rfl⟩:∃j,gk=j+1:=⟨gk-1,by omega⟩;have ej:((j+1:Nat):Int)-1=(j:Int):=(by omega);rw[ej];clear ej h0;go_wp2_with (at_builtin;refine An rfl (.tmp 20) (.tmp 26) 28 rfl w.heap.size 5 _ 1 Cm _ _ rfl (HO.out.alloc _) ⟨wr.heap.size,0,none⟩ (.int .u8 ((n:Int)/2^(8*j)%256)) rfl ?c1 rfl ?c2 ?c3 ?_);case c1=>exact Aq rfl
   case c2=>rw[bvs_len];omega
   case c3=>simp;omega
   rintro v' w2 hown2-hb2;have HO2:=Hd hown2;have HB2:=Hd ((HB.out.alloc hsz _).trans hb2);clear hown2 hb2;go_wp2_with fail;go_roundg j;case measure=>omega
   case rel=>
    refine⟨pre++[n/256^j%256],by omega,rfl,by simp;omega,?_,?_,HB2.out⟩
    ·rw[List.append_assoc];exact HP.out
    ·rw[Uk];have e:((n/256^j%256:Nat):Int)=(n:Int)/2^(8*j)%256:=by
      rw[←shift_pow];simp
     rw[e];exact HO2.out
theorem Yc (v:Value)(L:List Nat)(n:Nat)(w:World)(h:Rd w v (bvs L))(hl:L.length<549755813888)(hn:n<1073741824):
  Calls Tryz.prog 212 #[v,.int .i64 (n:Nat)] w fun e w'=>∃v',e=.returned v'∧Own w' w.heap.size 5 v' (bvs (L++lenB n))∧Below w.heap.size w w':=by
 have S:=fun w=>Si (n:Int) w
 by_cases h1:n<64
 ·rw[lenS1 h1]at S;have P:=Gn v L 1 n w h hl rfl (by omega);rw[be1 n h1]at P;have HS:=Hd S;have HP:=Hd P;have e:bits .or .u64 0 (n:Int)=(n:Int):=by
   have:=u64_or_nat 0 n (by omega) (by omega);simpa using this
  clear S P h;go_enter Tryz.func212,Tryz.ntmps212;go_wp2_with fail;refine(HS.out _).mono ?_;rintro e w' ⟨rfl,rfl⟩;go_wp2_with fail;refine(HP.out).mono ?_;rintro e w1 ⟨v1,rfl,hown,hb⟩;have HO:=Hd hown;have HB:=Hd hb;clear hown hb;go_wp2_with fail;go_ret;exact⟨_,rfl,HO.out,HB.out⟩
 ·by_cases h2:n<16384
  ·rw[lenS2 (by omega) h2]at S;have P:=Gn v L 2 (16384+n) w h hl rfl (by omega);rw[be2 n (by omega) h2]at P;have HS:=Hd S;have HP:=Hd P;have e:bits .or .u64 16384 (n:Int)=((16384+n:Nat):Int):=by
    have:=u64_or_nat 16384 n (by omega) (by omega);rw[or2 n h2]at this;exact this
   clear S P h;go_enter Tryz.func212,Tryz.ntmps212;go_wp2_with fail;refine(HS.out _).mono ?_;rintro e w' ⟨rfl,rfl⟩;go_wp2_with fail;refine(HP.out).mono ?_;rintro e w1 ⟨v1,rfl,hown,hb⟩;have HO:=Hd hown;have HB:=Hd hb;clear hown hb;go_wp2_with fail;go_ret;exact⟨_,rfl,HO.out,HB.out⟩
  ·rw[lenS4 (by omega) hn]at S;have P:=Gn v L 4 (2147483648+n) w h hl rfl (by omega);rw[be4 n (by omega) hn]at P;have HS:=Hd S;have HP:=Hd P;have e:bits .or .u64 2147483648 (n:Int)=((2147483648+n:Nat):Int):=by
    have:=u64_or_nat 2147483648 n (by omega) (by omega);rw[or4 n hn]at this;exact this
   clear S P h;go_enter Tryz.func212,Tryz.ntmps212;go_wp2_with fail;refine(HS.out _).mono ?_;rintro e w' ⟨rfl,rfl⟩;go_wp2_with fail;refine(HP.out).mono ?_;rintro e w1 ⟨v1,rfl,hown,hb⟩;have HO:=Hd hown;have HB:=Hd hb;clear hown hb;go_wp2_with fail;go_ret;exact⟨_,rfl,HO.out,HB.out⟩
theorem Zby (n:Nat)(w:World)(hn:n<1073741824):
  Calls Tryz.prog 197 #[.int .i64 (n:Nat)] w fun e w'=>∃v',e=.returned v'∧Own w' w.heap.size 5 v' (bvs (lenB n))∧Below w.heap.size w w':=by
 by_cases h1:n<64
 ·have e:lenB n=[n]:=(by unfold lenB;rw[if_pos h1]);rw[e];clear e;go_enter Tryz.func197,Tryz.ntmps197;go_wp2_with fail;go_ret;exact⟨_,rfl,Own.full (cs:=#[.int .u8 (n:Int)]) rfl lR (by unfold maxLen;simp) rfl,bR.alloc lR _⟩
 ·by_cases h2:n<16384
  ·have e:lenB n=[64+n/256,n%256]:=(by unfold lenB;rw[if_neg h1,if_pos h2]);rw[e];clear e;have h3:64≤n:=(by omega);go_enter Tryz.func197,Tryz.ntmps197;go_wp2_with fail;go_ret;exact⟨_,rfl,Own.full (cs:=#[.int .u8 ((64+n/256:Nat):Int),.int .u8 ((n%256:Nat):Int)]) rfl lR (by unfold maxLen;simp) rfl,bR.alloc lR _⟩
  ·have e:lenB n=[128+n/16777216,n/65536%256,n/256%256,n%256]:=(by unfold lenB;rw[if_neg h1,if_neg h2]);rw[e];clear e;have h3:16384≤n:=(by omega);go_enter Tryz.func197,Tryz.ntmps197;go_wp2_with fail;go_ret;exact⟨_,rfl,Own.full (cs:=#[.int .u8 ((128+n/16777216:Nat):Int),.int .u8 ((n/65536%256:Nat):Int),.int .u8 ((n/256%256:Nat):Int),.int .u8 ((n%256:Nat):Int)]) rfl lR (by unfold maxLen;simp) rfl,bR.alloc lR _⟩
theorem Yd {w:World} {cs:Array Value} {L:List Nat} {N:Nat}(hN:N=w.heap.size)(h:cs.toList=bvs L)(hm:L.length≤1000):Rd (w.alloc (.cells cs 5)) (.slice (some ⟨N,0,none⟩) L.length L.length) (bvs L):=by
 have e:cs.size=L.length:=(by rw[←Array.length_toList,h,bvs_len]);have:=(Own.full (w:=w) (B:=w.heap.size) (e:=5) (cs:=cs) hN (by omega) (by unfold maxLen;omega) (n:=L.length) e.symm).rd;rw[h]at this;exact this
end Go.Proofs.YtfofaiommeckbaaGreat
namespace Go.Proofs.YtfofaiommeckbaaGreat
open Go.RowKit ShaM
end Go.Proofs.YtfofaiommeckbaaGreat
namespace Go.Proofs.YtfofaiommeckbaaGreat
open Go.RowKit WireM
def RdK (w:World)(B:Nat)(v:Value)(xs:List Value):Prop:=
 ∃a cap,v=.slice a xs.length cap∧xs.length≤cap∧cap≤maxLen∧
  ((xs=[]∧(a=none→cap=0))∨∃b off,a=some ⟨b,off,none⟩∧b<B∧∀(j:Nat) u,xs[j]? =some u→w.cell? ⟨b,off+j,none⟩=some u)
theorem RdK.rd {w:World} {B:Nat} {v:Value} {xs:List Value}(h:RdK w B v xs):Rd w v xs:=by
 obtain⟨a,cap,h1,h2,h3,h4|⟨b,off,h4,_,h5⟩⟩:=h
 ·exact⟨a,cap,h1,h2,h3,.inl h4⟩
 ·exact⟨a,cap,h1,h2,h3,.inr ⟨b,off,h4,h5⟩⟩
theorem Rd.k {w:World} {v:Value} {xs:List Value} {B:Nat}(h:Rd w v xs)(hB:w.heap.size≤B):RdK w B v xs:=by
 obtain⟨a,cap,h1,h2,h3,h4⟩:=h;refine⟨a,cap,h1,h2,h3,?_⟩;cases xs with
 |nil=>
  rcases h4 with h4|⟨b,off,rfl,_⟩
  ·exact .inl h4
  ·exact .inl ⟨rfl,fun h=>by cases h⟩
 |cons x xs=>
  rcases h4 with h4|⟨b,off,rfl,hc⟩
  ·cases h4.1
  ·have:=World.block_lt_of_cell? w _ (hc 0 x rfl);exact .inr ⟨b,off,rfl,by simp only at this;omega,hc⟩
theorem RdK.keep {w w':World} {B:Nat} {v:Value} {xs:List Value}(h:RdK w B v xs)(hk:∀p:Addr,p.block<B→w'.cell? p=w.cell? p):RdK w' B v xs:=by
 obtain⟨a,cap,h1,h2,h3,h4|⟨b,off,h4,h5,h6⟩⟩:=h
 ·exact⟨a,cap,h1,h2,h3,.inl h4⟩
 ·exact⟨a,cap,h1,h2,h3,.inr ⟨b,off,h4,h5,fun j u hu=>(hk _ h5).trans (h6 j u hu)⟩⟩
def Only (B:Nat)(a w:World):Prop:=a.grownBy w (some B)
theorem Only.refl (B:Nat)(a:World):Only B a a:=World.grownBy.refl a _
theorem Only.trans {B:Nat} {a b c:World}(h:Only B a b)(k:Only B b c):Only B a c:=
 ⟨k.os.trans h.os,k.tape.trans h.tape,k.output.trans h.output,Nat.le_trans h.size k.size,fun i hi hne=>(k.block i (Nat.lt_of_lt_of_le hi h.size) hne).trans (h.block i hi hne)⟩
theorem Only.set {a:World} {B:Nat}(i:Nat)(u:Value):Only B a (a.setCell ⟨B,i,none⟩ u):=
 ⟨rfl,rfl,rfl,by simp[World.setCell],fun k hk hne=>Below.heap_setCell _ _ _ _ (fun e=>hne (by rw[e]))⟩
theorem Only.below {B C:Nat} {a w:World}(h:Only B a w)(h1:C≤B)(h2:C≤a.heap.size):Below C a w:=
 ⟨h.os,h.tape,h.output,h.size,fun i hi=>h.block i (by omega) (fun e=>by simp at e;omega)⟩
def Ul (L:List Nat):Nat:=L.foldl (fun a c=>a*256+c) 0
open ShaM
def qvs (L:List Nat):List Value:=L.map fun n:Nat=> .int .u64 (n:Int)
@[simp] theorem qvs_len (L:List Nat):(qvs L).length=L.length:=by simp[qvs]
theorem Gp {L:List Nat} {i:Nat}(h:i<L.length):(qvs L)[i]? =some (.int .u64 ((L.getD i 0:Nat):Int)):=by simp[qvs,List.getD_eq_getElem?_getD,h]
theorem Wi (L M:List Nat):qvs (L++M)=qvs L++qvs M:=by simp[qvs]
theorem Zbz (L:List Nat)(d:Nat):qvs (L++[d])=qvs L++[.int .u64 (d:Int)]:=by simp[qvs]
theorem Sj (L:List Nat):∀u∈qvs L,u.oneCell'=true:=by
 intro u hu;simp only[qvs,List.mem_map]at hu;obtain⟨n,_,rfl⟩:=hu
 rfl
theorem Zgs:Elem Tryz.prog 181 92 (.int .u64 0) 8:=⟨Tryz.underlying181,by kernel_rfl,rfl,by omega⟩
theorem Rd.lit' (w:World)(N:Nat)(cs:Array Value)(t:TypeId)(xs:List Value)(n:Nat)(hN:N=w.heap.size)(h:cs.toList=xs)(hn:n=xs.length)(hm:n≤maxLen):Rd (w.alloc (.cells cs t)) (.slice (some ⟨N,0,none⟩) n n) xs:=by
 subst hN;have e:n=cs.size:=(by rw[hn,←h,Array.length_toList]);have:=(Own.full (w:=w) (B:=0) (e:=t) (cs:=cs) rfl (Nat.zero_le _) (by omega) e).rd;rw[h]at this;exact this
theorem Rd.lit (w:World)(cs:Array Value)(t:TypeId)(xs:List Value)(n:Nat)(h:cs.toList=xs)(hn:n=xs.length)(hm:n≤maxLen):Rd (w.alloc (.cells cs t)) (.slice (some ⟨w.heap.size,0,none⟩) n n) xs:=Rd.lit' w _ cs t xs n rfl h hn hm
theorem Zb0 (x n:Nat)(w:World)(hx:x<4294967296)(hn:n≤32):
  Calls Tryz.prog 195 #[.int .u64 (x:Nat),.int .i64 (n:Nat)] w fun e w'=>e=.returned (.int .u64 (rot x n:Nat))∧w'=w:=by
 go_enter Tryz.func195,Tryz.ntmps195;go_wp2_with fail
 go_loopg [0,5] n (fun q xv iv wr=>∃i y:Nat,i+q=n∧iv=.int .i64 (i:Nat)∧xv=.int .u64 (y:Nat)∧y=rot x i∧wr=w)
 case atStart=>exact⟨0,x,by omega,rfl,rfl,(rot_zero x).symm,rfl⟩
 case round=>
  obtain⟨i,y,hi,rfl,rfl,hy,rfl⟩:=hrel;have hyl:=rot_lt hx (show i≤32 by omega);rw[←hy]at hyl;have HI:=Hd hi;have HY:=Hd hy
  by_cases hlt:i<n
  ·have hltd:decide ((i:Int)<(n:Int))=true:=(by rw[decide_eq_true_iff];omega);clear hi hy;go_wp2_with fail;go_roundg (gk-1);case measure=>have:=HI.out;omega
   case rel=>exact⟨i+1,y/2+y%2*2147483648,by have:=HI.out;omega,by go_num,by go_num,by rw[rot_succ hx (by omega),HY.out],rfl⟩
  ·have hltd:decide ((i:Int)<(n:Int))=false:=(by rw[decide_eq_false_iff_not];omega);obtain rfl:i=n:=(by omega);clear hi hy;go_wp2_with fail;go_ret;exact⟨by rw[HY.out];rfl,rfl⟩
theorem Ye (x n:Nat)(w:World)(hx:x<4294967296)(hn:n≤32):
  Calls Tryz.prog 196 #[.int .u64 (x:Nat),.int .i64 (n:Nat)] w fun e w'=>e=.returned (.int .u64 (x/2^n:Nat))∧w'=w:=by
 go_enter Tryz.func196,Tryz.ntmps196;go_wp2_with fail
 go_loopg [0,5] n (fun q xv iv wr=>∃i y:Nat,i+q=n∧iv=.int .i64 (i:Nat)∧xv=.int .u64 (y:Nat)∧y=x/2^i∧wr=w)
 case atStart=>exact⟨0,x,by omega,rfl,rfl,by simp,rfl⟩
 case round=>
  obtain⟨i,y,hi,rfl,rfl,hy,rfl⟩:=hrel;have hyl:y≤x:=(by rw[hy];exact Nat.div_le_self _ _);have hy32:y<4294967296:=(by omega);have HI:=Hd hi;have HY:=Hd hy
  by_cases hlt:i<n
  ·have hltd:decide ((i:Int)<(n:Int))=true:=(by rw[decide_eq_true_iff];omega);clear hi hy hyl;go_wp2_with fail;go_roundg (gk-1);case measure=>have:=HI.out;omega
   case rel=>exact⟨i+1,y/2,by have:=HI.out;omega,by go_num,by go_num,by rw[HY.out,Nat.div_div_eq_div_mul,Nat.pow_succ],rfl⟩
  ·have hltd:decide ((i:Int)<(n:Int))=false:=(by rw[decide_eq_false_iff_not];omega);obtain rfl:i=n:=(by omega);clear hi hy hyl;go_wp2_with fail;go_ret;exact⟨by rw[HY.out];rfl,rfl⟩
theorem Yf (w:World):
  Calls Tryz.prog 143 #[] w fun e w'=>∃v1 v2,e=.returned (.tuple #[v1,v2])∧Rd w' v1 (qvs HL0)∧Rd w' v2 (qvs KL)∧Below w.heap.size w w':=by
 go_enter Tryz.func143,Tryz.ntmps143;go_wp2_with fail;go_ret2;have hsz:(w.alloc (.cells (qvs HL0).toArray 92)).heap.size=w.heap.size+1:=(by simp);refine⟨_,_,rfl,(Rd.lit w _ 92 (qvs HL0) 8 (by kernel_rfl) (by kernel_rfl) (by unfold maxLen;omega)).alloc _,?_,((Below.refl w.heap.size w).alloc lR _).alloc (by simp) _⟩;refine Rd.lit' _ _ _ 92 (qvs KL) 64 (by simp) (by kernel_rfl) (by kernel_rfl) (by unfold maxLen;omega)
end Go.Proofs.YtfofaiommeckbaaGreat
