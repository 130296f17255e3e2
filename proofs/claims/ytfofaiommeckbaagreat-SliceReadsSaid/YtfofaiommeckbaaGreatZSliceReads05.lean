/- Walks: slices.Clone, bytes.Clone, wire.may, wire.LenSize, the reference's Num, wire.PutNum. -/
import Derived.Test.YtfofaiommeckbaaGreatZSliceReadsB
import Derived.Test.YtfofaiommeckbaaGreatZSliceReads03
import Derived.Deep.LoopGhost
open List renaming eq_nil_of_length_eq_zero → bH, getElem?_toArray → bK, getElem?_cons_zero → bL, getElem?_cons_succ → bM
set_option linter.unusedVariables false
set_option maxRecDepth 100000
set_option maxHeartbeats 40000000
namespace Go.Proofs.YtfofaiommeckbaaGreat
open Go.RowKit WireM
theorem Fk:Elem Tryz.prog 28 5 (.int .u8 0) 1:=⟨Tryz.underlying28,by kernel_rfl,rfl,by omega⟩
theorem Rd.nilOr {w:World} {v:Value} {xs:List Value}(h:Rd w v xs):v=.slice none 0 0∨∃a cap,v=.slice (some a) xs.length cap:=by
 obtain⟨a,cap,rfl,h1,h2,⟨rfl,h3⟩|⟨b,off,rfl,_⟩⟩:=h
 ·cases a with
  |none=>left;rw[h3 rfl];rfl
  |some a=>exact .inr ⟨a,cap,rfl⟩
 ·exact .inr ⟨_,cap,rfl⟩
theorem Rq (v:Value)(L:List Nat)(w:World)(h:Rd w v (bvs L))(hn:L.length<1099511627776):
  Calls Tryz.prog 111 #[v] w fun e w'=>∃v',e=.returned v'∧Own w' w.heap.size 5 v' (bvs L)∧Below w.heap.size w w':=by
 have hl:(bvs L).length=L.length:=bvs_len L;have h1:=Fz L;rcases h.nilOr with rfl|⟨a,cap,rfl⟩
 ·have h0:bvs L=[]:=by
   obtain⟨a,cap,e,_⟩:=h;simp only[Value.slice.injEq]at e;exact bH e.2.1.symm
  rw[h0];clear h h0 hl h1;have q:∀w,(binOp .eql 28 (.slice none 0 0) (.slice none 0 0)).run Tryz.prog w=.ok (.bool true) w:=fun w=>Lib.run_eql_slice_nil w _ 5 none 0 0 0 0 Tryz.underlying28;go_enter Tryz.func111,Tryz.ntmps111;go_wp2_with fail;go_ret;exact⟨_,rfl,Own.nil _ _ _,bR⟩
 ·obtain⟨xs,hxs⟩:=eX (bvs L);rw[←hxs]at h h1 hl⊢;have hx:xs.length<1099511627776:=(by omega);have HR:=Hd h;have H1:=Hd h1;clear h h1 hl hxs hn;have q:∀w,(binOp .eql 28 (.slice (some a) xs.length cap) (.slice none 0 0)).run Tryz.prog w=.ok (.bool false) w:=fun w=>Lib.run_eql_slice_nil w _ 5 (some a) _ _ 0 0 Tryz.underlying28;go_enter Tryz.func111,Tryz.ntmps111;go_wp2_with (at_builtin;refine Bd rfl (.tmp 5) (.tmp 6) 28 rfl w.heap.size 5 _ 1 Fk _ [] rfl (Own.lit0 rfl lR) _ xs rfl (HR.out.alloc _) H1.out ?c2 ?c3 ?_);case c2=>simpa using hx
  case c3=>simp
  rintro v' w2 hown-hb;have HO:=Hd hown;have HB:=Hd hb;clear hown hb;go_wp2_with fail;go_ret;exact⟨_,rfl,HO.out,(bR.alloc lR _).trans HB.out⟩
theorem Cr (v:Value)(L:List Nat)(w:World)(h:Rd w v (bvs L))(hn:L.length<1099511627776):
  Calls Tryz.prog 127 #[v] w fun e w'=>∃v',e=.returned v'∧Own w' w.heap.size 5 v' (bvs L)∧Below w.heap.size w w':=by
 have hl:(bvs L).length=L.length:=bvs_len L;have h1:=Fz L;rcases h.nilOr with rfl|⟨a,cap,rfl⟩
 ·have h0:bvs L=[]:=by
   obtain⟨a,cap,e,_⟩:=h;simp only[Value.slice.injEq]at e;exact bH e.2.1.symm
  rw[h0];clear h h0 hl h1;have q:∀w,(binOp .eql 28 (.slice none 0 0) (.slice none 0 0)).run Tryz.prog w=.ok (.bool true) w:=fun w=>Lib.run_eql_slice_nil w _ 5 none 0 0 0 0 Tryz.underlying28;go_enter Tryz.func127,Tryz.ntmps127;go_wp2_with fail;go_ret;exact⟨_,rfl,Own.nil _ _ _,bR⟩
 ·obtain⟨xs,hxs⟩:=eX (bvs L);rw[←hxs]at h h1 hl⊢;have hx:xs.length<1099511627776:=(by omega);have HR:=Hd h;have H1:=Hd h1;clear h h1 hl hxs hn;have q:∀w,(binOp .eql 28 (.slice (some a) xs.length cap) (.slice none 0 0)).run Tryz.prog w=.ok (.bool false) w:=fun w=>Lib.run_eql_slice_nil w _ 5 (some a) _ _ 0 0 Tryz.underlying28;go_enter Tryz.func127,Tryz.ntmps127;go_wp2_with (at_builtin;refine Bd rfl (.tmp 5) (.tmp 6) 28 rfl w.heap.size 5 _ 1 Fk _ [] rfl (Own.lit0 rfl lR) _ xs rfl (HR.out.alloc _) H1.out ?c2 ?c3 ?_);case c2=>simpa using hx
  case c3=>simp
  rintro v' w2 hown-hb;have HO:=Hd hown;have HB:=Hd hb;clear hown hb;go_wp2_with fail;go_ret;exact⟨_,rfl,HO.out,(bR.alloc lR _).trans HB.out⟩
def Zej (n:Int):Bool:=decide (n=1∨n=2∨n=4∨n=8)
theorem Zas (n:Int)(w:World):Calls Tryz.prog 112 #[.int .i64 n] w fun e w'=>e=.returned (.bool (Zej n))∧w=w':=by
 have hd:n=1∨n=2∨n=4∨n=8∨(n≠1∧n≠2∧n≠4∧n≠8):=(by omega);rcases hd with rfl|rfl|rfl|rfl|⟨h1,h2,h3,h4⟩
 ·go_enter Tryz.func112,Tryz.ntmps112;go_wp2_with fail;go_ret;exact⟨rfl,rfl⟩
 ·go_enter Tryz.func112,Tryz.ntmps112;go_wp2_with fail;go_ret;exact⟨rfl,rfl⟩
 ·go_enter Tryz.func112,Tryz.ntmps112;go_wp2_with fail;go_ret;exact⟨rfl,rfl⟩
 ·go_enter Tryz.func112,Tryz.ntmps112;go_wp2_with fail;go_ret;exact⟨rfl,rfl⟩
 ·have e:Zej n=false:=(by rw[Zej,decide_eq_false];omega);rw[e];have e1:(n==1)=false:=(by simp[h1]);have e2:(n==2)=false:=(by simp[h2]);have e3:(n==4)=false:=(by simp[h3]);have e4:(n==8)=false:=(by simp[h4]);clear h1 h2 h3 h4 e;go_enter Tryz.func112,Tryz.ntmps112;go_wp2_with fail;go_ret;exact⟨rfl,rfl⟩
theorem Mi (n:Int)(w:World):Calls Tryz.prog 253 #[.int .i64 n] w fun e w'=>e=.returned (.int .i64 (lenS n:Nat))∧w=w':=by
 have hd:n<0∨(0≤n∧1073741823<n)∨(0≤n∧n<64)∨(64≤n∧n<16384)∨(16384≤n∧n≤1073741823):=(by omega);rcases hd with h|⟨h,h'⟩|⟨h,h'⟩|⟨h,h'⟩|⟨h,h'⟩
 ·rw[lenS,if_pos (by omega)];go_enter Tryz.func253,Tryz.ntmps253;go_wp2_with fail;go_ret;exact⟨rfl,rfl⟩
 ·rw[lenS,if_pos (by omega)];go_enter Tryz.func253,Tryz.ntmps253;go_wp2_with fail;go_ret;exact⟨rfl,rfl⟩
 ·rw[lenS,if_neg (by omega),if_pos (by omega)];have h2:n≤1073741823:=(by omega);go_enter Tryz.func253,Tryz.ntmps253;go_wp2_with fail;go_ret;exact⟨rfl,rfl⟩
 ·rw[lenS,if_neg (by omega),if_neg (by omega),if_pos (by omega)];have h2:n≤1073741823:=(by omega);have h3:0≤n:=(by omega);go_enter Tryz.func253,Tryz.ntmps253;go_wp2_with fail;go_ret;exact⟨rfl,rfl⟩
 ·rw[lenS,if_neg (by omega),if_neg (by omega),if_neg (by omega)];have h2:64≤n:=(by omega);have h3:0≤n:=(by omega);go_enter Tryz.func253,Tryz.ntmps253;go_wp2_with fail;go_ret;exact⟨rfl,rfl⟩
theorem Wf (n:Nat)(L:List Nat):bvs (L++[n])=bvs L++[.int .u8 (n:Int)]:=by simp[bvs]
theorem Gx (v:Value)(L:List Nat)(k n:Nat)(w:World)(h:Rd w v (bvs L))(hl:L.length<549755813888)(hk:Zej (k:Int)=true)(_:n<18446744073709551616):
  Calls Tryz.prog 60 #[v,.int .i64 (k:Nat),.int .u64 (n:Nat)] w fun e w'=>∃v',e=.returned v'∧Own w' w.heap.size 5 v' (bvs (L++beN k n))∧Below w.heap.size w w':=by
 have C:=Rq v L w h (by omega);have M:=fun w=>Zas (k:Int) w;rw[hk]at M;have hk8:k≤8∧1≤k:=(by have:=of_decide_eq_true hk;omega);obtain⟨hk8,hk1⟩:=hk8;have HC:=Hd C;have HM:=Hd M;clear C M h hk;go_enter Tryz.func60,Tryz.ntmps60;go_wp2_with fail;refine(HC.out).mono ?_;rintro e w1 ⟨v1,rfl,hown,hb⟩;have HO:=Hd hown;have HB:=Hd hb;clear hown hb;go_wp2_with fail;refine(HM.out _).mono ?_;rintro e w' ⟨rfl,rfl⟩;go_wp2_with fail
 go_loopg [0,7] k (fun q out i wr=>∃pre:List Nat,q≤k∧i=.int .i64 ((q:Int)-1)∧pre.length+q=L.length+k∧pre++beN q n=L++beN k n∧Own wr w.heap.size 5 out (bvs pre)∧Below w.heap.size w wr)
 case atStart=>exact⟨L,lR,rfl,rfl,rfl,HO.out,HB.out⟩
 case round=>
  obtain⟨pre,hq,rfl,hlen,hpre,hown,hb⟩:=hrel;have HO:=Hd hown;have HB:=Hd hb;have HP:=Hd hpre;have hsz:=hb.size;clear hown hb hpre
  by_cases h0:gk=0
  ·subst h0;go_wp2_with fail;go_ret;refine⟨_,rfl,?_,HB.out⟩;rw[←HP.out,beN,List.append_nil];exact HO.out
  ·obtain⟨j,rfl⟩:∃j,gk=j+1:=⟨gk-1,by omega⟩;have ej:((j+1:Nat):Int)-1=(j:Int):=(by omega);rw[ej];clear ej h0;go_wp2_with (at_builtin;refine Ao rfl (.tmp 20) (.tmp 26) 28 rfl w.heap.size 5 _ 1 Fk _ _ rfl (HO.out.alloc _) ⟨wr.heap.size,0,none⟩ (.int .u8 ((n:Int)/2^(8*j)%256)) rfl ?c1 rfl ?c2 ?c3 ?_);case c1=>exact Ar rfl
   case c2=>rw[bvs_len];omega
   case c3=>simp;omega
   rintro v' w2 hown2-hb2;have HO2:=Hd hown2;have HB2:=Hd ((HB.out.alloc hsz _).trans hb2);clear hown2 hb2;go_wp2_with fail;go_roundg j;case measure=>omega
   case rel=>
    refine⟨pre++[n/256^j%256],by omega,rfl,by simp;omega,?_,?_,HB2.out⟩
    ·rw[List.append_assoc];exact HP.out
    ·rw[Wf];have e:((n/256^j%256:Nat):Int)=(n:Int)/2^(8*j)%256:=by
      rw[←shift_pow];simp
     rw[e];exact HO2.out
theorem Zat (v:Value)(L:List Nat)(n:Nat)(w:World)(h:Rd w v (bvs L))(hl:L.length<549755813888)(hn:n<1073741824):
  Calls Tryz.prog 212 #[v,.int .i64 (n:Nat)] w fun e w'=>∃v',e=.returned v'∧Own w' w.heap.size 5 v' (bvs (L++lenB n))∧Below w.heap.size w w':=by
 have S:=fun w=>Mi (n:Int) w
 by_cases h1:n<64
 ·rw[lenS1 h1]at S;have P:=Gx v L 1 n w h hl rfl (by omega);rw[be1 n h1]at P;have HS:=Hd S;have HP:=Hd P;have e:bits .or .u64 0 (n:Int)=(n:Int):=by
   have:=u64_or_nat 0 n (by omega) (by omega);simpa using this
  clear S P h;go_enter Tryz.func212,Tryz.ntmps212;go_wp2_with fail;refine(HS.out _).mono ?_;rintro e w' ⟨rfl,rfl⟩;go_wp2_with fail;refine(HP.out).mono ?_;rintro e w1 ⟨v1,rfl,hown,hb⟩;have HO:=Hd hown;have HB:=Hd hb;clear hown hb;go_wp2_with fail;go_ret;exact⟨_,rfl,HO.out,HB.out⟩
 ·by_cases h2:n<16384
  ·rw[lenS2 (by omega) h2]at S;have P:=Gx v L 2 (16384+n) w h hl rfl (by omega);rw[be2 n (by omega) h2]at P;have HS:=Hd S;have HP:=Hd P;have e:bits .or .u64 16384 (n:Int)=((16384+n:Nat):Int):=by
    have:=u64_or_nat 16384 n (by omega) (by omega);rw[or2 n h2]at this;exact this
   clear S P h;go_enter Tryz.func212,Tryz.ntmps212;go_wp2_with fail;refine(HS.out _).mono ?_;rintro e w' ⟨rfl,rfl⟩;go_wp2_with fail;refine(HP.out).mono ?_;rintro e w1 ⟨v1,rfl,hown,hb⟩;have HO:=Hd hown;have HB:=Hd hb;clear hown hb;go_wp2_with fail;go_ret;exact⟨_,rfl,HO.out,HB.out⟩
  ·rw[lenS4 (by omega) hn]at S;have P:=Gx v L 4 (2147483648+n) w h hl rfl (by omega);rw[be4 n (by omega) hn]at P;have HS:=Hd S;have HP:=Hd P;have e:bits .or .u64 2147483648 (n:Int)=((2147483648+n:Nat):Int):=by
    have:=u64_or_nat 2147483648 n (by omega) (by omega);rw[or4 n hn]at this;exact this
   clear S P h;go_enter Tryz.func212,Tryz.ntmps212;go_wp2_with fail;refine(HS.out _).mono ?_;rintro e w' ⟨rfl,rfl⟩;go_wp2_with fail;refine(HP.out).mono ?_;rintro e w1 ⟨v1,rfl,hown,hb⟩;have HO:=Hd hown;have HB:=Hd hb;clear hown hb;go_wp2_with fail;go_ret;exact⟨_,rfl,HO.out,HB.out⟩
theorem Pt (n:Nat)(w:World)(hn:n<1073741824):
  Calls Tryz.prog 197 #[.int .i64 (n:Nat)] w fun e w'=>∃v',e=.returned v'∧Own w' w.heap.size 5 v' (bvs (lenB n))∧Below w.heap.size w w':=by
 by_cases h1:n<64
 ·have e:lenB n=[n]:=(by unfold lenB;rw[if_pos h1]);rw[e];clear e;go_enter Tryz.func197,Tryz.ntmps197;go_wp2_with fail;go_ret;exact⟨_,rfl,Own.full (cs:=#[.int .u8 (n:Int)]) rfl lR (by unfold maxLen;simp) rfl,bR.alloc lR _⟩
 ·by_cases h2:n<16384
  ·have e:lenB n=[64+n/256,n%256]:=(by unfold lenB;rw[if_neg h1,if_pos h2]);rw[e];clear e;have h3:64≤n:=(by omega);go_enter Tryz.func197,Tryz.ntmps197;go_wp2_with fail;go_ret;exact⟨_,rfl,Own.full (cs:=#[.int .u8 ((64+n/256:Nat):Int),.int .u8 ((n%256:Nat):Int)]) rfl lR (by unfold maxLen;simp) rfl,bR.alloc lR _⟩
  ·have e:lenB n=[128+n/16777216,n/65536%256,n/256%256,n%256]:=(by unfold lenB;rw[if_neg h1,if_neg h2]);rw[e];clear e;have h3:16384≤n:=(by omega);go_enter Tryz.func197,Tryz.ntmps197;go_wp2_with fail;go_ret;exact⟨_,rfl,Own.full (cs:=#[.int .u8 ((128+n/16777216:Nat):Int),.int .u8 ((n/65536%256:Nat):Int),.int .u8 ((n/256%256:Nat):Int),.int .u8 ((n%256:Nat):Int)]) rfl lR (by unfold maxLen;simp) rfl,bR.alloc lR _⟩
theorem Zjh {w:World} {cs:Array Value} {L:List Nat} {N:Nat}(hN:N=w.heap.size)(h:cs.toList=bvs L)(hm:L.length≤1000):Rd (w.alloc (.cells cs 5)) (.slice (some ⟨N,0,none⟩) L.length L.length) (bvs L):=by
 have e:cs.size=L.length:=(by rw[←Array.length_toList,h,bvs_len]);have:=(Own.full (w:=w) (B:=w.heap.size) (e:=5) (cs:=cs) hN (by omega) (by unfold maxLen;omega) (n:=L.length) e.symm).rd;rw[h]at this;exact this
def RdK (w:World)(B:Nat)(v:Value)(xs:List Value):Prop:=
 ∃a cap,v=.slice a xs.length cap∧xs.length≤cap∧cap≤maxLen∧
  ((xs=[]∧(a=none→cap=0))∨∃b off,a=some ⟨b,off,none⟩∧b<B∧∀(j:Nat) u,xs[j]? =some u→w.cell? ⟨b,off+j,none⟩=some u)
theorem RdK.rd {w:World} {B:Nat} {v:Value} {xs:List Value}(h:RdK w B v xs):Rd w v xs:=by
 obtain⟨a,cap,h1,h2,h3,h4|⟨b,off,h4,_,h5⟩⟩:=h
 ·exact⟨a,cap,h1,h2,h3,.inl h4⟩
 ·exact⟨a,cap,h1,h2,h3,.inr ⟨b,off,h4,h5⟩⟩
theorem Rd.k {w:World} {v:Value} {xs:List Value} {B:Nat}(h:Rd w v xs)(hB:w.heap.size≤B):RdK w B v xs:=by
 obtain⟨a,cap,h1,h2,h3,h4⟩:=h;refine⟨a,cap,h1,h2,h3,?_⟩;cases xs with
 |nil=>
  rcases h4 with h4|⟨b,off,rfl,_⟩
  ·exact .inl h4
  ·exact .inl ⟨rfl,fun h=>by cases h⟩
 |cons x xs=>
  rcases h4 with h4|⟨b,off,rfl,hc⟩
  ·cases h4.1
  ·have:=World.block_lt_of_cell? w _ (hc 0 x rfl);exact .inr ⟨b,off,rfl,by simp only at this;omega,hc⟩
theorem RdK.keep {w w':World} {B:Nat} {v:Value} {xs:List Value}(h:RdK w B v xs)(hk:∀p:Addr,p.block<B→w'.cell? p=w.cell? p):RdK w' B v xs:=by
 obtain⟨a,cap,h1,h2,h3,h4|⟨b,off,h4,h5,h6⟩⟩:=h
 ·exact⟨a,cap,h1,h2,h3,.inl h4⟩
 ·exact⟨a,cap,h1,h2,h3,.inr ⟨b,off,h4,h5,fun j u hu=>(hk _ h5).trans (h6 j u hu)⟩⟩
def Only (B:Nat)(a w:World):Prop:=a.grownBy w (some B)
theorem Only.refl (B:Nat)(a:World):Only B a a:=World.grownBy.refl a _
theorem Only.trans {B:Nat} {a b c:World}(h:Only B a b)(k:Only B b c):Only B a c:=
 ⟨k.os.trans h.os,k.tape.trans h.tape,k.output.trans h.output,Nat.le_trans h.size k.size,fun i hi hne=>(k.block i (Nat.lt_of_lt_of_le hi h.size) hne).trans (h.block i hi hne)⟩
theorem Only.of {B:Nat} {a w:World}(h:Below a.heap.size a w):Only B a w:=⟨h.os,h.tape,h.output,h.size,fun i hi _=>h.block i hi⟩
theorem Only.set {a:World} {B:Nat}(i:Nat)(u:Value):Only B a (a.setCell ⟨B,i,none⟩ u):=
 ⟨rfl,rfl,rfl,by simp[World.setCell],fun k hk hne=>Below.heap_setCell _ _ _ _ (fun e=>hne (by rw[e]))⟩
theorem Only.below {B C:Nat} {a w:World}(h:Only B a w)(h1:C≤B)(h2:C≤a.heap.size):Below C a w:=
 ⟨h.os,h.tape,h.output,h.size,fun i hi=>h.block i (by omega) (fun e=>by simp at e;omega)⟩
theorem Only.cell {B:Nat} {a w:World}(h:Only B a w) {p:Addr}(hp:p.block<B)(hs:B≤a.heap.size):w.cell? p=a.cell? p:=
 World.cell?_of_block (h.block p.block (by omega) (fun e=>by simp at e;omega))
def RS (w:World)(B:Nat)(L:List Nat)(er:Nat):Prop:=∃v,Blk w B 189 #[v,.int .u8 (er:Nat)]∧RdK w B v (bvs L)
theorem RS.lt {w:World} {B:Nat} {L:List Nat} {er:Nat}(h:RS w B L er):B<w.heap.size:=by obtain⟨v,h,_⟩:=h;exact h.lt
theorem RS.below {w w':World} {B:Nat} {L:List Nat} {er:Nat}(h:RS w B L er)(hb:Below w.heap.size w w'):RS w' B L er:=by
 obtain⟨v,h1,h2⟩:=h;exact⟨v,h1.below hb h1.lt,h2.keep fun p hp=>hb.cell (Nat.lt_trans hp h1.lt)⟩
theorem Wg (L:List Nat)(n:Nat):bvs (L.take n)=(bvs L).take n:=by simp[bvs,List.map_take]
theorem Wh (L:List Nat)(n:Nat):bvs (L.drop n)=(bvs L).drop n:=by simp[bvs,List.map_drop]
theorem RdK.front {w:World} {B:Nat} {a:Option Addr} {cap n:Nat} {L:List Nat}(h:RdK w B (.slice a L.length cap) (bvs L))(hn:n≤L.length):RdK w B (.slice a n cap) (bvs (L.take n)):=by
 obtain⟨a',cap',he,h2,h3,h4⟩:=h;simp only[Value.slice.injEq]at he;obtain⟨rfl,_,rfl⟩:=he;have hl:(bvs (L.take n)).length=n:=(by rw[bvs_len,List.length_take];omega);rw[bvs_len]at h2;refine⟨a,cap,by rw[hl],by rw[hl];omega,h3,?_⟩;rcases h4 with⟨h4,h5⟩|⟨b,off,h4,h5,h6⟩
 ·left
  refine⟨by rw[Wg,h4];simp,h5⟩
 ·right
  refine⟨b,off,h4,h5,?_⟩;intro j u hu;rw[Wg,List.getElem?_take]at hu
  split at hu
  ·exact h6 j u hu
  ·cases hu
theorem RdK.rest {w:World} {B:Nat} {a:Option Addr} {cap n:Nat} {L:List Nat}(h:RdK w B (.slice a L.length cap) (bvs L))(hn:n≤L.length):RdK w B (.slice (a.map (·.add n)) (L.length-n) (cap-n)) (bvs (L.drop n)):=by
 obtain⟨a',cap',he,h2,h3,h4⟩:=h;simp only[Value.slice.injEq]at he;obtain⟨rfl,_,rfl⟩:=he;have hl:(bvs (L.drop n)).length=L.length-n:=(by rw[bvs_len,List.length_drop]);rw[bvs_len]at h2;refine⟨_,cap-n,by rw[hl],by rw[hl];omega,by omega,?_⟩;rcases h4 with⟨h4,h5⟩|⟨b,off,rfl,h5,h6⟩
 ·left
  refine⟨by rw[Wh,h4];simp,?_⟩;intro h;have:a=none:=by cases a with
   |none=>rfl
   |some a=>simp at h
  rw[h5 this];omega
 ·right
  refine⟨b,off+n,by simp[Addr.add_lit],h5,?_⟩;intro j u hu;rw[Wh,List.getElem?_drop]at hu;rw[Nat.add_assoc];exact h6 _ u hu
theorem RdK.rest0 {w:World} {B:Nat} {a:Option Addr} {n:Nat} {L:List Nat}(hn:L.length≤n):RdK w B (.slice a (L.length-n) 0) (bvs (L.drop n)):=by
 have hl:bvs (L.drop n)=[]:=(by rw[List.drop_eq_nil_of_le hn];rfl);rw[hl];refine⟨a,0,by simp;omega,by simp,Nat.zero_le _,.inl ⟨rfl,fun _=>rfl⟩⟩
theorem Fl (B:Nat)(L:List Nat)(e':Nat)(w:World)(h:RS w B L 0)(he:e'<256):
  Calls Tryz.prog 217 #[.pointer (some ⟨B,0,none⟩),.int .u8 (e':Nat)] w fun e w'=>e=.returned (.tuple #[])∧RS w' B L e'∧Only B w w'∧w'.heap.size=w.heap.size:=by
 obtain⟨v,hb,hr⟩:=h;have k1:=hb.cell 1;have z1:=hb.frozen 1;simp only[bK,bL,bM]at k1;have HB:=Hd hb;have HR:=Hd hr;clear hb hr;go_enter Tryz.func217,Tryz.ntmps217;go_wp2_with fail
 go_end0
 refine⟨rfl,⟨v,?_,?_⟩,Only.set _ _,by simp[World.setCell]⟩
 ·exact HB.out.set 1 _
 ·exact HR.out.keep fun p hp=>World.cell?_setCell_other _ _ _ _ (fun e=>by subst e;exact absurd hp (Nat.lt_irrefl _))
theorem Pu (B:Nat)(L:List Nat)(er:Nat)(n:Int)(w:World)(h:RS w B L er)(he:er≠0):
  Calls Tryz.prog 200 #[.pointer (some ⟨B,0,none⟩),.int .i64 n] w fun e w'=>e=.returned (.tuple #[.slice none 0 0,.bool false])∧w=w':=by
 obtain⟨v,hb,hr⟩:=h;have k1:=hb.cell 1;have he':((er:Int) !=0)=true:=(by simp;omega);simp only[bK,bL,bM]at k1;clear hb hr he;go_enter Tryz.func200,Tryz.ntmps200;go_wp2_with fail;go_ret2;exact⟨rfl,rfl⟩
theorem Zeq (B:Nat)(L:List Nat)(n:Int)(w:World)(h:RS w B L 0)(hn:n<0):
  Calls Tryz.prog 200 #[.pointer (some ⟨B,0,none⟩),.int .i64 n] w fun e w'=>e=.returned (.tuple #[.slice none 0 0,.bool false])∧RS w' B L 1∧Only B w w'∧w'.heap.size=w.heap.size:=by
 have HF:=Hd (Fl B L 1 w h (by omega));obtain⟨v,hb,hr⟩:=h;have k1:=hb.cell 1;simp only[bK,bL,bM]at k1;clear hb hr;go_enter Tryz.func200,Tryz.ntmps200;go_wp2_with fail;refine HF.out.mono ?_;rintro e w1 ⟨rfl,h1,h2,h3⟩;have H1:=Hd h1;have H2:=Hd h2;have H3:=Hd h3;clear h1 h2 h3;go_wp2_with fail;go_ret2;exact⟨rfl,H1.out,H2.out,H3.out⟩
theorem Lo (B:Nat)(L:List Nat)(n:Int)(w:World)(h:RS w B L 0)(hn:(L.length:Int)<n):
  Calls Tryz.prog 200 #[.pointer (some ⟨B,0,none⟩),.int .i64 n] w fun e w'=>e=.returned (.tuple #[.slice none 0 0,.bool false])∧RS w' B L 4∧Only B w w'∧w'.heap.size=w.heap.size:=by
 have HF:=Hd (Fl B L 4 w h (by omega));obtain⟨v,hb,hr⟩:=h;obtain⟨a,cap,rfl,_⟩:=hr;rw[bvs_len]at hb;have k0:=hb.cell 0;have k1:=hb.cell 1;simp only[bK,bL,bM]at k0 k1;have hn0:0≤n:=(by omega);clear hb;go_enter Tryz.func200,Tryz.ntmps200;go_wp2_with fail;refine HF.out.mono ?_;rintro e w1 ⟨rfl,h1,h2,h3⟩;have H1:=Hd h1;have H2:=Hd h2;have H3:=Hd h3;clear h1 h2 h3;go_wp2_with fail;go_ret2;exact⟨rfl,H1.out,H2.out,H3.out⟩
theorem Pv (B:Nat)(L:List Nat)(n:Nat)(w:World)(h:RS w B L 0)(hn:n≤L.length):
  Calls Tryz.prog 200 #[.pointer (some ⟨B,0,none⟩),.int .i64 (n:Nat)] w fun e w'=>(∃v',e=.returned (.tuple #[v',.bool true])∧RdK w' B v' (bvs (L.take n)))∧RS w' B (L.drop n) 0∧Only B w w'∧w'.heap.size=w.heap.size:=by
 obtain⟨v,hb,hr⟩:=h;obtain⟨a,cap,rfl,hc1,hc2,hc3⟩:=id hr;rw[bvs_len]at hb hc1 hr;have k0:=hb.cell 0;have k1:=hb.cell 1;have z0:=hb.frozen 0;simp only[bK,bL,bM]at k0 k1;have hlen:L.length≤9223372036854775807:=(by unfold maxLen at hc2;omega);have HB:=Hd hb;have HR:=Hd hr;have keep:Hid (∀u (p:Addr),p.block<B→(w.setCell ⟨B,0,none⟩ u).cell? p=w.cell? p):=Hd (fun u p hp=>World.cell?_setCell_other _ _ _ _ (fun e=>by subst e;exact absurd hp (Nat.lt_irrefl _)));clear hb hr hc3;go_enter Tryz.func200,Tryz.ntmps200;go_wp2_with fail;all_goals go_ret2
 ·have hcn:cap=n:=(by assumption);have hr2:=HR.out.front hn;have hr3:=RdK.rest0 (w:=w.setCell ⟨B,0,none⟩ (Value.slice a (L.length-n) 0)) (B:=B) (a:=a) (n:=n) (L:=L) (by omega);rw[hcn]at hr2;refine⟨⟨_,rfl,hr2.keep (keep.out _)⟩,⟨_,HB.out.set 0 _,hr3⟩,Only.set _ _,by simp[World.setCell]⟩
 ·refine⟨⟨_,rfl,(HR.out.front hn).keep (keep.out _)⟩,⟨_,HB.out.set 0 _,?_⟩,Only.set _ _,by simp[World.setCell]⟩;exact(HR.out.rest hn).keep (keep.out _)
end Go.Proofs.YtfofaiommeckbaaGreat
