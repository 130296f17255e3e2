/- Walks: sha.tail, slices.Clone of bytes. -/
import Derived.Test.YtfofaiommeckbaaGreatZSliceSoundB
import Derived.Test.YtfofaiommeckbaaGreatZSliceSound16
open List renaming replicate → cK, length_append → aI, length_replicate → eY, append_assoc → cA, length_take → cF, take_of_length_le → bY, range_succ → eZ, getD_eq_getElem?_getD → aJ, length_set → dU, length_drop → eM, size_toArray → fA
set_option linter.unusedVariables false
set_option maxRecDepth 100000
set_option maxHeartbeats 40000000
namespace Go.Proofs.YtfofaiommeckbaaGreat
open Go.RowKit ShaM WireM
theorem Ts (L:List Nat)(n:Nat):bvs (L++[n])=bvs L++[.int .u8 (n:Int)]:=by simp[bvs]
theorem Zlu (n v:Nat):∀i j,j<i→(beN i v)[j]? =some (v/256^(i-1-j)%256):=by
 intro i
 induction i with
 |zero=>intro j h;omega
 |succ i ih=>
  intro j h;rw[beN];cases j with
  |zero=>simp
  |succ j=>rw[List.getElem?_cons_succ,ih j (by omega),show i+1-1-(j+1)=i-1-j by omega]
theorem Zmx {w:World} {B:Nat} {e:TypeId} {v:Value} {xs:List Value}(h:Own w B e v xs)(n:Nat)(hn:xs.length=n):∃a c,v=.slice a n c:=by
 obtain⟨a,c,e,_⟩:=h.rd;exact⟨a,c,by rw[e,hn]⟩
theorem Zlv {w:World} {u:Value} {e:TypeId} {N:Nat}(hN:N=w.heap.size):(w.alloc (.cells #[u] e)).cell? ⟨N,0,none⟩=some u:=by
 subst hN;rw[cell_of_row _ _ _ _ _ _ (heap_alloc_new w _)];rfl
theorem Zhk (n:Nat)(w:World)(hn:n≤1000000):
  Calls Tryz.prog 232 #[.int .i64 (n:Nat)] w fun e w'=>∃v,e=.returned v∧Own w' w.heap.size 5 v (bvs (tailL n))∧Below w.heap.size w w':=by
 obtain⟨Z,h⟩:=eX ((119-n%64)%64);have s:tailL n=([128]++cK Z 0)++beN 8 (8*n):=(by rw[tailL,←h];simp);rw[s];have D:=Hd h;have O:=Hd (show Own (w.alloc (.cells #[.int .u8 128] 5)) w.heap.size 5 (.slice (some ⟨w.heap.size,0,none⟩) 1 1) (bvs ([128]++cK 0 0))from Own.full (cs:=#[.int .u8 128]) rfl lR (by unfold maxLen;simp) rfl);obtain⟨m,Q⟩:=eX (8*n);rw[←Q];have aE:(n:Int)*8=(m:Int):=(by omega);have W:IntKind.u64.wrap (n:Int)=(n:Int):=(by rw[IntKind.wrap_u64];omega);have aC:m≤8000000:=(by omega);clear s h Q;go_enter Tryz.func232,Tryz.ntmps232;go_wp2_with fail
 go_loopg [3] Z (fun q bv wr=>∃k:Nat,k+q=Z∧Own wr w.heap.size 5 bv (bvs ([128]++cK k 0))∧Below w.heap.size w wr)
 case atStart=>exact⟨0,by omega,O.out,bR.alloc lR _⟩
 case round=>
  obtain⟨k,hk,a,f⟩:=hrel;obtain⟨s1,X,rfl⟩:=Zmx a (1+k) (by rw[bvs_len,aI,eY];rfl);have K:=Hd hk;have H:=Hd a;have z:=Hd f;obtain⟨l,C⟩:=eX (1+k);rw[←C];obtain⟨r,P⟩:=eX ((n+l)%64);have e1:((n:Int)+(l:Int))%64=(r:Int):=(by omega);have e2:Int.tmod ((n:Int)+(l:Int)) 64=(r:Int):=(by rw[Int.tmod_eq_emod_of_nonneg (by omega)];omega);have h:=D.out;have V:l≤100:=(by omega);have u:=Hd C
  by_cases hlt:k<Z
  ·have o:((r:Int)==56)=false:=(by rw[beq_eq_false_iff_ne];omega);have g2:((r:Int) !=56)=true:=(by rw[bne,o];rfl);clear a f hk h P C;go_wp2_with (at_builtin;refine Dj rfl (.tmp 12) (.tmp 13) 28 rfl w.heap.size 5 _ 1 Bu _ (bvs ([128]++cK k 0)) rfl (by rw[u.out];exact H.out.alloc _) ⟨wr.heap.size,0,none⟩ (.int .u8 0) rfl (Zlv rfl) rfl ?d2 ?d3 ?_);case d2=>have:=D.out;have:=K.out;rw[bvs_len,aI,eY];simp;omega
   case d3=>have:=z.out.size;simp;omega
   rintro N w4 a-b;have g:=Hd a;have d:=Hd ((z.out.alloc z.out.size (.cells #[.int .u8 0] 5)).trans b);clear a b;go_wp2_with fail;go_roundg (gk-1);case measure=>have:=K.out;omega
   case rel=>
    refine⟨k+1,by have:=K.out;omega,?_,d.out⟩;have:=g.out;rw[List.replicate_succ',←cA,Ts];exact this
  ·obtain rfl:k=Z:=(by omega);have o:((r:Int)==56)=true:=(by rw[beq_iff_eq];omega);have g2:((r:Int) !=56)=false:=(by rw[bne,o];rfl);clear a f hk h P C;obtain⟨A,B⟩:=eX ([128]++cK k 0);have aA:A.length≤100:=(by have:=D.out;rw[B,aI,eY];simp;omega);have M:=Hd (show Own wr w.heap.size 5 (.slice s1 l X) (bvs (A++(beN 8 m).take 0)) by rw[List.take_zero,List.append_nil,B,u.out];exact H.out);have L:=Hd B;clear B H O;go_wp2_with fail;obtain⟨aB,rfl⟩:∃o,o=gk:=⟨_,rfl⟩;obtain⟨w1,rfl⟩:=eX wr
   go_loopg [3,4] 8 (fun q bv iv wr=>∃j:Nat,j+q=8∧iv=.int .i64 (7-(j:Int))∧Own wr w.heap.size 5 bv (bvs (A++(beN 8 m).take j))∧Below w.heap.size w wr)
   case atStart=>exact⟨0,rfl,rfl,M.out,z.out⟩
   case round=>
    obtain⟨j,G,rfl,a,f⟩:=hrel;have J:=Hd G;have t:=Hd a;have c:=Hd f;obtain⟨s4,s5,s6,rfl⟩:=Ey a
    by_cases hlt2:j<8
    ·obtain⟨i,I⟩:=eX (7-j);have U:(7:Int)-(j:Int)=(i:Int):=(by omega);rw[U];obtain⟨p,S⟩:=eX (8*i);have ep:8*(i:Int)=(p:Int):=(by omega);have R:p<64:=(by omega);have Y:i<8:=(by omega);obtain⟨x,hx⟩:=eX (m/256^i%256);have ev:(m:Int)/2^p%256=(x:Int):=by
      have E:256^i=2^(8*i):=(by rw[Nat.pow_mul]);rw[hx,S,E,Int.natCast_emod,Int.natCast_ediv,Int.natCast_pow]
      rfl
     have HL:=Hd (show(beN 8 m).take (j+1)=(beN 8 m).take j++[x] by
      have:=Zlu m m 8 j hlt2;rw[List.take_add_one,this,hx,I];rfl)
     obtain⟨T,y⟩:=eX (A++(beN 8 m).take j);have aD:T.length≤200:=(by rw[y,aI,cF];omega);have HT:=Hd y;have F:=Hd (show Own wr w.heap.size 5 (.slice s4 s5 s6) (bvs T) by rw[y];exact a);have HI:=Hd I;clear a f G I S U hx t y;go_wp2_with (at_builtin;refine Dj rfl (.tmp 19) (.tmp 27) 28 rfl w.heap.size 5 _ 1 Bu _ (bvs T) rfl (F.out.alloc _) ⟨wr.heap.size,0,none⟩ (.int .u8 (x:Nat)) rfl (Zlv rfl) rfl ?f2 ?f3 ?_);case f2=>rw[bvs_len];omega
     case f3=>have:=c.out.size;simp;omega
     rintro N w4 a-b;have g:=Hd a;have d:=Hd ((c.out.alloc c.out.size (.cells #[.int .u8 (x:Nat)] 5)).trans b);clear a b;go_wp2_with fail;go_roundg (gk-1);case measure=>have:=J.out;omega
     case rel=>
      refine⟨j+1,by have:=J.out;omega,?_,?_,d.out⟩
      ·have:=HI.out;have:=J.out;show Value.int .i64 ((i:Int)-1)=_
       congr 1
       omega
      ·rw[HL.out,←cA,←HT.out,Ts];exact g.out
    ·obtain rfl:j=8:=(by omega);clear a f G;go_wp2_with fail;go_ret;refine⟨_,rfl,?_,c.out⟩;have:=t.out;rw[bY (by rw[beN_len];omega),L.out]at this;simpa using this
theorem Rd.onlyG {w w':World} {v:Value} {xs:List Value} {g:Nat}(h:Rd w v xs)(l:OnlyG g w w')(d:∀a n c,v=.slice (some a) n c→a.block≠g):Rd w' v xs:=by
 rcases h.lt with rfl|⟨b,f,cap,e,m⟩
 ·obtain⟨a,c,e,k,h2,h3⟩:=h;refine⟨a,c,e,k,h2,.inl ⟨rfl,?_⟩⟩;rcases h3 with⟨_,h3⟩|⟨b,f,h3,_⟩
  ·exact h3
  ·intro h;rw[h3]at h;cases h
 ·obtain⟨a,c,i,k,h2,h3⟩:=h;rw[e]at i;simp only[Value.slice.injEq]at i;obtain⟨rfl,-,rfl⟩:=i;refine⟨_,cap,e,k,h2,?_⟩;rcases h3 with⟨h3,_⟩|⟨o,off',h3,p⟩
  ·exact .inl ⟨h3,fun h=>by cases h⟩
  ·refine .inr ⟨o,off',h3,fun j u q=> ?_⟩;simp only[Option.some.injEq,Addr.mk.injEq,and_true]at h3;obtain⟨rfl,rfl⟩:=h3;have hh:=l.2.2 b m (d _ _ _ e);have:=p j u q;unfold World.cell? at this⊢;simp only[hh];exact this
theorem Zdj (L:List Nat)(k:Nat):bvs (L.take k)=(bvs L).take k:=by simp[bvs,List.map_take]
theorem Rd.pre {w:World} {a:Option Addr} {n c:Nat} {xs:List Value}(h:Rd w (.slice a n c) xs)(k:Nat)(hk:k≤n):Rd w (.slice a k c) (xs.take k):=by
 obtain⟨o,cap,e,m,l,i⟩:=h;simp only[Value.slice.injEq]at e;obtain⟨rfl,rfl,rfl⟩:=e;have g:(xs.take k).length=k:=(by rw[cF];omega);refine⟨a,c,by rw[g],by rw[g];omega,l,?_⟩;rcases i with⟨rfl,q⟩|⟨b,f,rfl,q⟩
 ·exact .inl ⟨by simp,q⟩
 ·refine .inr ⟨b,f,rfl,fun j u d=>q j u ?_⟩;rw[List.getElem?_take]at d
  split at d
  ·exact d
  ·cases d
theorem Rd.cap {w:World} {a:Option Addr} {n c:Nat} {xs:List Value}(h:Rd w (.slice a n c) xs):n≤c∧c≤maxLen:=by
 obtain⟨a',cap,e,q1,q2,_⟩:=h;simp only[Value.slice.injEq]at e;exact⟨by omega,by omega⟩
def Zng:Value→Nat
 | .slice _ n _=>n
 |_=>0
def Znh (B:Nat)(P:List Nat)(Z:Array Value)(a0:Option Addr)(n c0:Nat)(w:World)(a':Act)(w':World):Prop:=
 ∃(ps i rl rc:Nat) (ra:Option Addr),B<ps∧rl+64*i=P.length∧Blk w' ps 244 (Hp (blocksN P HL0 i))∧Blk w' B 224 Z∧Rd w' (.slice ra rl rc) (bvs (P.drop (64*i)))∧(∀a,ra=some a→a.block≠ps)∧Below B w w'∧
  ∃(x1 x5 x6 x7 x8 x9 x10 x11 x12 x13 x14 x15 x16 x17 x18 x19 x20 x21 x22 x23 x24 x25 x26 x27 x28 x29 x30 x31 x32 x33 x34 x35 x36 x37 x38 x39 x40 x41 x42 x43 x44 x45 x46 x47 x48 x49 x50 x51 x52 x53 x54 x55:Value),a'= {tmps:=#[.slice a0 n c0,x1,.pointer (some ⟨B,0,none⟩),.pointer (some ⟨ps,0,none⟩),.slice ra rl rc,x5,x6,x7,x8,x9,x10,x11,x12,x13,x14,x15,x16,x17,x18,x19,x20,x21,x22,x23,x24,x25,x26,x27,x28,x29,x30,x31,x32,x33,x34,x35,x36,x37,x38,x39,x40,x41,x42,x43,x44,x45,x46,x47,x48,x49,x50,x51,x52,x53,x54,x55],defers:=[]}
def Z32a:Array Value:=(bvs (cK 32 0)).toArray
theorem Zdk {b:List Nat}(h:∀x∈b,x<256):∀x∈padL b,x<256:=by
 intro x hx;rcases List.mem_append.1 hx with hx|hx
 ·exact h x hx
 ·rcases List.mem_cons.1 hx with rfl|hx
  ·omega
  ·rcases List.mem_append.1 hx with hx|hx
   ·rw[(List.mem_replicate.1 hx).2];omega
   ·exact beN_lt _ _ x hx
theorem Tt (b:List Nat):(padL b).length≤b.length+72:=by
 simp only[padL,tailL,aI,List.length_cons,eY,beN_len];omega
def Za6 (S:List Nat)(t:Nat):List Nat:=(List.range 32).map fun j=>if j<4*t then S.getD (j/4) 0/2^(8*(3-j%4))%256 else 0
theorem Zdl (S:List Nat):(bvs (Za6 S 0)).toArray=Z32a:=by simp[Za6,Z32a,bvs,eZ]
theorem Ij (S:List Nat)(t:Nat):(Za6 S t).length=32:=by simp[Za6]
theorem Zhl (S:List Nat)(t:Nat) {j:Nat}(h:j<32):(Za6 S t).getD j 0=if j<4*t then S.getD (j/4) 0/2^(8*(3-j%4))%256 else 0:=by simp[Za6,aJ,h]
theorem Zhm (l:List Nat)(i j x:Nat):(l.set i x).getD j 0=if i=j∧j<l.length then x else l.getD j 0:=by
 simp only[aJ,List.getElem?_set]
 by_cases h:i=j
 ·subst h
  by_cases h2:i<l.length
  ·simp[h2]
  ·simp[h2]
 ·simp[h]
theorem Zdm (S:List Nat) {t:Nat}(h:t<8) {x:Nat}(hx:x=S.getD t 0):((((Za6 S t).set (4*t) (x/16777216%256)).set (4*t+1) (x/65536%256)).set (4*t+2) (x/256%256)).set (4*t+3) (x%256)=Za6 S (t+1):=by
 refine Jw (by simp[Ij]) fun j a=> ?_;simp only[dU,Ij]at a;simp only[Zhm,dU,Ij,Zhl S _ a]
 by_cases h0:j<4*t
 ·rw[if_neg (by omega),if_neg (by omega),if_neg (by omega),if_neg (by omega),if_pos h0,if_pos (by omega)]
 ·by_cases h4:j<4*(t+1)
  ·have e:j/4=t:=(by omega);rw[if_pos h4,e,←hx];obtain e|e|e|e:j=4*t∨j=4*t+1∨j=4*t+2∨j=4*t+3:=by omega
   ·rw[if_neg (by omega),if_neg (by omega),if_neg (by omega),if_pos (by omega),show j%4=0 by omega]
   ·rw[if_neg (by omega),if_neg (by omega),if_pos (by omega),show j%4=1 by omega]
   ·rw[if_neg (by omega),if_pos (by omega),show j%4=2 by omega]
   ·rw[if_pos (by omega),show j%4=3 by omega];simp
  ·rw[if_neg (by omega),if_neg (by omega),if_neg (by omega),if_neg (by omega),if_neg h0,if_neg h4]
theorem Zdn {S:List Nat} {t g:Nat} {w:World} {ty:TypeId}(h:Blk w g ty (bvs (Za6 S t)).toArray) {j:Nat}(hj:j<32):∃u,w.cell? ⟨g,j,none⟩=some u:=by
 rw[h.cell];exact⟨_,Array.getElem?_eq_getElem (by simpa [bvs,Ij]using hj)⟩
theorem Rc (L:List Nat)(i n:Nat):(bvs L).toArray.setIfInBounds i (.int .u8 (n:Int))=(bvs (L.set i n)).toArray:=by
 simp[bvs,List.map_set]
theorem Re {S:List Nat}(h:S.length=8):Za6 S 8=(S.map (beN 4)).flatten:=by
 match S,h with
 |[a,b,c,d,e,f,g,k],_=>simp[Za6,eZ,beN]
theorem Zhn (v:Value)(L:List Nat)(w:World)(h:Rd w v (bvs L))(hL:∀x∈L,x<256)(hl:L.length≤1000000):
  Calls Tryz.prog 198 #[v] w fun e w'=>e=.returned (.agg (bvs (shaF L)).toArray)∧Below w.heap.size w w':=by
 have hz:∀w,(zeroValue 224).run Tryz.prog w=.ok (.agg Z32a) w:=fun _=>(by kernel_rfl);have bI:∀w,(zeroValue 244).run Tryz.prog w=.ok (.agg Z8a) w:=fun _=>(by kernel_rfl);have BG:=fun(W:World)=>Zc2 W;have CL:=fun(W:World) (hw:Below w.heap.size w W)=>Sj v L W (h.below hw lR) (by omega);have TL:=fun(W:World)=>Zhk L.length W hl;have hv:∃a c,v=.slice a L.length c:=(by obtain⟨a,c,e,_⟩:=h;exact⟨a,c,by rw[e,bvs_len]⟩);obtain⟨a0,c0,rfl⟩:=hv;have a5:=padL_len L;have aF:=Zdk hL;have K:=Tt L;obtain⟨P,hP⟩:=eX (padL L);have O:bvs L++bvs (tailL L.length)=bvs P:=(by rw[hP,padL];simp[bvs]);rw[←hP]at a5 aF K;obtain⟨HA,d⟩:=eX HLa;simp only[←d]at BG;have IH:=Hd (show(Tryz.prog.info? 244).map (·.size)=some HA.size by rw[d,HLa];exact Zg9 HL0 rfl);have ZH:=Hd (show Z8a.size=HA.size by rw[d];unfold Z8a HLa;rw[Bi,Bi];rfl);have OH:=Hd (show HA.toList.all (·.oneCell')=true by rw[d,Array.all_toList];exact Ft HL0);obtain⟨n,hn⟩:=eX L.length;rw[←hn]at CL TL O hl K⊢;have aW:=Hd BG;have aX:=Hd CL;have a1:=Hd TL;have aK:=Hd O;have HN:=Hd hn;have aQ:=Hd hP;have aZ:=Hd d;clear BG CL TL O hn hP d h hL;go_enter Tryz.func198,Tryz.ntmps198;go_wp2_with fail;refine Fi 0 (Znh w.heap.size P Z32a a0 n c0 w) (fun ac _=>Zng (ac.tmps.getD 4 undef)) rfl ?_ ?_
 ·rintro ac A ⟨B,i,l,rc,ra,f,hi,Z,hR,g,U,hb,hf⟩
  iterate 52 (obtain⟨_,hf⟩:=hf)
  subst hf;have HS:=Hd Z;have HR:=Hd hR;have aJ:=Hd g;have HB:=Hd hb
  by_cases h0:0<l
  ·have aL:64≤l:=(by omega);have bD:=g.cap;have g0:decide (0<l)=true:=decide_eq_true h0;have aE:(bvs (P.drop (64*i))).length=l:=(by rw[bvs_len,eM];omega);obtain⟨bb,oo,rfl,bG,X⟩:=g.at3 (r:=0) (u:=(bvs (P.drop (64*i)))[0]'(by omega)) (List.getElem?_eq_getElem _);have ok:=blocksN_ok P HL0_len HL0_lt i;have s:=g.pre 64 aL;rw[←Zdj]at s;have ST:=Zha B _ (blocksN P HL0 i) ((P.drop (64*i)).take 64) A Z ok.2 ok.1 s (fun x hx=>aF x (List.mem_of_mem_drop (List.mem_of_mem_take hx))) (by rw[cF,eM];omega);have aT:=Hd ST;have o:=Hd U;have HI:=Hd hi;have a6:64≤rc:=(by omega);clear X ST s Z hR g hb U hi aE ok h0;go_wp2_with fail;refine(aT.out).mono ?_;rintro e w' ⟨rfl,aH,J⟩;have aC:=Hd aH;have V:=Hd J;clear aH J
   by_cases h64e:rc=64
   ·subst h64e;obtain rfl:l=64:=(by omega);go_wp2_with fail;refine wp_goto ⟨rfl,⟨B,i+1,0,0,_,f,?c1,?c2,HR.out.only2 V.out (by omega),?c4,?c5,HB.out.trans (V.out.1.mono (by omega)),_,_,_,_,_,_,_,_,_,_,_,_,_,_,_,_,_,_,_,_,_,_,_,_,_,_,_,_,_,_,_,_,_,_,_,_,_,_,_,_,_,_,_,_,_,_,_,_,_,_,_,_,rfl⟩,?_⟩;case c1=>have:=HI.out;omega
    case c2=>rw[blocksN];exact aC.out
    case c4=>
     have e:P.drop (64*(i+1))=[]:=List.drop_eq_nil_of_le (by have:=HI.out;omega);rw[e];refine⟨some ⟨bb,oo,none⟩,0,rfl,lR,by unfold maxLen;omega,.inr ⟨bb,oo,rfl,fun j u hu=> ?_⟩⟩;simp[bvs]at hu
    case c5=>intro a e;simp only[Option.some.injEq]at e;subst e;exact o.out _ rfl
    show 0<64;omega
   ·go_wp2_with fail;refine wp_goto ⟨rfl,⟨B,i+1,l-64,rc-64,_,f,?d1,?d2,HR.out.only2 V.out (by omega),?d4,?d5,HB.out.trans (V.out.1.mono (by omega)),_,_,_,_,_,_,_,_,_,_,_,_,_,_,_,_,_,_,_,_,_,_,_,_,_,_,_,_,_,_,_,_,_,_,_,_,_,_,_,_,_,_,_,_,_,_,_,_,_,_,_,_,rfl⟩,?_⟩;case d1=>have:=HI.out;omega
    case d2=>rw[blocksN];exact aC.out
    case d4=>
     have h1:Rd w' (.slice (some ⟨bb,oo,none⟩) l rc) (bvs (P.drop (64*i))):=aJ.out.onlyG V.out (fun a n c e=>by simp only[Value.slice.injEq,Option.some.injEq]at e;rw[←e.1];exact o.out _ rfl);have h2:=h1.sub 64 l (off':=oo+64) (n':=l-64) (cap':=rc-64) aL lR rfl rfl rfl;have e2:((bvs (P.drop (64*i))).take l).drop 64=bvs (P.drop (64*(i+1))):=by
      rw[bY (by rw[bvs_len,eM];have:=HI.out;omega)];simp[bvs,List.map_drop,List.drop_drop,Nat.mul_add]
     rw[e2]at h2;exact h2
    case d5=>intro a e;simp only[Option.some.injEq]at e;subst e;exact o.out ⟨bb,oo,none⟩ rfl
    show l-64<l;omega
  ·obtain rfl:l=0:=(by omega);obtain⟨S,aA⟩:=eX (blocksN P HL0 i);have ok:=blocksN_ok P HL0_len HL0_lt i;rw[←aA]at ok Z;obtain⟨SA,Y⟩:=eX (Hp S);rw[←Y]at Z;have HS:=Hd Z;have aY:=Hd aA;have R:=Hd Y;have HI:=Hd hi;clear Z hR g hb U hi aA Y h0 aJ;have bC:=Hd (show SA.toList.all (·.oneCell')=true by rw[R.out,Array.all_toList];exact Ft S);have aU:=Hd (show(Tryz.prog.info? 244).map (·.size)=some SA.size by rw[R.out];exact Zg9 S ok.1);go_wp2_with (refine wpList_load_row rfl 244 (.tmp 3) rfl B rfl 244 SA (0,0) _ (HS.out.alloc _) Tryz.underlying244 rfl aU.out ?_);have N0:=Hd (show Blk (A.alloc (.cells Z32a 224)) A.heap.size 224 (bvs (Za6 S 0)).toArray by rw[Zdl];exact Blk.new A _ _);have A0:=Hd (show Below A.heap.size A (A.alloc (.cells Z32a 224))from bR.alloc lR _);obtain⟨wa,aS⟩:=eX (A.alloc (.cells Z32a 224));rw[←aS]at N0 A0⊢;have E:=N0.out.lt;obtain⟨po,Q⟩:=eX A.heap.size;have N:=HR.out.lt;rw[←Q]at N0 A0 E N⊢;have a9:=Hd Q;clear aS Q
   go_loopg [24] 8 (fun q iv wr=>∃t:Nat,t+q=8∧iv=.int .i64 (t:Nat)∧Blk wr po 224 (bvs (Za6 S t)).toArray∧Below po A wr)
   case atStart=>exact⟨0,rfl,rfl,N0.out,A0.out⟩
   case round=>
    obtain⟨t,ht,rfl,M,J⟩:=hrel;have HT:=Hd ht;have H:=Hd M;have V:=Hd J
    by_cases E:t<8
    ·have a7:decide ((t:Int)<8)=true:=(by rw[decide_eq_true_iff];omega);have hx:=getD_lt32 ok.2 t;obtain⟨x,D⟩:=eX (S.getD t 0);rw[←D]at hx;have q1:SA[t]? =some (.int .u32 (x:Nat)):=(by rw[R.out,D];exact Ez (by omega));have HX:=Hd D;have hi:=fun w=>Qh (P:=Tryz.prog) w Tryz.underlying244 rfl Tryz.underlying231 (by kernel_rfl) SA .i64 t E _ q1;have f0:=M.frozen (4*t);have f1:=M.frozen (4*t+1);have f2:=M.frozen (4*t+2);have f3:=M.frozen (4*t+3);have z:=fun(j:Nat) (hj:j<32)=>Zdn (S:=S) (t:=t) M hj;obtain⟨y0,bF⟩:=z (4*t) (by omega);obtain⟨y1,a8⟩:=z (4*t+1) (by omega);obtain⟨y2,bH⟩:=z (4*t+2) (by omega);obtain⟨y3,bE⟩:=z (4*t+3) (by omega);clear ht M J D q1 z;go_wp2_with fail;go_roundg (gk-1);case measure=>have:=HT.out;omega
     case rel=>
      refine⟨t+1,by have:=HT.out;omega,by go_num,?_,?_⟩
      ·have e:=Zdm S E HX.out;rw[show x/16777216%256=x/16777216 from Nat.mod_eq_of_lt (by omega)]at e;rw[←e,←Rc,←Rc,←Rc,←Rc];exact(((H.out.set _ _).set _ _).set _ _).set _ _
      ·exact(((V.out.setCell (by simp) _).setCell (by simp) _).setCell (by simp) _).setCell (by simp) _
    ·obtain rfl:t=8:=(by omega);rw[Re ok.1]at H;obtain⟨OA,k⟩:=eX ((bvs ((S.map (beN 4)).flatten)).toArray);rw[←k]at H;have p:((S.map (beN 4)).flatten).length=32:=(by rw[←Re ok.1,Ij]);have OI:=Hd (show(Tryz.prog.info? 224).map (·.size)=some OA.size by rw[k];simp only[fA,bvs_len,p];kernel_rfl);have OO:=Hd (show OA.all (·.oneCell')=true by rw[k];simp[bvs,Value.oneCell']);have OZ:=Hd (show Z32a.size=OA.size by rw[k];simp only[fA,bvs_len,p];kernel_rfl);have RR:=Hd (show Blk wr w.heap.size 224 Z32a from HR.out.below J N);have aV:=Hd (HB.out.trans (J.mono (Nat.le_of_lt N)));have a4:=Hd k;clear ht M J k p;go_wp2_with (first|(refine wpList_load_row rfl 224 (.tmp 5) rfl po rfl 224 OA (0,0) _ H.out Tryz.underlying224 rfl OI.out ?_)|(refine wpList_store_row rfl 224 (.tmp 2) (.tmp 55) rfl w.heap.size OA rfl rfl 224 Z32a RR.out OI.out OZ.out OO.out ?_));simp only[Exit.jump];refine bodyPost_ret (results_cell_row rfl _ _ w.heap.size 224 OA (0,0) _ rfl (setRow_heap _ _ _ _ _ _ RR.out) Tryz.underlying224 rfl OI.out) rfl ⟨?_,?_⟩
     ·rw[a4.out,aY.out,aQ.out];have e:i=(padL L).length/64:=(by have:=HI.out;rw[aQ.out]at this;omega);rw[shaF,e]
     ·exact aV.out.trans (OnlyG.setRow w.heap.size _).1
 ·intro hJ;have HJ:=Hd hJ;clear hJ;go_wp2_with fail;refine(aW.out _).mono ?_;rintro e F ⟨rfl,y⟩;have ez:(w.alloc (.cells Z32a 224)).heap.size=w.heap.size+1:=(by simp);rw[ez]at y;have R1:=Hd (show Blk F w.heap.size 224 Z32a from(Blk.new w _ _).below y (by omega));have I:=Hd (((Below.refl w.heap.size w).alloc lR (.cells Z32a 224)).trans (y.mono (by omega)));have bB:w.heap.size+1≤F.heap.size:=(by have:=y.size;rw[ez]at this;exact this);have N1:=Hd (Blk.new F 244 Z8a);clear y;go_wp2_with (refine Aa rfl 244 (.tmp 3) (.tmp 8) rfl F.heap.size HA rfl rfl 244 Z8a N1.out IH.out ZH.out OH.out ?_);intro w2 m0 mb mo aR;have S2:=Hd m0;have C:=Hd ((I.out.alloc I.out.size (.cells Z8a 244)).trans ((mb F.heap.size lR).mono I.out.size));have R2:=Hd ((R1.out.alloc (.cells Z8a 244)).below (mb F.heap.size lR) (by omega));have a3:F.heap.size<w2.heap.size:=(by have:w2.heap.size=F.heap.size+1:=(by simpa using aR);omega);obtain⟨B,f⟩:=eX F.heap.size;have aN:w.heap.size<B:=(by omega);rw[←f]at S2 a3;rw[←f];clear m0 mb mo aR N1 R1 I f;go_wp2_with fail;refine(aX.out w2 C.out).mono ?_;rintro e w3 ⟨cv,rfl,b,aO⟩;obtain⟨y1,y2,y3,rfl⟩:=Ey b;have aD:=Hd b;have aB:=Hd aO;clear b aO;go_wp2_with fail;refine(a1.out w3).mono ?_;rintro e w4 ⟨tv,rfl,b,T⟩;obtain⟨x1,x2,x3,rfl⟩:=Ey b;have aG:=Hd b.rd;have aP:=Hd (aD.out.below T lR);have m:=Hd (aB.out.trans (T.mono aB.out.size));clear b T aD aB;go_wp2_with (at_builtin;refine At rfl (.tmp 10) (.tmp 13) 28 rfl w2.heap.size 5 _ 1 Bu _ (bvs L) rfl aP.out _ (bvs (tailL n)) rfl aG.out (Bp _) ?c2 ?c3 ?_);case c2=>
   have e:=congrArg List.length aK.out;rw[aI,bvs_len P]at e;omega
  case c3=>exact m.out.size
  rintro rv w5 b-G;rw[aK.out]at b;obtain⟨z1,z2,z3,rfl⟩:=Ey b;have aM:=Hd b.rd;have o:=Hd (show∀a n c,Value.slice z1 z2 z3=.slice (some a) n c→a.block≠B from fun a n' c' e=>by
   simp only[Value.slice.injEq]at e;obtain⟨rfl,rfl,rfl⟩:=e;rcases b.2 with⟨e,_⟩|⟨gg,cp,bA,e,hg,_⟩
   ·cases e
   ·simp only[Value.slice.injEq,Option.some.injEq]at e;rw[e.1];show gg≠B
    omega)
  have S5:=Hd ((show Blk w2 B 244 HA from S2.out).below (m.out.trans G) (by omega));have R5:=Hd (R2.out.below (m.out.trans G) R2.out.lt);have a2:=Hd (C.out.trans ((m.out.trans G).mono C.out.size));clear b G aP aG m S2 R2 C;go_wp2_with fail;go_step3;simp only[Exit.then]
  apply_assumption
  refine HJ.out _ _ ⟨B,0,z2,z3,z1,aN,?_,?_,R5.out,?_,?_,a2.out,_,_,_,_,_,_,_,_,_,_,_,_,_,_,_,_,_,_,_,_,_,_,_,_,_,_,_,_,_,_,_,_,_,_,_,_,_,_,_,_,_,_,_,_,_,_,_,_,_,_,_,_,rfl⟩
  ·obtain⟨a',c',e,-,-,-⟩:=aM.out;simp only[Value.slice.injEq]at e;rw[e.2.1,bvs_len];rfl
  ·have e:blocksN P HL0 0=HL0:=rfl;rw[e];have:=S5.out;rw[aZ.out]at this;exact this
  ·exact aM.out
  ·intro a e;exact o.out a _ _ (by rw[e])
end Go.Proofs.YtfofaiommeckbaaGreat
namespace Go.Proofs.YtfofaiommeckbaaGreat
open Go.RowKit WireM
def Rf (d:LeafD):Bool:=rlB d.box.length d.sign.length d.ident.length d.source d.par.length d.sig.length
end Go.Proofs.YtfofaiommeckbaaGreat
namespace Go.Proofs.YtfofaiommeckbaaGreat
open Go.RowKit
end Go.Proofs.YtfofaiommeckbaaGreat
