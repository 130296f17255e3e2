import Derived.Test.YtfofaiommeckbaaGreatZSliceProves17
open Go.Value renaming slice → q9, int → rA, pointer → rB
open Option renaming none → rF
open Go.Proofs.Tryz
open List renaming replicate → cI, length_append → aG, length_replicate → eM, append_assoc → bW, length_take → cD, take_of_length_le → bU, range_succ → eG, getD_eq_getElem?_getD → aH, length_set → dP, length_drop → eE, size_toArray → eN
set_option linter.unusedVariables false
set_option maxRecDepth 100000
set_option maxHeartbeats 40000000
namespace Go.Proofs.YtfofaiommeckbaaGreat
open Go.RowKit WireM
def Ls (d:LeafD):Bool:=rlB d.box.length d.sign.length d.ident.length d.source d.par.length d.sig.length
open ShaM
theorem Uq (L:List Nat)(n:Nat):bvs (L++[n])=bvs L++[rA .u8 (n:Int)]:=by simp[bvs]
theorem Zmn (n v:Nat):∀i j,j<i→(beN i v)[j]? =some (v/256^(i-1-j)%256):=by
 intro i
 induction i with
 |zero=>intro j h;omega
 |succ i ih=>
  intro j h;rw[beN];cases j with
  |zero=>simp
  |succ j=>rw[List.getElem?_cons_succ,ih j (by omega),show i+1-1-(j+1)=i-1-j by omega]
theorem Znh {w:World} {B:Nat} {e:TypeId} {v:Value} {xs:List Value}(h:Own w B e v xs)(n:Nat)(hn:xs.length=n):∃a c,v=.slice a n c:=by
 obtain⟨a,c,e,_⟩:=h.rd;exact⟨a,c,by rw[e,hn]⟩
theorem Zmo {w:World} {u:Value} {e:TypeId} {N:Nat}(hN:N=w.heap.size):(w.alloc (.cells #[u] e)).cell? ⟨N,0,rF⟩=some u:=by
 subst hN;rw[cell_of_row _ _ _ _ _ _ (heap_alloc_new w _)];rfl
theorem Zic (n:Nat)(w:World)(hn:n≤1000000):
  Calls prog 232 #[rA .i64 (n:Nat)] w fun e w'=>∃v,e=.returned v∧Own w' w.heap.size 5 v (bvs (tailL n))∧Below w.heap.size w w':=by
 obtain⟨Z,h⟩:=eX ((119-n%64)%64);have s:tailL n=([128]++cI Z 0)++beN 8 (8*n):=(by rw[tailL,←h];simp);rw[s];have D:=Hd h;have O:=Hd (show Own (w.alloc (.cells #[rA .u8 128] 5)) w.heap.size 5 (q9 (some ⟨w.heap.size,0,rF⟩) 1 1) (bvs ([128]++cI 0 0))from Own.full (cs:=#[rA .u8 128]) rfl lR (by unfold maxLen;simp) rfl);obtain⟨m,S⟩:=eX (8*n);rw[←S];have aE:(n:Int)*8=(m:Int):=(by omega);have aC:IntKind.u64.wrap (n:Int)=(n:Int):=(by rw[IntKind.wrap_u64];omega);have Y:m≤8000000:=(by omega);clear s h S;go_enter func232,ntmps232;go_wp2_with fail
 go_loopg [3] Z (fun q bv wr=>∃k:Nat,k+q=Z∧Own wr w.heap.size 5 bv (bvs ([128]++cI k 0))∧Below w.heap.size w wr)
 case atStart=>exact⟨0,by omega,O.out,bR.alloc lR _⟩
 case round=>
  obtain⟨k,hk,a,g⟩:=hrel;obtain⟨s1,s3,rfl⟩:=Znh a (1+k) (by rw[bvs_len,aG,eM];rfl);have K:=Hd hk;have M:=Hd a;have z:=Hd g;obtain⟨l,B⟩:=eX (1+k);rw[←B];obtain⟨r,Q⟩:=eX ((n+l)%64);have e1:((n:Int)+(l:Int))%64=(r:Int):=(by omega);have e2:Int.tmod ((n:Int)+(l:Int)) 64=(r:Int):=(by rw[Int.tmod_eq_emod_of_nonneg (by omega)];omega);have h:=D.out;have U:l≤100:=(by omega);have u:=Hd B
  by_cases hlt:k<Z
  ·have t:((r:Int)==56)=false:=(by rw[beq_eq_false_iff_ne];omega);have g2:((r:Int) !=56)=true:=(by rw[bne,t];rfl);clear a g hk h Q B;go_wp2_with (at_builtin;refine An rfl (.tmp 12) (.tmp 13) 28 rfl w.heap.size 5 _ 1 Bz _ (bvs ([128]++cI k 0)) rfl (by rw[u.out];exact M.out.alloc _) ⟨wr.heap.size,0,rF⟩ (rA .u8 0) rfl (Zmo rfl) rfl ?d2 ?d3 ?_);case d2=>have:=D.out;have:=K.out;rw[bvs_len,aG,eM];simp;omega
   case d3=>have:=z.out.size;simp;omega
   rintro J W a-b;have f:=Hd a;have d:=Hd ((z.out.alloc z.out.size (.cells #[rA .u8 0] 5)).trans b);clear a b;go_wp2_with fail;go_roundg (gk-1);case measure=>have:=K.out;omega
   case rel=>
    refine⟨k+1,by have:=K.out;omega,?_,d.out⟩;have:=f.out;rw[List.replicate_succ',←bW,Uq];exact this
  ·obtain rfl:k=Z:=(by omega);have t:((r:Int)==56)=true:=(by rw[beq_iff_eq];omega);have g2:((r:Int) !=56)=false:=(by rw[bne,t];rfl);clear a g hk h Q B;obtain⟨A,y⟩:=eX ([128]++cI k 0);have aD:A.length≤100:=(by have:=D.out;rw[y,aG,eM];simp;omega);have L:=Hd (show Own wr w.heap.size 5 (q9 s1 l s3) (bvs (A++(beN 8 m).take 0)) by rw[List.take_zero,List.append_nil,y,u.out];exact M.out);have H:=Hd y;clear y M O;go_wp2_with fail;obtain⟨aB,rfl⟩:∃t,t=gk:=⟨_,rfl⟩;obtain⟨w1,rfl⟩:=eX wr
   go_loopg [3,4] 8 (fun q bv iv wr=>∃j:Nat,j+q=8∧iv=rA .i64 (7-(j:Int))∧Own wr w.heap.size 5 bv (bvs (A++(beN 8 m).take j))∧Below w.heap.size w wr)
   case atStart=>exact⟨0,rfl,rfl,L.out,z.out⟩
   case round=>
    obtain⟨j,F,rfl,a,g⟩:=hrel;have I:=Hd F;have o:=Hd a;have c:=Hd g;obtain⟨s4,X,s6,rfl⟩:=Dg a
    by_cases hlt2:j<8
    ·obtain⟨i,G⟩:=eX (7-j);have R:(7:Int)-(j:Int)=(i:Int):=(by omega);rw[R];obtain⟨p,V⟩:=eX (8*i);have ep:8*(i:Int)=(p:Int):=(by omega);have P:p<64:=(by omega);have aA:i<8:=(by omega);obtain⟨x,hx⟩:=eX (m/256^i%256);have ev:(m:Int)/2^p%256=(x:Int):=by
      have N:256^i=2^(8*i):=(by rw[Nat.pow_mul]);rw[hx,V,N,Int.natCast_emod,Int.natCast_ediv,Int.natCast_pow]
      rfl
     have HL:=Hd (show(beN 8 m).take (j+1)=(beN 8 m).take j++[x] by
      have:=Zmn m m 8 j hlt2;rw[List.take_add_one,this,hx,G];rfl)
     obtain⟨T,C⟩:=eX (A++(beN 8 m).take j);have aF:T.length≤200:=(by rw[C,aG,cD];omega);have HT:=Hd C;have E:=Hd (show Own wr w.heap.size 5 (q9 s4 X s6) (bvs T) by rw[C];exact a);have HI:=Hd G;clear a g F G V R hx o C;go_wp2_with (at_builtin;refine An rfl (.tmp 19) (.tmp 27) 28 rfl w.heap.size 5 _ 1 Bz _ (bvs T) rfl (E.out.alloc _) ⟨wr.heap.size,0,rF⟩ (rA .u8 (x:Nat)) rfl (Zmo rfl) rfl ?f2 ?f3 ?_);case f2=>rw[bvs_len];omega
     case f3=>have:=c.out.size;simp;omega
     rintro J W a-b;have f:=Hd a;have d:=Hd ((c.out.alloc c.out.size (.cells #[rA .u8 (x:Nat)] 5)).trans b);clear a b;go_wp2_with fail;go_roundg (gk-1);case measure=>have:=I.out;omega
     case rel=>
      refine⟨j+1,by have:=I.out;omega,?_,?_,d.out⟩
      ·have:=HI.out;have:=I.out;show Value.int .i64 ((i:Int)-1)=_
       congr 1
       omega
      ·rw[HL.out,←bW,←HT.out,Uq];exact f.out
    ·obtain rfl:j=8:=(by omega);clear a g F;go_wp2_with fail;go_ret;refine⟨_,rfl,?_,c.out⟩;have:=o.out;rw[bU (by rw[beN_len];omega),H.out]at this;simpa using this
theorem Rd.onlyG {w w':World} {v:Value} {xs:List Value} {g:Nat}(h:Rd w v xs)(o:OnlyG g w w')(f:∀a n c,v=.slice (some a) n c→a.block≠g):Rd w' v xs:=by
 rcases h.lt with rfl|⟨b,d,cap,e,q⟩
 ·obtain⟨a,c,e,h1,h2,h3⟩:=h;refine⟨a,c,e,h1,h2,.inl ⟨rfl,?_⟩⟩;rcases h3 with⟨_,h3⟩|⟨b,d,h3,_⟩
  ·exact h3
  ·intro h;rw[h3]at h;cases h
 ·obtain⟨a,c,i,h1,h2,h3⟩:=h;rw[e]at i;simp only[Value.slice.injEq]at i;obtain⟨rfl,-,rfl⟩:=i;refine⟨_,cap,e,h1,h2,?_⟩;rcases h3 with⟨h3,_⟩|⟨k,off',h3,m⟩
  ·exact .inl ⟨h3,fun h=>by cases h⟩
  ·refine .inr ⟨k,off',h3,fun j u p=> ?_⟩;simp only[Option.some.injEq,Addr.mk.injEq,and_true]at h3;obtain⟨rfl,rfl⟩:=h3;have l:=o.2.2 b q (f _ _ _ e);have:=m j u p;unfold World.cell? at this⊢;simp only[l];exact this
theorem Zd4 (L:List Nat)(k:Nat):bvs (L.take k)=(bvs L).take k:=by simp[bvs,List.map_take]
theorem Rd.pre {w:World} {a:Option Addr} {n c:Nat} {xs:List Value}(h:Rd w (q9 a n c) xs)(k:Nat)(hk:k≤n):Rd w (q9 a k c) (xs.take k):=by
 obtain⟨o,cap,e,m,i,l⟩:=h;simp only[Value.slice.injEq]at e;obtain⟨rfl,rfl,rfl⟩:=e;have g:(xs.take k).length=k:=(by rw[cD];omega);refine⟨a,c,by rw[g],by rw[g];omega,i,?_⟩;rcases l with⟨rfl,q⟩|⟨b,f,rfl,q⟩
 ·exact .inl ⟨by simp,q⟩
 ·refine .inr ⟨b,f,rfl,fun j u d=>q j u ?_⟩;rw[List.getElem?_take]at d
  split at d
  ·exact d
  ·cases d
theorem Rd.cap {w:World} {a:Option Addr} {n c:Nat} {xs:List Value}(h:Rd w (q9 a n c) xs):n≤c∧c≤maxLen:=by
 obtain⟨a',cap,e,q1,q2,_⟩:=h;simp only[Value.slice.injEq]at e;exact⟨by omega,by omega⟩
def Znt:Value→Nat
 | .slice _ n _=>n
 |_=>0
def Znu (B:Nat)(P:List Nat)(Z:Array Value)(a0:Option Addr)(n c0:Nat)(w:World)(a':Act)(w':World):Prop:=
 ∃(ps i rl rc:Nat) (ra:Option Addr),B<ps∧rl+64*i=P.length∧Blk w' ps 244 (Hz (blocksN P HL0 i))∧Blk w' B 224 Z∧Rd w' (q9 ra rl rc) (bvs (P.drop (64*i)))∧(∀a,ra=some a→a.block≠ps)∧Below B w w'∧
  ∃(x1 x5 x6 x7 x8 x9 x10 x11 x12 x13 x14 x15 x16 x17 x18 x19 x20 x21 x22 x23 x24 x25 x26 x27 x28 x29 x30 x31 x32 x33 x34 x35 x36 x37 x38 x39 x40 x41 x42 x43 x44 x45 x46 x47 x48 x49 x50 x51 x52 x53 x54 x55:Value),a'= {tmps:=#[q9 a0 n c0,x1,rB (some ⟨B,0,rF⟩),rB (some ⟨ps,0,rF⟩),q9 ra rl rc,x5,x6,x7,x8,x9,x10,x11,x12,x13,x14,x15,x16,x17,x18,x19,x20,x21,x22,x23,x24,x25,x26,x27,x28,x29,x30,x31,x32,x33,x34,x35,x36,x37,x38,x39,x40,x41,x42,x43,x44,x45,x46,x47,x48,x49,x50,x51,x52,x53,x54,x55],defers:=[]}
def Z32a:Array Value:=(bvs (cI 32 0)).toArray
theorem Zd5 {b:List Nat}(h:∀x∈b,x<256):∀x∈padL b,x<256:=by
 intro x hx;rcases List.mem_append.1 hx with hx|hx
 ·exact h x hx
 ·rcases List.mem_cons.1 hx with rfl|hx
  ·omega
  ·rcases List.mem_append.1 hx with hx|hx
   ·rw[(List.mem_replicate.1 hx).2];omega
   ·exact beN_lt _ _ x hx
theorem Ur (b:List Nat):(padL b).length≤b.length+72:=by
 simp only[padL,tailL,aG,List.length_cons,eM,beN_len];omega
def Zbp (S:List Nat)(t:Nat):List Nat:=(List.range 32).map fun j=>if j<4*t then S.getD (j/4) 0/2^(8*(3-j%4))%256 else 0
theorem Zd6 (S:List Nat):(bvs (Zbp S 0)).toArray=Z32a:=by simp[Zbp,Z32a,bvs,eG]
theorem Iz (S:List Nat)(t:Nat):(Zbp S t).length=32:=by simp[Zbp]
theorem Zid (S:List Nat)(t:Nat) {j:Nat}(h:j<32):(Zbp S t).getD j 0=if j<4*t then S.getD (j/4) 0/2^(8*(3-j%4))%256 else 0:=by simp[Zbp,aH,h]
theorem Zie (l:List Nat)(i j x:Nat):(l.set i x).getD j 0=if i=j∧j<l.length then x else l.getD j 0:=by
 simp only[aH,List.getElem?_set]
 by_cases h:i=j
 ·subst h
  by_cases h2:i<l.length
  ·simp[h2]
  ·simp[h2]
 ·simp[h]
theorem Zd7 (S:List Nat) {t:Nat}(h:t<8) {x:Nat}(hx:x=S.getD t 0):((((Zbp S t).set (4*t) (x/16777216%256)).set (4*t+1) (x/65536%256)).set (4*t+2) (x/256%256)).set (4*t+3) (x%256)=Zbp S (t+1):=by
 refine Kr (by simp[Iz]) fun j a=> ?_;simp only[dP,Iz]at a;simp only[Zie,dP,Iz,Zid S _ a]
 by_cases h0:j<4*t
 ·rw[if_neg (by omega),if_neg (by omega),if_neg (by omega),if_neg (by omega),if_pos h0,if_pos (by omega)]
 ·by_cases h4:j<4*(t+1)
  ·have e:j/4=t:=(by omega);rw[if_pos h4,e,←hx];obtain e|e|e|e:j=4*t∨j=4*t+1∨j=4*t+2∨j=4*t+3:=by omega
   ·rw[if_neg (by omega),if_neg (by omega),if_neg (by omega),if_pos (by omega),show j%4=0 by omega]
   ·rw[if_neg (by omega),if_neg (by omega),if_pos (by omega),show j%4=1 by omega]
   ·rw[if_neg (by omega),if_pos (by omega),show j%4=2 by omega]
   ·rw[if_pos (by omega),show j%4=3 by omega];simp
  ·rw[if_neg (by omega),if_neg (by omega),if_neg (by omega),if_neg (by omega),if_neg h0,if_neg h4]
theorem Zd8 {S:List Nat} {t g:Nat} {w:World} {ty:TypeId}(h:Blk w g ty (bvs (Zbp S t)).toArray) {j:Nat}(hj:j<32):∃u,w.cell? ⟨g,j,rF⟩=some u:=by
 rw[h.cell];exact⟨_,Array.getElem?_eq_getElem (by simpa [bvs,Iz]using hj)⟩
theorem Sd (L:List Nat)(i n:Nat):(bvs L).toArray.setIfInBounds i (rA .u8 (n:Int))=(bvs (L.set i n)).toArray:=by
 simp[bvs,List.map_set]
theorem Se {S:List Nat}(h:S.length=8):Zbp S 8=(S.map (beN 4)).flatten:=by
 match S,h with
 |[a,b,c,d,e,f,g,k],_=>simp[Zbp,eG,beN]
theorem Zif (v:Value)(L:List Nat)(w:World)(h:Rd w v (bvs L))(hL:∀x∈L,x<256)(hl:L.length≤1000000):
  Calls prog 198 #[v] w fun e w'=>e=.returned (.agg (bvs (shaF L)).toArray)∧Below w.heap.size w w':=by
 have hz:∀w,(zeroValue 224).run prog w=.ok (.agg Z32a) w:=fun _=>(by kernel_rfl);have bB:∀w,(zeroValue 244).run prog w=.ok (.agg Z8a) w:=fun _=>(by kernel_rfl);have BG:=fun(W:World)=>Zdt W;have CL:=fun(W:World) (hw:Below w.heap.size w W)=>Tl v L W (h.below hw lR) (by omega);have TL:=fun(W:World)=>Zic L.length W hl;have hv:∃a c,v=.slice a L.length c:=(by obtain⟨a,c,e,_⟩:=h;exact⟨a,c,by rw[e,bvs_len]⟩);obtain⟨a0,c0,rfl⟩:=hv;have aV:=padL_len L;have aS:=Zd5 hL;have M:=Ur L;obtain⟨P,hP⟩:=eX (padL L);have O:bvs L++bvs (tailL L.length)=bvs P:=(by rw[hP,padL];simp[bvs]);rw[←hP]at aV aS M;obtain⟨HA,d⟩:=eX HLa;simp only[←d]at BG;have IH:=Hd (show(prog.info? 244).map (·.size)=some HA.size by rw[d,HLa];exact Zhx HL0 rfl);have ZH:=Hd (show Z8a.size=HA.size by rw[d];unfold Z8a HLa;rw[Bq,Bq];rfl);have OH:=Hd (show HA.toList.all (·.oneCell')=true by rw[d,Array.all_toList];exact Gd HL0);obtain⟨n,hn⟩:=eX L.length;rw[←hn]at CL TL O hl M⊢;have aY:=Hd BG;have aU:=Hd CL;have aW:=Hd TL;have aR:=Hd O;have HN:=Hd hn;have aO:=Hd hP;have aX:=Hd d;clear BG CL TL O hn hP d h hL;go_enter func198,ntmps198;go_wp2_with fail;refine Fk 0 (Znu w.heap.size P Z32a a0 n c0 w) (fun ac _=>Znt (ac.tmps.getD 4 undef)) rfl ?_ ?_
 ·rintro ac A ⟨B,i,k,rc,ra,g,hi,Z,hR,l,N,hb,hf⟩
  iterate 52 (obtain⟨_,hf⟩:=hf)
  subst hf;have HS:=Hd Z;have HR:=Hd hR;have aN:=Hd l;have HB:=Hd hb
  by_cases h0:0<k
  ·have aJ:64≤k:=(by omega);have a9:=l.cap;have g0:decide (0<k)=true:=decide_eq_true h0;have aM:(bvs (P.drop (64*i))).length=k:=(by rw[bvs_len,eE];omega);obtain⟨bb,oo,rfl,bG,Y⟩:=l.at3 (r:=0) (u:=(bvs (P.drop (64*i)))[0]'(by omega)) (List.getElem?_eq_getElem _);have ok:=blocksN_ok P HL0_len HL0_lt i;have p:=l.pre 64 aJ;rw[←Zd4]at p;have ST:=Zhy B _ (blocksN P HL0 i) ((P.drop (64*i)).take 64) A Z ok.2 ok.1 p (fun x hx=>aS x (List.mem_of_mem_drop (List.mem_of_mem_take hx))) (by rw[cD,eE];omega);have a3:=Hd ST;have z:=Hd N;have HI:=Hd hi;have a6:64≤rc:=(by omega);clear Y ST p Z hR l hb N hi aM ok h0;go_wp2_with fail;refine(a3.out).mono ?_;rintro e w' ⟨rfl,aP,J⟩;have aH:=Hd aP;have X:=Hd J;clear aP J
   by_cases h64e:rc=64
   ·subst h64e;obtain rfl:k=64:=(by omega);go_wp2_with fail;refine wp_goto ⟨rfl,⟨B,i+1,0,0,_,g,?c1,?c2,HR.out.only2 X.out (by omega),?c4,?c5,HB.out.trans (X.out.1.mono (by omega)),_,_,_,_,_,_,_,_,_,_,_,_,_,_,_,_,_,_,_,_,_,_,_,_,_,_,_,_,_,_,_,_,_,_,_,_,_,_,_,_,_,_,_,_,_,_,_,_,_,_,_,_,rfl⟩,?_⟩;case c1=>have:=HI.out;omega
    case c2=>rw[blocksN];exact aH.out
    case c4=>
     have e:P.drop (64*(i+1))=[]:=List.drop_eq_nil_of_le (by have:=HI.out;omega);rw[e];refine⟨some ⟨bb,oo,rF⟩,0,rfl,lR,by unfold maxLen;omega,.inr ⟨bb,oo,rfl,fun j u hu=> ?_⟩⟩;simp[bvs]at hu
    case c5=>intro a e;simp only[Option.some.injEq]at e;subst e;exact z.out _ rfl
    show 0<64;omega
   ·go_wp2_with fail;refine wp_goto ⟨rfl,⟨B,i+1,k-64,rc-64,_,g,?d1,?d2,HR.out.only2 X.out (by omega),?d4,?d5,HB.out.trans (X.out.1.mono (by omega)),_,_,_,_,_,_,_,_,_,_,_,_,_,_,_,_,_,_,_,_,_,_,_,_,_,_,_,_,_,_,_,_,_,_,_,_,_,_,_,_,_,_,_,_,_,_,_,_,_,_,_,_,rfl⟩,?_⟩;case d1=>have:=HI.out;omega
    case d2=>rw[blocksN];exact aH.out
    case d4=>
     have h1:Rd w' (q9 (some ⟨bb,oo,rF⟩) k rc) (bvs (P.drop (64*i))):=aN.out.onlyG X.out (fun a n c e=>by simp only[Value.slice.injEq,Option.some.injEq]at e;rw[←e.1];exact z.out _ rfl);have h2:=h1.sub 64 k (off':=oo+64) (n':=k-64) (cap':=rc-64) aJ lR rfl rfl rfl;have e2:((bvs (P.drop (64*i))).take k).drop 64=bvs (P.drop (64*(i+1))):=by
      rw[bU (by rw[bvs_len,eE];have:=HI.out;omega)];simp[bvs,List.map_drop,List.drop_drop,Nat.mul_add]
     rw[e2]at h2;exact h2
    case d5=>intro a e;simp only[Option.some.injEq]at e;subst e;exact z.out ⟨bb,oo,rF⟩ rfl
    show k-64<k;omega
  ·obtain rfl:k=0:=(by omega);obtain⟨S,Q⟩:=eX (blocksN P HL0 i);have ok:=blocksN_ok P HL0_len HL0_lt i;rw[←Q]at ok Z;obtain⟨SA,aB⟩:=eX (Hz S);rw[←aB]at Z;have HS:=Hd Z;have a2:=Hd Q;have R:=Hd aB;have HI:=Hd hi;clear Z hR l hb N hi Q aB h0 aN;have bA:=Hd (show SA.toList.all (·.oneCell')=true by rw[R.out,Array.all_toList];exact Gd S);have a1:=Hd (show(prog.info? 244).map (·.size)=some SA.size by rw[R.out];exact Zhx S ok.1);go_wp2_with (refine wpList_load_row rfl 244 (.tmp 3) rfl B rfl 244 SA (0,0) _ (HS.out.alloc _) underlying244 rfl a1.out ?_);have N0:=Hd (show Blk (A.alloc (.cells Z32a 224)) A.heap.size 224 (bvs (Zbp S 0)).toArray by rw[Zd6];exact Blk.new A _ _);have A0:=Hd (show Below A.heap.size A (A.alloc (.cells Z32a 224))from bR.alloc lR _);obtain⟨wa,aF⟩:=eX (A.alloc (.cells Z32a 224));rw[←aF]at N0 A0⊢;have F:=N0.out.lt;obtain⟨po,aA⟩:=eX A.heap.size;have T:=HR.out.lt;rw[←aA]at N0 A0 F T⊢;have bI:=Hd aA;clear aF aA
   go_loopg [24] 8 (fun q iv wr=>∃t:Nat,t+q=8∧iv=rA .i64 (t:Nat)∧Blk wr po 224 (bvs (Zbp S t)).toArray∧Below po A wr)
   case atStart=>exact⟨0,rfl,rfl,N0.out,A0.out⟩
   case round=>
    obtain⟨t,ht,rfl,K,J⟩:=hrel;have HT:=Hd ht;have H:=Hd K;have X:=Hd J
    by_cases F:t<8
    ·have a7:decide ((t:Int)<8)=true:=(by rw[decide_eq_true_iff];omega);have hx:=getD_lt32 ok.2 t;obtain⟨x,D⟩:=eX (S.getD t 0);rw[←D]at hx;have q1:SA[t]? =some (.int .u32 (x:Nat)):=(by rw[R.out,D];exact Fa (by omega));have HX:=Hd D;have hi:=fun w=>Ri (P:=prog) w underlying244 rfl underlying231 (by kernel_rfl) SA .i64 t F _ q1;have f0:=K.frozen (4*t);have f1:=K.frozen (4*t+1);have f2:=K.frozen (4*t+2);have f3:=K.frozen (4*t+3);have o:=fun(j:Nat) (hj:j<32)=>Zd8 (S:=S) (t:=t) K hj;obtain⟨y0,bD⟩:=o (4*t) (by omega);obtain⟨y1,bF⟩:=o (4*t+1) (by omega);obtain⟨y2,bH⟩:=o (4*t+2) (by omega);obtain⟨y3,a8⟩:=o (4*t+3) (by omega);clear ht K J D q1 o;go_wp2_with fail;go_roundg (gk-1);case measure=>have:=HT.out;omega
     case rel=>
      refine⟨t+1,by have:=HT.out;omega,by go_num,?_,?_⟩
      ·have e:=Zd7 S F HX.out;rw[show x/16777216%256=x/16777216 from Nat.mod_eq_of_lt (by omega)]at e;rw[←e,←Sd,←Sd,←Sd,←Sd];exact(((H.out.set _ _).set _ _).set _ _).set _ _
      ·exact(((X.out.setCell (by simp) _).setCell (by simp) _).setCell (by simp) _).setCell (by simp) _
    ·obtain rfl:t=8:=(by omega);rw[Se ok.1]at H;obtain⟨OA,f⟩:=eX ((bvs ((S.map (beN 4)).flatten)).toArray);rw[←f]at H;have y:((S.map (beN 4)).flatten).length=32:=(by rw[←Se ok.1,Iz]);have OI:=Hd (show(prog.info? 224).map (·.size)=some OA.size by rw[f];simp only[eN,bvs_len,y];kernel_rfl);have OO:=Hd (show OA.all (·.oneCell')=true by rw[f];simp[bvs,Value.oneCell']);have OZ:=Hd (show Z32a.size=OA.size by rw[f];simp only[eN,bvs_len,y];kernel_rfl);have RR:=Hd (show Blk wr w.heap.size 224 Z32a from HR.out.below J T);have aZ:=Hd (HB.out.trans (J.mono (Nat.le_of_lt T)));have a5:=Hd f;clear ht K J f y;go_wp2_with (first|(refine wpList_load_row rfl 224 (.tmp 5) rfl po rfl 224 OA (0,0) _ H.out underlying224 rfl OI.out ?_)|(refine wpList_store_row rfl 224 (.tmp 2) (.tmp 55) rfl w.heap.size OA rfl rfl 224 Z32a RR.out OI.out OZ.out OO.out ?_));simp only[Exit.jump];refine bodyPost_ret (results_cell_row rfl _ _ w.heap.size 224 OA (0,0) _ rfl (setRow_heap _ _ _ _ _ _ RR.out) underlying224 rfl OI.out) rfl ⟨?_,?_⟩
     ·rw[a5.out,a2.out,aO.out];have e:i=(padL L).length/64:=(by have:=HI.out;rw[aO.out]at this;omega);rw[shaF,e]
     ·exact aZ.out.trans (OnlyG.setRow w.heap.size _).1
 ·intro hJ;have HJ:=Hd hJ;clear hJ;go_wp2_with fail;refine(aY.out _).mono ?_;rintro e E ⟨rfl,s⟩;have ez:(w.alloc (.cells Z32a 224)).heap.size=w.heap.size+1:=(by simp);rw[ez]at s;have R1:=Hd (show Blk E w.heap.size 224 Z32a from(Blk.new w _ _).below s (by omega));have I:=Hd (((Below.refl w.heap.size w).alloc lR (.cells Z32a 224)).trans (s.mono (by omega)));have bC:w.heap.size+1≤E.heap.size:=(by have:=s.size;rw[ez]at this;exact this);have N1:=Hd (Blk.new E 244 Z8a);clear s;go_wp2_with (refine Aa rfl 244 (.tmp 3) (.tmp 8) rfl E.heap.size HA rfl rfl 244 Z8a N1.out IH.out ZH.out OH.out ?_);intro w2 m0 mb mo aK;have S2:=Hd m0;have C:=Hd ((I.out.alloc I.out.size (.cells Z8a 244)).trans ((mb E.heap.size lR).mono I.out.size));have R2:=Hd ((R1.out.alloc (.cells Z8a 244)).below (mb E.heap.size lR) (by omega));have aT:E.heap.size<w2.heap.size:=(by have:w2.heap.size=E.heap.size+1:=(by simpa using aK);omega);obtain⟨B,g⟩:=eX E.heap.size;have aC:w.heap.size<B:=(by omega);rw[←g]at S2 aT;rw[←g];clear m0 mb mo aK N1 R1 I g;go_wp2_with fail;refine(aU.out w2 C.out).mono ?_;rintro e w3 ⟨cv,rfl,b,aL⟩;obtain⟨y1,y2,y3,rfl⟩:=Dg b;have aD:=Hd b;have U:=Hd aL;clear b aL;go_wp2_with fail;refine(aW.out w3).mono ?_;rintro e w4 ⟨tv,rfl,b,V⟩;obtain⟨x1,x2,x3,rfl⟩:=Dg b;have aQ:=Hd b.rd;have aI:=Hd (aD.out.below V lR);have m:=Hd (U.out.trans (V.mono U.out.size));clear b V aD U;go_wp2_with (at_builtin;refine Aj rfl (.tmp 10) (.tmp 13) 28 rfl w2.heap.size 5 _ 1 Bz _ (bvs L) rfl aI.out _ (bvs (tailL n)) rfl aQ.out (Bu _) ?c2 ?c3 ?_);case c2=>
   have e:=congrArg List.length aR.out;rw[aG,bvs_len P]at e;omega
  case c3=>exact m.out.size
  rintro rv w5 b-G;rw[aR.out]at b;obtain⟨z1,z2,z3,rfl⟩:=Dg b;have aE:=Hd b.rd;have z:=Hd (show∀a n c,Value.slice z1 z2 z3=.slice (some a) n c→a.block≠B from fun a n' c' e=>by
   simp only[Value.slice.injEq]at e;obtain⟨rfl,rfl,rfl⟩:=e;rcases b.2 with⟨e,_⟩|⟨gg,cp,bE,e,hg,_⟩
   ·cases e
   ·simp only[Value.slice.injEq,Option.some.injEq]at e;rw[e.1];show gg≠B
    omega)
  have S5:=Hd ((show Blk w2 B 244 HA from S2.out).below (m.out.trans G) (by omega));have R5:=Hd (R2.out.below (m.out.trans G) R2.out.lt);have a4:=Hd (C.out.trans ((m.out.trans G).mono C.out.size));clear b G aI aQ m S2 R2 C;go_wp2_with fail;go_step3;simp only[Exit.then]
  apply_assumption
  refine HJ.out _ _ ⟨B,0,z2,z3,z1,aC,?_,?_,R5.out,?_,?_,a4.out,_,_,_,_,_,_,_,_,_,_,_,_,_,_,_,_,_,_,_,_,_,_,_,_,_,_,_,_,_,_,_,_,_,_,_,_,_,_,_,_,_,_,_,_,_,_,_,_,_,_,_,_,rfl⟩
  ·obtain⟨a',c',e,-,-,-⟩:=aE.out;simp only[Value.slice.injEq]at e;rw[e.2.1,bvs_len];rfl
  ·have e:blocksN P HL0 0=HL0:=rfl;rw[e];have:=S5.out;rw[aX.out]at this;exact this
  ·exact aE.out
  ·intro a e;exact z.out a _ _ (by rw[e])
end Go.Proofs.YtfofaiommeckbaaGreat
namespace Go.Proofs.YtfofaiommeckbaaGreat
open Go.RowKit
end Go.Proofs.YtfofaiommeckbaaGreat
