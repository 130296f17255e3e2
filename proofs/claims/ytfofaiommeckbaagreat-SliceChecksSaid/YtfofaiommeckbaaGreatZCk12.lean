import Derived.Test.YtfofaiommeckbaaGreatZCk09
open Go.Obj renaming cells -> rJ
open Go.Ending renaming returned -> rK
open Go.Value renaming slice -> rC, int -> rD, pointer -> rE
open Option renaming none -> rI
open Go.Proofs.Tryz
open List renaming replicate -> eK, length_append -> bA, length_replicate -> fE, append_assoc -> cY, length_take -> cQ, take_of_length_le -> cP, range_succ -> fF, getD_eq_getElem?_getD -> aS, length_set -> eL, length_drop -> dZ, size_toArray -> fG
set_option linter.unusedVariables false
set_option maxRecDepth 100000
set_option maxHeartbeats 40000000
namespace Go.Proofs.YtfofaiommeckbaaGreat
open Go.RowKit WireM
def Lh (d:LeafD):Bool:=rlB d.box.length d.sign.length d.ident.length d.source d.par.length d.sig.length
open ShaM
theorem Ua (L:List Nat)(n:Nat):bvs (L++[n])=bvs L++[rD .u8 (n:Int)]:=by simp[bvs]
theorem Zl0 (n v:Nat):∀i j,j<i->(beN i v)[j]? =some (v/256^(i-1-j)%256):=by
 intro i
 induction i with
 |zero=>intro j h;omega
 |succ i ih=>
  intro j h;rw[beN];cases j with
  |zero=>simp
  |succ j=>rw[List.getElem?_cons_succ,ih j (by omega),show i+1-1-(j+1)=i-1-j by omega]
theorem Zm7 {w:World} {B:Nat} {e:TypeId} {v:Value} {xs:List Value}(h:Own w B e v xs)(n:Nat)(hn:xs.length=n):∃a c,v=.slice a n c:=by
 obtain⟨a,c,e,_⟩:=h.rd;exact⟨a,c,by rw[e,hn]⟩
theorem Zl1 {w:World} {u:Value} {e:TypeId} {N:Nat}(hN:N=w.heap.size):(w.alloc (rJ #[u] e)).cell? ⟨N,0,rI⟩=some u:=by
 subst hN;rw[cell_of_row _ _ _ _ _ _ (heap_alloc_new w _)];rfl
theorem Zhq (n:Nat)(w:World)(hn:n<=1000000):
  Calls prog 232 #[rD .i64 (n:Nat)] w fun e w'=>∃v,e=rK v/\Own w' w.heap.size 5 v (bvs (tailL n))/\Below w.heap.size w w':=by
 obtain⟨Z,h⟩:=eX ((119-n%64)%64);have u:tailL n=([128]++eK Z 0)++beN 8 (8*n):=(by rw[tailL,<-h];simp);rw[u];have J:=Hd h;have O:=Hd (show Own (w.alloc (rJ #[rD .u8 128] 5)) w.heap.size 5 (rC (some ⟨w.heap.size,0,rI⟩) 1 1) (bvs ([128]++eK 0 0))from Own.full (cs:=#[rD .u8 128]) rfl lR (by unfold maxLen;simp) rfl);obtain⟨m,R⟩:=eX (8*n);rw[<-R];have aF:(n:Int)*8=(m:Int):=(by omega);have aG:IntKind.u64.wrap (n:Int)=(n:Int):=(by rw[IntKind.wrap_u64];omega);have aE:m<=8000000:=(by omega);clear u h R;go_in;go_wp2_with fail
 go_loopg [3] Z (fun q bv wr=>∃k:Nat,k+q=Z/\Own wr w.heap.size 5 bv (bvs ([128]++eK k 0))/\Below w.heap.size w wr)
 case atStart=>exact⟨0,by omega,O.out,bR.alloc lR _⟩
 case round=>
  obtain⟨k,hk,a,g⟩:=hrel;obtain⟨s1,s3,rfl⟩:=Zm7 a (1+k) (by rw[bvs_len,bA,fE];rfl);have F:=Hd hk;have G:=Hd a;have y:=Hd g;obtain⟨l,C⟩:=eX (1+k);rw[<-C];obtain⟨r,V⟩:=eX ((n+l)%64);have e1:((n:Int)+(l:Int))%64=(r:Int):=(by omega);have e2:Int.tmod ((n:Int)+(l:Int)) 64=(r:Int):=(by rw[Int.tmod_eq_emod_of_nonneg (by omega)];omega);have h:=J.out;have Q:l<=100:=(by omega);have o:=Hd C
  by_cases hlt:k<Z
  ·have t:((r:Int)==56)=false:=(by rw[qN];omega);have g2:((r:Int) !=56)=true:=(by rw[bne,t];rfl);clear a g hk h V C;go_wp2_with (at_builtin;refine An rfl (.tmp 12) (.tmp 13) 28 rfl w.heap.size 5 _ 1 Cq _ (bvs ([128]++eK k 0)) rfl (by rw[o.out];exact G.out.alloc _) ⟨wr.heap.size,0,rI⟩ (rD .u8 0) rfl (Zl1 rfl) rfl ?d2 ?d3 ?_);case d2=>have:=J.out;have:=F.out;rw[bvs_len,bA,fE];simp;omega
   case d3=>have:=y.out.size;simp;omega
   rintro N w4 a-b;have f:=Hd a;have d:=Hd ((y.out.alloc y.out.size (rJ #[rD .u8 0] 5)).trans b);clear a b;go_wp2_with fail;go_roundg (gk-1);case measure=>have:=F.out;omega
   case rel=>
    refine⟨k+1,by have:=F.out;omega,?_,d.out⟩;have:=f.out;rw[List.replicate_succ',<-cY,Ua];exact this
  ·obtain rfl:k=Z:=(by omega);have t:((r:Int)==56)=true:=(by rw[beq_iff_eq];omega);have g2:((r:Int) !=56)=false:=(by rw[bne,t];rfl);clear a g hk h V C;obtain⟨A,z⟩:=eX ([128]++eK k 0);have aB:A.length<=100:=(by have:=J.out;rw[z,bA,fE];simp;omega);have H:=Hd (show Own wr w.heap.size 5 (rC s1 l s3) (bvs (A++(beN 8 m).take 0)) by rw[List.take_zero,List.append_nil,z,o.out];exact G.out);have D:=Hd z;clear z G O;go_wp2_with fail;obtain⟨aA,rfl⟩:∃t,t=gk:=⟨_,rfl⟩;obtain⟨w1,rfl⟩:=eX wr
   go_loopg [3,4] 8 (fun q bv iv wr=>∃j:Nat,j+q=8/\iv=rD .i64 (7-(j:Int))/\Own wr w.heap.size 5 bv (bvs (A++(beN 8 m).take j))/\Below w.heap.size w wr)
   case atStart=>exact⟨0,rfl,rfl,H.out,y.out⟩
   case round=>
    obtain⟨j,L,rfl,a,g⟩:=hrel;have E:=Hd L;have s:=Hd a;have c:=Hd g;obtain⟨s4,s5,s6,rfl⟩:=Cx a
    by_cases hlt2:j<8
    ·obtain⟨i,K⟩:=eX (7-j);have P:(7:Int)-(j:Int)=(i:Int):=(by omega);rw[P];obtain⟨p,S⟩:=eX (8*i);have ep:8*(i:Int)=(p:Int):=(by omega);have U:p<64:=(by omega);have aD:i<8:=(by omega);obtain⟨x,hx⟩:=eX (m/256^i%256);have ev:(m:Int)/2^p%256=(x:Int):=by
      have M:256^i=2^(8*i):=(by rw[Nat.pow_mul]);rw[hx,S,M,Int.natCast_emod,Int.natCast_ediv,Int.natCast_pow]
      rfl
     have X:=Hd (show(beN 8 m).take (j+1)=(beN 8 m).take j++[x] by
      have:=Zl0 m m 8 j hlt2;rw[List.take_add_one,this,hx,K];rfl)
     obtain⟨T,B⟩:=eX (A++(beN 8 m).take j);have aC:T.length<=200:=(by rw[B,bA,cQ];omega);have Y:=Hd B;have I:=Hd (show Own wr w.heap.size 5 (rC s4 s5 s6) (bvs T) by rw[B];exact a);have W:=Hd K;clear a g L K S P hx s B;go_wp2_with (at_builtin;refine An rfl (.tmp 19) (.tmp 27) 28 rfl w.heap.size 5 _ 1 Cq _ (bvs T) rfl (I.out.alloc _) ⟨wr.heap.size,0,rI⟩ (rD .u8 (x:Nat)) rfl (Zl1 rfl) rfl ?f2 ?f3 ?_);case f2=>rw[bvs_len];omega
     case f3=>have:=c.out.size;simp;omega
     rintro N w4 a-b;have f:=Hd a;have d:=Hd ((c.out.alloc c.out.size (rJ #[rD .u8 (x:Nat)] 5)).trans b);clear a b;go_wp2_with fail;go_roundg (gk-1);case measure=>have:=E.out;omega
     case rel=>
      refine⟨j+1,by have:=E.out;omega,?_,?_,d.out⟩
      ·have:=W.out;have:=E.out;show Value.int .i64 ((i:Int)-1)=_
       congr 1
       omega
      ·rw[X.out,<-cY,<-Y.out,Ua];exact f.out
    ·obtain rfl:j=8:=(by omega);clear a g L;go_wp2_with fail;go_ret;refine⟨_,rfl,?_,c.out⟩;have:=s.out;rw[cP (by rw[beN_len];omega),D.out]at this;simpa using this
theorem Rd.onlyG {w w':World} {v:Value} {xs:List Value} {g:Nat}(h:Rd w v xs)(p:OnlyG g w w')(f:∀a n c,v=.slice (some a) n c->a.block≠g):Rd w' v xs:=by
 rcases h.lt with rfl|⟨b,i,cap,e,l⟩
 ·obtain⟨a,c,e,h1,h2,h3⟩:=h;refine⟨a,c,e,h1,h2,.inl ⟨rfl,?_⟩⟩;rcases h3 with⟨_,h3⟩|⟨b,i,h3,_⟩
  ·exact h3
  ·intro h;rw[h3]at h;cases h
 ·obtain⟨a,c,d,h1,h2,h3⟩:=h;rw[e]at d;simp only[Value.slice.injEq]at d;obtain⟨rfl,-,rfl⟩:=d;refine⟨_,cap,e,h1,h2,?_⟩;rcases h3 with⟨h3,_⟩|⟨k,off',h3,m⟩
  ·exact .inl ⟨h3,fun h=>by cases h⟩
  ·refine .inr ⟨k,off',h3,fun j u q=> ?_⟩;simp only[Option.some.injEq,Addr.mk.injEq,and_true]at h3;obtain⟨rfl,rfl⟩:=h3;have o:=p.2.2 b l (f _ _ _ e);have:=m j u q;unfold World.cell? at this|-;simp only[o];exact this
theorem Zdi (L:List Nat)(k:Nat):bvs (L.take k)=(bvs L).take k:=by simp[bvs,List.map_take]
theorem Rd.pre {w:World} {a:Option Addr} {n c:Nat} {xs:List Value}(h:Rd w (rC a n c) xs)(k:Nat)(hk:k<=n):Rd w (rC a k c) (xs.take k):=by
 obtain⟨m,cap,e,o,i,l⟩:=h;simp only[Value.slice.injEq]at e;obtain⟨rfl,rfl,rfl⟩:=e;have g:(xs.take k).length=k:=(by rw[cQ];omega);refine⟨a,c,by rw[g],by rw[g];omega,i,?_⟩;rcases l with⟨rfl,q⟩|⟨b,f,rfl,q⟩
 ·exact .inl ⟨by simp,q⟩
 ·refine .inr ⟨b,f,rfl,fun j u d=>q j u ?_⟩;rw[List.getElem?_take]at d
  split at d
  ·exact d
  ·cases d
theorem Rd.cap {w:World} {a:Option Addr} {n c:Nat} {xs:List Value}(h:Rd w (rC a n c) xs):n<=c/\c<=maxLen:=by
 obtain⟨a',cap,e,q1,q2,_⟩:=h;simp only[Value.slice.injEq]at e;exact⟨by omega,by omega⟩
def Znj:Value->Nat
 | .slice _ n _=>n
 |_=>0
def Znk (B:Nat)(P:List Nat)(Z:Array Value)(a0:Option Addr)(n c0:Nat)(w:World)(a':Act)(w':World):Prop:=
 ∃(ps i rl rc:Nat) (ra:Option Addr),B<ps/\rl+64*i=P.length/\Blk w' ps 244 (Hg (blocksN P HL0 i))/\Blk w' B 224 Z/\Rd w' (rC ra rl rc) (bvs (P.drop (64*i)))/\(∀a,ra=some a->a.block≠ps)/\Below B w w'/\
  ∃(x1 x5 x6 x7 x8 x9 x10 x11 x12 x13 x14 x15 x16 x17 x18 x19 x20 x21 x22 x23 x24 x25 x26 x27 x28 x29 x30 x31 x32 x33 x34 x35 x36 x37 x38 x39 x40 x41 x42 x43 x44 x45 x46 x47 x48 x49 x50 x51 x52 x53 x54 x55:Value),a'= {tmps:=#[rC a0 n c0,x1,rE (some ⟨B,0,rI⟩),rE (some ⟨ps,0,rI⟩),rC ra rl rc,x5,x6,x7,x8,x9,x10,x11,x12,x13,x14,x15,x16,x17,x18,x19,x20,x21,x22,x23,x24,x25,x26,x27,x28,x29,x30,x31,x32,x33,x34,x35,x36,x37,x38,x39,x40,x41,x42,x43,x44,x45,x46,x47,x48,x49,x50,x51,x52,x53,x54,x55],defers:=[]}
def Z32a:Array Value:=(bvs (eK 32 0)).toArray
theorem Zdj {b:List Nat}(h:∀x∈b,x<256):∀x∈padL b,x<256:=by
 intro x hx;rcases List.mem_append.1 hx with hx|hx
 ·exact h x hx
 ·rcases List.mem_cons.1 hx with rfl|hx
  ·omega
  ·rcases List.mem_append.1 hx with hx|hx
   ·rw[(List.mem_replicate.1 hx).2];omega
   ·exact beN_lt _ _ x hx
theorem Ub (b:List Nat):(padL b).length<=b.length+72:=by
 simp only[padL,tailL,bA,List.length_cons,fE,beN_len];omega
def Za7 (S:List Nat)(t:Nat):List Nat:=(List.range 32).map fun j=>if j<4*t then S.getD (j/4) 0/2^(8*(3-j%4))%256 else 0
theorem Zdk (S:List Nat):(bvs (Za7 S 0)).toArray=Z32a:=by simp[Za7,Z32a,bvs,fF]
theorem Ii (S:List Nat)(t:Nat):(Za7 S t).length=32:=by simp[Za7]
theorem Zhr (S:List Nat)(t:Nat) {j:Nat}(h:j<32):(Za7 S t).getD j 0=if j<4*t then S.getD (j/4) 0/2^(8*(3-j%4))%256 else 0:=by simp[Za7,aS,h]
theorem Zhs (l:List Nat)(i j x:Nat):(l.set i x).getD j 0=if i=j/\j<l.length then x else l.getD j 0:=by
 simp only[aS,List.getElem?_set]
 by_cases h:i=j
 ·subst h
  by_cases h2:i<l.length
  ·simp[h2]
  ·simp[h2]
 ·simp[h]
theorem Zdl (S:List Nat) {t:Nat}(h:t<8) {x:Nat}(hx:x=S.getD t 0):((((Za7 S t).set (4*t) (x/16777216%256)).set (4*t+1) (x/65536%256)).set (4*t+2) (x/256%256)).set (4*t+3) (x%256)=Za7 S (t+1):=by
 refine Kj (by simp[Ii]) fun j a=> ?_;simp only[eL,Ii]at a;simp only[Zhs,eL,Ii,Zhr S _ a]
 by_cases h0:j<4*t
 ·rw[iN (by omega),iN (by omega),iN (by omega),iN (by omega),iP h0,iP (by omega)]
 ·by_cases h4:j<4*(t+1)
  ·have e:j/4=t:=(by omega);rw[iP h4,e,<-hx];obtain e|e|e|e:j=4*t\/j=4*t+1\/j=4*t+2\/j=4*t+3:=by omega
   ·rw[iN (by omega),iN (by omega),iN (by omega),iP (by omega),show j%4=0 by omega]
   ·rw[iN (by omega),iN (by omega),iP (by omega),show j%4=1 by omega]
   ·rw[iN (by omega),iP (by omega),show j%4=2 by omega]
   ·rw[iP (by omega),show j%4=3 by omega];simp
  ·rw[iN (by omega),iN (by omega),iN (by omega),iN (by omega),iN h0,iN h4]
theorem Zdm {S:List Nat} {t g:Nat} {w:World} {ty:TypeId}(h:Blk w g ty (bvs (Za7 S t)).toArray) {j:Nat}(hj:j<32):∃u,w.cell? ⟨g,j,rI⟩=some u:=by
 rw[h.cell];exact⟨_,Array.getElem?_eq_getElem (by simpa [bvs,Ii]using hj)⟩
theorem Rw (L:List Nat)(i n:Nat):(bvs L).toArray.setIfInBounds i (rD .u8 (n:Int))=(bvs (L.set i n)).toArray:=by
 simp[bvs,List.map_set]
theorem Rx {S:List Nat}(h:S.length=8):Za7 S 8=(S.map (beN 4)).flatten:=by
 match S,h with
 |[a,b,c,d,e,f,g,k],_=>simp[Za7,fF,beN]
theorem Zht (v:Value)(L:List Nat)(w:World)(h:Rd w v (bvs L))(hL:∀x∈L,x<256)(hl:L.length<=1000000):
  Calls prog 198 #[v] w fun e w'=>e=rK (.agg (bvs (shaF L)).toArray)/\Below w.heap.size w w':=by
 have hz:∀w,(zeroValue 224).run prog w=.ok (.agg Z32a) w:=fun _=>(by kernel_rfl);have bI:∀w,(zeroValue 244).run prog w=.ok (.agg Z8a) w:=fun _=>(by kernel_rfl);have BG:=fun(W:World)=>Zdc W;have CL:=fun(W:World) (hw:Below w.heap.size w W)=>Th v L W (h.below hw lR) (by omega);have TL:=fun(W:World)=>Zhq L.length W hl;have hv:∃a c,v=.slice a L.length c:=(by obtain⟨a,c,e,_⟩:=h;exact⟨a,c,by rw[e,bvs_len]⟩);obtain⟨a0,c0,rfl⟩:=hv;have a3:=padL_len L;have aO:=Zdj hL;have K:=Ub L;obtain⟨P,hP⟩:=eX (padL L);have R:bvs L++bvs (tailL L.length)=bvs P:=(by rw[hP,padL];simp[bvs]);rw[<-hP]at a3 aO K;obtain⟨HA,d⟩:=eX HLa;simp only[<-d]at BG;have IH:=Hd (show(prog.info? 244).map (·.size)=some HA.size by rw[d,HLa];exact Zhj HL0 rfl);have ZH:=Hd (show Z8a.size=HA.size by rw[d];unfold Z8a HLa;rw[Bm,Bm];rfl);have OH:=Hd (show HA.toList.all (·.oneCell')=true by rw[d,Array.all_toList];exact Fk HL0);obtain⟨n,hn⟩:=eX L.length;rw[<-hn]at CL TL R hl K|-;have aU:=Hd BG;have aW:=Hd CL;have a2:=Hd TL;have aE:=Hd R;have HN:=Hd hn;have aF:=Hd hP;have aS:=Hd d;clear BG CL TL R hn hP d h hL;go_in;go_wp2_with fail;refine Es 0 (Znk w.heap.size P Z32a a0 n c0 w) (fun ac _=>Znj (ac.tmps.getD 4 undef)) rfl ?_ ?_
 ·rintro ac B ⟨A,i,l,rc,ra,g,hi,T,hR,k,aA,hb,hf⟩
  iterate 52 (obtain⟨_,hf⟩:=hf)
  subst hf;have HS:=Hd T;have HR:=Hd hR;have aH:=Hd k;have HB:=Hd hb
  by_cases h0:0<l
  ·have aK:64<=l:=(by omega);have bF:=k.cap;have g0:decide (0<l)=true:=dT h0;have aN:(bvs (P.drop (64*i))).length=l:=(by rw[bvs_len,dZ];omega);obtain⟨bb,oo,rfl,bE,Z⟩:=k.at3 (r:=0) (u:=(bvs (P.drop (64*i)))[0]'(by omega)) (List.getElem?_eq_getElem _);have ok:=blocksN_ok P HL0_len HL0_lt i;have z:=k.pre 64 aK;rw[<-Zdi]at z;have ST:=Zhk A _ (blocksN P HL0 i) ((P.drop (64*i)).take 64) B T ok.2 ok.1 z (fun x hx=>aO x (List.mem_of_mem_drop (List.mem_of_mem_take hx))) (by rw[cQ,dZ];omega);have a1:=Hd ST;have o:=Hd aA;have HI:=Hd hi;have a5:64<=rc:=(by omega);clear Z ST z T hR k hb aA hi aN ok h0;go_wp2_with fail;refine(a1.out).mono ?_;rintro e w' ⟨rfl,aL,J⟩;have aI:=Hd aL;have O:=Hd J;clear aL J
   by_cases h64e:rc=64
   ·subst h64e;obtain rfl:l=64:=(by omega);go_wp2_with fail;refine wp_goto ⟨rfl,⟨A,i+1,0,0,_,g,?c1,?c2,HR.out.only2 O.out (by omega),?c4,?c5,HB.out.trans (O.out.1.mono (by omega)),_,_,_,_,_,_,_,_,_,_,_,_,_,_,_,_,_,_,_,_,_,_,_,_,_,_,_,_,_,_,_,_,_,_,_,_,_,_,_,_,_,_,_,_,_,_,_,_,_,_,_,_,rfl⟩,?_⟩;case c1=>have:=HI.out;omega
    case c2=>rw[blocksN];exact aI.out
    case c4=>
     have e:P.drop (64*(i+1))=[]:=List.drop_eq_nil_of_le (by have:=HI.out;omega);rw[e];refine⟨some ⟨bb,oo,rI⟩,0,rfl,lR,by unfold maxLen;omega,.inr ⟨bb,oo,rfl,fun j u hu=> ?_⟩⟩;simp[bvs]at hu
    case c5=>intro a e;simp only[Option.some.injEq]at e;subst e;exact o.out _ rfl
    show 0<64;omega
   ·go_wp2_with fail;refine wp_goto ⟨rfl,⟨A,i+1,l-64,rc-64,_,g,?d1,?d2,HR.out.only2 O.out (by omega),?d4,?d5,HB.out.trans (O.out.1.mono (by omega)),_,_,_,_,_,_,_,_,_,_,_,_,_,_,_,_,_,_,_,_,_,_,_,_,_,_,_,_,_,_,_,_,_,_,_,_,_,_,_,_,_,_,_,_,_,_,_,_,_,_,_,_,rfl⟩,?_⟩;case d1=>have:=HI.out;omega
    case d2=>rw[blocksN];exact aI.out
    case d4=>
     have h1:Rd w' (rC (some ⟨bb,oo,rI⟩) l rc) (bvs (P.drop (64*i))):=aH.out.onlyG O.out (fun a n c e=>by simp only[Value.slice.injEq,Option.some.injEq]at e;rw[<-e.1];exact o.out _ rfl);have h2:=h1.sub 64 l (off':=oo+64) (n':=l-64) (cap':=rc-64) aK lR rfl rfl rfl;have e2:((bvs (P.drop (64*i))).take l).drop 64=bvs (P.drop (64*(i+1))):=by
      rw[cP (by rw[bvs_len,dZ];have:=HI.out;omega)];simp[bvs,List.map_drop,List.drop_drop,Nat.mul_add]
     rw[e2]at h2;exact h2
    case d5=>intro a e;simp only[Option.some.injEq]at e;subst e;exact o.out ⟨bb,oo,rI⟩ rfl
    show l-64<l;omega
  ·obtain rfl:l=0:=(by omega);obtain⟨S,V⟩:=eX (blocksN P HL0 i);have ok:=blocksN_ok P HL0_len HL0_lt i;rw[<-V]at ok T;obtain⟨SA,U⟩:=eX (Hg S);rw[<-U]at T;have HS:=Hd T;have aZ:=Hd V;have Q:=Hd U;have HI:=Hd hi;clear T hR k hb aA hi V U h0 aH;have a7:=Hd (show SA.toList.all (·.oneCell')=true by rw[Q.out,Array.all_toList];exact Fk S);have aX:=Hd (show(prog.info? 244).map (·.size)=some SA.size by rw[Q.out];exact Zhj S ok.1);go_wp2_with (refine wpList_load_row rfl 244 (.tmp 3) rfl A rfl 244 SA (0,0) _ (HS.out.alloc _) underlying244 rfl aX.out ?_);have N0:=Hd (show Blk (B.alloc (.cells Z32a 224)) B.heap.size 224 (bvs (Za7 S 0)).toArray by rw[Zdk];exact Blk.new B _ _);have A0:=Hd (show Below B.heap.size B (B.alloc (.cells Z32a 224))from bR.alloc lR _);obtain⟨wa,aQ⟩:=eX (B.alloc (.cells Z32a 224));rw[<-aQ]at N0 A0|-;have G:=N0.out.lt;obtain⟨po,aB⟩:=eX B.heap.size;have Y:=HR.out.lt;rw[<-aB]at N0 A0 G Y|-;have bH:=Hd aB;clear aQ aB
   go_loopg [24] 8 (fun q iv wr=>∃t:Nat,t+q=8/\iv=rD .i64 (t:Nat)/\Blk wr po 224 (bvs (Za7 S t)).toArray/\Below po B wr)
   case atStart=>exact⟨0,rfl,rfl,N0.out,A0.out⟩
   case round=>
    obtain⟨t,ht,rfl,M,J⟩:=hrel;have HT:=Hd ht;have E:=Hd M;have O:=Hd J
    by_cases G:t<8
    ·have a6:decide ((t:Int)<8)=true:=(by rw[dI];omega);have hx:=getD_lt32 ok.2 t;obtain⟨x,H⟩:=eX (S.getD t 0);rw[<-H]at hx;have q1:SA[t]? =some (.int .u32 (x:Nat)):=(by rw[Q.out,H];exact Eo (by omega));have HX:=Hd H;have hi:=fun w=>Qx (P:=prog) w underlying244 rfl underlying231 (by kernel_rfl) SA .i64 t G _ q1;have f0:=M.frozen (4*t);have f1:=M.frozen (4*t+1);have f2:=M.frozen (4*t+2);have f3:=M.frozen (4*t+3);have y:=fun(j:Nat) (hj:j<32)=>Zdm (S:=S) (t:=t) M hj;obtain⟨y0,a8⟩:=y (4*t) (by omega);obtain⟨y1,a9⟩:=y (4*t+1) (by omega);obtain⟨y2,bB⟩:=y (4*t+2) (by omega);obtain⟨y3,bC⟩:=y (4*t+3) (by omega);clear ht M J H q1 y;go_wp2_with fail;go_roundg (gk-1);case measure=>have:=HT.out;omega
     case rel=>
      refine⟨t+1,by have:=HT.out;omega,by go_num,?_,?_⟩
      ·have e:=Zdl S G HX.out;rw[show x/16777216%256=x/16777216 from Nat.mod_eq_of_lt (by omega)]at e;rw[<-e,<-Rw,<-Rw,<-Rw,<-Rw];exact(((E.out.set _ _).set _ _).set _ _).set _ _
      ·exact(((O.out.setCell (by simp) _).setCell (by simp) _).setCell (by simp) _).setCell (by simp) _
    ·obtain rfl:t=8:=(by omega);rw[Rx ok.1]at E;obtain⟨OA,f⟩:=eX ((bvs ((S.map (beN 4)).flatten)).toArray);rw[<-f]at E;have p:((S.map (beN 4)).flatten).length=32:=(by rw[<-Rx ok.1,Ii]);have OI:=Hd (show(prog.info? 224).map (·.size)=some OA.size by rw[f];simp only[fG,bvs_len,p];kernel_rfl);have OO:=Hd (show OA.all (·.oneCell')=true by rw[f];simp[bvs,Value.oneCell']);have OZ:=Hd (show Z32a.size=OA.size by rw[f];simp only[fG,bvs_len,p];kernel_rfl);have RR:=Hd (show Blk wr w.heap.size 224 Z32a from HR.out.below J Y);have aV:=Hd (HB.out.trans (J.mono (Nat.le_of_lt Y)));have aY:=Hd f;clear ht M J f p;go_wp2_with (first|(refine wpList_load_row rfl 224 (.tmp 5) rfl po rfl 224 OA (0,0) _ E.out underlying224 rfl OI.out ?_)|(refine wpList_store_row rfl 224 (.tmp 2) (.tmp 55) rfl w.heap.size OA rfl rfl 224 Z32a RR.out OI.out OZ.out OO.out ?_));simp only[Exit.jump];refine bodyPost_ret (results_cell_row rfl _ _ w.heap.size 224 OA (0,0) _ rfl (setRow_heap _ _ _ _ _ _ RR.out) underlying224 rfl OI.out) rfl ⟨?_,?_⟩
     ·rw[aY.out,aZ.out,aF.out];have e:i=(padL L).length/64:=(by have:=HI.out;rw[aF.out]at this;omega);rw[shaF,e]
     ·exact aV.out.trans (OnlyG.setRow w.heap.size _).1
 ·intro hJ;have HJ:=Hd hJ;clear hJ;go_wp2_with fail;refine(aU.out _).mono ?_;rintro e I ⟨rfl,s⟩;have ez:(w.alloc (.cells Z32a 224)).heap.size=w.heap.size+1:=(by simp);rw[ez]at s;have R1:=Hd (show Blk I w.heap.size 224 Z32a from(Blk.new w _ _).below s (by omega));have C:=Hd (((Below.refl w.heap.size w).alloc lR (.cells Z32a 224)).trans (s.mono (by omega)));have bG:w.heap.size+1<=I.heap.size:=(by have:=s.size;rw[ez]at this;exact this);have N1:=Hd (Blk.new I 244 Z8a);clear s;go_wp2_with (refine Aa rfl 244 (.tmp 3) (.tmp 8) rfl I.heap.size HA rfl rfl 244 Z8a N1.out IH.out ZH.out OH.out ?_);intro w2 m0 mb mo aR;have S2:=Hd m0;have D:=Hd ((C.out.alloc C.out.size (.cells Z8a 244)).trans ((mb I.heap.size lR).mono C.out.size));have R2:=Hd ((R1.out.alloc (.cells Z8a 244)).below (mb I.heap.size lR) (by omega));have a4:I.heap.size<w2.heap.size:=(by have:w2.heap.size=I.heap.size+1:=(by simpa using aR);omega);obtain⟨A,g⟩:=eX I.heap.size;have aP:w.heap.size<A:=(by omega);rw[<-g]at S2 a4;rw[<-g];clear m0 mb mo aR N1 R1 C g;go_wp2_with fail;refine(aW.out w2 D.out).mono ?_;rintro e w3 ⟨cv,rfl,b,aM⟩;obtain⟨y1,y2,y3,rfl⟩:=Cx b;have aC:=Hd b;have N:=Hd aM;clear b aM;go_wp2_with fail;refine(a2.out w3).mono ?_;rintro e w4 ⟨tv,rfl,b,X⟩;obtain⟨x1,x2,x3,rfl⟩:=Cx b;have aJ:=Hd b.rd;have aD:=Hd (aC.out.below X lR);have m:=Hd (N.out.trans (X.mono N.out.size));clear b X aC N;go_wp2_with (at_builtin;refine Ak rfl (.tmp 10) (.tmp 13) 28 rfl w2.heap.size 5 _ 1 Cq _ (bvs L) rfl aD.out _ (bvs (tailL n)) rfl aJ.out (Ch _) ?c2 ?c3 ?_);case c2=>
   have e:=congrArg List.length aE.out;rw[bA,bvs_len P]at e;omega
  case c3=>exact m.out.size
  rintro rv w5 b-F;rw[aE.out]at b;obtain⟨z1,z2,z3,rfl⟩:=Cx b;have aG:=Hd b.rd;have o:=Hd (show∀a n c,Value.slice z1 z2 z3=.slice (some a) n c->a.block≠A from fun a n' c' e=>by
   simp only[Value.slice.injEq]at e;obtain⟨rfl,rfl,rfl⟩:=e;rcases b.2 with⟨e,_⟩|⟨gg,cp,bD,e,hg,_⟩
   ·cases e
   ·simp only[Value.slice.injEq,Option.some.injEq]at e;rw[e.1];show gg≠A
    omega)
  have S5:=Hd ((show Blk w2 A 244 HA from S2.out).below (m.out.trans F) (by omega));have R5:=Hd (R2.out.below (m.out.trans F) R2.out.lt);have aT:=Hd (D.out.trans ((m.out.trans F).mono D.out.size));clear b F aD aJ m S2 R2 D;go_wp2_with fail;go_step3;simp only[Exit.then]
  apply_assumption
  refine HJ.out _ _ ⟨A,0,z2,z3,z1,aP,?_,?_,R5.out,?_,?_,aT.out,_,_,_,_,_,_,_,_,_,_,_,_,_,_,_,_,_,_,_,_,_,_,_,_,_,_,_,_,_,_,_,_,_,_,_,_,_,_,_,_,_,_,_,_,_,_,_,_,_,_,_,_,rfl⟩
  ·obtain⟨a',c',e,-,-,-⟩:=aG.out;simp only[Value.slice.injEq]at e;rw[e.2.1,bvs_len];rfl
  ·have e:blocksN P HL0 0=HL0:=rfl;rw[e];have:=S5.out;rw[aS.out]at this;exact this
  ·exact aG.out
  ·intro a e;exact o.out a _ _ (by rw[e])
end Go.Proofs.YtfofaiommeckbaaGreat
namespace Go.Proofs.YtfofaiommeckbaaGreat
open Go.RowKit
