import Derived.Test.YtfofaiommeckbaaGreatZTr11
open Go.Obj renaming cells -> rK
open Go.Ending renaming returned -> rM
open Go.Value renaming slice -> rD, int -> rE, pointer -> rF
open Option renaming none -> rJ
open Go.Proofs.Tryz
open List renaming replicate -> cJ, length_append -> aD, length_replicate -> fL, append_assoc -> cY, length_take -> bW, take_of_length_le -> bV, range -> aC, range_succ -> eH, getD_eq_getElem?_getD -> aE, length_set -> eW, length_drop -> eD, size_toArray -> fM, filterMap_cons -> dG, filterMap_nil -> dH, contains_cons -> dJ, contains_nil -> dK
open Array renaming all_toList -> fJ, length_toList -> eK
set_option linter.unusedVariables false
set_option maxRecDepth 100000
set_option maxHeartbeats 40000000
namespace Go.Proofs.YtfofaiommeckbaaGreat
open Go.RowKit WireM
def La (d:LeafD):Bool:=rlB d.box.length d.sign.length d.ident.length d.source d.par.length d.sig.length
open ShaM
theorem Ub (L:List Nat)(n:Nat):bvs (L++[n])=bvs L++[rE .u8 (n:Int)]:=by simp[bvs]
theorem Zmp (n v:Nat):∀i j,j<i->(beN i v)[j]? =some (v/256^(i-1-j)%256):=by
 intro i
 induction i with
 |zero=>intro j h;omega
 |succ i ih=>
  intro j h;rw[beN];cases j with
  |zero=>simp
  |succ j=>rw[List.getElem?_cons_succ,ih j (by omega),show i+1-1-(j+1)=i-1-j by omega]
theorem Znj {w:World} {B:Nat} {e:TypeId} {v:Value} {xs:List Value}(h:Own w B e v xs)(n:Nat)(hn:xs.length=n):∃a c,v=.slice a n c:=by
 obtain⟨a,c,e,_⟩:=h.rd;exact⟨a,c,by rw[e,hn]⟩
theorem Zmq {w:World} {u:Value} {e:TypeId} {N:Nat}(hN:N=w.heap.size):(w.alloc (rK #[u] e)).cell? ⟨N,0,rJ⟩=some u:=by
 subst hN;rw[cell_of_row _ _ _ _ _ _ (heap_alloc_new w _)];rfl
theorem Zin (n:Nat)(w:World)(hn:n<=1000000):
  Calls prog 232 #[rE .i64 (n:Nat)] w fun e w'=>∃v,e=rM v/\Own w' w.heap.size 5 v (bvs (tailL n))/\Below w.heap.size w w':=by
 obtain⟨Z,h⟩:=eX ((119-n%64)%64);have u:tailL n=([128]++cJ Z 0)++beN 8 (8*n):=(by rw[tailL,<-h];simp);rw[u];have J:=Hd h;have O:=Hd (show Own (w.alloc (rK #[rE .u8 128] 5)) w.heap.size 5 (rD (some ⟨w.heap.size,0,rJ⟩) 1 1) (bvs ([128]++cJ 0 0))from Own.full (cs:=#[rE .u8 128]) rfl lR (by unfold maxLen;simp) rfl);obtain⟨m,R⟩:=eX (8*n);rw[<-R];have aG:(n:Int)*8=(m:Int):=(by omega);have aH:IntKind.u64.wrap (n:Int)=(n:Int):=(by rw[IntKind.wrap_u64];omega);have aF:m<=8000000:=(by omega);clear u h R;go_in;go_wp2_with fail
 go_loopg [3] Z (fun q bv wr=>∃k:Nat,k+q=Z/\Own wr w.heap.size 5 bv (bvs ([128]++cJ k 0))/\Below w.heap.size w wr)
 case atStart=>exact⟨0,by omega,O.out,bR.alloc lR _⟩
 case round=>
  obtain⟨k,hk,a,g⟩:=hrel;obtain⟨s1,s3,rfl⟩:=Znj a (1+k) (by rw[bvs_len,aD,fL];rfl);have F:=Hd hk;have G:=Hd a;have y:=Hd g;obtain⟨l,C⟩:=eX (1+k);rw[<-C];obtain⟨r,V⟩:=eX ((n+l)%64);have e1:((n:Int)+(l:Int))%64=(r:Int):=(by omega);have e2:Int.tmod ((n:Int)+(l:Int)) 64=(r:Int):=(by rw[Int.tmod_eq_emod_of_nonneg (by omega)];omega);have h:=J.out;have Q:l<=100:=(by omega);have o:=Hd C
  by_cases hlt:k<Z
  ·have t:((r:Int)==56)=false:=(by rw[qN];omega);have g2:((r:Int) !=56)=true:=(by rw[bne,t];rfl);clear a g hk h V C;go_wp2_with (at_builtin;refine Bq rfl (.tmp 12) (.tmp 13) 28 rfl w.heap.size 5 _ 1 Ca _ (bvs ([128]++cJ k 0)) rfl (by rw[o.out];exact G.out.alloc _) ⟨wr.heap.size,0,rJ⟩ (rE .u8 0) rfl (Zmq rfl) rfl ?d2 ?d3 ?_);case d2=>have:=J.out;have:=F.out;rw[bvs_len,aD,fL];simp;omega
   case d3=>have:=y.out.size;simp;omega
   rintro N w4 a-b;have f:=Hd a;have d:=Hd ((y.out.alloc y.out.size (rK #[rE .u8 0] 5)).trans b);clear a b;go_wp2_with fail;go_roundg (gk-1);case measure=>have:=F.out;omega
   case rel=>
    refine⟨k+1,by have:=F.out;omega,?_,d.out⟩;have:=f.out;rw[List.replicate_succ',<-cY,Ub];exact this
  ·obtain rfl:k=Z:=(by omega);have t:((r:Int)==56)=true:=(by rw[beq_iff_eq];omega);have g2:((r:Int) !=56)=false:=(by rw[bne,t];rfl);clear a g hk h V C;obtain⟨A,z⟩:=eX ([128]++cJ k 0);have aB:A.length<=100:=(by have:=J.out;rw[z,aD,fL];simp;omega);have H:=Hd (show Own wr w.heap.size 5 (rD s1 l s3) (bvs (A++(beN 8 m).take 0)) by rw[List.take_zero,List.append_nil,z,o.out];exact G.out);have D:=Hd z;clear z G O;go_wp2_with fail;obtain⟨aA,rfl⟩:∃t,t=gk:=⟨_,rfl⟩;obtain⟨w1,rfl⟩:=eX wr
   go_loopg [3,4] 8 (fun q bv iv wr=>∃j:Nat,j+q=8/\iv=rE .i64 (7-(j:Int))/\Own wr w.heap.size 5 bv (bvs (A++(beN 8 m).take j))/\Below w.heap.size w wr)
   case atStart=>exact⟨0,rfl,rfl,H.out,y.out⟩
   case round=>
    obtain⟨j,L,rfl,a,g⟩:=hrel;have E:=Hd L;have s:=Hd a;have c:=Hd g;obtain⟨s4,s5,s6,rfl⟩:=Dr a
    by_cases hlt2:j<8
    ·obtain⟨i,K⟩:=eX (7-j);have P:(7:Int)-(j:Int)=(i:Int):=(by omega);rw[P];obtain⟨p,S⟩:=eX (8*i);have ep:8*(i:Int)=(p:Int):=(by omega);have U:p<64:=(by omega);have aE:i<8:=(by omega);obtain⟨x,hx⟩:=eX (m/256^i%256);have ev:(m:Int)/2^p%256=(x:Int):=by
      have M:256^i=2^(8*i):=(by rw[Nat.pow_mul]);rw[hx,S,M,Int.natCast_emod,Int.natCast_ediv,Int.natCast_pow]
      rfl
     have X:=Hd (show(beN 8 m).take (j+1)=(beN 8 m).take j++[x] by
      have:=Zmp m m 8 j hlt2;rw[List.take_add_one,this,hx,K];rfl)
     obtain⟨T,B⟩:=eX (A++(beN 8 m).take j);have aC:T.length<=200:=(by rw[B,aD,bW];omega);have Y:=Hd B;have I:=Hd (show Own wr w.heap.size 5 (rD s4 s5 s6) (bvs T) by rw[B];exact a);have W:=Hd K;clear a g L K S P hx s B;go_wp2_with (at_builtin;refine Bq rfl (.tmp 19) (.tmp 27) 28 rfl w.heap.size 5 _ 1 Ca _ (bvs T) rfl (I.out.alloc _) ⟨wr.heap.size,0,rJ⟩ (rE .u8 (x:Nat)) rfl (Zmq rfl) rfl ?f2 ?f3 ?_);case f2=>rw[bvs_len];omega
     case f3=>have:=c.out.size;simp;omega
     rintro N w4 a-b;have f:=Hd a;have d:=Hd ((c.out.alloc c.out.size (rK #[rE .u8 (x:Nat)] 5)).trans b);clear a b;go_wp2_with fail;go_roundg (gk-1);case measure=>have:=E.out;omega
     case rel=>
      refine⟨j+1,by have:=E.out;omega,?_,?_,d.out⟩
      ·have:=W.out;have:=E.out;show Value.int .i64 ((i:Int)-1)=_
       congr 1
       omega
      ·rw[X.out,<-cY,<-Y.out,Ub];exact f.out
    ·obtain rfl:j=8:=(by omega);clear a g L;go_wp2_with fail;go_ret;refine⟨_,rfl,?_,c.out⟩;have:=s.out;rw[bV (by rw[beN_len];omega),D.out]at this;simpa using this
theorem Rd.onlyG {w w':World} {v:Value} {xs:List Value} {g:Nat}(h:Rd w v xs)(q:OnlyG g w w')(i:∀a n c,v=.slice (some a) n c->a.block≠g):Rd w' v xs:=by
 rcases h.lt with rfl|⟨b,k,cap,e,m⟩
 ·obtain⟨a,c,e,f,h2,h3⟩:=h;refine⟨a,c,e,f,h2,.inl ⟨rfl,?_⟩⟩;rcases h3 with⟨_,h3⟩|⟨b,k,h3,_⟩
  ·exact h3
  ·intro h;rw[h3]at h;cases h
 ·obtain⟨a,c,d,f,h2,h3⟩:=h;rw[e]at d;simp only[Value.slice.injEq]at d;obtain⟨rfl,-,rfl⟩:=d;refine⟨_,cap,e,f,h2,?_⟩;rcases h3 with⟨h3,_⟩|⟨l,off',h3,o⟩
  ·exact .inl ⟨h3,fun h=>by cases h⟩
  ·refine .inr ⟨l,off',h3,fun j u r=> ?_⟩;simp only[Option.some.injEq,Addr.mk.injEq,and_true]at h3;obtain⟨rfl,rfl⟩:=h3;have p:=q.2.2 b m (i _ _ _ e);have:=o j u r;unfold World.cell? at this|-;simp only[p];exact this
theorem Zeh (L:List Nat)(k:Nat):bvs (L.take k)=(bvs L).take k:=by simp[bvs,List.map_take]
theorem Rd.pre {w:World} {a:Option Addr} {n c:Nat} {xs:List Value}(h:Rd w (rD a n c) xs)(k:Nat)(hk:k<=n):Rd w (rD a k c) (xs.take k):=by
 obtain⟨m,cap,e,o,i,l⟩:=h;simp only[Value.slice.injEq]at e;obtain⟨rfl,rfl,rfl⟩:=e;have g:(xs.take k).length=k:=(by rw[bW];omega);refine⟨a,c,by rw[g],by rw[g];omega,i,?_⟩;rcases l with⟨rfl,q⟩|⟨b,f,rfl,q⟩
 ·exact .inl ⟨by simp,q⟩
 ·refine .inr ⟨b,f,rfl,fun j u d=>q j u ?_⟩;rw[List.getElem?_take]at d
  split at d
  ·exact d
  ·cases d
theorem Rd.cap {w:World} {a:Option Addr} {n c:Nat} {xs:List Value}(h:Rd w (rD a n c) xs):n<=c/\c<=maxLen:=by
 obtain⟨a',cap,e,q1,q2,_⟩:=h;simp only[Value.slice.injEq]at e;exact⟨by omega,by omega⟩
def Znv:Value->Nat
 | .slice _ n _=>n
 |_=>0
def Znw (B:Nat)(P:List Nat)(Z:Array Value)(a0:Option Addr)(n c0:Nat)(w:World)(a':Act)(w':World):Prop:=
 ∃(ps i rl rc:Nat) (ra:Option Addr),B<ps/\rl+64*i=P.length/\Blk w' ps 244 (Ho (blocksN P HL0 i))/\Blk w' B 224 Z/\Rd w' (rD ra rl rc) (bvs (P.drop (64*i)))/\(∀a,ra=some a->a.block≠ps)/\Below B w w'/\
  ∃(x1 x5 x6 x7 x8 x9 x10 x11 x12 x13 x14 x15 x16 x17 x18 x19 x20 x21 x22 x23 x24 x25 x26 x27 x28 x29 x30 x31 x32 x33 x34 x35 x36 x37 x38 x39 x40 x41 x42 x43 x44 x45 x46 x47 x48 x49 x50 x51 x52 x53 x54 x55:Value),a'= {tmps:=#[rD a0 n c0,x1,rF (some ⟨B,0,rJ⟩),rF (some ⟨ps,0,rJ⟩),rD ra rl rc,x5,x6,x7,x8,x9,x10,x11,x12,x13,x14,x15,x16,x17,x18,x19,x20,x21,x22,x23,x24,x25,x26,x27,x28,x29,x30,x31,x32,x33,x34,x35,x36,x37,x38,x39,x40,x41,x42,x43,x44,x45,x46,x47,x48,x49,x50,x51,x52,x53,x54,x55],defers:=[]}
def Z32a:Array Value:=(bvs (cJ 32 0)).toArray
theorem Zei {b:List Nat}(h:∀x∈b,x<256):∀x∈padL b,x<256:=by
 intro x hx;rcases List.mem_append.1 hx with hx|hx
 ·exact h x hx
 ·rcases List.mem_cons.1 hx with rfl|hx
  ·omega
  ·rcases List.mem_append.1 hx with hx|hx
   ·rw[(List.mem_replicate.1 hx).2];omega
   ·exact beN_lt _ _ x hx
theorem Uc (b:List Nat):(padL b).length<=b.length+72:=by
 simp only[padL,tailL,aD,List.length_cons,fL,beN_len];omega
def Zbq (S:List Nat)(t:Nat):List Nat:=(aC 32).map fun j=>if j<4*t then S.getD (j/4) 0/2^(8*(3-j%4))%256 else 0
theorem Zej (S:List Nat):(bvs (Zbq S 0)).toArray=Z32a:=by simp[Zbq,Z32a,bvs,eH]
theorem Ih (S:List Nat)(t:Nat):(Zbq S t).length=32:=by simp[Zbq]
theorem Zio (S:List Nat)(t:Nat) {j:Nat}(h:j<32):(Zbq S t).getD j 0=if j<4*t then S.getD (j/4) 0/2^(8*(3-j%4))%256 else 0:=by simp[Zbq,aE,h]
theorem Zip (l:List Nat)(i j x:Nat):(l.set i x).getD j 0=if i=j/\j<l.length then x else l.getD j 0:=by
 simp only[aE,List.getElem?_set]
 by_cases h:i=j
 ·subst h
  by_cases h2:i<l.length
  ·simp[h2]
  ·simp[h2]
 ·simp[h]
theorem Zek (S:List Nat) {t:Nat}(h:t<8) {x:Nat}(hx:x=S.getD t 0):((((Zbq S t).set (4*t) (x/16777216%256)).set (4*t+1) (x/65536%256)).set (4*t+2) (x/256%256)).set (4*t+3) (x%256)=Zbq S (t+1):=by
 refine Js (by simp[Ih]) fun j a=> ?_;simp only[eW,Ih]at a;simp only[Zip,eW,Ih,Zio S _ a]
 by_cases h0:j<4*t
 ·rw[iN (by omega),iN (by omega),iN (by omega),iN (by omega),iP h0,iP (by omega)]
 ·by_cases h4:j<4*(t+1)
  ·have e:j/4=t:=(by omega);rw[iP h4,e,<-hx];obtain e|e|e|e:j=4*t\/j=4*t+1\/j=4*t+2\/j=4*t+3:=by omega
   ·rw[iN (by omega),iN (by omega),iN (by omega),iP (by omega),show j%4=0 by omega]
   ·rw[iN (by omega),iN (by omega),iP (by omega),show j%4=1 by omega]
   ·rw[iN (by omega),iP (by omega),show j%4=2 by omega]
   ·rw[iP (by omega),show j%4=3 by omega];simp
  ·rw[iN (by omega),iN (by omega),iN (by omega),iN (by omega),iN h0,iN h4]
theorem Zel {S:List Nat} {t g:Nat} {w:World} {ty:TypeId}(h:Blk w g ty (bvs (Zbq S t)).toArray) {j:Nat}(hj:j<32):∃u,w.cell? ⟨g,j,rJ⟩=some u:=by
 rw[h.cell];exact⟨_,Array.getElem?_eq_getElem (by simpa [bvs,Ih]using hj)⟩
theorem Rq (L:List Nat)(i n:Nat):(bvs L).toArray.setIfInBounds i (rE .u8 (n:Int))=(bvs (L.set i n)).toArray:=by
 simp[bvs,List.map_set]
theorem Rr {S:List Nat}(h:S.length=8):Zbq S 8=(S.map (beN 4)).flatten:=by
 match S,h with
 |[a,b,c,d,e,f,g,k],_=>simp[Zbq,eH,beN]
theorem Ziq (v:Value)(L:List Nat)(w:World)(h:Rd w v (bvs L))(hL:∀x∈L,x<256)(hl:L.length<=1000000):
  Calls prog 198 #[v] w fun e w'=>e=rM (.agg (bvs (shaF L)).toArray)/\Below w.heap.size w w':=by
 have hz:∀w,(zeroValue 224).run prog w=.ok (.agg Z32a) w:=fun _=>(by kernel_rfl);have bI:∀w,(zeroValue 244).run prog w=.ok (.agg Z8a) w:=fun _=>(by kernel_rfl);have BG:=fun(W:World)=>Zeb W;have CL:=fun(W:World) (hw:Below w.heap.size w W)=>Su v L W (h.below hw lR) (by omega);have TL:=fun(W:World)=>Zin L.length W hl;have hv:∃a c,v=.slice a L.length c:=(by obtain⟨a,c,e,_⟩:=h;exact⟨a,c,by rw[e,bvs_len]⟩);obtain⟨a0,c0,rfl⟩:=hv;have a4:=padL_len L;have aP:=Zei hL;have K:=Uc L;obtain⟨P,hP⟩:=eX (padL L);have R:bvs L++bvs (tailL L.length)=bvs P:=(by rw[hP,padL];simp[bvs]);rw[<-hP]at a4 aP K;obtain⟨HA,d⟩:=eX HLa;simp only[<-d]at BG;have IH:=Hd (show(prog.info? 244).map (·.size)=some HA.size by rw[d,HLa];exact Zig HL0 rfl);have ZH:=Hd (show Z8a.size=HA.size by rw[d];unfold Z8a HLa;rw[Bl,Bl];rfl);have OH:=Hd (show HA.toList.all (·.oneCell')=true by rw[d,fJ];exact Fo HL0);obtain⟨n,hn⟩:=eX L.length;rw[<-hn]at CL TL R hl K|-;have aV:=Hd BG;have aX:=Hd CL;have a3:=Hd TL;have aF:=Hd R;have HN:=Hd hn;have aG:=Hd hP;have aT:=Hd d;clear BG CL TL R hn hP d h hL;go_in;go_wp2_with fail;refine Ez 0 (Znw w.heap.size P Z32a a0 n c0 w) (fun ac _=>Znv (ac.tmps.getD 4 undef)) rfl ?_ ?_
 ·rintro ac B ⟨A,i,l,rc,ra,g,hi,T,hR,k,aA,hb,hf⟩
  iterate 52 (obtain⟨_,hf⟩:=hf)
  subst hf;have HS:=Hd T;have HR:=Hd hR;have aI:=Hd k;have HB:=Hd hb
  by_cases h0:0<l
  ·have aL:64<=l:=(by omega);have bF:=k.cap;have g0:decide (0<l)=true:=dT h0;have aO:(bvs (P.drop (64*i))).length=l:=(by rw[bvs_len,eD];omega);obtain⟨bb,oo,rfl,bE,Z⟩:=k.at3 (r:=0) (u:=(bvs (P.drop (64*i)))[0]'(by omega)) (List.getElem?_eq_getElem _);have ok:=blocksN_ok P HL0_len HL0_lt i;have z:=k.pre 64 aL;rw[<-Zeh]at z;have ST:=Zih A _ (blocksN P HL0 i) ((P.drop (64*i)).take 64) B T ok.2 ok.1 z (fun x hx=>aP x (List.mem_of_mem_drop (List.mem_of_mem_take hx))) (by rw[bW,eD];omega);have a2:=Hd ST;have o:=Hd aA;have HI:=Hd hi;have a6:64<=rc:=(by omega);clear Z ST z T hR k hb aA hi aO ok h0;go_wp2_with fail;refine(a2.out).mono ?_;rintro e w' ⟨rfl,aM,J⟩;have aJ:=Hd aM;have O:=Hd J;clear aM J
   by_cases h64e:rc=64
   ·subst h64e;obtain rfl:l=64:=(by omega);go_wp2_with fail;refine wp_goto ⟨rfl,⟨A,i+1,0,0,_,g,?c1,?c2,HR.out.only2 O.out (by omega),?c4,?c5,HB.out.trans (O.out.1.mono (by omega)),_,_,_,_,_,_,_,_,_,_,_,_,_,_,_,_,_,_,_,_,_,_,_,_,_,_,_,_,_,_,_,_,_,_,_,_,_,_,_,_,_,_,_,_,_,_,_,_,_,_,_,_,rfl⟩,?_⟩;case c1=>have:=HI.out;omega
    case c2=>rw[blocksN];exact aJ.out
    case c4=>
     have e:P.drop (64*(i+1))=[]:=List.drop_eq_nil_of_le (by have:=HI.out;omega);rw[e];refine⟨some ⟨bb,oo,rJ⟩,0,rfl,lR,by unfold maxLen;omega,.inr ⟨bb,oo,rfl,fun j u hu=> ?_⟩⟩;simp[bvs]at hu
    case c5=>intro a e;simp only[Option.some.injEq]at e;subst e;exact o.out _ rfl
    show 0<64;omega
   ·go_wp2_with fail;refine wp_goto ⟨rfl,⟨A,i+1,l-64,rc-64,_,g,?d1,?d2,HR.out.only2 O.out (by omega),?d4,?d5,HB.out.trans (O.out.1.mono (by omega)),_,_,_,_,_,_,_,_,_,_,_,_,_,_,_,_,_,_,_,_,_,_,_,_,_,_,_,_,_,_,_,_,_,_,_,_,_,_,_,_,_,_,_,_,_,_,_,_,_,_,_,_,rfl⟩,?_⟩;case d1=>have:=HI.out;omega
    case d2=>rw[blocksN];exact aJ.out
    case d4=>
     have h1:Rd w' (rD (some ⟨bb,oo,rJ⟩) l rc) (bvs (P.drop (64*i))):=aI.out.onlyG O.out (fun a n c e=>by simp only[Value.slice.injEq,Option.some.injEq]at e;rw[<-e.1];exact o.out _ rfl);have h2:=h1.sub 64 l (off':=oo+64) (n':=l-64) (cap':=rc-64) aL lR rfl rfl rfl;have e2:((bvs (P.drop (64*i))).take l).drop 64=bvs (P.drop (64*(i+1))):=by
      rw[bV (by rw[bvs_len,eD];have:=HI.out;omega)];simp[bvs,List.map_drop,List.drop_drop,Nat.mul_add]
     rw[e2]at h2;exact h2
    case d5=>intro a e;simp only[Option.some.injEq]at e;subst e;exact o.out ⟨bb,oo,rJ⟩ rfl
    show l-64<l;omega
  ·obtain rfl:l=0:=(by omega);obtain⟨S,V⟩:=eX (blocksN P HL0 i);have ok:=blocksN_ok P HL0_len HL0_lt i;rw[<-V]at ok T;obtain⟨SA,U⟩:=eX (Ho S);rw[<-U]at T;have HS:=Hd T;have a1:=Hd V;have Q:=Hd U;have HI:=Hd hi;clear T hR k hb aA hi V U h0 aI;have a8:=Hd (show SA.toList.all (·.oneCell')=true by rw[Q.out,fJ];exact Fo S);have aY:=Hd (show(prog.info? 244).map (·.size)=some SA.size by rw[Q.out];exact Zig S ok.1);go_wp2_with (refine wpList_load_row rfl 244 (.tmp 3) rfl A rfl 244 SA (0,0) _ (HS.out.alloc _) underlying244 rfl aY.out ?_);have N0:=Hd (show Blk (B.alloc (.cells Z32a 224)) B.heap.size 224 (bvs (Zbq S 0)).toArray by rw[Zej];exact Blk.new B _ _);have A0:=Hd (show Below B.heap.size B (B.alloc (.cells Z32a 224))from bR.alloc lR _);obtain⟨wa,aR⟩:=eX (B.alloc (.cells Z32a 224));rw[<-aR]at N0 A0|-;have G:=N0.out.lt;obtain⟨po,aB⟩:=eX B.heap.size;have Y:=HR.out.lt;rw[<-aB]at N0 A0 G Y|-;have bH:=Hd aB;clear aR aB
   go_loopg [24] 8 (fun q iv wr=>∃t:Nat,t+q=8/\iv=rE .i64 (t:Nat)/\Blk wr po 224 (bvs (Zbq S t)).toArray/\Below po B wr)
   case atStart=>exact⟨0,rfl,rfl,N0.out,A0.out⟩
   case round=>
    obtain⟨t,ht,rfl,M,J⟩:=hrel;have HT:=Hd ht;have E:=Hd M;have O:=Hd J
    by_cases G:t<8
    ·have a7:decide ((t:Int)<8)=true:=(by rw[dI];omega);have hx:=getD_lt32 ok.2 t;obtain⟨x,H⟩:=eX (S.getD t 0);rw[<-H]at hx;have q1:SA[t]? =some (.int .u32 (x:Nat)):=(by rw[Q.out,H];exact Eo (by omega));have HX:=Hd H;have hi:=fun w=>Qq (P:=prog) w underlying244 rfl underlying231 (by kernel_rfl) SA .i64 t G _ q1;have f0:=M.frozen (4*t);have f1:=M.frozen (4*t+1);have f2:=M.frozen (4*t+2);have f3:=M.frozen (4*t+3);have y:=fun(j:Nat) (hj:j<32)=>Zel (S:=S) (t:=t) M hj;obtain⟨y0,a9⟩:=y (4*t) (by omega);obtain⟨y1,bA⟩:=y (4*t+1) (by omega);obtain⟨y2,bB⟩:=y (4*t+2) (by omega);obtain⟨y3,bC⟩:=y (4*t+3) (by omega);clear ht M J H q1 y;go_wp2_with fail;go_roundg (gk-1);case measure=>have:=HT.out;omega
     case rel=>
      refine⟨t+1,by have:=HT.out;omega,by go_num,?_,?_⟩
      ·have e:=Zek S G HX.out;rw[show x/16777216%256=x/16777216 from Nat.mod_eq_of_lt (by omega)]at e;rw[<-e,<-Rq,<-Rq,<-Rq,<-Rq];exact(((E.out.set _ _).set _ _).set _ _).set _ _
      ·exact(((O.out.setCell (by simp) _).setCell (by simp) _).setCell (by simp) _).setCell (by simp) _
    ·obtain rfl:t=8:=(by omega);rw[Rr ok.1]at E;obtain⟨OA,f⟩:=eX ((bvs ((S.map (beN 4)).flatten)).toArray);rw[<-f]at E;have p:((S.map (beN 4)).flatten).length=32:=(by rw[<-Rr ok.1,Ih]);have OI:=Hd (show(prog.info? 224).map (·.size)=some OA.size by rw[f];simp only[fM,bvs_len,p];kernel_rfl);have OO:=Hd (show OA.all (·.oneCell')=true by rw[f];simp[bvs,Value.oneCell']);have OZ:=Hd (show Z32a.size=OA.size by rw[f];simp only[fM,bvs_len,p];kernel_rfl);have RR:=Hd (show Blk wr w.heap.size 224 Z32a from HR.out.below J Y);have aW:=Hd (HB.out.trans (J.mono (Nat.le_of_lt Y)));have aZ:=Hd f;clear ht M J f p;go_wp2_with (first|(refine wpList_load_row rfl 224 (.tmp 5) rfl po rfl 224 OA (0,0) _ E.out underlying224 rfl OI.out ?_)|(refine wpList_store_row rfl 224 (.tmp 2) (.tmp 55) rfl w.heap.size OA rfl rfl 224 Z32a RR.out OI.out OZ.out OO.out ?_));simp only[Exit.jump];refine bodyPost_ret (results_cell_row rfl _ _ w.heap.size 224 OA (0,0) _ rfl (setRow_heap _ _ _ _ _ _ RR.out) underlying224 rfl OI.out) rfl ⟨?_,?_⟩
     ·rw[aZ.out,a1.out,aG.out];have e:i=(padL L).length/64:=(by have:=HI.out;rw[aG.out]at this;omega);rw[shaF,e]
     ·exact aW.out.trans (OnlyG.setRow w.heap.size _).1
 ·intro hJ;have HJ:=Hd hJ;clear hJ;go_wp2_with fail;refine(aV.out _).mono ?_;rintro e I ⟨rfl,s⟩;have ez:(w.alloc (.cells Z32a 224)).heap.size=w.heap.size+1:=(by simp);rw[ez]at s;have R1:=Hd (show Blk I w.heap.size 224 Z32a from(Blk.new w _ _).below s (by omega));have C:=Hd (((Below.refl w.heap.size w).alloc lR (.cells Z32a 224)).trans (s.mono (by omega)));have bG:w.heap.size+1<=I.heap.size:=(by have:=s.size;rw[ez]at this;exact this);have N1:=Hd (Blk.new I 244 Z8a);clear s;go_wp2_with (refine Aa rfl 244 (.tmp 3) (.tmp 8) rfl I.heap.size HA rfl rfl 244 Z8a N1.out IH.out ZH.out OH.out ?_);intro w2 m0 mb mo aS;have S2:=Hd m0;have D:=Hd ((C.out.alloc C.out.size (.cells Z8a 244)).trans ((mb I.heap.size lR).mono C.out.size));have R2:=Hd ((R1.out.alloc (.cells Z8a 244)).below (mb I.heap.size lR) (by omega));have a5:I.heap.size<w2.heap.size:=(by have:w2.heap.size=I.heap.size+1:=(by simpa using aS);omega);obtain⟨A,g⟩:=eX I.heap.size;have aQ:w.heap.size<A:=(by omega);rw[<-g]at S2 a5;rw[<-g];clear m0 mb mo aS N1 R1 C g;go_wp2_with fail;refine(aX.out w2 D.out).mono ?_;rintro e w3 ⟨cv,rfl,b,aN⟩;obtain⟨y1,y2,y3,rfl⟩:=Dr b;have aC:=Hd b;have N:=Hd aN;clear b aN;go_wp2_with fail;refine(a3.out w3).mono ?_;rintro e w4 ⟨tv,rfl,b,X⟩;obtain⟨x1,x2,x3,rfl⟩:=Dr b;have aK:=Hd b.rd;have aE:=Hd (aC.out.below X lR);have m:=Hd (N.out.trans (X.mono N.out.size));clear b X aC N;go_wp2_with (at_builtin;refine An rfl (.tmp 10) (.tmp 13) 28 rfl w2.heap.size 5 _ 1 Ca _ (bvs L) rfl aE.out _ (bvs (tailL n)) rfl aK.out (By _) ?c2 ?c3 ?_);case c2=>
   have e:=congrArg List.length aF.out;rw[aD,bvs_len P]at e;omega
  case c3=>exact m.out.size
  rintro rv w5 b-F;rw[aF.out]at b;obtain⟨z1,z2,z3,rfl⟩:=Dr b;have aH:=Hd b.rd;have o:=Hd (show∀a n c,Value.slice z1 z2 z3=.slice (some a) n c->a.block≠A from fun a n' c' e=>by
   simp only[Value.slice.injEq]at e;obtain⟨rfl,rfl,rfl⟩:=e;rcases b.2 with⟨e,_⟩|⟨gg,cp,bD,e,hg,_⟩
   ·cases e
   ·simp only[Value.slice.injEq,Option.some.injEq]at e;rw[e.1];show gg≠A
    omega)
  have S5:=Hd ((show Blk w2 A 244 HA from S2.out).below (m.out.trans F) (by omega));have R5:=Hd (R2.out.below (m.out.trans F) R2.out.lt);have aU:=Hd (D.out.trans ((m.out.trans F).mono D.out.size));clear b F aE aK m S2 R2 D;go_wp2_with fail;go_step3;simp only[Exit.then]
  apply_assumption
  refine HJ.out _ _ ⟨A,0,z2,z3,z1,aQ,?_,?_,R5.out,?_,?_,aU.out,_,_,_,_,_,_,_,_,_,_,_,_,_,_,_,_,_,_,_,_,_,_,_,_,_,_,_,_,_,_,_,_,_,_,_,_,_,_,_,_,_,_,_,_,_,_,_,_,_,_,_,_,rfl⟩
  ·obtain⟨a',c',e,-,-,-⟩:=aH.out;simp only[Value.slice.injEq]at e;rw[e.2.1,bvs_len];rfl
  ·have e:blocksN P HL0 0=HL0:=rfl;rw[e];have:=S5.out;rw[aT.out]at this;exact this
  ·exact aH.out
  ·intro a e;exact o.out a _ _ (by rw[e])
end Go.Proofs.YtfofaiommeckbaaGreat
namespace Go.Proofs.YtfofaiommeckbaaGreat
open Go.RowKit
def Oy (t u:List NodeD):Bool:=decide (t.length=u.length)&&(aC t.length).all fun i=>Co (nd t i) (nd u i)
theorem Ud {t u:List NodeD}(hl:t.length=u.length)(h:∀i,i<t.length->Co (nd t i) (nd u i)=true):Oy t u=true:=by
 unfold Oy;rw[dT hl,Bool.true_and];exact List.all_eq_true.2 fun i hi=>h i (List.mem_range.1 hi)
theorem Zir {t u:List NodeD} {i:Nat}(hi:i<t.length)(h:Co (nd t i) (nd u i)=false):Oy t u=false:=by
 cases hs:Oy t u with
 |false=>rfl
 |true=>
  unfold Oy at hs;rw[Bool.and_eq_true]at hs;have:=List.all_eq_true.1 hs.2 i (List.mem_range.2 hi);rw[h]at this;cases this
theorem Zem {t u:List NodeD}(h:t.length≠u.length):Oy t u=false:=by unfold Oy;rw[dF h,Bool.false_and]
theorem Zen (v v':Value)(t u:List NodeD)(w:World)(h:TreeR w v t)(h':TreeR w v' u)(H:TreeOk t)(p:TreeOk u)(A:t.length<=1000000):
  Calls prog 51 #[v,v'] w fun e w'=>e=rM (.bool (Oy t u))/\Below w.heap.size w w':=by
 obtain⟨a1,q1,rfl,aB,aC⟩:=h.sl;obtain⟨a2,q2,rfl,I,aD⟩:=h'.sl
 by_cases hl:t.length=u.length
 ·have SN:=fun(i:Nat) (c c':Array Value) (W:World) (hc:NodeC W (nd t i) c) (aJ:NodeC W (nd u i) c')=>Hc (nd t i) (nd u i) c c' W hc aJ (H.nd i) (p.nd i);have G1:=fun(W:World) (J:Below w.heap.size w W) (i:Nat) (z:i<t.length)=>(h.below J lR).node z;have G2:=fun(W:World) (J:Below w.heap.size w W) (i:Nat) (z:i<t.length)=>(h'.below J lR).node (i:=i) (by omega);have Y:=fun(h:∀i,i<t.length->Co (nd t i) (nd u i)=true)=>Ud hl h;have No:=fun(i:Nat) (z:i<t.length) (h:Co (nd t i) (nd u i)=false)=>Zir z h;rw[<-hl];obtain⟨n,hn⟩:=eX t.length;rw[<-hl]at I;rw[<-hn]at G1 G2 Y No aB I A|-;obtain⟨R,hR⟩:=eX (Oy t u);rw[<-hR]at Y No|-;have Q:=Hd SN;have aG:=Hd G1;have aH:=Hd G2;have HY:=Hd Y;have aI:=Hd No;clear SN G1 G2 Y No h h' H p hl hn hR;go_in;go_wp2_with fail
  go_loopg [5] n (fun q iv wr=>∃i:Nat,i+q=n/\iv=rE .i64 (i:Nat)/\(∀j,j<i->Co (nd t j) (nd u j)=true)/\Below w.heap.size w wr)
  case atStart=>exact⟨0,by omega,rfl,fun j hj=>by omega,bR⟩
  case round=>
   obtain⟨i,z,rfl,l,U⟩:=hrel;have HI:=Hd z;have M:=Hd l;have N:=Hd U
   by_cases hlt:i<n
   ·have aA:decide (i<n)=true:=dT hlt;have aK:(i:Int)<(n:Int):=(by omega);obtain⟨s,y,C1,rfl,X,E,aE⟩:=aG.out wr U i hlt;obtain⟨x,f2,C2,rfl,Z,F,aF⟩:=aH.out wr U i hlt;have O:=Hd aE;have P:=Hd aF;have S:=Hd E.size;have T:=Hd F.size;have b:=Hd (fun(W:World) (J:Below wr.heap.size wr W)=>Q.out i C1 C2 W (E.below J lR) (F.below J lR));clear z l U aE aF E F;cases hs:Co (nd t i) (nd u i)with
    |true=>
     rw[hs]at b;have C:=Hd b.out;have HS:=Hd hs;clear hs b;go_wp2_with fail;refine Cx [eF (rD (some ⟨s,y,rJ⟩) n q1),eF (rE .i64 (i:Nat)),eF (rF (some ⟨s,y+i*10,rJ⟩)),eF (.agg C1),eF (rD (some ⟨x,f2,rJ⟩) n q2),eF (rE .i64 (i:Nat)),eF (rF (some ⟨x,f2+i*10,rJ⟩)),eF (.agg C2),eF (.bool true),eF (.bool false)] (by kernel_rfl) (by kernel_rfl) (by kernel_rfl) (kE (kE (kE (kE (kE (kE (kE (kE (kE (kE Ae)))))))))) ?_ ?_
     ·refine gQ ?_ (gQ ?_ (gQ ?_ (gB ?_ (gQ ?_ (gQ ?_ (gQ ?_ (gB ?_ (gB ?_ (gQ ?_ .nil)))))))));all_goals
       intro a wx k G V;refine⟨rfl,?_⟩;intro K r;try have P0:a.tmps[0]?.getD undef=rD (some ⟨s,y,rJ⟩) n q1:=G 0 (by kernel_rfl)
       try have P1:a.tmps[1]?.getD undef=rD (some ⟨x,f2,rJ⟩) n q2:=G 1 (by kernel_rfl)
       try have P5:a.tmps[5]?.getD undef=rE .i64 (i:Nat):=G 5 (by kernel_rfl)
       try have L:=eqn V.1
       try have E1:=eqn V.2.1
       try(refine Hd ?_;go_simp;exact r _ rfl)
      ·exact wp_load_mid 52 (.tmp 19) rfl s (y+i*10) (evs L) _ _ (Am O.out k X) underlying52 rfl (by rw[eK,S.out];exact Ai) (r _ _ rfl bR)
      ·exact wp_load_mid 52 (.tmp 23) rfl x (f2+i*10) (evs L) _ _ (Am P.out k Z) underlying52 rfl (by rw[eK,T.out];exact Ai) (r _ _ rfl bR)
      ·go_simp;refine(C.out wx k).mono ?_;rintro e w2 ⟨rfl,D⟩;exact r _ _ rfl D
     ·rintro f w9 d g;have d:Below wr.heap.size wr w9:=d;have o:f 26=.bool false:=g.2.2.2.2.2.2.2.2.2.1;clear g;simp only[Ak,At,Ei,dG,dH,dJ,dK,Nat.reduceBEq,Nat.reduceAdd,Bool.or_false,Bool.or_true,cond_true,cond_false];rw[o];clear o;have B:=Hd (N.out.trans (d.mono N.out.size));clear d;go_wp2_with fail;go_roundg (gk-1);case measure=>have:=HI.out;omega
      case rel=>
       refine⟨i+1,by have:=HI.out;omega,by go_num,fun j hj=> ?_,B.out⟩
       by_cases e:j=i
       ·rw[e];exact HS.out
       ·exact M.out j (by omega)
    |false=>
     rw[hs]at b;have C:=Hd b.out;have HS:=Hd (aI.out i hlt hs);clear hs b;go_wp2_with fail;refine Cx [eF (rD (some ⟨s,y,rJ⟩) n q1),eF (rE .i64 (i:Nat)),eF (rF (some ⟨s,y+i*10,rJ⟩)),eF (.agg C1),eF (rD (some ⟨x,f2,rJ⟩) n q2),eF (rE .i64 (i:Nat)),eF (rF (some ⟨x,f2+i*10,rJ⟩)),eF (.agg C2),eF (.bool false),eF (.bool true)] (by kernel_rfl) (by kernel_rfl) (by kernel_rfl) (kE (kE (kE (kE (kE (kE (kE (kE (kE (kE Ae)))))))))) ?_ ?_
     ·refine gQ ?_ (gQ ?_ (gQ ?_ (gB ?_ (gQ ?_ (gQ ?_ (gQ ?_ (gB ?_ (gB ?_ (gQ ?_ .nil)))))))));all_goals
       intro a wx k G V;refine⟨rfl,?_⟩;intro K r;try have P0:a.tmps[0]?.getD undef=rD (some ⟨s,y,rJ⟩) n q1:=G 0 (by kernel_rfl)
       try have P1:a.tmps[1]?.getD undef=rD (some ⟨x,f2,rJ⟩) n q2:=G 1 (by kernel_rfl)
       try have P5:a.tmps[5]?.getD undef=rE .i64 (i:Nat):=G 5 (by kernel_rfl)
       try have L:=eqn V.1
       try have E1:=eqn V.2.1
       try(refine Hd ?_;go_simp;exact r _ rfl)
      ·exact wp_load_mid 52 (.tmp 19) rfl s (y+i*10) (evs L) _ _ (Am O.out k X) underlying52 rfl (by rw[eK,S.out];exact Ai) (r _ _ rfl bR)
      ·exact wp_load_mid 52 (.tmp 23) rfl x (f2+i*10) (evs L) _ _ (Am P.out k Z) underlying52 rfl (by rw[eK,T.out];exact Ai) (r _ _ rfl bR)
      ·go_simp;refine(C.out wx k).mono ?_;rintro e w2 ⟨rfl,D⟩;exact r _ _ rfl D
     ·rintro f w9 d g;have d:Below wr.heap.size wr w9:=d;have o:f 26=.bool true:=g.2.2.2.2.2.2.2.2.2.1;clear g;simp only[Ak,At,Ei,dG,dH,dJ,dK,Nat.reduceBEq,Nat.reduceAdd,Bool.or_false,Bool.or_true,cond_true,cond_false];rw[o];clear o;have B:=Hd (N.out.trans (d.mono N.out.size));clear d;go_wp2_with fail;go_ret;exact⟨Eb HS.out,B.out⟩
   ·obtain rfl:i=n:=(by omega);have aA:decide (i<i)=false:=dF hlt;have HF:=Hd (HY.out l);clear z l U hlt;go_wp2_with fail;go_ret;exact⟨Eb HF.out,N.out⟩
 ·have HF:=Hd (Zem hl);obtain⟨n,hn⟩:=eX t.length;obtain⟨m,hm⟩:=eX u.length;rw[<-hn,<-hm]at hl|-;have aL:((n:Int) !=(m:Int))=true:=(by rw[bne_iff_ne];omega);clear h h' H p hn hm A aB I aC aD hl;go_in;go_wp2_with fail;go_ret;exact⟨Eb HF.out,bR⟩
open WireM
section
theorem Ue {w:World} {d:NodeD} {c:Array Value}(h:NodeC w d c):∀u∈c.toList,u.oneCell'=true:=by
 have:=h.one;rw[<-fJ]at this;exact fun u hu=>List.all_eq_true.1 this u hu
theorem TreeR.cellsN {w:World} {b d n c:Nat} {t:List NodeD}(h:TreeR w (rD (some ⟨b,d,rJ⟩) n c) t):∀m,m<=n->∃f:List Value,f.length=10*m/\w.rangeAt b d f/\(∀u∈f,u.oneCell'=true)/\∀i,i<m->NodeC w (nd t i) (Fw f i).toArray:=by
 intro m
 induction m with
 |zero=>intro _;exact⟨[],rfl,fun j u a=>by simp at a,fun u a=>by simp at a,fun i q=>by omega⟩
 |succ m ih=>
  intro x;obtain⟨f,g,h2,h3,p⟩:=ih (by omega);obtain⟨s,off',cs,e,v,l,r⟩:=h.node (i:=m) (by omega);simp only[Option.some.injEq,Addr.mk.injEq,and_true]at e;obtain⟨rfl,rfl⟩:=e;have o:cs.toList.length=10:=(by simpa using l.size);refine⟨f++cs.toList,by rw[aD,g,o];omega,?_,?_,?_⟩
  ·intro j u a;rcases Nat.lt_or_ge j f.length with k|k
   ·rw[List.getElem?_append_left k]at a;exact h2 j u a
   ·rw[List.getElem?_append_right k]at a;have:=r _ u a;rw[show d+m*10+(j-f.length)=d+j by omega]at this;exact this
  ·intro u a;rcases List.mem_append.1 a with a|a
   ·exact h3 u a
   ·exact Ue l u a
  ·intro i q
   by_cases e:i=m
   ·subst e;rw[Wq g o];exact l
   ·rw[Wp g (by omega)];exact p i (by omega)
theorem TreeR.of_own {w:World} {B:Nat} {v:Value} {t:List NodeD} {l:List Value}(h:OwnK w B 52 10 v t.length l)(d:∀i,i<t.length->NodeC w (nd t i) (Fw l i).toArray):TreeR w v t:=by
 rcases Nat.eq_zero_or_pos t.length with n|p
 ·have e:t=[]:=List.eq_nil_of_length_eq_zero n;subst e;rcases h.2 with⟨rfl,_⟩|⟨g,cap,m,rfl,s,x,d,c,z,A⟩
  ·exact TreeR.nil w
  ·exact⟨_,cap,rfl,d,c,fun i a=>absurd a (by simp)⟩
 ·have y:=h.len;obtain⟨g,cap,rfl,r,b,f,c,o,_⟩:=h.out p;refine⟨_,cap,rfl,f,c,fun i a=>⟨g,0,(Fw l i).toArray,rfl,b,d i a,?_⟩⟩;intro j u q;have:=o _ u (Wr (i:=t.length) (by omega) a (k:=j) (by simpa using q));rw[show 0+i*10+j=10*i+j by omega];exact this
section
variable {w0 w:World}
theorem Wt {ops:Array Oper} {rest:List Oper} {o:Oper} {a:Act} {Q:Exit->Act->World->Prop} (r:o.guard=none) (s x:Operand)
  (F:o.op=.call {callee:=.builtin .append,args:=#[s,x],argTypes:=#[55,55]})
  (C:Option Addr) (n c:Nat) (t:List NodeD) (m:TreeR w0 (rD C n c) t) (G:0<n) (N:n<=1000000) (g:Below w0.heap.size w0 w)
  (v:Value) (H:a.eval s=v) (d:OwnK w w0.heap.size 52 10 v 0 []) (hx:a.eval x=rD C n c)
  (h:∀l w',TreeR w' l t->Below w0.heap.size w0 w'->wpList prog ops Q rest (a.put o.dst l) w'):wpList prog ops Q (o::rest) a w:=by
 obtain⟨i,E,I,y,q⟩:=Iw treesE.inf;have e:n=t.length:=by
  obtain⟨L,cap,e,_⟩:=m;simp only[Value.slice.injEq]at e;exact e.2.1
 obtain⟨b,z,cs,rfl,p,_,_⟩:=m.node (i:=0) G;obtain⟨K,M,h2,h3,D⟩:=m.cellsN n lR;refine wpList_append_own w r s x _ F w0.heap.size 52 i _ 10 208 treesE.ty E I y q treesE.one treesE.pos v 0 [] H d ⟨b,z,rJ⟩ n c K hx (by omega) ?_ h3 (by unfold maxLen;omega) (by omega) g.size ?_
 ·intro j u A;rw[Addr.add_lit];exact(Am h2 g p) j u A
 ·intro l w' B J _;rw[Nat.zero_add,List.nil_append,e]at B;have f:Below w0.heap.size w0 w':=g.grown J g.size fun k hk=>(World.ownsRow.lt d k hk).1;refine h l w' (TreeR.of_own B fun j A=>(D j (by omega)).below f lR) f
end
end
