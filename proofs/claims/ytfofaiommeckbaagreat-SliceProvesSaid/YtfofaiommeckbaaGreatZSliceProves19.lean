import Derived.Test.YtfofaiommeckbaaGreatZSliceProves14
import Derived.Test.YtfofaiommeckbaaGreatZSliceProves18
import Derived.Test.YtfofaiommeckbaaGreatZSliceProves15
open Go.Value renaming slice → q9, int → rA
open Go.IntKind renaming i64 → rC
open Option renaming none → rF
open Go.Proofs.Tryz
open List renaming range → aF, mem_range → eD, getElem_of_mem → dK, getD_eq_getElem?_getD → aH, getElem?_eq_getElem → aI, getElem_mem → aJ, length_drop → eE, range_succ → eG, filter_append → eH, map_append → eI, mem_map → eJ, mem_filter → cF, any_eq_true → cG
open Bool renaming and_eq_true → cJ, or_eq_true → cK, true_and → dI, false_and → dH, and_false → eK
open Nat renaming pow_succ → aN, pos_of_ne_zero → aP, mul_left_comm → bD, mul_assoc → bE, mul_add_mod → eL, mod_eq_of_lt → aS
set_option linter.unusedVariables false
set_option maxRecDepth 100000
set_option maxHeartbeats 40000000
namespace Go.Proofs.YtfofaiommeckbaaGreat
open Go.RowKit WalkM
def Ig (t:List NodeD)(x:Nat)(u:Int):Prop:=
 u<(Ap t.length:Int)∧Bx (2*u) (x:Int)=true∧(nd t (2*u).toNat).kind≠0∧∀y,y<t.length→(nd t y).kind=2→Bx (2*u) (y:Int)=true→Bx (y:Int) (x:Int)=true→u∈(nd t y).par.late
def Zdw (t:List NodeD)(x:Nat)(u:Int):Bool:=
 decide (u<(Ap t.length:Int))&&(Bx (2*u) (x:Int)&&(decide ((nd t (2*u).toNat).kind≠0)&&(aF t.length).all fun y=> !(decide ((nd t y).kind=2)&&(Bx (2*u) (y:Int)&&Bx (y:Int) (x:Int)))||decide (u∈(nd t y).par.late)))
theorem Qa (t:List NodeD)(x:Nat)(u:Int):Zdw t x u=true↔Ig t x u:=by
 unfold Zdw Ig;simp only[cJ,decide_eq_true_iff,List.all_eq_true,eD,cK,Bool.not_eq_true',Bool.and_eq_false_imp];constructor
 ·rintro⟨h1,h2,h3,b⟩;refine⟨h1,h2,h3,fun y d c a e=> ?_⟩;rcases b y d with h|h
  ·have:=h c a;rw[e]at this;cases this
  ·exact h
 ·rintro⟨h1,h2,h3,b⟩;refine⟨h1,h2,h3,fun y d=> ?_⟩
  by_cases hm:u∈(nd t y).par.late
  ·exact .inr hm
  ·refine .inl fun c a=> ?_;cases e:Bx (y:Int) (x:Int)with
   |false=>rfl
   |true=>exact absurd (b y d c a e) hm
def Dx (t:List NodeD)(x:Nat):Bool:=(nd t x).par.late.all (Zdw t x)
theorem Qb {t:List NodeD} {x:Nat}(h:∀u∈(nd t x).par.late,Ig t x u):Dx t x=true:=List.all_eq_true.2 fun u hu=>(Qa t x u).2 (h u hu)
theorem Iw {t:List NodeD} {x:Nat}(h:Dx t x=true):∀u∈(nd t x).par.late,Ig t x u:=fun u hu=>(Qa t x u).1 (List.all_eq_true.1 h u hu)
theorem Uj {t:List NodeD} {x:Nat} {u:Int}(hu:u∈(nd t x).par.late)(h:¬Ig t x u):Dx t x=false:=by
 cases hb:Dx t x with
 |false=>rfl
 |true=>exact absurd (Iw hb u hu) h
theorem Lq {d:NodeD}(h:At d=true):d.kind=0∨d.kind=1∨d.kind=2:=by
 unfold At at h
 by_cases h0:d.kind=0
 ·exact .inl h0
 ·by_cases h1:d.kind=1
  ·exact .inr (.inl h1)
  ·by_cases h2:d.kind=2
   ·exact .inr (.inr h2)
   ·simp only[h0,h1,h2,if_false]at h;cases h
theorem Mf {d:NodeD}(h:At d=true)(hk:d.kind≠2):d.par.late=[]:=by
 unfold At at h;have a:npB d.par.box.length d.par.hash.length d.par.late.length=true→d.par.late=[]:=by
  intro h;have:=of_decide_eq_true h;exact List.eq_nil_of_length_eq_zero (by omega)
 rcases Lq (d:=d) (by unfold At;exact h)with h0|h1|h2
 ·simp only[h0,if_true,cJ]at h;exact a h.2
 ·simp only[h1,if_true,Nat.one_ne_zero,if_false,cJ]at h;exact a h.2
 ·exact absurd h2 hk
theorem Eh {d:NodeD}(h:At d=true):Ki d.par.late=true:=by
 by_cases hk:d.kind=2
 ·have a:(nlB d.leaf.box.length d.leaf.sign.length d.leaf.ident.length d.leaf.source d.leaf.par.length d.leaf.sig.length&&rpB d.par.box.length d.par.hash.length d.par.late)=true:=by
   have h2:=h;unfold At at h2;rw[hk]at h2;exact h2
  rw[cJ]at a;have h2:=a.2;unfold rpB at h2;rw[cJ]at h2;exact h2.1
 ·rw[Mf h hk];rfl
theorem Zbl {L:List Int}(h:Ki L=true):Zmj L:=by
 have hp:=(Fm L).1 h;intro i j hij hj
 induction j with
 |zero=>omega
 |succ j ih=>
  have h1:=(hp (j+1) hj).1;unfold Hi at h1;rw[if_neg (by omega),Nat.add_sub_cancel]at h1
  by_cases e:i=j
  ·rw[e];exact h1
  ·have:=ih (by omega) (by omega);omega
theorem Ix {q:Nat}(h:q%2=0)(hq:q≤131070):lev q=0:=lev_eq hq (by unfold IsLev;simp;omega)
theorem Zdx {q:Nat}(h:q%2=1)(hq:q≤131070):1≤lev q:=by
 rcases Nat.eq_zero_or_pos (lev q)with h0|h0
 ·have:=lev_is hq;rw[h0]at this;unfold IsLev at this;simp at this;omega
 ·exact h0
theorem Zkv (x:Nat) {j:Nat}(h:1≤j):anc x j%2=1:=by
 have h1:2^(j+1)%2=0:=(by rw[aN];omega);have h2:2^j%2=0:=by
  obtain⟨k,rfl⟩:∃k,j=k+1:=⟨j-1,by omega⟩;rw[aN];omega
 have h3:=pow_pos' j;unfold anc;rw[Nat.add_mod,Nat.mul_mod,h1,Nat.mul_zero,Nat.zero_mod,Nat.zero_add,Nat.mod_mod];omega
theorem Kt {q x d:Nat}(b:d≤16)(g:q+1<2^(d+1))(hx:x+1<2^(d+1))(h:q%2=0):Bx (q:Int) (x:Int)=decide (x=anc q (lev x)):=by
 have c:=Av (show d+1≤17 by omega);have a:x≤131070:=(by omega);have f:=(lev_root hx (lev_is a)).1;have e:=Wy b hx g f;rw[anc_self (lev_is a)]at e;rw[e,Ix h (by omega)]
 congr 1
 simp
theorem Dj {t:List NodeD}(hp:Bh t=true) {x:Nat}(hx:x<t.length):(nd t x).kind≠Dw x∧At (nd t x)=true:=(Fo t).1 hp x hx
theorem Qc {t:List NodeD}(hp:Bh t=true) {x:Nat}(hx:x<t.length)(hk:(nd t x).kind=2):x%2=1:=by
 rcases Nat.mod_two_eq_zero_or_one x with h|h
 ·have:=(Dj hp hx).1;rw[Eg h]at this;exact absurd hk this
 ·exact h
theorem Zbm {t:List NodeD}(hp:Bh t=true) {x:Nat}(hx:x<t.length)(ho:x%2=1)(hk:(nd t x).kind≠0):(nd t x).kind=2:=by
 obtain⟨h1,h2⟩:=Dj hp hx;rw[Gu ho]at h1;rcases Lq h2 with h|h|h
 ·exact absurd h hk
 ·exact absurd h h1
 ·exact h
theorem Hs {t:List NodeD}(b:Bh t=true) {x:Nat}(hx:x<t.length) {u:Int}(a:u∈(nd t x).par.late):(nd t x).kind=2∧∃m:Nat,u=(m:Int)∧m<65536:=by
 obtain⟨_,h2⟩:=Dj b hx;refine⟨?_,?_⟩
 ·by_cases hk:(nd t x).kind=2
  ·exact hk
  ·rw[Mf h2 hk]at a;cases a
 ·obtain⟨h0,h1⟩:=Hn (Eh h2) u a;exact⟨u.toNat,by omega,by omega⟩
theorem Zkw {t:List NodeD} {d m x:Nat}(j:d≤16)(F:t.length+1=2*2^d)(w:Bh t=true)(hx:x<t.length)(E:2*m<t.length)(C:(m:Int)∈(nd t x).par.late)(a:Bx ((2*m:Nat):Int) (x:Int)=true):
  (∀i,1≤i→i<lev x→(nd t (anc (2*m) i)).kind≠0→(m:Int)∈(nd t (anc (2*m) i)).par.late)↔(∀y,y<t.length→(nd t y).kind=2→Bx ((2*m:Nat):Int) (y:Int)=true→Bx (y:Int) (x:Int)=true→(m:Int)∈(nd t y).par.late):=by
 have B:=Av (show d+1≤17 by omega);have e2:2^(d+1)=2*2^d:=(by rw[aN];omega);have l:x+1<2^(d+1):=(by omega);have c:2*m+1<2^(d+1):=(by omega);have s:x≤131070:=(by omega);have n:=(lev_root l (lev_is s)).1;rw[Kt j c l (by omega),decide_eq_true_iff]at a;constructor
 ·intro h y z hk r u;have b:y+1<2^(d+1):=(by omega);have f:y≤131070:=(by omega);have p:=Qc w z hk;have q:=Zdx p f;rw[Kt j c b (by omega),decide_eq_true_iff]at r;have e:=Wy (x:=2*m) j c b n;rw[←a]at e;rw[e,decide_eq_true_iff]at u;obtain⟨D,v⟩:=u
  by_cases hle:lev y=lev x
  ·rw[←hle,anc_self (lev_is f)]at v;rw[←v];exact C
  ·have:=h (lev y) q (by omega) (by rw[←r,hk];omega);rw[←r]at this;exact this
 ·intro h i o A hk;have b:=anc_le (show 2*m<2^(d+1) by omega) (show i≤d by omega);have f:anc (2*m) i≤131070:=(by omega);have k:anc (2*m) i<t.length:=(by omega);have g:lev (anc (2*m) i)=i:=lev_eq f (anc_lev _ _);refine h _ k (Zbm w k (Zkv _ o) hk) ?_ ?_
  ·rw[Kt j c b (by omega),decide_eq_true_iff,g]
  ·have e:=Wy (x:=2*m) j c b n;rw[←a]at e;rw[e,decide_eq_true_iff,g];refine⟨by omega,?_⟩;rw[anc_anc (by omega),←a]
theorem Uk {t:List NodeD} {d m x:Nat}(a:d≤16)(b:t.length+1=2*2^d):Ig t x (m:Int)↔m<2^d∧Bx ((2*m:Nat):Int) (x:Int)=true∧(nd t (2*m)).kind≠0∧∀y,y<t.length→(nd t y).kind=2→Bx ((2*m:Nat):Int) (y:Int)=true→Bx (y:Int) (x:Int)=true→(m:Int)∈(nd t y).par.late:=by
 unfold Ig;rw[Jv a b,show(2:Int)*(m:Int)=((2*m:Nat):Int) by omega,Int.toNat_natCast,Int.ofNat_lt]
theorem Zmm (x:Nat):∀k j i,i<k→(ups x j k)[i]? =some (anc x (j+i+1)):=by
 intro k
 induction k with
 |zero=>intro j i h;omega
 |succ k ih=>
  intro j i h;rw[ups];cases i with
  |zero=>simp
  |succ i=>rw[List.getElem?_cons_succ,ih (j+1) i (by omega)];congr 2;omega
theorem TreeR.at {w:World} {a:Option Addr} {n c:Nat} {t:List NodeD}(h:TreeR w (q9 a n c) t) {i:Nat}(j:i<n):∃b d l e,a=some ⟨b,d,rF⟩∧b<w.heap.size∧w.cell? ⟨b,d+i*10,rF⟩=some (rA .u8 ((nd t i).kind:Nat))∧w.cell? ⟨b,d+i*10+9,rF⟩=some (.slice l (nd t i).par.late.length e)∧Rd w (.slice l (nd t i).par.late.length e) (ivs .i64 (nd t i).par.late):=by
 obtain⟨b,d,cs,e1,e2,g,f⟩:=h.node j;obtain⟨l,e,e3,k⟩:=g.late;exact⟨b,d,l,e,e1,e2,f 0 _ g.kind,f 9 _ e3,k⟩
theorem Zh5 (v:Value)(t:List NodeD)(x d:Nat)(w:World)(h:TreeR w v t)(hs:Zcq t=true)(K:Bh t=true)(hd:d≤16)(hl:t.length+1=2*2^d)(hx:x<t.length):
  Calls prog 228 #[v,rA rC (x:Nat)] w fun e w'=>e=.returned (.bool (Dx t x))∧Below w.heap.size w w':=by
 obtain⟨a,c,rfl,hc,b9⟩:=h.sl;have a6:=Nf hs;have bW:=Av (show d+1≤17 by omega);have aG:2^(d+1)=2*2^d:=(by rw[aN];omega);obtain⟨L,hL⟩:=eX ((nd t x).par.late);have LV:=fun(W:World)=>Jw a t.length c W (by omega);rw[Jv hd hl]at LV;have GA:=fun(W:World) (J:Below w.heap.size w W) (i:Nat) (hi:i<t.length)=>(h.below J lR).at hi;have UN:=fun(q:Nat) (W:World)=>Db (q:Int) (x:Int) W;have PA:=fun(q:Nat) (P:q+1<2^(d+1)) (he:q%2=0) (W:World)=>(show Calls prog 269 #[rA rC (q:Nat),rA rC ((2^d:Nat):Int)] W fun e w'=>∃v,e=.returned v∧Own w' W.heap.size 3 v (nvs (ups q 0 d))∧Below W.heap.size W w' from by
  have:=Zhn q d hd P W;rw[Ix he (by omega)]at this;exact this)
 have BS:=fun(i:Nat) (hi:i<t.length) (u:Int) (lv:Value) (W:World) (f:Rd W lv (ivs .i64 (nd t i).par.late))=>Wt lv (nd t i).par.late u W f (Zbl (Eh (Dj K hi).2)) (by
  have:=of_decide_eq_true (Wp hs i)
  omega)
 have G:=fun(s:∀r,r<L.length→Ig t x (L.getD r 0))=>Qb (t:=t) (x:=x) (fun u hu=>by
  rw[←hL]at hu;obtain⟨r,f,rfl⟩:=dK hu;have:=s r f
  rwa [aH,aI f]at this)
 have D:=fun(r:Nat) (f:r<L.length)=>(show L.getD r 0∈(nd t x).par.late by rw[aH,aI f,←hL];exact aJ f);have NO:=fun(r:Nat) (f:r<L.length) (s:¬Ig t x (L.getD r 0))=>Uj (D r f) s;have aK:=fun(r:Nat) (f:r<L.length)=>Hs K hx (D r f);have LP:=fun(m:Nat)=>Uk (m:=m) (x:=x) hd hl;have aC:=fun(m:Nat) (hm:2*m<t.length) (hu:(m:Int)∈(nd t x).par.late) (bC:Bx ((2*m:Nat):Int) (x:Int)=true)=>Zkw hd hl K hx hm hu bC;have UL:=fun(q:Nat) (P:q+1<2^(d+1)) (he:q%2=0)=>Kt hd P (show x+1<2^(d+1) by omega) he;have LX:=(lev_root (show x+1<2^(d+1) by omega) (lev_is (x:=x) (by omega))).1;have aP:=fun(hk:(nd t x).kind=2)=>Zdx (Qc K hx hk) (by omega);have aA:=fun(q j:Nat) (P:q<2^(d+1)) (hj:j≤d)=>anc_le P hj;obtain⟨N,hN⟩:=eX (2^d);rw[←hN]at LV PA LP hl aG;obtain⟨n,hn⟩:=eX t.length;rw[←hn]at LV GA BS aC hl hx hc a6⊢;rw[←hn]at LP;rw[aG]at PA UL aA;have aO:L.length≤60:=(by have:=of_decide_eq_true (Wp hs x);rw[hL];omega);obtain⟨k0,B⟩:=eX L.length;rw[←B]at aO;rw[←B]at G D NO aK;have GX:=fun(W:World) (J:Below w.heap.size w W)=>GA W J x hx;rw[←hL,←B]at GX;obtain⟨R,hR⟩:=eX (Dx t x);rw[←hR]at G NO⊢;have bQ:=Hd LV;have aU:=Hd GA;have bS:=Hd GX;have aZ:=Hd UN;have bG:=Hd PA;have bI:=Hd BS;have a0:=Hd G;have bA:=Hd D;have bX:=Hd NO;have a4:=Hd aK;have E:=Hd LP;have T:=Hd aC;have bV:=Hd UL;have bM:=Hd LX;have bE:=Hd aP;have aS:=Hd aA;have HD:=Hd hd;have b4:=Hd hL;have cB:=Hd hl;have bH:=Hd B;have b5:2*N=n+1:=(by omega);clear LV GA GX UN PA BS G D NO aK LP aC UL LX aP aA hL hl hn hR h hs K hd bW aG hN B;obtain⟨b,aT,l,e,rfl,cC,ck,cl,a8⟩:=bS.out w bR;have AT:=fun(r:Nat) (f:r<k0)=>a8.at3 (u:=rA rC (L.getD r 0)) (r:=r) (by have:=bH.out;simp[ivs,aH,show r<L.length by omega]);have bY:=Hd AT;clear AT a8;go_enter func228,ntmps228;go_wp2_with fail;refine(bQ.out w).mono ?_;rintro e' w' ⟨rfl,rfl⟩;go_wp2_with fail
 go_loopg [21] k0 (fun q iv wr=>∃r:Nat,r+q=k0∧iv=rA rC (r:Nat)∧(∀i,i<r→Ig t x (L.getD i 0))∧Below w'.heap.size w' wr)
 case atStart=>exact⟨0,by omega,rfl,fun i hi=>by omega,bR⟩
 case round=>
  obtain⟨r,f,rfl,U,hb⟩:=hrel;have HR:=Hd f;have O:=Hd U;have S:=Hd hb;clear f U hb
  by_cases hlt:r<k0
  ·have aQ:decide (r<k0)=true:=decide_eq_true hlt;obtain⟨bl,ol,e1,aV,cu⟩:=bY.out r hlt;subst e1;obtain⟨bB,m,hm,b0⟩:=a4.out r hlt;rw[hm]at cu;have b8:=(S.out.cell (p:=⟨bl,ol+r,rF⟩) aV).trans cu;have HM:=Hd hm;have bT:=Hd bB;clear cu hm bB;have F:=Hd (fun(s:¬Ig t x (m:Int))=>bX.out r hlt (by rw[HM.out];exact s));obtain⟨q,P⟩:=eX (2*m);have b6:2*(m:Int)=(q:Int):=(by omega);have g:=Hd P;clear P
   by_cases c1:N≤m
   ·have g1:decide (N≤m)=true:=decide_eq_true c1;have HF:=Hd (F.out (fun s=>by have:=((E.out m).1 s).1;omega));go_wp2_with fail;go_ret;exact⟨Et HF.out,S.out⟩
   ·have g1:decide (N≤m)=false:=decide_eq_false c1;have bK:q<n:=(by have:=g.out;omega);cases hun:Bx (q:Int) (x:Int)with
    |false=>
     have HF:=Hd (F.out (fun s=>by
      have:=((E.out m).1 s).2.1;rw[←g.out,hun]at this;cases this))
     have U1:=aZ.out q wr;rw[hun]at U1;have H:=Hd U1;clear U1 hun;go_wp2_with fail;refine(H.out).mono ?_;rintro e' w2 ⟨rfl,rfl⟩;go_wp2_with fail;go_ret;exact⟨Et HF.out,S.out⟩
    |true=>
     have U1:=aZ.out q wr;rw[hun]at U1;have H:=Hd U1;have o:=Hd hun;clear U1 hun;obtain⟨b',off',l2,e2,eb,_,I,_,_⟩:=aU.out wr S.out q bK;simp only[Option.some.injEq,Addr.mk.injEq,and_true]at eb;obtain⟨rfl,rfl⟩:=eb
     by_cases c3:(nd t q).kind=0
     ·have HF:=Hd (F.out (fun s=>by
       have:=((E.out m).1 s).2.2.1;rw[←g.out]at this;exact this c3))
      rw[c3]at I;have b1:wr.cell? ⟨b,aT+q*10,rF⟩=some (rA .u8 0):=I;clear c3 I;go_wp2_with fail;refine(H.out).mono ?_;rintro e' w2 ⟨rfl,rfl⟩;go_wp2_with fail;go_ret;exact⟨Et HF.out,S.out⟩
     ·obtain⟨kq,Z⟩:=eX ((nd t q).kind);rw[←Z]at I c3;have g3:((kq:Int)==0)=false:=(by rw[beq_eq_false_iff_ne];omega);have bL:=Hd Z;have aW:q+1<2*N:=(by omega);have bN:=Hd (bG.out q aW (by have:=g.out;omega) wr);clear Z;go_wp2_with fail;refine(H.out).mono ?_;rintro e' w2 ⟨rfl,rfl⟩;go_wp2_with fail;refine(bN.out).mono ?_;rintro e' w2 ⟨pv,rfl,y,bF⟩;have X:=Hd (S.out.trans (bF.mono S.out.size));have a3:(nvs (ups q 0 d)).length=d:=(by rw[Ln,Rv]);obtain⟨pa,pc,bO⟩:∃a c,pv=.slice a d c:=(by obtain⟨a,c,e,_⟩:=y.rd;exact⟨a,c,by rw[e,a3]⟩);subst bO;have PT:=fun(k:Nat) (hk:k<d)=>y.rd.at3 (u:=rA rC (anc q (k+1):Nat)) (r:=k) (by simp[nvs,ivs,Zmm q d 0 k hk]);have bU:=Hd PT;have V:=Hd (show x=anc q (lev x) by
       have:=bV.out q aW (by have:=g.out;omega);rw[o.out]at this;exact of_decide_eq_true this.symm)
      have M:=Hd (bE.out bT.out);have A:=Hd (show(m:Int)∈(nd t x).par.late by rw[←HM.out];exact bA.out r hlt);have b7:=HD.out;clear y bF PT a3;go_wp2_with fail;obtain⟨g1,rfl⟩:=eX gk;obtain⟨w1,rfl⟩:=eX wr
      go_loopg [49] d (fun q2 iv wv=>∃k:Nat,k+q2=d∧iv=rA rC (k:Nat)∧(∀i,1≤i→i≤k→anc q i≠x∧((nd t (anc q i)).kind≠0→(m:Int)∈(nd t (anc q i)).par.late))∧wv=w2)
      case atStart=>exact⟨0,by omega,rfl,fun i h1 h2=>by omega,rfl⟩
      case round=>
       obtain⟨k,hk,rfl,Q,rfl⟩:=hrel;have HK:=Hd hk;have C:=Hd Q;clear hk Q
       by_cases hkd:k<d
       ·have b2:decide (k<d)=true:=decide_eq_true hkd;obtain⟨bp,op,e1,b3,cp⟩:=bU.out k hkd;subst e1;obtain⟨p,K⟩:=eX (anc q (k+1));rw[←K]at cp;have HP:=Hd K;clear K
        by_cases hpx:p=x
        ·have g4:((p:Int)==(x:Int))=true:=(by rw[beq_iff_eq];omega);have z:=Hd hpx;have aM:=Hd (show Ig t x (m:Int)from(E.out m).2 ⟨by omega,by rw[←g.out];exact o.out,by rw[←g.out,←bL.out];exact c3,by
          have J:=T.out m (by have:=g.out;omega) A.out (by rw[←g.out];exact o.out);rw[←g.out]at J;have cA:lev x=k+1:=by
           have h1:=V.out;have h2:=HP.out;rw[z.out]at h2;have a1:=anc_lev q (k+1);rw[←h2]at a1;have a2:=anc_lev q (lev x);rw[←h1]at a2;exact lev_unique a2 a1
          rw[←g.out];refine J.1 fun i h1 h2=> ?_;exact(C.out i h1 (by omega)).2⟩)
         clear hpx;go_wp2_with fail;go_roundg (g1-1);case measure=>have:=HR.out;omega
         case rel=>
          refine⟨r+1,by have:=HR.out;omega,by go_num,fun i hi=> ?_,X.out⟩
          by_cases e:i=r
          ·rw[e,HM.out];exact aM.out
          ·exact O.out i (by omega)
        ·have g4:((p:Int)==(x:Int))=false:=(by rw[beq_eq_false_iff_ne];omega);have z:=Hd hpx;have bD:p<n:=by
          have:=aS.out q (k+1) (by omega) (by omega);rw[←HP.out]at this;omega
         obtain⟨b',off',l3,e3,eb,_,aB,bP,aD⟩:=aU.out wr (X.out) p bD;simp only[Option.some.injEq,Addr.mk.injEq,and_true]at eb;obtain⟨rfl,rfl⟩:=eb;have B1:=bI.out p bD (m:Int) _ wr aD;obtain⟨kp,aE⟩:=eX ((nd t p).kind);rw[←aE]at aB;have a7:=Hd aE;obtain⟨lp,aY⟩:=eX ((nd t p).par.late.length);rw[←aY]at bP aD B1;obtain⟨is,aF⟩:=eX (decide ((m:Int)∈(nd t p).par.late));rw[←aF]at B1;have aX:=Hd aF;have aL:=Hd B1;clear aE aY aF B1 aD hpx
         by_cases k0':kp=0
         ·have Y:=Hd k0';have bZ:wr.cell? ⟨b,aT+p*10,rF⟩=some (rA .u8 0):=(by rw[aB,k0'];rfl);clear k0' aB;go_wp2_with fail;refine(aL.out).mono ?_;rintro e' w3 ⟨pos,rfl,_,_,_,rfl⟩;go_wp2_with fail;go_roundg (gk-1);case measure=>have:=HK.out;omega
          case rel=>
           refine⟨k+1,by have:=HK.out;omega,by go_num,fun i h1 h2=> ?_,rfl⟩
           by_cases e:i=k+1
           ·rw[e,←HP.out];exact⟨z.out,fun bJ=>absurd (a7.out.symm.trans Y.out) bJ⟩
           ·exact C.out i h1 (by omega)
         ·have Y:=Hd k0';have g5:((kp:Int) !=0)=true:=by
           have:((kp:Int)==0)=false:=(by rw[beq_eq_false_iff_ne];omega);rw[bne,this];rfl
          have g6:((kp:Int)==0)=false:=(by rw[beq_eq_false_iff_ne];omega);cases is with
          |true=>
           clear k0';go_wp2_with fail;refine(aL.out).mono ?_;rintro e' w3 ⟨pos,rfl,_,_,_,rfl⟩;go_wp2_with fail;go_roundg (gk-1);case measure=>have:=HK.out;omega
           case rel=>
            refine⟨k+1,by have:=HK.out;omega,by go_num,fun i h1 h2=> ?_,rfl⟩
            by_cases e:i=k+1
            ·rw[e,←HP.out];exact⟨z.out,fun _=>of_decide_eq_true aX.out.symm⟩
            ·exact C.out i h1 (by omega)
          |false=>
           have HF:=Hd (F.out (fun s=>by
            have J:=T.out m (by have:=g.out;omega) A.out (by rw[←g.out];exact o.out);rw[←g.out]at J;have aR:=((E.out m).1 s).2.2.2;rw[←g.out]at aR;have a9:k+1<lev x:=by
             have h1:=V.out;have h3:=M.out;rcases Nat.lt_or_ge (k+1) (lev x)with h|h
             ·exact h
             ·exfalso
              by_cases e:lev x=k+1
              ·rw[e,←HP.out]at h1;exact z.out h1.symm
              ·exact(C.out (lev x) h3 (by omega)).1 h1.symm
            have a5:=J.2 aR (k+1) (by omega) a9 (by rw[←HP.out,←a7.out];exact Y.out);rw[←HP.out]at a5;exact absurd a5 (of_decide_eq_false aX.out.symm)))
           clear k0';go_wp2_with fail;refine(aL.out).mono ?_;rintro e' w3 ⟨pos,rfl,_,_,_,rfl⟩;go_wp2_with fail;go_ret;exact⟨Et HF.out,X.out⟩
       ·exfalso;have h1:=V.out;have h2:=bM.out;have h3:=M.out;exact(C.out (lev x) h3 (by have:=HK.out;omega)).1 h1.symm
  ·obtain rfl:r=k0:=(by have:=HR.out;omega);have aQ:decide (r<r)=false:=decide_eq_false hlt;go_wp2_with fail;go_ret;exact⟨Et (a0.out O.out),S.out⟩
def Pj (t:List NodeD):Bool:=if Ap t.length=1 then Gv t else Gv (t.drop (Ap t.length))
def Ku (t:List NodeD):Bool:=(aF t.length).all (Dx t)
def Bi (t:List NodeD):Bool:=decide (Ap t.length≠0)&&(Bh t&&(Pj t&&Ku t))
theorem Qd {t:List NodeD}(h:∀x,x<t.length→Dx t x=true):Ku t=true:=List.all_eq_true.2 fun x hx=>h x (List.mem_range.1 hx)
theorem Iy {t:List NodeD}(h:Ku t=true):∀x,x<t.length→Dx t x=true:=fun x hx=>List.all_eq_true.1 h x (List.mem_range.2 hx)
theorem Ul {t:List NodeD} {x:Nat}(hx:x<t.length)(h:Dx t x=false):Ku t=false:=by
 cases hb:Ku t with
 |false=>rfl
 |true=>rw[Iy hb x hx]at h;cases h
theorem Zkx (t:List NodeD)(k i:Nat):nd (t.drop k) i=nd t (k+i):=by
 unfold nd;rw[aH,List.getElem?_drop,aH]
theorem TreeR.drop {w:World} {b a n c:Nat} {t:List NodeD}(h:TreeR w (q9 (some ⟨b,a,rF⟩) n c) t)(k:Nat)(hk:k≤n) {f n' g:Nat}(m:f=a+k*10)(d:n'=n-k)(j:g=c-k):TreeR w (q9 (some ⟨b,f,rF⟩) n' g) (t.drop k):=by
 obtain⟨r,cap,e,h1,h2,h3⟩:=h;simp only[Value.slice.injEq]at e;obtain⟨rfl,rfl,rfl⟩:=e;subst m d j;refine⟨_,_,by rw[eE],by rw[eE];omega,by omega,fun i l=> ?_⟩;rw[eE]at l;obtain⟨q,off',cs,e,o,d,p⟩:=h3 (k+i) (by omega);simp only[Option.some.injEq,Addr.mk.injEq,and_true]at e;obtain⟨rfl,rfl⟩:=e;refine⟨b,a+k*10,cs,rfl,o,by rw[Zkx];exact d,?_⟩;rw[show a+k*10+i*10=a+(k+i)*10 by omega];exact p
theorem Lr (v:Value)(t:List NodeD)(w:World)(h:TreeR w v t)(V:Zcq t=true)(D:TreeOk t):
  Calls prog 188 #[v] w fun e w'=>e=.returned (.bool (Bi t))∧Below w.heap.size w w':=by
 obtain⟨a,c,rfl,Y,aL⟩:=h.sl;have L:=Nf V;have G:=fun(W:World)=>Jw a t.length c W (by omega);have M:=fun(W:World) (U:Below w.heap.size w W)=>Zbi (.slice a t.length c) t W (h.below U lR) V D;have SM:=fun(W:World) (U:Below w.heap.size w W)=>Uc (.slice a t.length c) t W (h.below U lR) D;obtain⟨R,hR⟩:=eX (Bi t);have j:R=(decide (Ap t.length≠0)&&(Bh t&&(Pj t&&Ku t))):=(by rw[hR,Bi]);rw[←hR]
 by_cases h0:Ap t.length=0
 ·rw[h0]at G;have l:=Hd (show R=false by rw[j,h0];rfl);obtain⟨n,P⟩:=eX t.length;rw[←P]at G⊢;have p:=Hd G;clear G M SM j hR h0 h V D P Y L;go_enter func188,ntmps188;go_wp2_with fail;refine(p.out w).mono ?_;rintro e w' ⟨rfl,rfl⟩;go_wp2_with fail;go_ret;exact⟨Et l.out,bR⟩
 ·obtain⟨d,hd,hN,hl⟩:=Dc h0;rw[decide_eq_true h0,dI]at j;cases hp:Bh t with
  |false=>
   rw[hp]at M j;have l:=Hd (show R=false by rw[j,dH]);obtain⟨N,J⟩:=eX (Ap t.length);rw[←J]at G h0;obtain⟨n,P⟩:=eX t.length;rw[←P]at G M⊢;have hq:((N:Int)==0)=false:=(by rw[beq_eq_false_iff_ne];omega);have p:=Hd G;have E:=Hd (M w bR);clear G M SM j hR h0 h V D P Y L hl hN J;go_enter func188,ntmps188;go_wp2_with fail;refine(p.out w).mono ?_;rintro e w' ⟨rfl,rfl⟩;go_wp2_with fail;refine(E.out).mono ?_;rintro e H ⟨rfl,f⟩;have g:=Hd f;clear f;go_wp2_with fail;go_ret;exact⟨Et l.out,g.out⟩
  |true=>
   rw[hp]at M j;rw[dI]at j;have LT:=fun(x:Nat) (hx:x<t.length) (W:World) (U:Below w.heap.size w W)=>Zh5 (.slice a t.length c) t x d W (h.below U lR) V hp hd hl hx;have L1:=fun(hh:∀x,x<t.length→Dx t x=true)=>Qd hh;have L2:=fun(x:Nat) (hx:x<t.length) (hh:Dx t x=false)=>Ul hx hh;have aM:t.length≠0:=(by have:=pow_pos' d;omega);obtain⟨b,aH,aO,rfl,_,_,_⟩:=h.node (i:=0) (by omega);have aC:Ap t.length≤t.length:=(by rw[hN];have:=pow_pos' d;omega);have SD:=fun(W:World) (U:Below w.heap.size w W)=>Uc (q9 (some ⟨b,aH+Ap t.length*10,rF⟩) (t.length-Ap t.length) (c-Ap t.length)) (t.drop (Ap t.length)) W ((h.below U lR).drop _ aC rfl rfl rfl) (fun d hd=>D d (List.mem_of_mem_drop hd));have O:Pj t=if Ap t.length=1 then Gv t else Gv (t.drop (Ap t.length)):=rfl;have aB:2*Ap t.length=t.length+1:=(by rw[hN];omega);obtain⟨N,J⟩:=eX (Ap t.length);rw[←J]at G h0 SD O aB;obtain⟨n,P⟩:=eX t.length;rw[←P]at G M SM LT L1 L2 SD aB Y L⊢;obtain⟨sb,Q⟩:∃b,b=Pj t:=⟨_,rfl⟩;rw[←Q]at j O;obtain⟨lb,aD⟩:=eX (Ku t);rw[←aD]at j L1 L2;have hq:((N:Int)==0)=false:=(by rw[beq_eq_false_iff_ne];omega);have p:=Hd G;have E:=Hd (M w bR);have Z:=Hd SM;have aE:=Hd SD;have X:=Hd LT;have aG:=Hd L1;have aA:=Hd L2;have F:=Hd j;have aF:=Hd O;have aN:n≤c:=Y;clear G M SM SD LT L1 L2 j O hR h V D P hl hN J Q aD hp hd aC Y
   by_cases hN1:N=1
   ·have K:=Hd (show sb=Gv t by rw[aF.out,if_pos hN1]);subst hN1;cases hsm:Gv t with
    |false=>
     have s:=Hd hsm;have l:=Hd (show R=false by rw[F.out,K.out,hsm,dH]);clear hsm;go_enter func188,ntmps188;go_wp2_with fail;refine(p.out w).mono ?_;rintro e w' ⟨rfl,rfl⟩;go_wp2_with fail;refine(E.out).mono ?_;rintro e H ⟨rfl,f⟩;have g:=Hd f;have A:=Z.out H f;rw[s.out]at A;have y:=Hd A;clear f A;go_wp2_with fail;refine(y.out).mono ?_;rintro e w4 ⟨rfl,f⟩;have u:=Hd (g.out.trans (f.mono g.out.size));clear f;go_wp2_with fail;go_ret;exact⟨Et l.out,u.out⟩
    |true=>
     have s:=Hd hsm;have T:=Hd (show sb=true by rw[K.out,hsm]);clear hsm;go_enter func188,ntmps188;go_wp2_with fail;refine(p.out w).mono ?_;rintro e w' ⟨rfl,rfl⟩;go_wp2_with fail;refine(E.out).mono ?_;rintro e H ⟨rfl,f⟩;have g:=Hd f;have A:=Z.out H f;rw[s.out]at A;have y:=Hd A;clear f A;go_wp2_with fail;refine(y.out).mono ?_;rintro e w4 ⟨rfl,f⟩;have u:=Hd (g.out.trans (f.mono g.out.size));clear f;go_wp2_with fail
     go_loopg [36] n (fun q iv wr=>∃r:Nat,r+q=n∧iv=rA rC (r:Nat)∧(∀i,i<r→Dx t i=true)∧Below w'.heap.size w' wr)
     case atStart=>exact⟨0,by omega,rfl,fun i hi=>by omega,u.out⟩
     case round=>
      obtain⟨r,hr,rfl,o,f⟩:=hrel;have S:=Hd hr;have m:=Hd o;have g:=Hd f;clear hr o f
      by_cases hlt:r<n
      ·have I:decide (r<n)=true:=decide_eq_true hlt;have C:=X.out r hlt wr g.out;cases hk:Dx t r with
       |true=>
        rw[hk]at C;have B:=Hd C;have l:=Hd hk;clear C hk;go_wp2_with fail;refine(B.out).mono ?_;rintro e H ⟨rfl,k⟩;have z:=Hd (g.out.trans (k.mono g.out.size));clear k;go_wp2_with fail;go_roundg (gk-1);case measure=>have:=S.out;omega
        case rel=>
         refine⟨r+1,by have:=S.out;omega,by go_num,fun i hi=> ?_,z.out⟩
         by_cases e:i=r
         ·rw[e];exact l.out
         ·exact m.out i (by omega)
       |false=>
        rw[hk]at C;have B:=Hd C;have l:=Hd (show R=false by rw[F.out,aA.out r hlt hk,eK]);clear C hk;go_wp2_with fail;refine(B.out).mono ?_;rintro e H ⟨rfl,k⟩;have z:=Hd (g.out.trans (k.mono g.out.size));clear k;go_wp2_with fail;go_ret;exact⟨Et l.out,z.out⟩
      ·obtain rfl:r=n:=(by have:=S.out;omega);have I:decide (r<r)=false:=decide_eq_false hlt;have l:=Hd (show R=true by rw[F.out,aG.out m.out,T.out];rfl);go_wp2_with fail;go_ret;exact⟨Et l.out,g.out⟩
   ·have K:=Hd (show sb=Gv (t.drop N) by rw[aF.out,if_neg hN1]);have aJ:((N:Int)==1)=false:=(by rw[beq_eq_false_iff_ne];omega);have aK:decide ((N:Int)>1)=true:=(by rw[decide_eq_true_iff];omega);have aP:decide ((1:Int)<(N:Int))=true:=(by rw[decide_eq_true_iff];omega);have aI:N≤n:=(by omega);have aQ:c≠N:=(by omega);cases hsm:Gv (t.drop N)with
    |false=>
     have s:=Hd hsm;have l:=Hd (show R=false by rw[F.out,K.out,hsm,dH]);clear hsm;go_enter func188,ntmps188;go_wp2_with fail;refine(p.out w).mono ?_;rintro e w' ⟨rfl,rfl⟩;go_wp2_with fail;refine(E.out).mono ?_;rintro e H ⟨rfl,f⟩;have g:=Hd f;have A:=aE.out H f;rw[s.out]at A;have y:=Hd A;clear f A;go_wp2_with fail;refine(y.out).mono ?_;rintro e w4 ⟨rfl,f⟩;have u:=Hd (g.out.trans (f.mono g.out.size));clear f;go_wp2_with fail;go_ret;exact⟨Et l.out,u.out⟩
    |true=>
     have s:=Hd hsm;have T:=Hd (show sb=true by rw[K.out,hsm]);clear hsm;go_enter func188,ntmps188;go_wp2_with fail;refine(p.out w).mono ?_;rintro e w' ⟨rfl,rfl⟩;go_wp2_with fail;refine(E.out).mono ?_;rintro e H ⟨rfl,f⟩;have g:=Hd f;have A:=aE.out H f;rw[s.out]at A;have y:=Hd A;clear f A;go_wp2_with fail;refine(y.out).mono ?_;rintro e w4 ⟨rfl,f⟩;have u:=Hd (g.out.trans (f.mono g.out.size));clear f;go_wp2_with fail
     go_loopg [36] n (fun q iv wr=>∃r:Nat,r+q=n∧iv=rA rC (r:Nat)∧(∀i,i<r→Dx t i=true)∧Below w'.heap.size w' wr)
     case atStart=>exact⟨0,by omega,rfl,fun i hi=>by omega,u.out⟩
     case round=>
      obtain⟨r,hr,rfl,o,f⟩:=hrel;have S:=Hd hr;have m:=Hd o;have g:=Hd f;clear hr o f
      by_cases hlt:r<n
      ·have I:decide (r<n)=true:=decide_eq_true hlt;have C:=X.out r hlt wr g.out;cases hk:Dx t r with
       |true=>
        rw[hk]at C;have B:=Hd C;have l:=Hd hk;clear C hk;go_wp2_with fail;refine(B.out).mono ?_;rintro e H ⟨rfl,k⟩;have z:=Hd (g.out.trans (k.mono g.out.size));clear k;go_wp2_with fail;go_roundg (gk-1);case measure=>have:=S.out;omega
        case rel=>
         refine⟨r+1,by have:=S.out;omega,by go_num,fun i hi=> ?_,z.out⟩
         by_cases e:i=r
         ·rw[e];exact l.out
         ·exact m.out i (by omega)
       |false=>
        rw[hk]at C;have B:=Hd C;have l:=Hd (show R=false by rw[F.out,aA.out r hlt hk,eK]);clear C hk;go_wp2_with fail;refine(B.out).mono ?_;rintro e H ⟨rfl,k⟩;have z:=Hd (g.out.trans (k.mono g.out.size));clear k;go_wp2_with fail;go_ret;exact⟨Et l.out,z.out⟩
      ·obtain rfl:r=n:=(by have:=S.out;omega);have I:decide (r<r)=false:=decide_eq_false hlt;have l:=Hd (show R=true by rw[F.out,aG.out m.out,T.out];rfl);go_wp2_with fail;go_ret;exact⟨Et l.out,g.out⟩
theorem Qe (v:Value)(t:List NodeD)(w:World)(h:TreeR w v t)(hs:Bc t=true)(hok:TreeOk t):
  Calls prog 188 #[v] w fun e w'=>e=.returned (.bool (Bi t))∧Below w.heap.size w w':=
 Lr v t w h (Lp hs) hok
theorem kids_lev {x k:Nat}(hx:x≤131070)(h:IsLev x (k+1)):Eb (x:Int)=((x-2^k:Nat):Int)∧Ce (x:Int)=((x+2^k:Nat):Int)∧IsLev (x-2^k) k∧IsLev (x+2^k) k∧2^k≤x:=by
 have f:=lev_eq hx h;have d:Mp (x:Int)=((k+1:Nat):Int):=by
  rw[Mp,if_pos (by unfold Bj;rw[decide_eq_true_iff];omega),Int.toNat_natCast,f]
 have g:0<2^k:=aP (by simp);have b:Ee (x:Int)=((2^k:Nat):Int):=by
  rw[Ee,d,if_pos (by omega),show(((k+1:Nat):Int)-1).toNat=k by omega,Int.natCast_pow];rfl
 unfold IsLev at h⊢;have e1:2^(k+1)=2*2^k:=(by rw[aN];omega);have e2:2^(k+1+1)=4*2^k:=(by rw[aN,e1];omega);rw[e2,e1]at h;rw[e1];have c:=Nat.div_add_mod x (4*2^k);rw[h]at c;have a:2^k≤x:=(by omega);refine⟨?_,?_,?_,?_,a⟩
 ·rw[Eb,b,if_neg (by omega)];omega
 ·rw[Ce,b,if_neg (by omega)];omega
 ·have e:x-2^k=2*2^k*(2*(x/(4*2^k)))+(2^k-1):=by
   have:2*2^k*(2*(x/(4*2^k)))=4*2^k*(x/(4*2^k)):=(by rw[bD,←bE,←bE]);omega
  rw[e,eL];exact aS (by omega)
 ·have e:x+2^k=2*2^k*(2*(x/(4*2^k))+1)+(2^k-1):=by
   have:2*2^k*(2*(x/(4*2^k))+1)=4*2^k*(x/(4*2^k))+2*2^k:=(by rw[Nat.mul_add,Nat.mul_one,bD,←bE,←bE]);omega
  rw[e,eL];exact aS (by omega)
theorem Gf {x:Nat}(h:IsLev x 0):x%2=0:=by unfold IsLev at h;simpa using h
theorem Fb {x k:Nat}(h:IsLev x (k+1)):x%2=1:=by
 unfold IsLev at h;have e2:2^(k+1+1)=2*2^(k+1):=(by rw[aN];omega);have e1:2^(k+1)=2*2^k:=(by rw[aN];omega);have hp:0<2^k:=aP (by simp);have:=Nat.mod_mod_of_dvd x (show 2∣2^(k+1+1)from⟨2^(k+1),e2⟩);rw[h]at this;omega
theorem Rz {x d:Nat}(hx:x+1<2^(d+1))(i:d≤16):x+2^lev x+1≤2^(d+1):=by
 have f:2^(d+1)≤2^17:=Nat.pow_le_pow_right (by omega) (by omega);have a:x≤131070:=(by have:(2:Nat)^17=131072:=rfl;omega);have c:=lev_is a;have b:=(lev_root hx c).1;have g:=phi_le (x:=x) (d:=d) (by omega) b;have h:=anc_self c;rw[anc_plo]at h;have e:phi x (lev x)=plo x (lev x)+(2^(lev x+1)-2):=rfl;have e1:2^(lev x+1)=2*2^lev x:=(by rw[aN];omega);have j:0<2^lev x:=aP (by simp);omega
open WireM
def Dk (t:List NodeD)(m:Nat):List Int:=((aF m).filter fun i=>(nd t (2*i)).kind==1).map fun i=>((i:Nat):Int)
theorem Zdy {t:List NodeD} {m:Nat}(h:(nd t (2*m)).kind=1):Dk t (m+1)=Dk t m++[((m:Nat):Int)]:=by
 unfold Dk;rw[eG,eH,eI]
 congr 1
 rw[List.filter_cons_of_pos (by rw[h];rfl)];rfl
theorem Zh6 {t:List NodeD} {m:Nat}(h:(nd t (2*m)).kind≠1):Dk t (m+1)=Dk t m:=by
 unfold Dk;rw[eG,eH,eI,List.filter_cons_of_neg (by simpa using h)];simp
theorem Zdz (t:List NodeD)(m:Nat):(Dk t m).length≤m:=by
 unfold Dk;rw[List.length_map];exact Nat.le_trans (List.length_filter_le _ _) (by simp)
theorem mem_iff (t:List NodeD)(m:Nat)(i:Nat):((i:Nat):Int)∈Dk t m↔i<m∧(nd t (2*i)).kind=1:=by
 unfold Dk;simp only[eJ,cF,eD,beq_iff_eq];constructor
 ·rintro⟨j,⟨h1,h2⟩,e⟩;have:j=i:=(by omega);subst this;exact⟨h1,h2⟩
 ·rintro⟨h1,h2⟩;exact⟨i,⟨h1,h2⟩,rfl⟩
theorem Zky (t:List NodeD)(m:Nat) {i:Int}(h:i<0):i∉Dk t m:=by
 unfold Dk;simp only[eJ,cF,eD];rintro⟨j,_,e⟩;omega
theorem Um (v:Value)(t:List NodeD)(k:Nat)(w:World)(h:TreeR w v t)(z:TreeOk t)(g:t.length=2*k+1)(hl:k≤1000):
  Calls prog 89 #[v] w fun e w'=>∃L,e=.returned L∧Own w' w.heap.size 3 L (ivs .i64 (Dk t (k+1)))∧Below w.heap.size w w':=by
 obtain⟨a,c,rfl,hc,aB⟩:=h.sl;have F:=fun(W:World) (R:Below w.heap.size w W) (i:Nat) (hi:i<t.length)=>(h.below R lR).at hi;have K:=fun(i:Nat)=>(z.nd i).kind;obtain⟨n,T⟩:=eX t.length;rw[←T]at F hc g⊢;have H:=Hd F;have X:=Hd K;have f:=Hd g;have V:n≤2001:=(by omega);clear F K h T z g;go_enter func89,ntmps89;go_wp2_with fail
 go_loopg [3,4] (k+1) (fun q ov iv wr=>∃r:Nat,r+q=k+1∧iv=rA rC (r:Nat)∧Own wr w.heap.size 3 ov (ivs .i64 (Dk t r))∧Below w.heap.size w wr)
 case atStart=>exact⟨0,by omega,rfl,Own.nil _ _ _,bR⟩
 case round=>
  obtain⟨r,P,rfl,d,E⟩:=hrel;have o:=Hd P;have Q:=Hd d;have A:=Hd E;have R:wrap64 (2*(r:Int))=2*(r:Int):=by unfold wrap64;omega
  by_cases hlt:r<k+1
  ·have y:decide (2*(r:Int)<(n:Int))=true:=decide_eq_true (by have:=f.out;omega);have x:2*r<n:=(by have:=f.out;omega);have S:2*(r:Int)<(n:Int):=(by omega);have Y:(2*(r:Int)).toNat=2*r:=(by omega);obtain⟨b,Z,l1,e1,rfl,U,ck,-,-⟩:=H.out wr E (2*r) x;have C:=X.out (2*r);obtain⟨D,l⟩:=eX ((nd t (2*r)).kind);rw[←l]at ck C;have s:=Hd l;obtain⟨p1,p2,p3,rfl⟩:=Dg d;have p:=Zdz t r;have O:=Hd p;clear P d E l p
   by_cases hk:D=1
   ·have I:((D:Int)==1)=true:=(by rw[beq_iff_eq];omega);have J:=Hd (Zdy (t:=t) (m:=r) (by rw[←s.out];exact hk));clear hk;go_wp2_with (at_builtin;refine An rfl (.tmp 19) (.tmp 21) 48 rfl w.heap.size 3 _ 8 Cn _ _ rfl (Q.out.alloc _) ⟨wr.heap.size,0,rF⟩ (rA rC (r:Nat)) rfl ?c1 rfl ?c2 ?c3 ?_);case c1=>exact Ar rfl
    case c2=>rw[Ga];have:=O.out;omega
    case c3=>have:=A.out.size;simp;omega
    rintro L w1 j-B;have M:=Hd j;have N:=Hd ((A.out.alloc A.out.size (.cells #[rA rC (r:Nat)] 3)).trans B);clear j B;go_wp2_with fail;go_roundg (gk-1);case measure=>have:=o.out;omega
    case rel=>
     refine⟨r+1,by have:=o.out;omega,by go_num,?_,N.out⟩;rw[J.out];have:=M.out;simpa [ivs]using this
   ·have I:((D:Int)==1)=false:=(by rw[beq_eq_false_iff_ne];omega);have aA:(D:Int)≠1:=(by omega);have J:=Hd (Zh6 (t:=t) (m:=r) (by rw[←s.out];exact hk));clear hk;go_wp2_with fail;go_roundg (gk-1);case measure=>have:=o.out;omega
    case rel=>
     refine⟨r+1,by have:=o.out;omega,by go_num,?_,A.out⟩;rw[J.out];exact Q.out
  ·have y:decide (2*(r:Int)<(n:Int))=false:=decide_eq_false (by have:=f.out;have:=o.out;omega);have u:r=k+1:=(by have:=o.out;omega);have G:=Hd (show Own wr w.heap.size 3 _ (ivs .i64 (Dk t (k+1)))from by rw[←u];exact d);clear P d E hlt u;go_wp2_with fail;go_ret;exact⟨_,rfl,G.out,A.out⟩
theorem Zkz (v:Value)(t:List NodeD)(g:Nat)(i:Int)(w:World)(h:TreeR w v t)(f:TreeOk t)(d:t.length=2*g+1)(p:g≤1000):
  Calls prog 43 #[v,rA rC i] w fun e w'=>e=.returned (.bool (decide (i∈Dk t (g+1))))∧Below w.heap.size w w':=by
 have j:=Um v t g w h f d p;obtain⟨a,c,rfl,y,B⟩:=h.sl;obtain⟨M,o⟩:=eX (Dk t (g+1));rw[←o]at j⊢;obtain⟨n,r⟩:=eX t.length;rw[←r]at j⊢;have k:=Hd j;obtain⟨R,l⟩:=eX (decide (i∈M));rw[←l];have x:=Hd (fun(W:World) (u:Value) (A:Rd W u (ivs .i64 M))=>(show Calls prog 84 #[u,rA rC i] W fun e w'=>e=.returned (.bool R)∧w'=W from by rw[l];exact Zb u M i W A));clear j h f d p o r l y;go_enter func43,ntmps43;go_wp2_with fail;refine(k.out).mono ?_;rintro e s ⟨G,rfl,b,q⟩;have z:=Hd q;have m:=Hd b.rd;obtain⟨C,E,D,rfl⟩:=Dg b;clear b q;go_wp2_with fail;refine(x.out s _ m.out).mono ?_;rintro e F ⟨rfl,rfl⟩;go_wp2_with fail;go_ret;exact⟨rfl,z.out⟩
def inR (k x y:Nat):Prop:=x+1≤y+2^k∧y<x+2^k
instance decInR (k x y:Nat):Decidable (inR k x y):=inferInstanceAs (Decidable (_∧_))
theorem Sa {x y k:Nat}(hx:x≤131070)(d:y≤131070)(b:IsLev x k):Bx (y:Int) (x:Int)=true↔inR k x y:=by
 have a:=lev_eq hx b;rw[Wx d hx,a,decide_eq_true_iff];have c:=anc_self b;rw[anc_plo]at c;have e:phi x k=plo x k+(2^(k+1)-2):=rfl;have e1:2^(k+1)=2*2^k:=(by rw[aN];omega);have f:0<2^k:=aP (by simp);unfold inR;omega
theorem Znl (m x:Nat):Bx (2*(m:Int)) (x:Int)=Bx ((2*m:Nat):Int) (x:Int):=by rw[Int.natCast_mul];rfl
end Go.Proofs.YtfofaiommeckbaaGreat
namespace Go.Proofs.YtfofaiommeckbaaGreat
open Go.RowKit WalkM
def Pk (t:List NodeD)(N r:Nat):Bool:=(aF r).any fun i=>(nd t i).kind==1&&(N==1||decide (N≤i))
theorem Zbn (t:List NodeD)(N r:Nat):Pk t N (r+1)=(Pk t N r||((nd t r).kind==1&&(N==1||decide (N≤r)))):=by
 unfold Pk;rw[eG,List.any_append];simp
theorem Zd0 {t:List NodeD} {N:Nat}(h:Ap t.length=N)(j:N≤t.length):Pk t N t.length=Pj t:=by
 have g:Pk t N t.length=true↔Pj t=true:=by
  unfold Pk Pj Gv;rw[h,cG];constructor
  ·rintro⟨i,b,hk⟩;rw[eD]at b;rw[cJ,beq_iff_eq,cK,beq_iff_eq,decide_eq_true_iff]at hk;have a:(nd t i)=t[i]:=by rw[nd,aH,aI b];rfl
   by_cases h1:N=1
   ·rw[if_pos h1,cG];exact⟨t[i],aJ b,by rw[←a,beq_iff_eq];exact hk.1⟩
   ·rw[if_neg h1,cG];have f:N≤i:=by rcases hk.2 with h2|h2;exact absurd h2 h1;exact h2
    refine⟨t[i],?_,by rw[←a,beq_iff_eq];exact hk.1⟩;rw[List.mem_drop_iff_getElem];exact⟨i-N,by omega,by congr 1;omega⟩
  ·intro c
   by_cases h1:N=1
   ·rw[if_pos h1,cG]at c;obtain⟨d,a,hk⟩:=c;obtain⟨i,b,rfl⟩:=dK a;refine⟨i,List.mem_range.2 b,?_⟩;have a:(nd t i)=t[i]:=(by rw[nd,aH,aI b];rfl);rw[a,hk,h1];rfl
   ·rw[if_neg h1,cG]at c;obtain⟨d,a,hk⟩:=c;obtain⟨i,b,e⟩:=List.mem_drop_iff_getElem.1 a;refine⟨N+i,List.mem_range.2 (by omega),?_⟩;have a:(nd t (N+i))=d:=(by rw[nd,aH,aI (by omega),←e];rfl);rw[a,hk,dI,cK,decide_eq_true_iff];exact .inr (by omega)
 cases h1:Pk t N t.length<;>cases h2:Pj t<;>simp_all
end Go.Proofs.YtfofaiommeckbaaGreat
