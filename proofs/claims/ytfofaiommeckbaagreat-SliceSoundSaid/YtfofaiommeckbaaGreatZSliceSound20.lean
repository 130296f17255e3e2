/- Plain: which late leaves a parent of a tree may have. -/
import Derived.Test.YtfofaiommeckbaaGreatZSliceSoundB
import Derived.Test.YtfofaiommeckbaaGreatZSliceSound18
import Derived.Test.YtfofaiommeckbaaGreatZSliceSound19
import Derived.Test.YtfofaiommeckbaaGreatZSliceSound14
open List renaming range → aH, mem_range → eL, getElem_of_mem → dM, getD_eq_getElem?_getD → aJ, getElem?_eq_getElem → aK, getElem_mem → aL, length_drop → eM, mem_map → eN, mem_filter → cH, any_eq_true → cI
open Bool renaming and_eq_true → cL, or_eq_true → cM, true_and → dK, false_and → dJ, and_false → eQ
open Nat renaming pow_succ → aP, pos_of_ne_zero → aR, mul_left_comm → bF, mul_assoc → bG, mul_add_mod → eR, mod_eq_of_lt → aU
set_option linter.unusedVariables false
set_option maxRecDepth 100000
set_option maxHeartbeats 40000000
namespace Go.Proofs.YtfofaiommeckbaaGreat
open Go.RowKit WalkM
def Hy (t:List NodeD)(x:Nat)(u:Int):Prop:=
 u<(Ap t.length:Int)∧Cc (2*u) (x:Int)=true∧(nd t (2*u).toNat).kind≠0∧∀y,y<t.length→(nd t y).kind=2→Cc (2*u) (y:Int)=true→Cc (y:Int) (x:Int)=true→u∈(nd t y).par.late
def Zdb (t:List NodeD)(x:Nat)(u:Int):Bool:=
 decide (u<(Ap t.length:Int))&&(Cc (2*u) (x:Int)&&(decide ((nd t (2*u).toNat).kind≠0)&&(aH t.length).all fun y=> !(decide ((nd t y).kind=2)&&(Cc (2*u) (y:Int)&&Cc (y:Int) (x:Int)))||decide (u∈(nd t y).par.late)))
theorem Pd (t:List NodeD)(x:Nat)(u:Int):Zdb t x u=true↔Hy t x u:=by
 unfold Zdb Hy;simp only[cL,decide_eq_true_iff,List.all_eq_true,eL,cM,Bool.not_eq_true',Bool.and_eq_false_imp];constructor
 ·rintro⟨b,h2,h3,e⟩;refine⟨b,h2,h3,fun y c a f d=> ?_⟩;rcases e y c with h|h
  ·have:=h a f;rw[d]at this;cases this
  ·exact h
 ·rintro⟨b,h2,h3,e⟩;refine⟨b,h2,h3,fun y c=> ?_⟩
  by_cases hm:u∈(nd t y).par.late
  ·exact .inr hm
  ·refine .inl fun a f=> ?_;cases d:Cc (y:Int) (x:Int)with
   |false=>rfl
   |true=>exact absurd (e y c a f d) hm
def Du (t:List NodeD)(x:Nat):Bool:=(nd t x).par.late.all (Zdb t x)
theorem Pe {t:List NodeD} {x:Nat}(h:∀u∈(nd t x).par.late,Hy t x u):Du t x=true:=List.all_eq_true.2 fun u hu=>(Pd t x u).2 (h u hu)
theorem Ks {t:List NodeD} {x:Nat}(h:Du t x=true):∀u∈(nd t x).par.late,Hy t x u:=fun u hu=>(Pd t x u).1 (List.all_eq_true.1 h u hu)
theorem Tm {t:List NodeD} {x:Nat} {u:Int}(hu:u∈(nd t x).par.late)(h:¬Hy t x u):Du t x=false:=by
 cases hb:Du t x with
 |false=>rfl
 |true=>exact absurd (Ks hb u hu) h
theorem Gq {d:NodeD}(h:Ao d=true):d.kind=0∨d.kind=1∨d.kind=2:=by
 unfold Ao at h
 by_cases h0:d.kind=0
 ·exact .inl h0
 ·by_cases h1:d.kind=1
  ·exact .inr (.inl h1)
  ·by_cases h2:d.kind=2
   ·exact .inr (.inr h2)
   ·simp only[h0,h1,h2,if_false]at h;cases h
theorem Lg {d:NodeD}(h:Ao d=true)(hk:d.kind≠2):d.par.late=[]:=by
 unfold Ao at h;have a:npB d.par.box.length d.par.hash.length d.par.late.length=true→d.par.late=[]:=by
  intro h;have:=of_decide_eq_true h;exact List.eq_nil_of_length_eq_zero (by omega)
 rcases Gq (d:=d) (by unfold Ao;exact h)with h0|h1|h2
 ·simp only[h0,if_true,cL]at h;exact a h.2
 ·simp only[h1,if_true,Nat.one_ne_zero,if_false,cL]at h;exact a h.2
 ·exact absurd h2 hk
theorem Db {d:NodeD}(h:Ao d=true):Km d.par.late=true:=by
 by_cases hk:d.kind=2
 ·have a:(nlB d.leaf.box.length d.leaf.sign.length d.leaf.ident.length d.leaf.source d.leaf.par.length d.leaf.sig.length&&rpB d.par.box.length d.par.hash.length d.par.late)=true:=by
   have h2:=h;unfold Ao at h2;rw[hk]at h2;exact h2
  rw[cL]at a;have h2:=a.2;unfold rpB at h2;rw[cL]at h2;exact h2.1
 ·rw[Lg h hk];rfl
theorem Za0 {L:List Int}(h:Km L=true):Zln L:=by
 have hp:=(Hu L).1 h;intro i j hij hj
 induction j with
 |zero=>omega
 |succ j ih=>
  have h1:=(hp (j+1) hj).1;unfold Ht at h1;rw[if_neg (by omega),Nat.add_sub_cancel]at h1
  by_cases e:i=j
  ·rw[e];exact h1
  ·have:=ih (by omega) (by omega);omega
theorem Mb {q:Nat}(h:q%2=0)(hq:q≤131070):lev q=0:=lev_eq hq (by unfold IsLev;simp;omega)
theorem Zdc {q:Nat}(h:q%2=1)(hq:q≤131070):1≤lev q:=by
 rcases Nat.eq_zero_or_pos (lev q)with h0|h0
 ·have:=lev_is hq;rw[h0]at this;unfold IsLev at this;simp at this;omega
 ·exact h0
theorem Zj9 (x:Nat) {j:Nat}(h:1≤j):anc x j%2=1:=by
 have h1:2^(j+1)%2=0:=(by rw[aP];omega);have h2:2^j%2=0:=by
  obtain⟨k,rfl⟩:∃k,j=k+1:=⟨j-1,by omega⟩;rw[aP];omega
 have h3:=pow_pos' j;unfold anc;rw[Nat.add_mod,Nat.mul_mod,h1,Nat.mul_zero,Nat.zero_mod,Nat.zero_add,Nat.mod_mod];omega
theorem Jz {q x d:Nat}(h:d≤16)(c:q+1<2^(d+1))(hx:x+1<2^(d+1))(b:q%2=0):Cc (q:Int) (x:Int)=decide (x=anc q (lev x)):=by
 have f:=Ba (show d+1≤17 by omega);have a:x≤131070:=(by omega);have g:=(lev_root hx (lev_is a)).1;have e:=Vt h hx c g;rw[anc_self (lev_is a)]at e;rw[e,Mb b (by omega)]
 congr 1
 simp
theorem Df {t:List NodeD}(hp:Be t=true) {x:Nat}(hx:x<t.length):(nd t x).kind≠Eb x∧Ao (nd t x)=true:=(Fk t).1 hp x hx
theorem Pf {t:List NodeD}(hp:Be t=true) {x:Nat}(hx:x<t.length)(hk:(nd t x).kind=2):x%2=1:=by
 rcases Nat.mod_two_eq_zero_or_one x with h|h
 ·have:=(Df hp hx).1;rw[Ef h]at this;exact absurd hk this
 ·exact h
theorem Za1 {t:List NodeD}(hp:Be t=true) {x:Nat}(hx:x<t.length)(ho:x%2=1)(hk:(nd t x).kind≠0):(nd t x).kind=2:=by
 obtain⟨h1,h2⟩:=Df hp hx;rw[Gn ho]at h1;rcases Gq h2 with h|h|h
 ·exact absurd h hk
 ·exact absurd h h1
 ·exact h
theorem Hi {t:List NodeD}(b:Be t=true) {x:Nat}(hx:x<t.length) {u:Int}(a:u∈(nd t x).par.late):(nd t x).kind=2∧∃m:Nat,u=(m:Int)∧m<65536:=by
 obtain⟨_,h2⟩:=Df b hx;refine⟨?_,?_⟩
 ·by_cases hk:(nd t x).kind=2
  ·exact hk
  ·rw[Lg h2 hk]at a;cases a
 ·obtain⟨d,c⟩:=Gc (Db h2) u a;exact⟨u.toNat,by omega,by omega⟩
theorem Zka {t:List NodeD} {d m x:Nat}(n:d≤16)(F:t.length+1=2*2^d)(v:Be t=true)(hx:x<t.length)(D:2*m<t.length)(C:(m:Int)∈(nd t x).par.late)(a:Cc ((2*m:Nat):Int) (x:Int)=true):
  (∀i,1≤i→i<lev x→(nd t (anc (2*m) i)).kind≠0→(m:Int)∈(nd t (anc (2*m) i)).par.late)↔(∀y,y<t.length→(nd t y).kind=2→Cc ((2*m:Nat):Int) (y:Int)=true→Cc (y:Int) (x:Int)=true→(m:Int)∈(nd t y).par.late):=by
 have B:=Ba (show d+1≤17 by omega);have e2:2^(d+1)=2*2^d:=(by rw[aP];omega);have k:x+1<2^(d+1):=(by omega);have b:2*m+1<2^(d+1):=(by omega);have r:x≤131070:=(by omega);have j:=(lev_root k (lev_is r)).1;rw[Jz n b k (by omega),decide_eq_true_iff]at a;constructor
 ·intro h y A hk o u;have c:y+1<2^(d+1):=(by omega);have f:y≤131070:=(by omega);have p:=Pf v A hk;have q:=Zdc p f;rw[Jz n b c (by omega),decide_eq_true_iff]at o;have e:=Vt (x:=2*m) n b c j;rw[←a]at e;rw[e,decide_eq_true_iff]at u;obtain⟨E,w⟩:=u
  by_cases hle:lev y=lev x
  ·rw[←hle,anc_self (lev_is f)]at w;rw[←w];exact C
  ·have:=h (lev y) q (by omega) (by rw[←o,hk];omega);rw[←o]at this;exact this
 ·intro h i s z hk;have c:=anc_le (show 2*m<2^(d+1) by omega) (show i≤d by omega);have f:anc (2*m) i≤131070:=(by omega);have l:anc (2*m) i<t.length:=(by omega);have g:lev (anc (2*m) i)=i:=lev_eq f (anc_lev _ _);refine h _ l (Za1 v l (Zj9 _ s) hk) ?_ ?_
  ·rw[Jz n b c (by omega),decide_eq_true_iff,g]
  ·have e:=Vt (x:=2*m) n b c j;rw[←a]at e;rw[e,decide_eq_true_iff,g];refine⟨by omega,?_⟩;rw[anc_anc (by omega),←a]
theorem Tn {t:List NodeD} {d m x:Nat}(b:d≤16)(a:t.length+1=2*2^d):Hy t x (m:Int)↔m<2^d∧Cc ((2*m:Nat):Int) (x:Int)=true∧(nd t (2*m)).kind≠0∧∀y,y<t.length→(nd t y).kind=2→Cc ((2*m:Nat):Int) (y:Int)=true→Cc (y:Int) (x:Int)=true→(m:Int)∈(nd t y).par.late:=by
 unfold Hy;rw[Jd b a,show(2:Int)*(m:Int)=((2*m:Nat):Int) by omega,Int.toNat_natCast,Int.ofNat_lt]
theorem Zls (x:Nat):∀k j i,i<k→(ups x j k)[i]? =some (anc x (j+i+1)):=by
 intro k
 induction k with
 |zero=>intro j i h;omega
 |succ k ih=>
  intro j i h;rw[ups];cases i with
  |zero=>simp
  |succ i=>rw[List.getElem?_cons_succ,ih (j+1) i (by omega)];congr 2;omega
theorem TreeR.at {w:World} {a:Option Addr} {n c:Nat} {t:List NodeD}(h:TreeR w (.slice a n c) t) {i:Nat}(k:i<n):∃b d l e,a=some ⟨b,d,none⟩∧b<w.heap.size∧w.cell? ⟨b,d+i*10,none⟩=some (.int .u8 ((nd t i).kind:Nat))∧w.cell? ⟨b,d+i*10+9,none⟩=some (.slice l (nd t i).par.late.length e)∧Rd w (.slice l (nd t i).par.late.length e) (ivs .i64 (nd t i).par.late):=by
 obtain⟨b,d,cs,m,e2,g,f⟩:=h.node k;obtain⟨l,e,e3,j⟩:=g.late;exact⟨b,d,l,e,m,e2,f 0 _ g.kind,f 9 _ e3,j⟩
theorem Zhg (v:Value)(t:List NodeD)(x d:Nat)(w:World)(h:TreeR w v t)(hs:Zcv t=true)(K:Be t=true)(hd:d≤16)(hl:t.length+1=2*2^d)(hx:x<t.length):
  Calls Tryz.prog 228 #[v,.int .i64 (x:Nat)] w fun e w'=>e=.returned (.bool (Du t x))∧Below w.heap.size w w':=by
 obtain⟨a,c,rfl,hc,b8⟩:=h.sl;have aX:=Qv hs;have bU:=Ba (show d+1≤17 by omega);have aF:2^(d+1)=2*2^d:=(by rw[aP];omega);obtain⟨L,hL⟩:=eX ((nd t x).par.late);have LV:=fun(W:World)=>Je a t.length c W (by omega);rw[Jd hd hl]at LV;have GA:=fun(W:World) (J:Below w.heap.size w W) (i:Nat) (hi:i<t.length)=>(h.below J lR).at hi;have UN:=fun(q:Nat) (W:World)=>Cy (q:Int) (x:Int) W;have PA:=fun(q:Nat) (O:q+1<2^(d+1)) (he:q%2=0) (W:World)=>(show Calls Tryz.prog 269 #[.int .i64 (q:Nat),.int .i64 ((2^d:Nat):Int)] W fun e w'=>∃v,e=.returned v∧Own w' W.heap.size 3 v (nvs (ups q 0 d))∧Below W.heap.size W w' from by
  have:=Zg1 q d hd O W;rw[Mb he (by omega)]at this;exact this)
 have BS:=fun(i:Nat) (hi:i<t.length) (u:Int) (lv:Value) (W:World) (f:Rd W lv (ivs .i64 (nd t i).par.late))=>Vq lv (nd t i).par.late u W f (Za0 (Db (Df K hi).2)) (by
  have:=of_decide_eq_true (Vm hs i)
  omega)
 have F:=fun(hh:∀r,r<L.length→Hy t x (L.getD r 0))=>Pe (t:=t) (x:=x) (fun u hu=>by
  rw[←hL]at hu;obtain⟨r,f,rfl⟩:=dM hu;have:=hh r f
  rwa [aJ,aK f]at this)
 have E:=fun(r:Nat) (f:r<L.length)=>(show L.getD r 0∈(nd t x).par.late by rw[aJ,aK f,←hL];exact aL f);have NO:=fun(r:Nat) (f:r<L.length) (hh:¬Hy t x (L.getD r 0))=>Tm (E r f) hh;have aH:=fun(r:Nat) (f:r<L.length)=>Hi K hx (E r f);have LP:=fun(m:Nat)=>Tn (m:=m) (x:=x) hd hl;have Y:=fun(m:Nat) (hm:2*m<t.length) (hu:(m:Int)∈(nd t x).par.late) (aW:Cc ((2*m:Nat):Int) (x:Int)=true)=>Zka hd hl K hx hm hu aW;have UL:=fun(q:Nat) (O:q+1<2^(d+1)) (he:q%2=0)=>Jz hd O (show x+1<2^(d+1) by omega) he;have LX:=(lev_root (show x+1<2^(d+1) by omega) (lev_is (x:=x) (by omega))).1;have bD:=fun(hk:(nd t x).kind=2)=>Zdc (Pf K hx hk) (by omega);have aB:=fun(q j:Nat) (O:q<2^(d+1)) (hj:j≤d)=>anc_le O hj;obtain⟨N,hN⟩:=eX (2^d);rw[←hN]at LV PA LP hl aF;obtain⟨n,hn⟩:=eX t.length;rw[←hn]at LV GA BS Y hl hx hc aX⊢;rw[←hn]at LP;rw[aF]at PA UL aB;have aV:L.length≤60:=(by have:=of_decide_eq_true (Vm hs x);rw[hL];omega);obtain⟨k0,y⟩:=eX L.length;rw[←y]at aV;rw[←y]at F E NO aH;have GX:=fun(W:World) (J:Below w.heap.size w W)=>GA W J x hx;rw[←hL,←y]at GX;obtain⟨R,hR⟩:=eX (Du t x);rw[←hR]at F NO⊢;have bQ:=Hd LV;have a7:=Hd GA;have bY:=Hd GX;have aZ:=Hd UN;have bK:=Hd PA;have bZ:=Hd BS;have bF:=Hd F;have bG:=Hd E;have bO:=Hd NO;have bC:=Hd aH;have C:=Hd LP;have U:=Hd Y;have bH:=Hd UL;have bP:=Hd LX;have bB:=Hd bD;have aS:=Hd aB;have HD:=Hd hd;have b9:=Hd hL;have b7:=Hd hl;have bS:=Hd y;have cD:2*N=n+1:=(by omega);clear LV GA GX UN PA BS F E NO aH LP Y UL LX bD aB hL hl hn hR h hs K hd bU aF hN y;obtain⟨b,bE,l,e,rfl,cA,ck,cl,a4⟩:=bY.out w bR;have AT:=fun(r:Nat) (f:r<k0)=>a4.at3 (u:=.int .i64 (L.getD r 0)) (r:=r) (by have:=bS.out;simp[ivs,aJ,show r<L.length by omega]);have bJ:=Hd AT;clear AT a4;go_enter Tryz.func228,Tryz.ntmps228;go_wp2_with fail;refine(bQ.out w).mono ?_;rintro e' w' ⟨rfl,rfl⟩;go_wp2_with fail
 go_loopg [21] k0 (fun q iv wr=>∃r:Nat,r+q=k0∧iv=.int .i64 (r:Nat)∧(∀i,i<r→Hy t x (L.getD i 0))∧Below w'.heap.size w' wr)
 case atStart=>exact⟨0,by omega,rfl,fun i hi=>by omega,bR⟩
 case round=>
  obtain⟨r,f,rfl,P,hb⟩:=hrel;have HR:=Hd f;have S:=Hd P;have T:=Hd hb;clear f P hb
  by_cases hlt:r<k0
  ·have aR:decide (r<k0)=true:=decide_eq_true hlt;obtain⟨bl,ol,e1,bA,cu⟩:=bJ.out r hlt;subst e1;obtain⟨a0,m,hm,b3⟩:=bC.out r hlt;rw[hm]at cu;have b6:=(T.out.cell (p:=⟨bl,ol+r,none⟩) bA).trans cu;have HM:=Hd hm;have bW:=Hd a0;clear cu hm a0;have H:=Hd (fun(hh:¬Hy t x (m:Int))=>bO.out r hlt (by rw[HM.out];exact hh));obtain⟨q,O⟩:=eX (2*m);have b5:2*(m:Int)=(q:Int):=(by omega);have g:=Hd O;clear O
   by_cases c1:N≤m
   ·have g1:decide (N≤m)=true:=decide_eq_true c1;have HF:=Hd (H.out (fun hh=>by have:=((C.out m).1 hh).1;omega));go_wp2_with fail;go_ret;exact⟨Dh HF.out,T.out⟩
   ·have g1:decide (N≤m)=false:=decide_eq_false c1;have bT:q<n:=(by have:=g.out;omega);cases hun:Cc (q:Int) (x:Int)with
    |false=>
     have HF:=Hd (H.out (fun hh=>by
      have:=((C.out m).1 hh).2.1;rw[←g.out,hun]at this;cases this))
     have U1:=aZ.out q wr;rw[hun]at U1;have G:=Hd U1;clear U1 hun;go_wp2_with fail;refine(G.out).mono ?_;rintro e' w2 ⟨rfl,rfl⟩;go_wp2_with fail;go_ret;exact⟨Dh HF.out,T.out⟩
    |true=>
     have U1:=aZ.out q wr;rw[hun]at U1;have G:=Hd U1;have s:=Hd hun;clear U1 hun;obtain⟨b',off',l2,e2,eb,_,I,_,_⟩:=a7.out wr T.out q bT;simp only[Option.some.injEq,Addr.mk.injEq,and_true]at eb;obtain⟨rfl,rfl⟩:=eb
     by_cases c3:(nd t q).kind=0
     ·have HF:=Hd (H.out (fun hh=>by
       have:=((C.out m).1 hh).2.2.1;rw[←g.out]at this;exact this c3))
      rw[c3]at I;have b2:wr.cell? ⟨b,bE+q*10,none⟩=some (.int .u8 0):=I;clear c3 I;go_wp2_with fail;refine(G.out).mono ?_;rintro e' w2 ⟨rfl,rfl⟩;go_wp2_with fail;go_ret;exact⟨Dh HF.out,T.out⟩
     ·obtain⟨kq,aM⟩:=eX ((nd t q).kind);rw[←aM]at I c3;have g3:((kq:Int)==0)=false:=(by rw[beq_eq_false_iff_ne];omega);have bN:=Hd aM;have aN:q+1<2*N:=(by omega);have bV:=Hd (bK.out q aN (by have:=g.out;omega) wr);clear aM;go_wp2_with fail;refine(G.out).mono ?_;rintro e' w2 ⟨rfl,rfl⟩;go_wp2_with fail;refine(bV.out).mono ?_;rintro e' w2 ⟨pv,rfl,A,aU⟩;have X:=Hd (T.out.trans (aU.mono T.out.size));have a8:(nvs (ups q 0 d)).length=d:=(by rw[Zct,Zcs]);obtain⟨pa,pc,bI⟩:∃a c,pv=.slice a d c:=(by obtain⟨a,c,e,_⟩:=A.rd;exact⟨a,c,by rw[e,a8]⟩);subst bI;have PT:=fun(k:Nat) (hk:k<d)=>A.rd.at3 (u:=.int .i64 (anc q (k+1):Nat)) (r:=k) (by simp[nvs,ivs,Zls q d 0 k hk]);have bX:=Hd PT;have Z:=Hd (show x=anc q (lev x) by
       have:=bH.out q aN (by have:=g.out;omega);rw[s.out]at this;exact of_decide_eq_true this.symm)
      have M:=Hd (bB.out bW.out);have z:=Hd (show(m:Int)∈(nd t x).par.late by rw[←HM.out];exact bG.out r hlt);have cB:=HD.out;clear A aU PT a8;go_wp2_with fail;obtain⟨g1,rfl⟩:=eX gk;obtain⟨w1,rfl⟩:=eX wr
      go_loopg [49] d (fun q2 iv wv=>∃k:Nat,k+q2=d∧iv=.int .i64 (k:Nat)∧(∀i,1≤i→i≤k→anc q i≠x∧((nd t (anc q i)).kind≠0→(m:Int)∈(nd t (anc q i)).par.late))∧wv=w2)
      case atStart=>exact⟨0,by omega,rfl,fun i o h2=>by omega,rfl⟩
      case round=>
       obtain⟨k,hk,rfl,Q,rfl⟩:=hrel;have HK:=Hd hk;have B:=Hd Q;clear hk Q
       by_cases hkd:k<d
       ·have b1:decide (k<d)=true:=decide_eq_true hkd;obtain⟨bp,op,e1,cC,cp⟩:=bX.out k hkd;subst e1;obtain⟨p,K⟩:=eX (anc q (k+1));rw[←K]at cp;have V:=Hd K;clear K
        by_cases hpx:p=x
        ·have g4:((p:Int)==(x:Int))=true:=(by rw[beq_iff_eq];omega);have D:=Hd hpx;have a3:=Hd (show Hy t x (m:Int)from(C.out m).2 ⟨by omega,by rw[←g.out];exact s.out,by rw[←g.out,←bN.out];exact c3,by
          have J:=U.out m (by have:=g.out;omega) z.out (by rw[←g.out];exact s.out);rw[←g.out]at J;have b4:lev x=k+1:=by
           have o:=Z.out;have h2:=V.out;rw[D.out]at h2;have a1:=anc_lev q (k+1);rw[←h2]at a1;have a2:=anc_lev q (lev x);rw[←o]at a2;exact lev_unique a2 a1
          rw[←g.out];refine J.1 fun i o h2=> ?_;exact(B.out i o (by omega)).2⟩)
         clear hpx;go_wp2_with fail;go_roundg (g1-1);case measure=>have:=HR.out;omega
         case rel=>
          refine⟨r+1,by have:=HR.out;omega,by go_num,fun i hi=> ?_,X.out⟩
          by_cases e:i=r
          ·rw[e,HM.out];exact a3.out
          ·exact S.out i (by omega)
        ·have g4:((p:Int)==(x:Int))=false:=(by rw[beq_eq_false_iff_ne];omega);have D:=Hd hpx;have aQ:p<n:=by
          have:=aS.out q (k+1) (by omega) (by omega);rw[←V.out]at this;omega
         obtain⟨b',off',l3,e3,eb,_,aD,bM,aA⟩:=a7.out wr (X.out) p aQ;simp only[Option.some.injEq,Addr.mk.injEq,and_true]at eb;obtain⟨rfl,rfl⟩:=eb;have B1:=bZ.out p aQ (m:Int) _ wr aA;obtain⟨kp,aI⟩:=eX ((nd t p).kind);rw[←aI]at aD;have aY:=Hd aI;obtain⟨lp,a6⟩:=eX ((nd t p).par.late.length);rw[←a6]at bM aA B1;obtain⟨is,aC⟩:=eX (decide ((m:Int)∈(nd t p).par.late));rw[←aC]at B1;have a9:=Hd aC;have aG:=Hd B1;clear aI a6 aC B1 aA hpx
         by_cases k0':kp=0
         ·have aE:=Hd k0';have b0:wr.cell? ⟨b,bE+p*10,none⟩=some (.int .u8 0):=(by rw[aD,k0'];rfl);clear k0' aD;go_wp2_with fail;refine(aG.out).mono ?_;rintro e' w3 ⟨pos,rfl,_,_,_,rfl⟩;go_wp2_with fail;go_roundg (gk-1);case measure=>have:=HK.out;omega
          case rel=>
           refine⟨k+1,by have:=HK.out;omega,by go_num,fun i o h2=> ?_,rfl⟩
           by_cases e:i=k+1
           ·rw[e,←V.out];exact⟨D.out,fun bL=>absurd (aY.out.symm.trans aE.out) bL⟩
           ·exact B.out i o (by omega)
         ·have aE:=Hd k0';have g5:((kp:Int) !=0)=true:=by
           have:((kp:Int)==0)=false:=(by rw[beq_eq_false_iff_ne];omega);rw[bne,this];rfl
          have g6:((kp:Int)==0)=false:=(by rw[beq_eq_false_iff_ne];omega);cases is with
          |true=>
           clear k0';go_wp2_with fail;refine(aG.out).mono ?_;rintro e' w3 ⟨pos,rfl,_,_,_,rfl⟩;go_wp2_with fail;go_roundg (gk-1);case measure=>have:=HK.out;omega
           case rel=>
            refine⟨k+1,by have:=HK.out;omega,by go_num,fun i o h2=> ?_,rfl⟩
            by_cases e:i=k+1
            ·rw[e,←V.out];exact⟨D.out,fun _=>of_decide_eq_true a9.out.symm⟩
            ·exact B.out i o (by omega)
          |false=>
           have HF:=Hd (H.out (fun hh=>by
            have J:=U.out m (by have:=g.out;omega) z.out (by rw[←g.out];exact s.out);rw[←g.out]at J;have aT:=((C.out m).1 hh).2.2.2;rw[←g.out]at aT;have aO:k+1<lev x:=by
             have o:=Z.out;have h3:=M.out;rcases Nat.lt_or_ge (k+1) (lev x)with h|h
             ·exact h
             ·exfalso
              by_cases e:lev x=k+1
              ·rw[e,←V.out]at o;exact D.out o.symm
              ·exact(B.out (lev x) h3 (by omega)).1 o.symm
            have a5:=J.2 aT (k+1) (by omega) aO (by rw[←V.out,←aY.out];exact aE.out);rw[←V.out]at a5;exact absurd a5 (of_decide_eq_false a9.out.symm)))
           clear k0';go_wp2_with fail;refine(aG.out).mono ?_;rintro e' w3 ⟨pos,rfl,_,_,_,rfl⟩;go_wp2_with fail;go_ret;exact⟨Dh HF.out,X.out⟩
       ·exfalso;have o:=Z.out;have h2:=bP.out;have h3:=M.out;exact(B.out (lev x) h3 (by have:=HK.out;omega)).1 o.symm
  ·obtain rfl:r=k0:=(by have:=HR.out;omega);have aR:decide (r<r)=false:=decide_eq_false hlt;go_wp2_with fail;go_ret;exact⟨Dh (bF.out S.out),T.out⟩
def Ok (t:List NodeD):Bool:=if Ap t.length=1 then Gp t else Gp (t.drop (Ap t.length))
def Ka (t:List NodeD):Bool:=(aH t.length).all (Du t)
def Bv (t:List NodeD):Bool:=decide (Ap t.length≠0)&&(Be t&&(Ok t&&Ka t))
theorem Pg {t:List NodeD}(h:∀x,x<t.length→Du t x=true):Ka t=true:=List.all_eq_true.2 fun x hx=>h x (List.mem_range.1 hx)
theorem Kt {t:List NodeD}(h:Ka t=true):∀x,x<t.length→Du t x=true:=fun x hx=>List.all_eq_true.1 h x (List.mem_range.2 hx)
theorem To {t:List NodeD} {x:Nat}(hx:x<t.length)(h:Du t x=false):Ka t=false:=by
 cases hb:Ka t with
 |false=>rfl
 |true=>rw[Kt hb x hx]at h;cases h
theorem Zkb (t:List NodeD)(k i:Nat):nd (t.drop k) i=nd t (k+i):=by
 unfold nd;rw[aJ,List.getElem?_drop,aJ]
theorem TreeR.drop {w:World} {b a n c:Nat} {t:List NodeD}(h:TreeR w (.slice (some ⟨b,a,none⟩) n c) t)(k:Nat)(hk:k≤n) {f n' g:Nat}(l:f=a+k*10)(d:n'=n-k)(m:g=c-k):TreeR w (.slice (some ⟨b,f,none⟩) n' g) (t.drop k):=by
 obtain⟨r,cap,e,s,h2,h3⟩:=h;simp only[Value.slice.injEq]at e;obtain⟨rfl,rfl,rfl⟩:=e;subst l d m;refine⟨_,_,by rw[eM],by rw[eM];omega,by omega,fun i o=> ?_⟩;rw[eM]at o;obtain⟨q,off',cs,e,p,d,j⟩:=h3 (k+i) (by omega);simp only[Option.some.injEq,Addr.mk.injEq,and_true]at e;obtain⟨rfl,rfl⟩:=e;refine⟨b,a+k*10,cs,rfl,p,by rw[Zkb];exact d,?_⟩;rw[show a+k*10+i*10=a+(k+i)*10 by omega];exact j
theorem Ph (v:Value)(t:List NodeD)(w:World)(h:TreeR w v t)(V:Zcv t=true)(C:TreeOk t):
  Calls Tryz.prog 188 #[v] w fun e w'=>e=.returned (.bool (Bv t))∧Below w.heap.size w w':=by
 obtain⟨a,c,rfl,Y,aO⟩:=h.sl;have J:=Qv V;have G:=fun(W:World)=>Je a t.length c W (by omega);have M:=fun(W:World) (U:Below w.heap.size w W)=>Zaw (.slice a t.length c) t W (h.below U lR) V C;have SM:=fun(W:World) (U:Below w.heap.size w W)=>Tl (.slice a t.length c) t W (h.below U lR) C;obtain⟨R,hR⟩:=eX (Bv t);have j:R=(decide (Ap t.length≠0)&&(Be t&&(Ok t&&Ka t))):=(by rw[hR,Bv]);rw[←hR]
 by_cases h0:Ap t.length=0
 ·rw[h0]at G;have l:=Hd (show R=false by rw[j,h0];rfl);obtain⟨n,P⟩:=eX t.length;rw[←P]at G⊢;have p:=Hd G;clear G M SM j hR h0 h V C P Y J;go_enter Tryz.func188,Tryz.ntmps188;go_wp2_with fail;refine(p.out w).mono ?_;rintro e w' ⟨rfl,rfl⟩;go_wp2_with fail;go_ret;exact⟨Dh l.out,bR⟩
 ·obtain⟨d,hd,hN,hl⟩:=Cl h0;rw[decide_eq_true h0,dK]at j;cases hp:Be t with
  |false=>
   rw[hp]at M j;have l:=Hd (show R=false by rw[j,dJ]);obtain⟨N,K⟩:=eX (Ap t.length);rw[←K]at G h0;obtain⟨n,P⟩:=eX t.length;rw[←P]at G M⊢;have hq:((N:Int)==0)=false:=(by rw[beq_eq_false_iff_ne];omega);have p:=Hd G;have D:=Hd (M w bR);clear G M SM j hR h0 h V C P Y J hl hN K;go_enter Tryz.func188,Tryz.ntmps188;go_wp2_with fail;refine(p.out w).mono ?_;rintro e w' ⟨rfl,rfl⟩;go_wp2_with fail;refine(D.out).mono ?_;rintro e H ⟨rfl,f⟩;have g:=Hd f;clear f;go_wp2_with fail;go_ret;exact⟨Dh l.out,g.out⟩
  |true=>
   rw[hp]at M j;rw[dK]at j;have LT:=fun(x:Nat) (hx:x<t.length) (W:World) (U:Below w.heap.size w W)=>Zhg (.slice a t.length c) t x d W (h.below U lR) V hp hd hl hx;have L1:=fun(hh:∀x,x<t.length→Du t x=true)=>Pg hh;have L2:=fun(x:Nat) (hx:x<t.length) (hh:Du t x=false)=>To hx hh;have aM:t.length≠0:=(by have:=pow_pos' d;omega);obtain⟨b,aH,aN,rfl,_,_,_⟩:=h.node (i:=0) (by omega);have aA:Ap t.length≤t.length:=(by rw[hN];have:=pow_pos' d;omega);have SD:=fun(W:World) (U:Below w.heap.size w W)=>Tl (.slice (some ⟨b,aH+Ap t.length*10,none⟩) (t.length-Ap t.length) (c-Ap t.length)) (t.drop (Ap t.length)) W ((h.below U lR).drop _ aA rfl rfl rfl) (fun d hd=>C d (List.mem_of_mem_drop hd));have O:Ok t=if Ap t.length=1 then Gp t else Gp (t.drop (Ap t.length)):=rfl;have Z:2*Ap t.length=t.length+1:=(by rw[hN];omega);obtain⟨N,K⟩:=eX (Ap t.length);rw[←K]at G h0 SD O Z;obtain⟨n,P⟩:=eX t.length;rw[←P]at G M SM LT L1 L2 SD Z Y J⊢;obtain⟨sb,Q⟩:∃b,b=Ok t:=⟨_,rfl⟩;rw[←Q]at j O;obtain⟨lb,aB⟩:=eX (Ka t);rw[←aB]at j L1 L2;have hq:((N:Int)==0)=false:=(by rw[beq_eq_false_iff_ne];omega);have p:=Hd G;have D:=Hd (M w bR);have aE:=Hd SM;have aF:=Hd SD;have aD:=Hd LT;have aG:=Hd L1;have X:=Hd L2;have E:=Hd j;have aC:=Hd O;have aK:n≤c:=Y;clear G M SM SD LT L1 L2 j O hR h V C P hl hN K Q aB hp hd aA Y
   by_cases hN1:N=1
   ·have L:=Hd (show sb=Gp t by rw[aC.out,if_pos hN1]);subst hN1;cases hsm:Gp t with
    |false=>
     have z:=Hd hsm;have l:=Hd (show R=false by rw[E.out,L.out,hsm,dJ]);clear hsm;go_enter Tryz.func188,Tryz.ntmps188;go_wp2_with fail;refine(p.out w).mono ?_;rintro e w' ⟨rfl,rfl⟩;go_wp2_with fail;refine(D.out).mono ?_;rintro e H ⟨rfl,f⟩;have g:=Hd f;have y:=aE.out H f;rw[z.out]at y;have B:=Hd y;clear f y;go_wp2_with fail;refine(B.out).mono ?_;rintro e w4 ⟨rfl,f⟩;have s:=Hd (g.out.trans (f.mono g.out.size));clear f;go_wp2_with fail;go_ret;exact⟨Dh l.out,s.out⟩
    |true=>
     have z:=Hd hsm;have S:=Hd (show sb=true by rw[L.out,hsm]);clear hsm;go_enter Tryz.func188,Tryz.ntmps188;go_wp2_with fail;refine(p.out w).mono ?_;rintro e w' ⟨rfl,rfl⟩;go_wp2_with fail;refine(D.out).mono ?_;rintro e H ⟨rfl,f⟩;have g:=Hd f;have y:=aE.out H f;rw[z.out]at y;have B:=Hd y;clear f y;go_wp2_with fail;refine(B.out).mono ?_;rintro e w4 ⟨rfl,f⟩;have s:=Hd (g.out.trans (f.mono g.out.size));clear f;go_wp2_with fail
     go_loopg [36] n (fun q iv wr=>∃r:Nat,r+q=n∧iv=.int .i64 (r:Nat)∧(∀i,i<r→Du t i=true)∧Below w'.heap.size w' wr)
     case atStart=>exact⟨0,by omega,rfl,fun i hi=>by omega,s.out⟩
     case round=>
      obtain⟨r,hr,rfl,m,f⟩:=hrel;have T:=Hd hr;have o:=Hd m;have g:=Hd f;clear hr m f
      by_cases hlt:r<n
      ·have I:decide (r<n)=true:=decide_eq_true hlt;have F:=aD.out r hlt wr g.out;cases hk:Du t r with
       |true=>
        rw[hk]at F;have A:=Hd F;have l:=Hd hk;clear F hk;go_wp2_with fail;refine(A.out).mono ?_;rintro e H ⟨rfl,k⟩;have u:=Hd (g.out.trans (k.mono g.out.size));clear k;go_wp2_with fail;go_roundg (gk-1);case measure=>have:=T.out;omega
        case rel=>
         refine⟨r+1,by have:=T.out;omega,by go_num,fun i hi=> ?_,u.out⟩
         by_cases e:i=r
         ·rw[e];exact l.out
         ·exact o.out i (by omega)
       |false=>
        rw[hk]at F;have A:=Hd F;have l:=Hd (show R=false by rw[E.out,X.out r hlt hk,eQ]);clear F hk;go_wp2_with fail;refine(A.out).mono ?_;rintro e H ⟨rfl,k⟩;have u:=Hd (g.out.trans (k.mono g.out.size));clear k;go_wp2_with fail;go_ret;exact⟨Dh l.out,u.out⟩
      ·obtain rfl:r=n:=(by have:=T.out;omega);have I:decide (r<r)=false:=decide_eq_false hlt;have l:=Hd (show R=true by rw[E.out,aG.out o.out,S.out];rfl);go_wp2_with fail;go_ret;exact⟨Dh l.out,g.out⟩
   ·have L:=Hd (show sb=Gp (t.drop N) by rw[aC.out,if_neg hN1]);have aJ:((N:Int)==1)=false:=(by rw[beq_eq_false_iff_ne];omega);have aP:decide ((N:Int)>1)=true:=(by rw[decide_eq_true_iff];omega);have aQ:decide ((1:Int)<(N:Int))=true:=(by rw[decide_eq_true_iff];omega);have aI:N≤n:=(by omega);have aL:c≠N:=(by omega);cases hsm:Gp (t.drop N)with
    |false=>
     have z:=Hd hsm;have l:=Hd (show R=false by rw[E.out,L.out,hsm,dJ]);clear hsm;go_enter Tryz.func188,Tryz.ntmps188;go_wp2_with fail;refine(p.out w).mono ?_;rintro e w' ⟨rfl,rfl⟩;go_wp2_with fail;refine(D.out).mono ?_;rintro e H ⟨rfl,f⟩;have g:=Hd f;have y:=aF.out H f;rw[z.out]at y;have B:=Hd y;clear f y;go_wp2_with fail;refine(B.out).mono ?_;rintro e w4 ⟨rfl,f⟩;have s:=Hd (g.out.trans (f.mono g.out.size));clear f;go_wp2_with fail;go_ret;exact⟨Dh l.out,s.out⟩
    |true=>
     have z:=Hd hsm;have S:=Hd (show sb=true by rw[L.out,hsm]);clear hsm;go_enter Tryz.func188,Tryz.ntmps188;go_wp2_with fail;refine(p.out w).mono ?_;rintro e w' ⟨rfl,rfl⟩;go_wp2_with fail;refine(D.out).mono ?_;rintro e H ⟨rfl,f⟩;have g:=Hd f;have y:=aF.out H f;rw[z.out]at y;have B:=Hd y;clear f y;go_wp2_with fail;refine(B.out).mono ?_;rintro e w4 ⟨rfl,f⟩;have s:=Hd (g.out.trans (f.mono g.out.size));clear f;go_wp2_with fail
     go_loopg [36] n (fun q iv wr=>∃r:Nat,r+q=n∧iv=.int .i64 (r:Nat)∧(∀i,i<r→Du t i=true)∧Below w'.heap.size w' wr)
     case atStart=>exact⟨0,by omega,rfl,fun i hi=>by omega,s.out⟩
     case round=>
      obtain⟨r,hr,rfl,m,f⟩:=hrel;have T:=Hd hr;have o:=Hd m;have g:=Hd f;clear hr m f
      by_cases hlt:r<n
      ·have I:decide (r<n)=true:=decide_eq_true hlt;have F:=aD.out r hlt wr g.out;cases hk:Du t r with
       |true=>
        rw[hk]at F;have A:=Hd F;have l:=Hd hk;clear F hk;go_wp2_with fail;refine(A.out).mono ?_;rintro e H ⟨rfl,k⟩;have u:=Hd (g.out.trans (k.mono g.out.size));clear k;go_wp2_with fail;go_roundg (gk-1);case measure=>have:=T.out;omega
        case rel=>
         refine⟨r+1,by have:=T.out;omega,by go_num,fun i hi=> ?_,u.out⟩
         by_cases e:i=r
         ·rw[e];exact l.out
         ·exact o.out i (by omega)
       |false=>
        rw[hk]at F;have A:=Hd F;have l:=Hd (show R=false by rw[E.out,X.out r hlt hk,eQ]);clear F hk;go_wp2_with fail;refine(A.out).mono ?_;rintro e H ⟨rfl,k⟩;have u:=Hd (g.out.trans (k.mono g.out.size));clear k;go_wp2_with fail;go_ret;exact⟨Dh l.out,u.out⟩
      ·obtain rfl:r=n:=(by have:=T.out;omega);have I:decide (r<r)=false:=decide_eq_false hlt;have l:=Hd (show R=true by rw[E.out,aG.out o.out,S.out];rfl);go_wp2_with fail;go_ret;exact⟨Dh l.out,g.out⟩
theorem Za2 (v:Value)(t:List NodeD)(w:World)(h:TreeR w v t)(hs:Bg t=true)(hok:TreeOk t):
  Calls Tryz.prog 188 #[v] w fun e w'=>e=.returned (.bool (Bv t))∧Below w.heap.size w w':=
 Ph v t w h (Oz hs) hok
theorem kids_lev {x k:Nat}(hx:x≤131070)(h:IsLev x (k+1)):Hr (x:Int)=((x-2^k:Nat):Int)∧Em (x:Int)=((x+2^k:Nat):Int)∧IsLev (x-2^k) k∧IsLev (x+2^k) k∧2^k≤x:=by
 have d:=lev_eq hx h;have c:Lp (x:Int)=((k+1:Nat):Int):=by
  rw[Lp,if_pos (by unfold Bf;rw[decide_eq_true_iff];omega),Int.toNat_natCast,d]
 have g:0<2^k:=aR (by simp);have hh:Et (x:Int)=((2^k:Nat):Int):=by
  rw[Et,c,if_pos (by omega),show(((k+1:Nat):Int)-1).toNat=k by omega,Int.natCast_pow];rfl
 unfold IsLev at h⊢;have b:2^(k+1)=2*2^k:=(by rw[aP];omega);have e2:2^(k+1+1)=4*2^k:=(by rw[aP,b];omega);rw[e2,b]at h;rw[b];have f:=Nat.div_add_mod x (4*2^k);rw[h]at f;have a:2^k≤x:=(by omega);refine⟨?_,?_,?_,?_,a⟩
 ·rw[Hr,hh,if_neg (by omega)];omega
 ·rw[Em,hh,if_neg (by omega)];omega
 ·have e:x-2^k=2*2^k*(2*(x/(4*2^k)))+(2^k-1):=by
   have:2*2^k*(2*(x/(4*2^k)))=4*2^k*(x/(4*2^k)):=(by rw[bF,←bG,←bG]);omega
  rw[e,eR];exact aU (by omega)
 ·have e:x+2^k=2*2^k*(2*(x/(4*2^k))+1)+(2^k-1):=by
   have:2*2^k*(2*(x/(4*2^k))+1)=4*2^k*(x/(4*2^k))+2*2^k:=(by rw[Nat.mul_add,Nat.mul_one,bF,←bG,←bG]);omega
  rw[e,eR];exact aU (by omega)
theorem Dv {x:Nat}(h:IsLev x 0):x%2=0:=by unfold IsLev at h;simpa using h
theorem Fv {x k:Nat}(h:IsLev x (k+1)):x%2=1:=by
 unfold IsLev at h;have e2:2^(k+1+1)=2*2^(k+1):=(by rw[aP];omega);have e1:2^(k+1)=2*2^k:=(by rw[aP];omega);have hp:0<2^k:=aR (by simp);have:=Nat.mod_mod_of_dvd x (show 2∣2^(k+1+1)from⟨2^(k+1),e2⟩);rw[h]at this;omega
theorem Mc {x d:Nat}(hx:x+1<2^(d+1))(i:d≤16):x+2^lev x+1≤2^(d+1):=by
 have f:2^(d+1)≤2^17:=Nat.pow_le_pow_right (by omega) (by omega);have a:x≤131070:=(by have:(2:Nat)^17=131072:=rfl;omega);have c:=lev_is a;have b:=(lev_root hx c).1;have h:=phi_le (x:=x) (d:=d) (by omega) b;have g:=anc_self c;rw[anc_plo]at g;have e:phi x (lev x)=plo x (lev x)+(2^(lev x+1)-2):=rfl;have j:2^(lev x+1)=2*2^lev x:=(by rw[aP];omega);have k:0<2^lev x:=aR (by simp);omega
open WireM
def Nf (t:List NodeD)(m:Nat):List Int:=((aH m).filter fun i=>(nd t (2*i)).kind==1).map fun i=>((i:Nat):Int)
theorem mem_iff (t:List NodeD)(m:Nat)(i:Nat):((i:Nat):Int)∈Nf t m↔i<m∧(nd t (2*i)).kind=1:=by
 unfold Nf;simp only[eN,cH,eL,beq_iff_eq];constructor
 ·rintro⟨j,⟨h1,h2⟩,e⟩;have:j=i:=(by omega);subst this;exact⟨h1,h2⟩
 ·rintro⟨h1,h2⟩;exact⟨i,⟨h1,h2⟩,rfl⟩
theorem Zkc (t:List NodeD)(m:Nat) {i:Int}(h:i<0):i∉Nf t m:=by
 unfold Nf;simp only[eN,cH,eL];rintro⟨j,_,e⟩;omega
def inR (k x y:Nat):Prop:=x+1≤y+2^k∧y<x+2^k
instance decInR (k x y:Nat):Decidable (inR k x y):=inferInstanceAs (Decidable (_∧_))
theorem Ng {x y k:Nat}(hx:x≤131070)(c:y≤131070)(b:IsLev x k):Cc (y:Int) (x:Int)=true↔inR k x y:=by
 have a:=lev_eq hx b;rw[Vs c hx,a,decide_eq_true_iff];have d:=anc_self b;rw[anc_plo]at d;have e:phi x k=plo x k+(2^(k+1)-2):=rfl;have f:2^(k+1)=2*2^k:=(by rw[aP];omega);have g:0<2^k:=aR (by simp);unfold inR;omega
theorem Zm8 (m x:Nat):Cc (2*(m:Int)) (x:Int)=Cc ((2*m:Nat):Int) (x:Int):=by rw[Int.natCast_mul];rfl
end Go.Proofs.YtfofaiommeckbaaGreat
namespace Go.Proofs.YtfofaiommeckbaaGreat
open Go.RowKit WalkM
def Ol (t:List NodeD)(N r:Nat):Bool:=(aH r).any fun i=>(nd t i).kind==1&&(N==1||decide (N≤i))
theorem Za3 (t:List NodeD)(N r:Nat):Ol t N (r+1)=(Ol t N r||((nd t r).kind==1&&(N==1||decide (N≤r)))):=by
 unfold Ol;rw[List.range_succ,List.any_append];simp
theorem Zdd {t:List NodeD} {N:Nat}(h:Ap t.length=N)(j:N≤t.length):Ol t N t.length=Ok t:=by
 have f:Ol t N t.length=true↔Ok t=true:=by
  unfold Ol Ok Gp;rw[h,cI];constructor
  ·rintro⟨i,b,hk⟩;rw[eL]at b;rw[cL,beq_iff_eq,cM,beq_iff_eq,decide_eq_true_iff]at hk;have a:(nd t i)=t[i]:=by rw[nd,aJ,aK b];rfl
   by_cases h1:N=1
   ·rw[if_pos h1,cI];exact⟨t[i],aL b,by rw[←a,beq_iff_eq];exact hk.1⟩
   ·rw[if_neg h1,cI];have g:N≤i:=by rcases hk.2 with h2|h2;exact absurd h2 h1;exact h2
    refine⟨t[i],?_,by rw[←a,beq_iff_eq];exact hk.1⟩;rw[List.mem_drop_iff_getElem];exact⟨i-N,by omega,by congr 1;omega⟩
  ·intro c
   by_cases h1:N=1
   ·rw[if_pos h1,cI]at c;obtain⟨d,a,hk⟩:=c;obtain⟨i,b,rfl⟩:=dM a;refine⟨i,List.mem_range.2 b,?_⟩;have a:(nd t i)=t[i]:=(by rw[nd,aJ,aK b];rfl);rw[a,hk,h1];rfl
   ·rw[if_neg h1,cI]at c;obtain⟨d,a,hk⟩:=c;obtain⟨i,b,e⟩:=List.mem_drop_iff_getElem.1 a;refine⟨N+i,List.mem_range.2 (by omega),?_⟩;have a:(nd t (N+i))=d:=(by rw[nd,aJ,aK (by omega),←e];rfl);rw[a,hk,dK,cM,decide_eq_true_iff];exact .inr (by omega)
 cases h1:Ol t N t.length<;>cases h2:Ok t<;>simp_all
end Go.Proofs.YtfofaiommeckbaaGreat
