/- Walks: the reference's Hash of any node of a tree that may be, without some leaves' places. -/
import Derived.Test.YtfofaiommeckbaaGreatZSliceSoundB
import Derived.Test.YtfofaiommeckbaaGreatZSliceSound37
import Derived.Test.YtfofaiommeckbaaGreatZSliceSound44
import Derived.Test.YtfofaiommeckbaaGreatZSliceSound43
import Derived.Test.YtfofaiommeckbaaGreatZSliceSound45
import Derived.Test.YtfofaiommeckbaaGreatZSliceSound33
open Bool renaming and_eq_true → cL, or_false → dD, or_true → dE
open Nat renaming pow_succ → aP, le_trans → bO, le_refl → eI, lt_of_lt_of_le → dX, le_succ → fZ, lt_succ_self → dG, not_lt_zero → iE, succ_le_of_lt → iF, le_of_lt → eA, zero_le → aA
open List renaming getD_eq_getElem?_getD → aJ, range → aH, flatMap_def → gE, map_congr_left → iG, range_succ → eZ, length_map → gH, map_append → iH, map_nil → iI, getElem?_eq_getElem → aK, pairwise_map → iJ, take_length → cG, getElem_mem → aL, replicate → cK, getElem?_toArray → cC, getElem?_cons_zero → cD, getElem?_cons_succ → cE, filterMap_cons → cZ, filterMap_nil → dA, contains_cons → dB, contains_nil → dC, all_eq_true → fV
open Int renaming toNat_natCast → dI, toNat → iK
set_option linter.unusedVariables false
set_option maxRecDepth 100000
set_option maxHeartbeats 40000000
namespace Go.Proofs.YtfofaiommeckbaaGreat
open Go.RowKit WalkM ShaM WireM
theorem Zu (t:List NodeD)(f:List Int)(y:Bg t=true)(q:TreeOk t)(k:Nat)(s:Yt t f k):Zdq t f k:=by
 intro x v E w h m g hx;have C:=Hd (s x v E w h m g hx);have z:=Kc (Nj y f) k x;have i:=Kd (woD t f) (Zlw q f) (Nj y f) k x;have r:=Hd (Ek (woD t f) k x);obtain⟨u,j⟩:=eX (Dx (woD t f) k x);rw[←j]at C z i r;rw[r.out];have B:=Hd (show u.length≤1000000 by omega);have p:=Hd i;obtain⟨G,K,I,rfl⟩:∃a b c,v=.slice a b c:=(by obtain⟨a,c,e,_⟩:=h.sl;exact⟨_,_,_,e⟩);clear z i j h m g hx s;go_enter Tryz.func76,Tryz.ntmps76;go_wp2_with fail;refine(C.out).mono ?_;rintro e A ⟨H,rfl,d,l⟩;have D:=Hd d.rd;have n:=Hd l;clear d l;go_wp2_with fail;refine(Iq _ u A D.out p.out B.out).mono ?_;rintro e J ⟨L,rfl,d,l⟩;have F:=Hd (d.mono n.out.size);have o:=Hd (n.out.trans (l.mono n.out.size));clear d l;go_wp2_with fail;go_ret;exact⟨_,rfl,F.out,o.out⟩
theorem Up (t:List NodeD)(ps:List Int)(hs:Bg t=true)(hok:TreeOk t)(hp:Be t=true):∀k,Yt t ps k∧Zdq t ps k:=by
 intro k
 induction k with
 |zero=>have h:=Za8 t ps hs hok hp;exact⟨h,Zu t ps hs hok 0 h⟩
 |succ k ih=>have h:=Za9 t ps hs hok hp k ih.2;exact⟨h,Zu t ps hs hok (k+1) h⟩
theorem Zbv (t:List NodeD)(k:Bg t=true)(i:TreeOk t)(a:Bv t=true)(x:Nat)(hx:x<t.length)(v c:Value)(b:List Int)(w:World)(h:TreeR w v t)(l:Rd w c (ivs .i64 b)):
  Calls Tryz.prog 76 #[v,.int .i64 (x:Nat),c] w fun e w'=>∃v',e=.returned v'∧Own w' w.heap.size 5 v' (bvs (Dq (woD t b) x))∧Below w.heap.size w w':=by
 obtain⟨f,g⟩:Ap t.length≠0∧Be t=true:=by
  rw[Bv,cL,cL]at a;exact⟨of_decide_eq_true a.1,a.2.1⟩
 obtain⟨d,m,n,o⟩:=Cl f;have j:=Bo k;have e:2^(d+1)=2*2^d:=(by rw[aP];omega);exact(Up t b k i g (lev x)).2 x v c w h l (lev_is (by omega)) (by have:=Mc (x:=x) (d:=d) (by omega) m;omega)
end Go.Proofs.YtfofaiommeckbaaGreat
namespace Go.Proofs.YtfofaiommeckbaaGreat
open Go.RowKit WalkM WireM ShaM
theorem Zfb {t:List NodeD}(a:Bv t=true) {x:Nat}(hx:x<t.length):∀u∈(nd t x).par.late,∃m:Nat,u=(m:Int)∧2*m<t.length:=by
 rw[Bv,cL,cL,cL]at a;obtain⟨h,g,_,i⟩:=a;obtain⟨d,k,e,b⟩:=Cl (of_decide_eq_true h);intro u c;obtain⟨h2,m,rfl,j⟩:=Hi g hx c;have f:=Ks (Kt i x hx) _ c;refine⟨m,rfl,?_⟩;have:=f.1;rw[e]at this;omega
theorem Sa {w:World} {v:Value} {d:List Nat}(h:Rd w v (ivs .i64 (d.map fun m:Nat=>(m:Int)))):∃a c,v=.slice a d.length c∧∀r,r<d.length→∃b o,a=some ⟨b,o,none⟩∧b<w.heap.size∧w.cell? ⟨b,o+r,none⟩=some (.int .i64 ((d.getD r 0:Nat):Int)):=by
 obtain⟨a,n,c,rfl⟩:∃a n c,v=.slice a n c:=(by obtain⟨a,c,e,-⟩:=h;exact⟨_,_,_,e⟩);obtain rfl:n=d.length:=by
  obtain⟨i,g,e,-⟩:=h;cases e;simp[ivs]
 refine⟨a,c,rfl,fun r f=>h.at3 ?_⟩;rw[Yp (by simpa using f)]
 congr 3
 simp[aJ,f]
def Zfc (t:List NodeD)(M i:Nat)(OL SL:List Nat):SparseD:=⟨(M:Int),(i:Int),OL.map fun m:Nat=>((m:Int),nd t m),SL.map fun m:Nat=>((m:Int),Dq (nd t) m)⟩
end Go.Proofs.YtfofaiommeckbaaGreat
namespace Go.Proofs.YtfofaiommeckbaaGreat
open Go.RowKit WalkM WireM
theorem NodeO.keep2 {w w':World} {B:Nat} {d:NodeD} {c:Array Value}(h:NodeO w B d c)(hk:∀e v xs,e=5∨e=3→Own w B e v xs→Own w' B e v xs):NodeO w' B d c:=by
 obtain⟨x0,x1,x2,x3,x4,u0,u1,u2,rfl,b,j,h2,h3,a,f,i,g⟩:=h;exact⟨x0,x1,x2,x3,x4,u0,u1,u2,rfl,hk _ _ _ (.inl rfl) b,hk _ _ _ (.inl rfl) j,hk _ _ _ (.inl rfl) h2,hk _ _ _ (.inl rfl) h3,hk _ _ _ (.inl rfl) a,hk _ _ _ (.inl rfl) f,hk _ _ _ (.inl rfl) i,hk _ _ _ (.inr rfl) g⟩
theorem NodeO.stepQ {V:Value} {B B':Nat} {X Y:World} {d:NodeD} {c:Array Value}(hs:StepO V B X Y)(k:NodeO X B' d c)(hV:∀g,V.ownBlock=some g→g<B'):NodeO Y B' d c:=k.keep2 fun _ _ _ _ hu=>hs.own hu hV
theorem NodeO.onlyQ {w w':World} {B C:Nat} {d:NodeD} {c:Array Value}(k:NodeO w B d c)(hb:Only C w w')(hC:C<B):NodeO w' B d c:=k.keep2 fun e v xs _ hu=>OwnK.onlyQ (show OwnK w B e 1 v xs.length xs from hu) hb hC
theorem NodeO.cutQ {w X:World} {V:Value} {q B B' k n:Nat} {T:TypeId} {b:List Value} {d:NodeD} {c:Array Value}(h:CutS w V q X)(o:NodeO w B d c)(f:q<B)(g:OwnK w B' T k V n b)(j:5≠T)(h2:3≠T):NodeO X B d c:=
 o.keep2 fun e v xs i a=>CutS.ownK (k:=1) h a f (OwnK.apartK (k:=1) a g (by rcases i with rfl|rfl<;>assumption))
theorem Sb {w:World} {a:Option Addr} {n c:Nat} {d:List Nat}(h:Rd w (.slice a n c) (ivs .i64 (d.map fun m:Nat=>(m:Int)))) {r:Nat}(e:r<d.length):∃b o,a=some ⟨b,o,none⟩∧b<w.heap.size∧w.cell? ⟨b,o+r,none⟩=some (.int .i64 ((d.getD r 0:Nat):Int)):=by
 refine h.at3 ?_;rw[Yp (by simpa using e)]
 congr 3
 simp[aJ,e]
theorem Zbw {W:World} {B:Nat} {V:Value} {D:Nat→NodeD} {a:List Nat} {CF:Nat→Array Value} (d:∀k,k<a.length→NodeC W (D (a.getD k 0)) (CF k))
  (g:OwnK W B 87 11 V a.length ((aH a.length).flatMap fun k=> .int .i64 ((a.getD k 0:Nat):Int)::(CF k).toList)):SpotsR W V (a.map fun m:Nat=>((m:Int),D m)):=by
 have f:(a.map fun m:Nat=>((m:Int),D m)).length=a.length:=(by simp);have c:∀i,i<a.length→spt (a.map fun m:Nat=>((m:Int),D m)) i=(((a.getD i 0:Nat):Int),D (a.getD i 0)):=fun i b=>(by simp[spt,aJ,b]);refine Zh2 (B:=B) (C:=fun i=>if i<a.length then CF i else#[.int .u8 0,.slice none 0 0,.slice none 0 0,.slice none 0 0,.int .u8 0,.slice none 0 0,.slice none 0 0,.slice none 0 0,.slice none 0 0,.slice none 0 0]) (fun i=> ?_) (fun i b=> ?_) ?_
 ·split
  ·rename_i b;exact(d _ b).size
  ·rfl
 ·rw[f]at b;rw[c i b,if_pos b];exact d i b
 ·rw[f];have e:(aH a.length).flatMap (Gr (a.map fun m:Nat=>((m:Int),D m)) fun i=>if i<a.length then CF i else#[.int .u8 0,.slice none 0 0,.slice none 0 0,.slice none 0 0,.int .u8 0,.slice none 0 0,.slice none 0 0,.slice none 0 0,.slice none 0 0,.slice none 0 0])=(aH a.length).flatMap fun k=> .int .i64 ((a.getD k 0:Nat):Int)::(CF k).toList:=by
   rw[gE,gE]
   congr 1
   refine iG fun i b=> ?_;have b:=List.mem_range.1 b;rw[Gr,c i b,if_pos b]
  rw[e];exact g
theorem Zbx {W:World} {B:Nat} {V:Value} {H:Nat→List Nat} {a:List Nat} {U:Nat→Value} (g:∀j,j<a.length→Own W B 5 (U j) (bvs (H (a.getD j 0))))
  (f:OwnK W B 89 2 V a.length ((aH a.length).flatMap fun j=>[.int .i64 ((a.getD j 0:Nat):Int),U j])):StubsR W V (a.map fun m:Nat=>((m:Int),H m)):=by
 have d:(a.map fun m:Nat=>((m:Int),H m)).length=a.length:=(by simp);have c:∀i,i<a.length→stb (a.map fun m:Nat=>((m:Int),H m)) i=(((a.getD i 0:Nat):Int),H (a.getD i 0)):=fun i b=>(by simp[stb,aJ,b]);refine Zh3 (B:=B) (U:=U) (fun i b=> ?_) ?_
 ·rw[d]at b;rw[c i b];exact(g i b).rd
 ·rw[d];have e:(aH a.length).flatMap (Kh (a.map fun m:Nat=>((m:Int),H m)) U)=(aH a.length).flatMap fun j=>[.int .i64 ((a.getD j 0:Nat):Int),U j]:=by
   rw[gE,gE]
   congr 1
   refine iG fun i b=> ?_;have b:=List.mem_range.1 b;rw[Kh,c i b]
  rw[e];exact f
open ShaM
def Ed (T:Nat→NodeD)(i:Nat):List (List Nat):=(aH i).map fun x=>Dx T (lev x) x
theorem Ir (T:Nat→NodeD)(i:Nat):(Ed T i).length=i:=by simp[Ed]
theorem Xc (T:Nat→NodeD)(i:Nat):Ed T (i+1)=Ed T i++[Dx T (lev i) i]:=by simp[Ed,eZ]
theorem Pz {T:Nat→NodeD} {n i:Nat}(h:i<n):(Ed T n)[i]? =some (Dx T (lev i) i):=by simp[Ed,h]
theorem Zfd (v:Value)(t:List NodeD)(w:World)(h:TreeR w v t)(D:Bg t=true)(r:TreeOk t)(s:Bv t=true):
  Calls Tryz.prog 39 #[v] w fun e w'=>∃v',e=.returned v'∧GridB w' w.heap.size v' (Ed (nd t) t.length)∧Below w.heap.size w w':=by
 obtain⟨m,p⟩:Ap t.length≠0∧Be t=true:=by
  rw[Bv,cL,cL]at s;exact⟨of_decide_eq_true s.1,s.2.1⟩
 obtain⟨d,P,hN,hl⟩:=Cl m;have g:=Bo D;have e2:2^(d+1)=2*2^d:=(by rw[aP];omega);have R:woD t []=nd t:=funext fun x=>Zdp t x;have A:=fun(x:Nat) (hx:x<t.length) (W:World) (Z:Below w.heap.size w W)=>(Up t [] D r p (lev x)).1 x v (.slice none 0 0) W (h.below Z lR) (Qt W) (lev_is (by omega)) (by have:=Mc (x:=x) (d:=d) (by omega) P;omega);rw[R]at A;obtain⟨ta,c,rfl,hc,aA⟩:=h.sl;obtain⟨n,O⟩:=eX t.length;rw[←O]at A hc g⊢;have E:=Hd A;clear A h D r s m p hN hl O e2 R P;go_enter Tryz.func39,Tryz.ntmps39;go_wp2_with fail
 go_loopg [3,4] n (fun q ov iv wr=>∃i:Nat,i+q=n∧iv=.int .i64 (i:Nat)∧GridB wr w.heap.size ov (Ed (nd t) i)∧Below w.heap.size w wr)
 case atStart=>exact⟨0,by omega,rfl,Grid.nil _ _ _ _,bR⟩
 case round=>
  obtain⟨i,H,rfl,z,u⟩:=hrel;have N:=Hd H;have S:=Hd z;have y:=Hd u;have B:=z;obtain⟨vs,L,-⟩:=B;obtain⟨o1,Y,o3,rfl⟩:=Ey L;clear L vs
  by_cases hlt:i<n
  ·have l:decide (i<n)=true:=decide_eq_true hlt;have Q:(i:Int)<(n:Int):=(by omega);have K:=Hd (E.out i hlt wr u);have o:=Hd (Xc (nd t) i);obtain⟨X,V⟩:=eX (Dx (nd t) (lev i) i);rw[←V]at K o;clear H z u V;go_wp2_with fail;refine(K.out).mono ?_;rintro e U ⟨v2,rfl,a,f⟩;obtain⟨M,T,J,rfl⟩:=Ey a;have b:=Hd (y.out.trans (f.mono y.out.size));have C:=Hd (show Grid U w.heap.size 28 5 (.slice o1 Y o3) ((Ed (nd t) i).map bvs)from Grid.below S.out f lR);have G:=Hd (a.mono y.out.size);clear a f;go_wp2_with (at_builtin;refine Og rfl (.tmp 11) (.tmp 15) 64 rfl w.heap.size 28 5 _ 24 Zmw (by decide) _ _ rfl (C.out.alloc _) ⟨U.heap.size,0,none⟩ (.slice M T J) (bvs X) rfl ?c1 (G.out.alloc _) ?c2 ?c3 ?_);case c1=>exact Bz rfl
   case c2=>rw[gH,Ir];omega
   case c3=>have:=b.out.size;simp;omega
   rintro v' w3 j k;have F:=Hd j;have I:=Hd ((b.out.alloc b.out.size (.cells #[.slice M T J] 28)).trans k);clear j k;go_wp2_with fail;go_roundg (gk-1);case measure=>have:=N.out;omega
   case rel=>
    refine⟨i+1,by have:=N.out;omega,by go_num,?_,I.out⟩;unfold GridB;rw[o.out,iH];exact F.out
  ·obtain rfl:i=n:=(by omega);have l:decide (i<i)=false:=decide_eq_false hlt;clear H z u hlt;go_wp2_with fail;go_ret;exact⟨_,rfl,S.out,y.out⟩
end Go.Proofs.YtfofaiommeckbaaGreat
namespace Go.Proofs.YtfofaiommeckbaaGreat
open Go.RowKit Go.Maps WalkM WireM
theorem Zfe (g:Nat)(b d n A x:Nat)(x0 x1 x2 x3 x4 x5 x6 x7 x8 x9:Value)(w:World)(t:w.cell? ⟨g,0,none⟩=some (.slice (some ⟨b,d,none⟩) n A))(hx:x<n)(q:w.rangeAt b (d+x*10) [x0,x1,x2,x3,x4,x5,x6,x7,x8,x9])(j:(#[x0,x1,x2,x3,x4,x5,x6,x7,x8,x9]:Array Value).toList.all (·.oneCell')=true):
  Calls Tryz.prog 134 #[.int .i64 (x:Nat),.pointer (some ⟨g,0,none⟩)] w fun e w'=>e=.returned (.tuple #[.agg #[x0,x1,x2,x3,x4,x5,x6,x7,x8,x9],.bool true])∧Below w.heap.size w w':=by
 have B:(x:Int)<(n:Int):=(by omega);have s:=Hd q;have o:=Hd j;have D:=Hd t;have u:g<w.heap.size:=World.block_lt_of_cell? w _ t;have y:b<w.heap.size:=World.block_lt_of_cell? w _ (q 0 x0 rfl);obtain⟨z,a⟩:=eX (w.alloc (.cells #[.int .u8 0,.slice none 0 0,.slice none 0 0,.slice none 0 0,.int .u8 0,.slice none 0 0,.slice none 0 0,.slice none 0 0,.slice none 0 0,.slice none 0 0] 52));have c:=Hd (show Below w.heap.size w z from by rw[a];exact bR.alloc lR _);have l:=Hd (show Blk z w.heap.size 52 #[.int .u8 0,.slice none 0 0,.slice none 0 0,.slice none 0 0,.int .u8 0,.slice none 0 0,.slice none 0 0,.slice none 0 0,.slice none 0 0,.slice none 0 0]from by rw[a];exact Blk.new _ _ _);have C:z.cell? ⟨g,0,none⟩=some (.slice (some ⟨b,d,none⟩) n A):=(c.out.cell (p:=⟨g,0,none⟩) u).trans D.out;have h:=Hd (Am s.out c.out y);rw[a]at l h C c;clear q j t a;go_enter Tryz.func134,Tryz.ntmps134;go_wp2_with (first|(refine wpList_load_mid rfl 52 (.tmp 7) rfl b (d+x*10) rfl [x0,x1,x2,x3,x4,x5,x6,x7,x8,x9] _ h.out Tryz.underlying52 rfl Ak ?_)|(refine Aa rfl 52 (.tmp 3) (.tmp 8) rfl w.heap.size #[x0,x1,x2,x3,x4,x5,x6,x7,x8,x9] rfl rfl 52 #[.int .u8 0,.slice none 0 0,.slice none 0 0,.slice none 0 0,.int .u8 0,.slice none 0 0,.slice none 0 0,.slice none 0 0,.slice none 0 0,.slice none 0 0] l.out (by kernel_rfl) rfl o.out ?_));rintro F f i m k;have E:=Hd f;have r:=Hd (c.out.trans (i w.heap.size lR));clear f i m k;go_wp2_with fail;exact bodyPost_ret (v:=.tuple #[.agg #[x0,x1,x2,x3,x4,x5,x6,x7,x8,x9],.bool true]) (Ad Tryz.results134 _ _ w.heap.size _ _ _ rfl E.out Tryz.underlying52 rfl (by kernel_rfl)) rfl ⟨rfl,r.out⟩
def atT (t:List NodeD)(x:Nat):Option NodeD:=if x<t.length then some (nd t x)else none
def GF (OL:List Nat)(val:Nat→Value)(r:Nat)(y:Int):Option Value:=if y∈(OL.take r).map (fun m:Nat=>(m:Int))then some (val y.toNat)else none
theorem Zff (OL:List Nat)(val:Nat→Value):GF OL val 0=fun _=>none:=by
 funext y;unfold GF;rw[List.take_zero,iI,if_neg (by simp)]
theorem Zfg {a:List Nat} {val:Nat→Value} {r:Nat}(h:r<a.length):(fun y:Int=>if y=((a.getD r 0:Nat):Int)then some (val (a.getD r 0))else GF a val r y)=GF a val (r+1):=by
 have e:a.getD r 0=a[r]:=by rw[aJ,aK h];rfl
 funext y
 unfold GF;rw[List.take_succ_eq_append_getElem h,iH,e]
 by_cases hy:y=((a[r]:Nat):Int)
 ·rw[if_pos hy,if_pos (by simp[hy]),hy,dI]
 ·rw[if_neg hy]
  by_cases h2:y∈(a.take r).map (fun m:Nat=>(m:Int))
  ·rw[if_pos h2,if_pos (List.mem_append_left _ h2)]
  ·rw[if_neg h2,if_neg (fun h3=>by
    rw[List.mem_append]at h3;rcases h3 with h3|h3
    ·exact h2 h3
    ·exact hy (by simpa using h3))]
theorem Zfh {OL:List Nat} {val:Nat→Value}(h:OL.Pairwise (· < ·)):Dl (GF OL val OL.length) (OL.map fun m:Nat=>(m:Int)):=by
 refine⟨by rw[iJ];exact h.imp fun h=>by omega,fun x=> ?_⟩;unfold GF;rw[cG]
 by_cases hx:x∈OL.map (fun m:Nat=>(m:Int))
 ·rw[if_pos hx];simp[hx]
 ·rw[if_neg hx];simp[hx]
theorem Zl9 {OL:List Nat} {val:Nat→Value} {x:Nat}(h:x∈OL):GF OL val OL.length ((x:Nat):Int)=some (val x):=by
 unfold GF;rw[cG,if_pos (List.mem_map.2 ⟨x,h,rfl⟩),dI]
theorem Zip {w w':World} {g:Nat} {T:TypeId} {cs:Array Value} {u:Value} {L:List Nat}(h:Rd w u (bvs L))(o:Blk w g T cs)(f:∀z∈cs.toList,∀k:Int,z≠ .int .u8 k)(n:Only g w w'):Rd w' u (bvs L):=by
 obtain⟨a,cap,rfl,p,h2,h3⟩:=h;refine⟨a,cap,rfl,p,h2,?_⟩;rcases h3 with h3|⟨b,c,rfl,m⟩
 ·exact .inl h3
 ·cases L with
  |nil=>exact .inr ⟨b,c,rfl,fun j u i=>by simp[bvs]at i⟩
  |cons x L=>
   have l:=m 0 (.int .u8 (x:Nat)) (by simp[bvs]);have q:=World.block_lt_of_cell? w _ l;have d:b≠g:=by
    intro e;subst e;rw[o.cell]at l;exact f _ (Array.mem_toList_iff.2 (Array.mem_of_getElem? l)) x rfl
   refine .inr ⟨b,c,rfl,fun j u i=> ?_⟩;have:=m j u i;have e:=n.block b q (fun e=>d (by cases e;rfl));simp only[World.cell?]at this⊢;rw[e];exact this
theorem Zfi (b:World)(c:Array Value)(M i:Nat)(a:Nat)(d:a=b.heap.size):
  MapF ((((b.alloc (.cells c 44)).alloc (.map #[] 0)).alloc (.map #[] 0)).alloc (.cells #[.int .i64 (M:Nat),.int .i64 (i:Nat),.map (some (a+1)),.map (some (a+1+1))] 101)) (a+1) 0 (fun _=>none)∧
  MapF ((((b.alloc (.cells c 44)).alloc (.map #[] 0)).alloc (.map #[] 0)).alloc (.cells #[.int .i64 (M:Nat),.int .i64 (i:Nat),.map (some (a+1)),.map (some (a+1+1))] 101)) (a+1+1) 0 (fun _=>none)∧
  Blk ((((b.alloc (.cells c 44)).alloc (.map #[] 0)).alloc (.map #[] 0)).alloc (.cells #[.int .i64 (M:Nat),.int .i64 (i:Nat),.map (some (a+1)),.map (some (a+1+1))] 101)) (a+1+1+1) 101 #[.int .i64 (M:Nat),.int .i64 (i:Nat),.map (some (a+1)),.map (some (a+1+1))]∧
  Below a b ((((b.alloc (.cells c 44)).alloc (.map #[] 0)).alloc (.map #[] 0)).alloc (.cells #[.int .i64 (M:Nat),.int .i64 (i:Nat),.map (some (a+1)),.map (some (a+1+1))] 101))∧
  ((((b.alloc (.cells c 44)).alloc (.map #[] 0)).alloc (.map #[] 0)).alloc (.cells #[.int .i64 (M:Nat),.int .i64 (i:Nat),.map (some (a+1)),.map (some (a+1+1))] 101)).heap.size=a+1+1+1+1:=by
 subst d;refine⟨?_,?_,?_,?_,by simp⟩
 ·have:=((MapF.made (b.alloc (.cells c 44))).alloc (.map #[] 0)).alloc (.cells #[.int .i64 (M:Nat),.int .i64 (i:Nat),.map (some (b.heap.size+1)),.map (some (b.heap.size+1+1))] 101);simpa using this
 ·have:=(MapF.made ((b.alloc (.cells c 44)).alloc (.map #[] 0))).alloc (.cells #[.int .i64 (M:Nat),.int .i64 (i:Nat),.map (some (b.heap.size+1)),.map (some (b.heap.size+1+1))] 101);simpa using this
 ·have:=Blk.new (((b.alloc (.cells c 44)).alloc (.map #[] 0)).alloc (.map #[] 0)) 101 #[.int .i64 (M:Nat),.int .i64 (i:Nat),.map (some (b.heap.size+1)),.map (some (b.heap.size+1+1))];simpa using this
 ·exact(((bR.alloc lR _).alloc (by simp) _).alloc (by simp;omega) _).alloc (by simp;omega) _
theorem Zk6 (v:Value) (t:List NodeD) (hh m d:Nat) (only:Bool) (F A:List Nat) (w:World) (h:TreeR w v t) (hs:Bg t=true) (a5:TreeOk t) (hr:Bv t=true) (aH:t.length=2*hh+1) (dJ:Ap t.length=hh+1) (hd:d≤16) (cW:hh+1=2^d) (O:((m:Nat):Int)∈Nf t (hh+1))
  (eO:(Bt (atT t) m only d (2^d-1) 0 []).1=F.map fun m:Nat=>(m:Int)) (eS:(Bt (atT t) m only d (2^d-1) 0 []).2.1=A.map fun m:Nat=>(m:Int)) (dG:F.Pairwise (· < ·)) (dV:A.Pairwise (· < ·))
  (hO:∀x∈F,x<t.length) (hS:∀x∈A,x<t.length) (eQ:F.length≤100000) (eJ:A.length≤100000):
  Calls Tryz.prog 74 #[v,.int .i64 (m:Nat),.bool only] w fun e w'=>∃ob sb G G2,e=.returned (.tuple #[.agg #[.int .i64 ((2^d:Nat):Int),.int .i64 (m:Nat),.map (some ob),.map (some sb)],.int .u8 0])∧
   MapF w' ob F.length G∧Dl G (F.map fun m:Nat=>(m:Int))∧(∀x∈F,∃c,G ((x:Nat):Int)=some (.agg c)∧NodeC w' (nd t x) c)∧MapF w' sb A.length G2∧Dl G2 (A.map fun m:Nat=>(m:Int))∧(∀x∈A,∃u,G2 ((x:Nat):Int)=some u∧Rd w' u (bvs (Dq (nd t) x)))∧Below w.heap.size w w':=by
 have eT:=Bo hs;have e9:=((mem_iff t (hh+1) m).1 O).1;obtain⟨a,cp,rfl,hc,eK⟩:=h.sl;obtain⟨b,s,-,rfl,b9,-,-⟩:=h.node (i:=0) (by omega);obtain⟨C0,cJ⟩:=Io (n:=t.length) (P:=fun i c=>NodeC w (nd t i) c∧w.rangeAt b (s+i*10) c.toList) fun i O=>by
  obtain⟨b',off',c,h1,h2,h3,h4⟩:=h.node O;cases h1;exact⟨c,h3,h4⟩
 obtain⟨C,a9⟩:∃C:Nat→Array Value,C=fun i=>if i<t.length then C0 i else#[.int .u8 0,.slice none 0 0,.slice none 0 0,.slice none 0 0,.int .u8 0,.slice none 0 0,.slice none 0 0,.slice none 0 0,.slice none 0 0,.slice none 0 0]:=⟨_,rfl⟩;have hC:∀i,i<t.length→NodeC w (nd t i) (C i)∧w.rangeAt b (s+i*10) (C i).toList:=fun i O=>(by rw[a9];simp only[if_pos O];exact cJ i O);have T:∀i,∃c0 c1 c2 c3 c4 c5 c6 c7 c8 c9,C i=#[c0,c1,c2,c3,c4,c5,c6,c7,c8,c9]:=fun i=>by
  by_cases O:i<t.length
  ·exact(hC i O).1.ten
  ·rw[a9];simp only[if_neg O];exact⟨_,_,_,_,_,_,_,_,_,_,rfl⟩
 have aA:∀i,(C i).toList.all (·.oneCell')=true:=fun i=>by
  by_cases O:i<t.length
  ·exact(hC i O).1.oneL
  ·rw[a9];simp only[if_neg O];rfl
 have a8:∀x d,atT t x=some d→x<t.length∧d=nd t x:=fun x d hx=>by
  unfold atT at hx
  split at hx
  ·rename_i hx2;cases hx;exact⟨hx2,rfl⟩
  ·cases hx
 have dN:=Hd fun(W:World) (hw:Below w.heap.size w W)=>Zio _ t W (h.below hw lR) hs a5 hr;have dS:=Hd fun(W:World) (hw:Below w.heap.size w W)=>Zfa _ t hh m W (h.below hw lR) hs a5 hr aH dJ O;have aR:=Hd fun(g:Nat) (W:World) (hw:Below w.heap.size w W) (hg:W.cell? ⟨g,0,none⟩=some (.slice (some ⟨b,s,none⟩) t.length cp))=>
  Ug 134 g (fun _ _=>rfl) (atT t) C W ⟨T,fun x d hx=>by
   obtain⟨h1,rfl⟩:=a8 x d hx;exact(hC x h1).1.below hw lR,aA,fun x d hx=>by
   obtain⟨h1,rfl⟩:=a8 x d hx;exact(a5.nd x).kind,fun x d hx=>by
   obtain⟨h1,rfl⟩:=a8 x d hx;have:=Cf hs x;unfold Bm at this;have:=of_decide_eq_true this;refine⟨fun u hu=> ?_,by omega⟩;obtain⟨k,rfl,hk⟩:=Zfb hr h1 u hu
   omega⟩ d m only (by omega) hd fun x hx W' dI=>by
   have b4:x<t.length:=(by omega);obtain⟨x0,x1,x2,x3,x4,x5,x6,x7,x8,x9,he⟩:=T x;have cR:=(hC x b4).2;have dW:=aA x;rw[he]at cR dW⊢;rw[show(atT t x).isSome=true from by unfold atT;rw[if_pos b4];rfl];have eL:g<W.heap.size:=World.block_lt_of_cell? W _ hg;exact Zfe g b s t.length cp x x0 x1 x2 x3 x4 x5 x6 x7 x8 x9 W' ((dI.cell (p:=⟨g,0,none⟩) eL).trans hg) b4 (Am cR (hw.trans (dI.mono hw.size)) b9) dW
 rw[eO,eS]at aR;obtain⟨e4,bK⟩:=eX ((Bt (atT t) m only d (2^d-1) 0 []).2.2);rw[←bK]at aR;obtain⟨M,hM⟩:=eX (2^d);rw[←hM]at aR cW⊢;obtain⟨n,hn⟩:=eX t.length;rw[←hn]at dN dS aR hC hO hS eT aH⊢;have eZ:Int.tdiv ((n:Int)+1) 2=(M:Int):=(by rw[Int.tdiv_eq_ediv_of_nonneg (by omega)];omega);have e5:IntKind.i64.wrap (M:Int)=(M:Int):=(by rw[IntKind.wrap_i64]<;>omega);have e7:IntKind.i64.wrap ((n:Int)+1)=(n:Int)+1:=(by rw[IntKind.wrap_i64]<;>omega);have HC:=Hd hC;have cF:=Hd T;have HO:=Hd (show∀k,k<F.length→F.getD k 0<n from fun k hk=>hO _ (by rw[aJ,aK hk];exact aL hk));have HS:=Hd (show∀k,k<A.length→A.getD k 0<n from fun k hk=>hS _ (by rw[aJ,aK hk];exact aL hk));have eW:=Hd hO;have d6:=Hd hS;have bY:=Hd (Zfh (val:=fun x=> .agg (C x)) dG);have eR:=Hd dV;obtain⟨N,hN⟩:=eX w.heap.size;have HN:=Hd hN;clear cJ a9 hC T aA a8 hO hS dG dV eO eS bK hn h hs a5 hr dJ O aH hc eK hM cW;go_enter Tryz.func74,Tryz.ntmps74;go_wp2_with fail;obtain⟨w2,aV⟩:=eX ((w.alloc (.cells #[.slice (some ⟨b,s,none⟩) n cp] 55)).alloc (.cells #[.int .i64 0,.int .i64 0,.map none,.map none] 101));have bP:=Hd (show Below w.heap.size w w2 from by rw[aV];exact(bR.alloc lR _).alloc (by simp) _);have aW:=Hd (show Blk w2 N 55 #[.slice (some ⟨b,s,none⟩) n cp]from by rw[aV,hN];exact(Blk.new _ _ _).alloc _);have aX:=Hd (show Blk w2 (N+1) 101 #[.int .i64 0,.int .i64 0,.map none,.map none]from by
  rw[aV,hN];have:=Blk.new (w.alloc (.cells #[.slice (some ⟨b,s,none⟩) n cp] 55)) 101 #[.int .i64 0,.int .i64 0,.map none,.map none];simpa using this)
 rw[←aV,←hN];clear aV hN;refine(dN.out _ bP.out).mono ?_;rintro e w3 ⟨ga,eD,rfl,aG,a7⟩;have bA:=Hd (bP.out.trans (a7.mono bP.out.size));have aQ:=Hd (aW.out.below a7 aW.out.lt);have bD:=Hd (aX.out.below a7 aX.out.lt);obtain⟨U,hU⟩:=Io (n:=n) (P:=fun y u=>w3.cell? ⟨ga,y,none⟩=some u∧Rd w3 u (bvs (Dq (nd t) y))) fun y hy=>by
  obtain⟨u,h1,h2,-⟩:=aG.row hy rfl;exact⟨u,h1,h2⟩
 have dH:=Hd (show ga<w3.heap.size from aG.lt);have HU:=Hd hU;have c0:w3.cell? ⟨N,0,none⟩=some (.slice (some ⟨b,s,none⟩) n cp):=aQ.out.cell 0;clear a7 eD aG hU aW aX;go_wp2_with fail;clear c0;refine(dS.out _ bA.out).mono ?_;rintro e w4 ⟨c6,rfl,eP,aC⟩;have cB:=Hd (bA.out.trans (aC.mono bA.out.size));have aO:=Hd aC;have aB:=Hd (aQ.out.below aC aQ.out.lt);have aF:=Hd (bD.out.below aC bD.out.lt);obtain⟨y1,z1,y2,z2,y3,z3,y4,z4,y5,z5,rfl,-⟩:=eP;have k1:(w4.alloc (.cells #[.slice y1 (nd t (2*m)).leaf.box.length z1,.slice y2 (nd t (2*m)).leaf.sign.length z2,.slice y3 (nd t (2*m)).leaf.ident.length z3,.int .u8 ((nd t (2*m)).leaf.source:Nat),.slice y4 (nd t (2*m)).leaf.par.length z4,.slice y5 (nd t (2*m)).leaf.sig.length z5] 44)).cell? ⟨N,0,none⟩=some (.slice (some ⟨b,s,none⟩) n cp):=(aB.out.alloc _).cell 0;have eE:∀w,(Instr.makeMap 98 none).run Tryz.prog w=.ok (.map (some w.heap.size)) (w.alloc (.map #[] 0)):=fun w=>rfl;have eV:∀w,(Instr.makeMap 99 none).run Tryz.prog w=.ok (.map (some w.heap.size)) (w.alloc (.map #[] 0)):=fun w=>rfl;clear aC;go_wp2_with fail;obtain⟨h0,H⟩:=eX w4.heap.size;have dP:=Zfi w4 #[.slice y1 (nd t (2*m)).leaf.box.length z1,.slice y2 (nd t (2*m)).leaf.sign.length z2,.slice y3 (nd t (2*m)).leaf.ident.length z3,.int .u8 ((nd t (2*m)).leaf.source:Nat),.slice y4 (nd t (2*m)).leaf.par.length z4,.slice y5 (nd t (2*m)).leaf.sig.length z5] M m h0 H;rw[←H];generalize hw7:((((w4.alloc (.cells #[.slice y1 (nd t (2*m)).leaf.box.length z1,.slice y2 (nd t (2*m)).leaf.sign.length z2,.slice y3 (nd t (2*m)).leaf.ident.length z3,.int .u8 ((nd t (2*m)).leaf.source:Nat),.slice y4 (nd t (2*m)).leaf.par.length z4,.slice y5 (nd t (2*m)).leaf.sig.length z5] 44)).alloc (.map #[] 0)).alloc (.map #[] 0)).alloc (.cells #[.int .i64 (M:Nat),.int .i64 (m:Nat),.map (some (h0+1)),.map (some (h0+1+1))] 101))=w7 at dP⊢;obtain⟨m1,m2,m3,m4,m5⟩:=dP;have HH:=Hd H;have a6:=Hd (cB.out.trans (m4.mono (by rw[H];exact cB.out.size)));have R:=Hd (aB.out.below m4 (by rw[H];exact aB.out.lt));have aP:=Hd (aF.out.below m4 (by rw[H];exact aF.out.lt));have dL:=Hd m4;have aT:=Hd m1;have Z:=Hd m2;have Q:=Hd m3;have J:=Hd m5;obtain⟨pv,a4⟩:=eX (h0+1+1+1);obtain⟨sb,aM⟩:=eX (h0+1+1);obtain⟨ob,aD⟩:=eX (h0+1);rw[←a4,←aM,←aD]at Q;rw[←aM]at Z;rw[←aD]at aT;rw[←a4,←aM,←aD];have HI:=Hd (And.intro a4 (And.intro aM aD));have dQ:N+1<w4.heap.size:=aF.out.lt;have bX:=Hd (show N+1<h0 from by rw[H];exact dQ);clear hw7 m1 m2 m3 m4 m5 k1 eE eV H a4 aM aD dQ;refine(aR.out N w7 a6.out (R.out.cell 0)).mono ?_;rintro e w8 ⟨vo,vs,rfl,bU,b3,E⟩;obtain⟨a1,c1,rfl,-⟩:=Sa bU.rd;obtain⟨a2,c2,rfl,-⟩:=Sa b3.rd;have S:=Hd bU;have aY:=Hd b3;have bG:=Hd (aT.out.below E lR);have bH:=Hd (Z.out.below E lR);have aZ:=Hd (Q.out.below E Q.out.lt);have bE:=Hd (R.out.below E R.out.lt);have bJ:=Hd (aP.out.below E aP.out.lt);have bM:=Hd (a6.out.trans (E.mono a6.out.size));have dY:=Hd (show Below w3.heap.size w3 w8 from by
  have h1:=aO.out.trans (dL.out.mono (by rw[HH.out];exact aO.out.size));exact h1.trans (E.mono h1.size))
 have bB:=Hd E.size;have H3:=Hd (show w3.heap.size≤h0 from by rw[HH.out];exact aO.out.size);have bL:=Hd (show w.heap.size≤h0 from bO bA.out.size H3.out);obtain⟨no,bN⟩:=eX F.length;obtain⟨X,bQ⟩:=eX A.length;rw[←bN]at S HO eQ bY⊢;rw[←bQ]at aY HS eJ⊢;have a3:=Hd bN;have aE:=Hd bQ;clear bU b3 E bN bQ Q R aP aT Z a6;go_wp2_with fail;obtain⟨val,aS⟩:∃val:Nat→Value,val=fun x=> .agg (C x):=⟨_,rfl⟩;have bF:=Hd (show∀x,val x=.agg (C x)from fun x=>by rw[aS]);rw[←aS]at bY;clear aS
 go_loopg [58] no (fun gk iv wr=>∃(r:Nat),r+gk=no∧iv=.int .i64 (r:Nat)∧MapF wr ob r (GF F val r)∧Only ob w8 wr)
 case atStart=>exact⟨0,by omega,rfl,by rw[Zff];exact bG.out,Only.refl _ _⟩
 case round=>
  obtain⟨r,hr,rfl,o,j⟩:=hrel;have HR:=Hd hr;have HM:=Hd o;have l:=Hd j;clear hr o j;obtain⟨e1,e2,e3⟩:=HI.out;have h8:=bB.out;rw[J.out]at h8;have Y:=bX.out;have L:=Hd (aZ.out.grownR l.out (by omega));have b5:=Hd (bE.out.grownR l.out (by omega));have cY:=Hd (S.out.grown l.out (fun g hg e=>by have:=(S.out.blockLt hg).2;rw[J.out]at this;cases e;omega));have D:=Hd (Only.below l.out (eI ob) (by omega));have dR:=Hd (show b<wr.heap.size from dX b9 (bO bM.out.size D.out.size));have cT:=Hd (show b<ob from by have:=bL.out;omega);clear e1 e2 e3 h8 Y
  by_cases hlt:r<no
  ·have cL:decide (r<no)=true:=decide_eq_true hlt;have cQ:(r:Int)<(no:Int):=(by omega);obtain⟨b1,o1,rfl,cP,cx⟩:=Sb cY.out.rd (show r<F.length from by rw[←a3.out];exact hlt);have hx:=HO.out r hlt;have V:=Hd (Zfg (val:=val) (show r<F.length from by rw[←a3.out];exact hlt));obtain⟨x,aU⟩:=eX (F.getD r 0);rw[←aU]at cx hx V;have d9:(x:Int)<(n:Int):=(by omega);obtain⟨d3,bT⟩:=HC.out x hx;obtain⟨x0,x1,x2,x3,x4,x5,x6,x7,x8,x9,b7⟩:=cF.out x;rw[bF.out,b7]at V;rw[b7]at bT;have eG:=Hd (Am (Am bT bM.out b9) D.out cT.out);have bZ:=Hd (show inI (x:Int)from by unfold inI;omega);have b8:=Hd (show r≤100000 from by omega);clear aU d3 bT b7 cP;go_wp2_with fail;refine Aw [eF (.pointer (some ⟨pv,2,none⟩)),eF (.map (some ob)),eF (.int .i64 (x:Nat)),eF (.slice (some ⟨b,s,none⟩) n cp),eF (.int .i64 (x:Nat)),eF (.pointer (some ⟨b,s+x*10,none⟩)),eF (.agg #[x0,x1,x2,x3,x4,x5,x6,x7,x8,x9]),fun v w'=>MapF w' ob (r+1) (fun y=>if y=((x:Nat):Int)then some (.agg #[x0,x1,x2,x3,x4,x5,x6,x7,x8,x9])else GF F val r y)∧Only ob wr w']
    ((cK 8 false).set 7 true) (fun x=>Below wr.heap.size wr x) (fun x y=>Below x.heap.size x y) none 7 (by kernel_rfl) ?_ (⟨rfl,rfl,rfl,lR,fun _ _=>rfl⟩) (fun x y _ h=>h) (fun x y hx hs=>hx.trans (hs.mono hx.size)) (by kernel_rfl) (by kernel_rfl) (by kernel_rfl) ?_ ?_
   ·exact kE (kE (kE (kE (kE (kE (kE (Ah (fun _ _ _ _ _ _=>trivial) (Ae))))))))
   ·refine Mv (by kernel_rfl) ?_ rfl (Mv (by kernel_rfl) ?_ rfl (Mv (by kernel_rfl) ?_ rfl (Mv (by kernel_rfl) ?_ rfl (Mv (by kernel_rfl) ?_ rfl (Mv (by kernel_rfl) ?_ rfl (Lz (by kernel_rfl) ?_ (Lz (by kernel_rfl) ?_ .nil)))))));all_goals
     intro a wx q eM ho hf;have q:Below wr.heap.size wr wx:=q;refine⟨rfl,?_⟩;intro K hK;try have e6:a.tmps[3]?.getD undef=.pointer (some ⟨N,0,none⟩):=ho 3 (by kernel_rfl)
     try have dM:a.tmps[12]?.getD undef=.pointer (some ⟨pv,0,none⟩):=ho 12 (by kernel_rfl)
     try have eY:a.tmps[17]?.getD undef=.int .i64 (x:Nat):=ho 17 (by kernel_rfl)
     try have cU:=eqn hf.1
     try have d4:=eqn hf.2.1
     try have eA:=eqn hf.2.2.1
     try(have b0:=(q.cell (p:=⟨pv,2,none⟩) L.out.lt).trans (L.out.cell 2);simp only[cC,cD,cE]at b0)
     try(have dO:=(q.cell (p:=⟨N,0,none⟩) b5.out.lt).trans (b5.out.cell 0);simp only[cC,cD]at dO)
     try have bW:=HM.out.below q lR
     try(refine Hd ?_;go_simp;exact hK _ rfl)
    ·exact wp_load_mid 52 (.tmp 67) rfl b (s+x*10) (evs cU) _ _ (Am eG.out q dR.out) Tryz.underlying52 rfl (Ak) (hK _ _ rfl (fun _=>Af rfl bR))
    ·obtain⟨w',dZ,o,cA⟩:=bW.run_put Tryz.underlying98 bZ.out (by have:=b8.out;unfold maxLen;omega) (.agg #[x0,x1,x2,x3,x4,x5,x6,x7,x8,x9]);have j:=(Only.of (B:=ob) q).trans cA;go_simp;exact hK undef _ ⟨o,j⟩ (fun h=>absurd rfl h)
   ·rintro f w9 I;have eU:MapF w9 ob (r+1) (fun y=>if y=((x:Nat):Int)then some (.agg #[x0,x1,x2,x3,x4,x5,x6,x7,x8,x9])else GF F val r y)∧Only ob wr w9:=I.2.2.2.2.2.2.2.1;clear I;simp only[Aj,Aq,Dr,cZ,dA,dB,dC,Nat.reduceBEq,Nat.reduceAdd,dD,dE,cond_true,cond_false];obtain⟨o,j⟩:=eU;rw[V.out]at o;have bS:=Hd o;have aN:=Hd (l.out.trans j);clear o j;go_wp2_with fail;go_roundg (gk-1);case measure=>have:=HR.out;omega
    case rel=>exact⟨r+1,by have:=HR.out;omega,by go_num,bS.out,aN.out⟩
  ·obtain rfl:no=r:=(by have:=HR.out;omega);have cL:decide (no<no)=false:=decide_eq_false hlt;clear hlt;go_wp2_with fail;obtain⟨w5,dU⟩:=eX wr;rw[←dU]at HM l D⊢;clear L b5 cY dR cT;obtain⟨e1,e2,e3⟩:=HI.out;have h8:=bB.out;rw[J.out]at h8;have Y:=bX.out;have h3:=H3.out;have b6:=bL.out;have d1:=Hd HM.out;have cH:=Hd (bH.out.grown l.out (fun e=>by cases e;omega));have cN:=Hd (aZ.out.grownR l.out (by omega));have cS:=Hd (bJ.out.grownR l.out (by omega));have bC:=Hd (aY.out.grown l.out (fun g hg e=>by have:=(aY.out.blockLt hg).2;rw[J.out]at this;cases e;omega));have cI:=Hd (dY.out.trans (D.out.mono (by omega)));have cM:=Hd (bM.out.trans (D.out.mono (by omega)));have eH:=Hd (show pv+1≤w5.heap.size from by have:=D.out.size;omega);clear dU e1 e2 e3 h8 Y h3 b6 HM l D HR bG bH aZ bE bJ S;go_wp2_with fail
   go_loopg [72] X (fun gk iv wr=>∃(r:Nat),r+gk=X∧iv=.int .i64 (r:Nat)∧MapF wr sb r (GF A U r)∧Only sb w5 wr)
   case atStart=>exact⟨0,by omega,rfl,by rw[Zff];exact cH.out,Only.refl _ _⟩
   case round=>
    obtain⟨r,hr,rfl,o,j⟩:=hrel;have HR:=Hd hr;have HM:=Hd o;have l:=Hd j;clear hr o j;obtain⟨e1,e2,e3⟩:=HI.out;have h5:=eH.out;have Y:=bX.out;have h3:=H3.out;have b6:=bL.out;have h7:w7.heap.size=pv+1:=(by rw[J.out];omega);have L:=Hd (cN.out.grownR l.out (by omega));have cO:=Hd (cS.out.grownR l.out (by omega));have d5:=Hd (bC.out.grown l.out (fun g hg e=>by have:=(bC.out.blockLt hg).2;cases e;omega));have D:=Hd (Only.below l.out (eI sb) (by omega));have a0:=Hd (cI.out.trans (D.out.mono (by omega)));have dT:=Hd (cM.out.trans (D.out.mono (by omega)));have d7:=Hd (show ob≠sb∧ob≠N+1∧sb≠N+1 from by omega);clear e1 e2 e3 h5 Y h3 b6 h7
    by_cases hlt:r<X
    ·have cG:decide (r<X)=true:=decide_eq_true hlt;have cQ:(r:Int)<(X:Int):=(by omega);obtain⟨b2,o2,rfl,dK,cx⟩:=Sb d5.out.rd (show r<A.length from by rw[←aE.out];exact hlt);have hx:=HS.out r hlt;have V:=Hd (Zfg (val:=U) (show r<A.length from by rw[←aE.out];exact hlt));obtain⟨x,aU⟩:=eX (A.getD r 0);rw[←aU]at cx hx V;have d9:(x:Int)<(n:Int):=(by omega);have eB:=Hd ((a0.out.cell (p:=⟨ga,x,none⟩) dH.out).trans (HU.out x hx).1);have d8:=Hd (show ga<wr.heap.size from dX dH.out a0.out.size);have bZ:=Hd (show inI (x:Int)from by unfold inI;omega);have b8:=Hd (show r≤100000 from by omega);clear aU dK;go_wp2_with fail;refine Aw [eF (.pointer (some ⟨pv,3,none⟩)),eF (.map (some sb)),eF (.int .i64 (x:Nat)),eF (.slice (some ⟨ga,0,none⟩) n n),eF (.int .i64 (x:Nat)),eF (.pointer (some ⟨ga,x,none⟩)),eF (U x),fun v w'=>MapF w' sb (r+1) (fun y=>if y=((x:Nat):Int)then some (U x)else GF A U r y)∧Only sb wr w']
      ((cK 8 false).set 7 true) (fun x=>Below wr.heap.size wr x) (fun x y=>Below x.heap.size x y) none 7 (by kernel_rfl) ?_ (⟨rfl,rfl,rfl,lR,fun _ _=>rfl⟩) (fun x y _ h=>h) (fun x y hx hs=>hx.trans (hs.mono hx.size)) (by kernel_rfl) (by kernel_rfl) (by kernel_rfl) ?_ ?_
     ·exact kE (kE (kE (kE (kE (kE (kE (Ah (fun _ _ _ _ _ _=>trivial) (Ae))))))))
     ·refine Mv (by kernel_rfl) ?_ rfl (Mv (by kernel_rfl) ?_ rfl (Mv (by kernel_rfl) ?_ rfl (Mv (by kernel_rfl) ?_ rfl (Mv (by kernel_rfl) ?_ rfl (Mv (by kernel_rfl) ?_ rfl (Mv (by kernel_rfl) ?_ rfl (Lz (by kernel_rfl) ?_ .nil)))))));all_goals
       intro a wx q eM ho hf;have q:Below wr.heap.size wr wx:=q;refine⟨rfl,?_⟩;intro K hK;try have e8:a.tmps[8]?.getD undef=.slice (some ⟨ga,0,none⟩) n n:=ho 8 (by kernel_rfl)
       try have dM:a.tmps[12]?.getD undef=.pointer (some ⟨pv,0,none⟩):=ho 12 (by kernel_rfl)
       try have e0:a.tmps[19]?.getD undef=.int .i64 (x:Nat):=ho 19 (by kernel_rfl)
       try have cU:=eqn hf.1
       try have d4:=eqn hf.2.1
       try have eA:=eqn hf.2.2.1
       try(have b0:=(q.cell (p:=⟨pv,3,none⟩) L.out.lt).trans (L.out.cell 3);simp only[cC,cD,cE]at b0)
       try have dO:=(q.cell (p:=⟨ga,x,none⟩) d8.out).trans eB.out
       try have bW:=HM.out.below q lR
       try(refine Hd ?_;go_simp;exact hK _ rfl)
      ·obtain⟨w',dZ,o,cA⟩:=bW.run_put Tryz.underlying99 bZ.out (by have:=b8.out;unfold maxLen;omega) (U x);have j:=(Only.of (B:=sb) q).trans cA;go_simp;exact hK undef _ ⟨o,j⟩ (fun h=>absurd rfl h)
     ·rintro f w9 I;have eN:MapF w9 sb (r+1) (fun y=>if y=((x:Nat):Int)then some (U x)else GF A U r y)∧Only sb wr w9:=I.2.2.2.2.2.2.2.1;clear I;simp only[Aj,Aq,Dr,cZ,dA,dB,dC,Nat.reduceBEq,Nat.reduceAdd,dD,dE,cond_true,cond_false];obtain⟨o,j⟩:=eN;rw[V.out]at o;have bS:=Hd o;have aN:=Hd (l.out.trans j);clear o j;go_wp2_with fail;go_roundg (gk-1);case measure=>have:=HR.out;omega
      case rel=>exact⟨r+1,by have:=HR.out;omega,by go_num,bS.out,aN.out⟩
    ·obtain rfl:X=r:=(by have:=HR.out;omega);have cG:decide (X<X)=false:=decide_eq_false hlt;clear hlt;go_wp2_with (first|(refine wpList_load_row rfl 101 (.tmp 12) rfl pv rfl 101 _ (0,0) _ L.out Tryz.underlying101 rfl (by kernel_rfl) ?_)|(refine Aa rfl 101 (.tmp 6) (.tmp 84) rfl (N+1) #[.int .i64 (M:Nat),.int .i64 (m:Nat),.map (some ob),.map (some sb)] rfl rfl 101 _ cO.out (by kernel_rfl) rfl rfl ?_));rintro w9 bI bV dF eC;have j:Only (N+1) wr w9:=Only.storeQ bV dF;obtain⟨n1,n2,n3⟩:=d7.out;have cV:Below w.heap.size w w9:=dT.out.trans (bV _ (by rw[←HN.out];exact fZ N));have aI:=Hd (show MapF w9 ob no (GF F val no)∧MapF w9 sb X (GF A U X)∧∀x∈A,∃u,GF A U X ((x:Nat):Int)=some u∧Rd w9 u (bvs (Dq (nd t) x))from by
      refine⟨(d1.out.grown l.out (fun e=>by cases e;omega)).grown j (fun e=>by cases e;omega),HM.out.grown j (fun e=>by cases e;omega),fun x hx=>⟨U x,by rw[aE.out];exact Zl9 hx,?_⟩⟩;refine Zip ((HU.out x (d6.out x hx)).2.below a0.out lR) cO.out (fun z hz k e=> ?_) j;simp at hz;rcases hz with rfl|rfl<;>cases e)
     have d0:=Hd bI;have cX:=Hd cV;have d2:=Hd (show Dl (GF A U X) (A.map fun m:Nat=>(m:Int))from by rw[aE.out];exact Zfh eR.out);clear bI bV dF eC j cV n1 n2 n3;go_wp2_with fail;refine bodyPost_ret (v:=.tuple #[.agg #[.int .i64 (M:Nat),.int .i64 (m:Nat),.map (some ob),.map (some sb)],.int .u8 0]) (Ad Tryz.results74 _ _ (N+1) _ _ _ rfl d0.out Tryz.underlying101 rfl (by kernel_rfl)) rfl ?_;refine⟨ob,sb,GF F val no,GF A U X,rfl,by rw[←a3.out];exact aI.out.1,bY.out,fun x hx=>⟨C x,?_,((HC.out x (eW.out x hx)).1.below cX.out lR)⟩,by rw[←aE.out];exact aI.out.2.1,d2.out,aI.out.2.2,cX.out⟩;rw[a3.out,←bF.out];exact Zl9 hx
theorem Zfj {α:Type} {U:Nat→α} {g:Nat→α→List Value}(r:Nat)(u: α):((aH (r+1)).flatMap fun k=>g k (if k<r then U k else u))=((aH r).flatMap fun k=>g k (U k))++g r u:=by
 rw[Nn,if_neg (Nat.lt_irrefl r)]
 congr 1
 rw[gE,gE]
 congr 1
 exact iG fun k hk=>by rw[if_pos (List.mem_range.1 hk)]
theorem Qa (lv ow:Int) (ob sb n1 n2:Nat) (G G2:Int→Option Value) (R SO:List Nat) (D:Nat→NodeD) (H:Nat→List Nat) (w:World) (hm:MapF w ob n1 G) (bV:MapF w sb n2 G2) (d0:n1≤100000) (d5:n2≤100000)
  (c3:Dl G (R.map fun m:Nat=>(m:Int))) (cR:Dl G2 (SO.map fun m:Nat=>(m:Int))) (hD:∀m∈R,inI (m:Int)∧Bm (D m)=true∧∃c,G m=some (.agg c)∧NodeC w (D m) c)
  (hH:∀m∈SO,inI (m:Int)∧(H m).length≤1000000∧∃u,G2 m=some u∧Rd w u (bvs (H m))) (dK:R.length≤100000) (dX:SO.length≤100000):
  Calls Tryz.prog 67 #[.agg #[.int .i64 lv,.int .i64 ow,.map (some ob),.map (some sb)]] w fun e w'=>∃v',e=.returned v'∧SparseR w' v' ⟨lv,ow,R.map fun m:Nat=>((m:Int),D m),SO.map fun m:Nat=>((m:Int),H m)⟩∧Below w.heap.size w w'∧∀(g:Nat) (W:World),g<w.heap.size→Only g w' W→SparseR W v' ⟨lv,ow,R.map fun m:Nat=>((m:Int),D m),SO.map fun m:Nat=>((m:Int),H m)⟩:=by
 have cS:∀ {L:List Nat} {k:Nat},k<L.length→L.getD k 0∈L:=fun {L k} hk=>(by rw[aJ,aK hk];exact aL hk);obtain⟨N,hN⟩:=eX w.heap.size;obtain⟨q,hq⟩:=eX (w.heap.size+2);have HN:=Hd hN;have HQ:=Hd hq;have dO:=Hd (show ob<w.heap.size from hm.lt);have dS:=Hd (show sb<w.heap.size from bV.lt);have c7:=Hd hm;have a0:=Hd bV;have dN:=Hd c3;have dV:=Hd cR;have HD:=Hd hD;have HH:=Hd hH;have c8:=Hd (show∀(L:List Nat) (k:Nat),k<L.length→L.getD k 0∈L from fun L k hk=>cS hk);clear hm bV c3 cR hD hH cS;go_enter Tryz.func67,Tryz.ntmps67;go_wp2_with fail;obtain⟨w2,aN⟩:=eX ((((w.alloc (.cells #[.int .i64 lv,.int .i64 ow,.map (some ob),.map (some sb)] 101)).alloc (.cells #[.int .i64 0,.int .i64 0,.slice none 0 0,.slice none 0 0] 25)).alloc (.cells #[.int .i64 lv,.int .i64 ow,.slice none 0 0,.slice none 0 0] 25)));have cX:q=w.heap.size+1+1:=hq;have bG:=Hd (show Blk w2 N 101 #[.int .i64 lv,.int .i64 ow,.map (some ob),.map (some sb)]from by rw[aN,hN];exact((Blk.new w 101 #[.int .i64 lv,.int .i64 ow,.map (some ob),.map (some sb)]).alloc _).alloc _);have bH:=Hd (show Blk w2 (N+1) 25 #[.int .i64 0,.int .i64 0,.slice none 0 0,.slice none 0 0]from by
  rw[aN,hN];have:=(Blk.new (w.alloc (.cells #[.int .i64 lv,.int .i64 ow,.map (some ob),.map (some sb)] 101)) 25 #[.int .i64 0,.int .i64 0,.slice none 0 0,.slice none 0 0]).alloc (.cells #[.int .i64 lv,.int .i64 ow,.slice none 0 0,.slice none 0 0] 25);simpa using this)
 have dF:=Hd (show Blk w2 q 25 #[.int .i64 lv,.int .i64 ow,.slice none 0 0,.slice none 0 0]from by
  rw[aN,hq];have:=Blk.new ((w.alloc (.cells #[.int .i64 lv,.int .i64 ow,.map (some ob),.map (some sb)] 101)).alloc (.cells #[.int .i64 0,.int .i64 0,.slice none 0 0,.slice none 0 0] 25)) 25 #[.int .i64 lv,.int .i64 ow,.slice none 0 0,.slice none 0 0];simpa using this)
 have a4:=Hd (show w2.heap.size=q+1 from by rw[aN,hq];simp);have a9:=Hd (show Below w.heap.size w w2 from by
  rw[aN];exact((bR.alloc lR _).alloc (by simp) _).alloc (by simp;omega) _)
 rw[←aN,←cX,←hN];clear aN cX hq hN;have dU:=Hd (c7.out.below a9.out lR);have dY:=Hd (a0.out.below a9.out lR);have s:=Hd (show N+1<q from by rw[HQ.out,HN.out];omega);refine(Ti (some ob) w2).mono ?_;rintro e w3 ⟨rfl,rfl⟩;have cO:=Hd (Nc ob n1 w2.heap.size G _ (w2.alloc (.cells #[.map (some ob)] 98)) (dU.out.alloc _) dN.out (by omega) (by rw[(Blk.new w2 _ _).cell];rfl) (by simp));go_wp2_with fail;refine cO.out.mono ?_;rintro e w4 ⟨VK,rfl,M,cL⟩;obtain⟨a1,c1,rfl,-⟩:=Sa M.rd;have cF:=Hd (show Below (q+1) w2 w4 from by
  have h1:=(Below.refl (q+1) w2).alloc (by rw[a4.out];exact lR) (.cells #[.map (some ob)] 98);exact h1.trans (cL.mono (by simp[a4.out])))
 have bF:=Hd (M.mono (show q+1≤_ from by simp[a4.out]));clear M cL cO;obtain⟨no,bQ⟩:=eX R.length;obtain⟨ns,bS⟩:=eX SO.length;rw[←bQ]at dK bF⊢;rw[←bS]at dX;have bB:=Hd bQ;have aR:=Hd bS;have bP:=Hd (dF.out.below cF.out (dG q));clear bQ bS;go_wp2_with fail
 go_loopg [18] no (fun gk iv wr=>∃(r:Nat) (V:Value) (CF:Nat→Array Value),r+gk=no∧iv=.int .i64 (r:Nat)∧Blk wr q 25 #[.int .i64 lv,.int .i64 ow,V,.slice none 0 0]∧OwnK wr (q+1) 87 11 V r ((aH r).flatMap fun j=> .int .i64 ((R.getD j 0:Nat):Int)::(CF j).toList)∧(∀j,j<r→NodeO wr (q+1) (D (R.getD j 0)) (CF j))∧Own wr (q+1) 3 (.slice a1 no c1) (ivs .i64 (R.map fun m:Nat=>(m:Int)))∧Below q w2 wr)
 case atStart=>exact⟨0,_,fun _=>#[],by omega,rfl,bP.out,OwnK.nil _ _ _ _,fun j hj=>absurd hj (iE j),bF.out,cF.out.mono (fZ q)⟩
 case round=>
  obtain⟨r,V,CF,hr,rfl,b,Z,aX,M,hb⟩:=hrel;have HR:=Hd hr;have o:=Hd b;have l:=Hd Z;have aE:=Hd aX;have aA:=Hd M;have HB:=Hd hb;clear hr b Z aX M hb bP;have aT:=Hd (bG.out.below HB.out (by have:=s.out;omega));have bC:=Hd (bH.out.below HB.out s.out);have I:=Hd (a9.out.trans (HB.out.mono (show w.heap.size≤q from by have:=s.out;have:=HN.out;omega)));have cH:=Hd (show N<q+1 from by have:=s.out;omega);have a8:=Hd (show w.heap.size≤q+1 from by have:=s.out;have:=HN.out;omega);have cW:=Hd (show ob<q+1 from by have:=dO.out;have:=a8.out;omega);have cB:=Hd (show sb<q+1 from by have:=dS.out;have:=a8.out;omega)
  by_cases hlt:r<no
  ·have cI:decide (r<no)=true:=decide_eq_true hlt;have cN:(r:Int)<(no:Int):=(by omega);obtain⟨b1,C,rfl,cM,cx⟩:=Sb aA.out.rd (show r<R.length from by rw[←bB.out];exact hlt);obtain⟨aM,aS,c,aI,aD⟩:=HD.out _ (c8.out R r (by rw[←bB.out];exact hlt));obtain⟨m,aF⟩:=eX (R.getD r 0);rw[←aF]at cx aM aS aI aD;have a3:=Hd aF;have bW:=Hd aM;have bY:=Hd aI;have HM:=Hd (c7.out.below I.out lR);have bD:=Hd fun(W:World) (hw:Below w.heap.size w W)=>Ld (D m) c W (aD.below hw lR) aS;obtain⟨XS,aO⟩:=eX ((aH r).flatMap fun j=> .int .i64 ((R.getD j 0:Nat):Int)::(CF j).toList);rw[←aO]at l;have b6:=Hd aO;have E:=Hd (show∀g,V.ownBlock=some g→g<wr.heap.size from fun g hg=>(l.out.lt hg).1);have b7:=Hd (show r≤100000 from by omega);clear aF aM aS aI aD aO cM;go_wp2_with fail;refine Aw [eF (.pointer (some ⟨q,2,none⟩)),eF V,eF (.int .i64 (m:Nat)),eF (.pointer (some ⟨N,2,none⟩)),eF (.map (some ob)),eF (.int .i64 (m:Nat)),eF (.agg c),fun v w'=>∃c2,v=.agg c2∧NodeO w' wr.heap.size (D m) c2,fun v w'=>∃x0 x1 x2 x3 x4 x5 x6 x7 x8 x9,v=.agg #[.int .i64 (m:Nat),x0,x1,x2,x3,x4,x5,x6,x7,x8,x9]∧NodeO w' wr.heap.size (D m) #[x0,x1,x2,x3,x4,x5,x6,x7,x8,x9],fun v w'=>∃g x0 x1 x2 x3 x4 x5 x6 x7 x8 x9,v=.slice (some ⟨g,0,none⟩) 1 1∧wr.heap.size≤g∧Blk w' g 87 #[.int .i64 (m:Nat),x0,x1,x2,x3,x4,x5,x6,x7,x8,x9]∧NodeO w' wr.heap.size (D m) #[x0,x1,x2,x3,x4,x5,x6,x7,x8,x9],fun v w'=>∃c2,OwnK w' (q+1) 87 11 v (r+1) (XS++(.int .i64 (m:Nat)::c2.toList))∧NodeO w' (q+1) (D m) c2,eF (.pointer (some ⟨q,2,none⟩)),fun v w'=>∃V2 c2,Blk w' q 25 #[.int .i64 lv,.int .i64 ow,V2,.slice none 0 0]∧OwnK w' (q+1) 87 11 V2 (r+1) (XS++(.int .i64 (m:Nat)::c2.toList))∧NodeO w' (q+1) (D m) c2∧CutS wr V q w']
    ((cK 13 false).set 12 true) (fun X=>ButO wr V (q+1) X) (fun X Y=>StepO V (q+1) X Y) (some 10) 12 (by kernel_rfl) ?_ (ButO.start wr V (q+1)) (fun X Y hx h=>StepO.of h (bO (iF o.out.lt) hx.low.size)) (fun X Y hx F=>hx.step F) (by kernel_rfl) (by kernel_rfl) (by kernel_rfl) ?_ ?_
   ·exact kE (kE (kE (kE (kE (kE (kE (Da (fun v x y h hi F=>let⟨u,e,k⟩:=h;⟨u,e,NodeO.stepQ F k E.out⟩) (Da (fun v x y h hi F=>let⟨x0,x1,x2,x3,x4,x5,x6,x7,x8,x9,e,k⟩:=h;⟨x0,x1,x2,x3,x4,x5,x6,x7,x8,x9,e,NodeO.stepQ F k E.out⟩) (Da (fun v x y h hi F=>let⟨g,x0,x1,x2,x3,x4,x5,x6,x7,x8,x9,e,hg,k,k2⟩:=h;⟨g,x0,x1,x2,x3,x4,x5,x6,x7,x8,x9,e,hg,(F.2 g k.lt (fun ee=>absurd (E.out g ee) (by omega))).trans k,NodeO.stepQ F k2 E.out⟩) (Cv (fun v x y h hi F=>let⟨u,k,k2⟩:=h;⟨u,OwnK.below k F lR,NodeO.below k2 F lR⟩) (kE (Ah (fun _ _ _ _ _ _=>trivial) (Ae)))))))))))))
   ·refine gP8 ?_ rfl (Mv (by kernel_rfl) ?_ rfl (gP8 ?_ rfl (gP8 ?_ rfl (gP8 ?_ rfl (gP8 ?_ rfl (gO8 ?_ (Lz (by kernel_rfl) ?_ (gO8 ?_ (Lz (by kernel_rfl) ?_ (Lz (by kernel_rfl) ?_ (gP8 ?_ rfl (gO8 ?_ .nil))))))))))));all_goals
     intro a t d b4 ho hf;have d:ButO wr V (q+1) t:=d;refine⟨rfl,?_⟩;intro K hK;try have dQ:a.tmps[1]?.getD undef=.pointer (some ⟨N,0,none⟩):=ho 1 (by kernel_rfl)
     try have dT:a.tmps[3]?.getD undef=.pointer (some ⟨q,0,none⟩):=ho 3 (by kernel_rfl)
     try have d4:a.tmps[5]?.getD undef=.int .i64 (m:Nat):=ho 5 (by kernel_rfl)
     try have bT:=eqn hf.1
     try have dJ:=eqn hf.2.1
     try(have bU:=(d.low.cell (p:=⟨q,2,none⟩) (dG q)).trans (o.out.cell 2);simp only[cC,cD,cE]at bU)
     try(have b3:=(d.low.cell (p:=⟨N,2,none⟩) cH.out).trans (aT.out.cell 2);simp only[cC,cD,cE]at b3)
     try have aW:=MapF.run_get (T:=98) (HM.out.belowB d.low cW.out) Tryz.underlying98 (Ia t) bW.out
     try(refine Hd ?_;go_simp;exact hK _ rfl)
    ·rw[bY.out]at aW;simp only[Option.getD_some]at aW;go_simp;exact hK _ _ rfl (fun _=>Af rfl bR)
    ·go_simp;refine(bD.out t (I.out.trans (d.low.mono a8.out))).mono ?_;rintro e w2 ⟨c9,rfl,aU,b8⟩;exact hK _ _ ⟨_,rfl,aU.mono d.low.size⟩ (fun _=>Af rfl b8)
    ·have C:∃c2,(a.tmps[29]?.getD undef)=.agg c2∧NodeO t wr.heap.size (D m) c2:=hf.2.1;obtain⟨v1,i⟩:=eX (a.tmps[29]?.getD undef);rw[←i]at C;have e1:=i.symm;clear i;obtain⟨c2,rfl,ho⟩:=C;obtain⟨x0,x1,x2,x3,x4,x5,x6,x7,x8,x9,rfl⟩:=ho.c.ten;go_simp;exact hK _ _ ⟨x0,x1,x2,x3,x4,x5,x6,x7,x8,x9,rfl,ho⟩ (fun _=>Af rfl bR)
    ·have o0:∃x0 x1 x2 x3 x4 x5 x6 x7 x8 x9,(a.tmps[30]?.getD undef)=.agg #[.int .i64 (m:Nat),x0,x1,x2,x3,x4,x5,x6,x7,x8,x9]∧NodeO t wr.heap.size (D m) #[x0,x1,x2,x3,x4,x5,x6,x7,x8,x9]:=hf.1;obtain⟨v0,aQ⟩:=eX (a.tmps[30]?.getD undef);rw[←aQ]at o0;have e0:=aQ.symm;clear aQ;obtain⟨x0,x1,x2,x3,x4,x5,x6,x7,x8,x9,rfl,S⟩:=o0;go_simp;exact hK _ _ ⟨_,x0,x1,x2,x3,x4,x5,x6,x7,x8,x9,rfl,d.low.size,Blk.new _ _ _,S.below (bR.alloc lR _) lR⟩ (fun _=>Af rfl (bR.alloc lR _))
    ·have C:∃g x0 x1 x2 x3 x4 x5 x6 x7 x8 x9,(a.tmps[31]?.getD undef)=.slice (some ⟨g,0,none⟩) 1 1∧wr.heap.size≤g∧Blk t g 87 #[.int .i64 (m:Nat),x0,x1,x2,x3,x4,x5,x6,x7,x8,x9]∧NodeO t wr.heap.size (D m) #[x0,x1,x2,x3,x4,x5,x6,x7,x8,x9]:=hf.2.1;obtain⟨v1,i⟩:=eX (a.tmps[31]?.getD undef);rw[←i]at C;have e1:=i.symm;clear i;obtain⟨g,x0,x1,x2,x3,x4,x5,x6,x7,x8,x9,hv,hg,b,S⟩:=C;have a5:=l.out.below b4 lR;have cJ:=S.c.oneL;refine Np (.tmp 23) (.tmp 31) 22 rfl (q+1) 87 _ 11 216 Zly V r XS (evs bT) a5 g [.int .i64 (m:Nat),x0,x1,x2,x3,x4,x5,x6,x7,x8,x9] (evs (e1.trans hv)) rfl (fun j u2 A=>by have:=b.range 0 j u2 A;simpa using this) (by rw[List.all_eq_true.symm];exact cJ) (by have:=b7.out;omega) (by have:=d.low.size;have:=o.out.lt;omega) ?_;intro v' w' h2 h3;exact hK _ _ ⟨#[x0,x1,x2,x3,x4,x5,x6,x7,x8,x9],h2,(NodeO.stepQ h3 S E.out).mono (iF o.out.lt)⟩ (fun _=>Ca rfl h3)
    ·have C:∃c2,OwnK t (q+1) 87 11 (a.tmps[32]?.getD undef) (r+1) (XS++(.int .i64 (m:Nat)::c2.toList))∧NodeO t (q+1) (D m) c2:=hf.2.1;obtain⟨v1,i⟩:=eX (a.tmps[32]?.getD undef);rw[←i]at C;have e1:=i.symm;clear i;obtain⟨u,C,S⟩:=C;have b:=o.out.below d.low (dG q);have d1:t.cell? ⟨q,2,none⟩=some V:=b.cell 2;have d2:=b.frozen 2;obtain⟨ga,gc,rfl⟩:=OwnK.sl C;have aG:q≤t.heap.size:=eA b.lt;have cA:=b.set 2 (.slice ga (r+1) gc);have O:=OwnK.onlyQ C (Only.set (a:=t) (B:=q) 2 (.slice ga (r+1) gc)) (dG q);have A:=NodeO.onlyQ S (Only.set (a:=t) (B:=q) 2 (.slice ga (r+1) gc)) (dG q);have J:=d.put aG 2 (.slice ga (r+1) gc);go_simp;exact hK undef _ ⟨_,u,cA,O,A,J⟩ (fun h=>absurd rfl h)
   ·rintro f P aB;have dP:∃V2 c2,Blk P q 25 #[.int .i64 lv,.int .i64 ow,V2,.slice none 0 0]∧OwnK P (q+1) 87 11 V2 (r+1) (XS++(.int .i64 (m:Nat)::c2.toList))∧NodeO P (q+1) (D m) c2∧CutS wr V q P:=aB.2.2.2.2.2.2.2.2.2.2.2.2.1;clear aB;simp only[Aj,Aq,Dr,cZ,dA,dB,dC,Nat.reduceBEq,Nat.reduceAdd,dD,dE,cond_true,cond_false];obtain⟨V2,c2,aV,O,A,J⟩:=dP;have aP:=Hd aV;have aZ:=Hd O;have bX:=Hd A;have Q:=Hd J;clear aV O A J;go_wp2_with fail;go_roundg (gk-1);case measure=>have:=HR.out;omega
    case rel=>
     refine⟨r+1,V2,fun j=>if j<r then CF j else c2,by have:=HR.out;omega,by go_num,aP.out,?_,fun j hj=> ?_,?_,HB.out.trans Q.out.low⟩
     ·rw[Zfj (g:=fun j (z:Array Value)=> .int .i64 ((R.getD j 0:Nat):Int)::z.toList),←b6.out,←a3.out];exact aZ.out
     ·by_cases hjr:j<r
      ·show NodeO P (q+1) _ (if j<r then CF j else c2);rw[if_pos hjr];exact NodeO.cutQ Q.out (aE.out j hjr) (dG q) l.out (by decide) (by decide)
      ·obtain rfl:j=r:=(by omega);show NodeO P (q+1) _ (if j<j then CF j else c2);rw[if_neg hjr,←a3.out];exact bX.out
     ·exact CutS.ownK (k:=1) Q.out aA.out (dG q) (OwnK.apartK (k:=1) aA.out l.out (by decide))
  ·obtain rfl:no=r:=(by have:=HR.out;omega);have cI:decide (no<no)=false:=decide_eq_false hlt;clear hlt;have d3:=aT.out.cell 3;simp only[cC,cD,cE]at d3;go_wp2_with fail;obtain⟨w5,c5⟩:=eX wr;rw[←c5]at o l HB I aE aT bC d3⊢;clear c5;refine(Tj (some sb) w5).mono ?_;rintro e w6 ⟨rfl,rfl⟩;have bI:=Hd (Nd sb n2 w5.heap.size G2 _ (w5.alloc (.cells #[.map (some sb)] 99)) ((a0.out.below I.out lR).alloc _) dV.out (by omega) (by rw[(Blk.new w5 _ _).cell];rfl) (by simp));clear d3;go_wp2_with fail;refine bI.out.mono ?_;rintro e w7 ⟨VS,rfl,bZ,cV⟩;obtain⟨a2,c2,rfl,-⟩:=Sa bZ.rd;have aG:=o.out.lt;have aC:Below w5.heap.size w5 w7:=(bR.alloc lR (.cells #[.map (some sb)] 99)).trans (cV.mono (by simp));have aY:=Hd (bZ.mono (show q+1≤_ from by simp;omega));have bJ:=Hd (o.out.below aC aG);have bK:=Hd (l.out.below aC lR);have bM:=Hd (show∀j,j<no→NodeO w7 (q+1) (D (R.getD j 0)) (CF j)from fun j hj=>(aE.out j hj).below aC lR);have cY:=Hd (HB.out.trans (aC.mono (eA aG)));rw[←aR.out]at aY;have bE:=aR.out;rw[←bE];clear bZ cV aC bE bI o l HB I aE aT bC aA aG HR;go_wp2_with fail
   go_loopg [40] ns (fun gk iv wr=>∃(r:Nat) (SV:Value) (U:Nat→Value),r+gk=ns∧iv=.int .i64 (r:Nat)∧Blk wr q 25 #[.int .i64 lv,.int .i64 ow,V,SV]∧OwnK wr (q+1) 89 2 SV r ((aH r).flatMap fun j=>[.int .i64 ((SO.getD j 0:Nat):Int),U j])∧(∀j,j<r→Own wr (q+1) 5 (U j) (bvs (H (SO.getD j 0))))∧OwnK wr (q+1) 87 11 V no ((aH no).flatMap fun j=> .int .i64 ((R.getD j 0:Nat):Int)::(CF j).toList)∧(∀j,j<no→NodeO wr (q+1) (D (R.getD j 0)) (CF j))∧Own wr (q+1) 3 (.slice a2 ns c2) (ivs .i64 (SO.map fun m:Nat=>(m:Int)))∧Below q w2 wr)
   case atStart=>exact⟨0,_,fun _=> .slice none 0 0,by omega,rfl,bJ.out,OwnK.nil _ _ _ _,fun j hj=>absurd hj (iE j),bK.out,bM.out,aY.out,cY.out⟩
   case round=>
    obtain⟨r,SV,U,hr,rfl,b,Z,S,c6,aX,M,hb⟩:=hrel;have HR:=Hd hr;have o:=Hd b;have l:=Hd Z;have HU:=Hd S;have bA:=Hd c6;have aE:=Hd aX;have aA:=Hd M;have HB:=Hd hb;clear hr b Z S c6 aX M hb bJ bK bM aY cY;have aT:=Hd (bG.out.below HB.out (by have:=s.out;omega));have bC:=Hd (bH.out.below HB.out s.out);have I:=Hd (a9.out.trans (HB.out.mono (show w.heap.size≤q from by have:=s.out;have:=HN.out;omega)))
    by_cases hlt:r<ns
    ·have cG:decide (r<ns)=true:=decide_eq_true hlt;have cN:(r:Int)<(ns:Int):=(by omega);obtain⟨b2,o2,rfl,c0,cx⟩:=Sb aA.out.rd (show r<SO.length from by rw[←aR.out];exact hlt);obtain⟨aM,aS,UV,aI,aD⟩:=HH.out _ (c8.out SO r (by rw[←aR.out];exact hlt));obtain⟨m,aF⟩:=eX (SO.getD r 0);rw[←aF]at cx aM aS aI aD;have a3:=Hd aF;have bW:=Hd aM;have bY:=Hd aI;have dL:=Hd (a0.out.below I.out lR);have bD:=Hd fun(W:World) (hw:Below w.heap.size w W)=>Cq UV (H m) W (aD.below hw lR) (by omega);obtain⟨HX,b0⟩:=eX (H m);rw[←b0]at bD;have dH:=Hd b0;obtain⟨XS,aO⟩:=eX ((aH r).flatMap fun j=>[.int .i64 ((SO.getD j 0:Nat):Int),U j]);rw[←aO]at l;have b6:=Hd aO;have E:=Hd (show∀g,SV.ownBlock=some g→g<wr.heap.size from fun g hg=>(l.out.lt hg).1);have b7:=Hd (show r≤100000 from by omega);clear aF aM aS aI aD aO c0 b0;go_wp2_with fail;refine Aw [eF (.pointer (some ⟨q,3,none⟩)),eF SV,eF (.int .i64 (m:Nat)),eF (.pointer (some ⟨N,3,none⟩)),eF (.map (some sb)),eF (.int .i64 (m:Nat)),eF UV,fun v w'=>Own w' wr.heap.size 5 v (bvs HX),fun v w'=>∃u,v=.agg #[.int .i64 (m:Nat),u]∧Own w' wr.heap.size 5 u (bvs HX),fun v w'=>∃g u,v=.slice (some ⟨g,0,none⟩) 1 1∧wr.heap.size≤g∧Blk w' g 89 #[.int .i64 (m:Nat),u]∧Own w' wr.heap.size 5 u (bvs HX),fun v w'=>∃u,OwnK w' (q+1) 89 2 v (r+1) (XS++[.int .i64 (m:Nat),u])∧Own w' (q+1) 5 u (bvs HX),eF (.pointer (some ⟨q,3,none⟩)),fun v w'=>∃V2 u,Blk w' q 25 #[.int .i64 lv,.int .i64 ow,V,V2]∧OwnK w' (q+1) 89 2 V2 (r+1) (XS++[.int .i64 (m:Nat),u])∧Own w' (q+1) 5 u (bvs HX)∧CutS wr SV q w']
      ((cK 13 false).set 12 true) (fun X=>ButO wr SV (q+1) X) (fun X Y=>StepO SV (q+1) X Y) (some 10) 12 (by kernel_rfl) ?_ (ButO.start wr SV (q+1)) (fun X Y hx h=>StepO.of h (bO (iF o.out.lt) hx.low.size)) (fun X Y hx F=>hx.step F) (by kernel_rfl) (by kernel_rfl) (by kernel_rfl) ?_ ?_
     ·exact kE (kE (kE (kE (kE (kE (kE (Da (fun v x y h hi F=>StepO.own F h E.out) (Da (fun v x y h hi F=>let⟨u,e,k⟩:=h;⟨u,e,StepO.own F k E.out⟩) (Da (fun v x y h hi F=>let⟨g,u,e,hg,k,k2⟩:=h;⟨g,u,e,hg,(F.2 g k.lt (fun ee=>absurd (E.out g ee) (by omega))).trans k,StepO.own F k2 E.out⟩) (Cv (fun v x y h hi F=>let⟨u,k,k2⟩:=h;⟨u,OwnK.below k F lR,Own.below k2 F lR⟩) (kE (Ah (fun _ _ _ _ _ _=>trivial) (Ae)))))))))))))
     ·refine gP8 ?_ rfl (Mv (by kernel_rfl) ?_ rfl (gP8 ?_ rfl (gP8 ?_ rfl (gP8 ?_ rfl (gP8 ?_ rfl (gO8 ?_ (Lz (by kernel_rfl) ?_ (gO8 ?_ (Lz (by kernel_rfl) ?_ (Lz (by kernel_rfl) ?_ (gP8 ?_ rfl (gO8 ?_ .nil))))))))))));all_goals
       intro a t d b4 ho hf;have d:ButO wr SV (q+1) t:=d;refine⟨rfl,?_⟩;intro K hK;try have dQ:a.tmps[1]?.getD undef=.pointer (some ⟨N,0,none⟩):=ho 1 (by kernel_rfl)
       try have dT:a.tmps[3]?.getD undef=.pointer (some ⟨q,0,none⟩):=ho 3 (by kernel_rfl)
       try have dZ:a.tmps[7]?.getD undef=.int .i64 (m:Nat):=ho 7 (by kernel_rfl)
       try have bT:=eqn hf.1
       try have dJ:=eqn hf.2.1
       try(have bU:=(d.low.cell (p:=⟨q,3,none⟩) (dG q)).trans (o.out.cell 3);simp only[cC,cD,cE]at bU)
       try(have b3:=(d.low.cell (p:=⟨N,3,none⟩) cH.out).trans (aT.out.cell 3);simp only[cC,cD,cE]at b3)
       try have aW:=MapF.run_get (T:=99) (dL.out.belowB d.low cB.out) Tryz.underlying99 (Tryz.zeroValue28 t) bW.out
       try(refine Hd ?_;go_simp;exact hK _ rfl)
      ·rw[bY.out]at aW;simp only[Option.getD_some]at aW;go_simp;exact hK _ _ rfl (fun _=>Af rfl bR)
      ·go_simp;refine(bD.out t (I.out.trans (d.low.mono a8.out))).mono ?_;rintro e w2 ⟨v9,rfl,aU,b8⟩;exact hK _ _ (aU.mono d.low.size) (fun _=>Af rfl b8)
      ·have C:Own t wr.heap.size 5 (a.tmps[51]?.getD undef) (bvs HX):=hf.2.1;obtain⟨v1,i⟩:=eX (a.tmps[51]?.getD undef);rw[←i]at C;have e1:=i.symm;clear i;obtain⟨ua,un,uc,rfl⟩:∃a n c,v1=.slice a n c:=(by obtain⟨a,c,e,-⟩:=C.rd;exact⟨_,_,_,e⟩);go_simp;exact hK _ _ ⟨_,rfl,C⟩ (fun _=>Af rfl bR)
      ·have o0:∃u,(a.tmps[52]?.getD undef)=.agg #[.int .i64 (m:Nat),u]∧Own t wr.heap.size 5 u (bvs HX):=hf.1;obtain⟨v0,aQ⟩:=eX (a.tmps[52]?.getD undef);rw[←aQ]at o0;have e0:=aQ.symm;clear aQ;obtain⟨u,rfl,S⟩:=o0;go_simp;exact hK _ _ ⟨_,u,rfl,d.low.size,Blk.new _ _ _,S.alloc _⟩ (fun _=>Af rfl (bR.alloc lR _))
      ·have C:∃g u,(a.tmps[53]?.getD undef)=.slice (some ⟨g,0,none⟩) 1 1∧wr.heap.size≤g∧Blk t g 89 #[.int .i64 (m:Nat),u]∧Own t wr.heap.size 5 u (bvs HX):=hf.2.1;obtain⟨v1,i⟩:=eX (a.tmps[53]?.getD undef);rw[←i]at C;have e1:=i.symm;clear i;obtain⟨g,u,hv,hg,b,S⟩:=C;have a5:=l.out.below b4 lR;refine Np (.tmp 45) (.tmp 53) 23 rfl (q+1) 89 _ 2 32 Zlz SV r XS (evs bT) a5 g [.int .i64 (m:Nat),u] (evs (e1.trans hv)) rfl (fun j u2 A=>by have:=b.range 0 j u2 A;simpa using this) (fun z hz=>by
        simp only[List.mem_cons,List.not_mem_nil,or_false]at hz;rcases hz with rfl|rfl
        ·rfl
        ·exact S.oneCell) (by have:=b7.out;omega) (by have:=d.low.size;have:=o.out.lt;omega) ?_
       intro v' w' h2 h3;exact hK _ _ ⟨u,h2,(h3.own S E.out).mono (iF o.out.lt)⟩ (fun _=>Ca rfl h3)
      ·have C:∃u,OwnK t (q+1) 89 2 (a.tmps[54]?.getD undef) (r+1) (XS++[.int .i64 (m:Nat),u])∧Own t (q+1) 5 u (bvs HX):=hf.2.1;obtain⟨v1,i⟩:=eX (a.tmps[54]?.getD undef);rw[←i]at C;have e1:=i.symm;clear i;obtain⟨u,C,S⟩:=C;have b:=o.out.below d.low (dG q);have d1:t.cell? ⟨q,3,none⟩=some SV:=b.cell 3;have d2:=b.frozen 3;obtain⟨ga,gc,rfl⟩:=OwnK.sl C;have aG:q≤t.heap.size:=eA b.lt;have cA:=b.set 3 (.slice ga (r+1) gc);have O:=OwnK.onlyQ C (Only.set (a:=t) (B:=q) 3 (.slice ga (r+1) gc)) (dG q);have A:=OwnK.onlyQ (show OwnK t (q+1) 5 1 u (bvs HX).length (bvs HX)from S) (Only.set (a:=t) (B:=q) 3 (.slice ga (r+1) gc)) (dG q);have J:=d.put aG 3 (.slice ga (r+1) gc);go_simp;exact hK undef _ ⟨_,u,cA,O,A,J⟩ (fun h=>absurd rfl h)
     ·rintro f P aB;have dW:∃V2 u,Blk P q 25 #[.int .i64 lv,.int .i64 ow,V,V2]∧OwnK P (q+1) 89 2 V2 (r+1) (XS++[.int .i64 (m:Nat),u])∧Own P (q+1) 5 u (bvs HX)∧CutS wr SV q P:=aB.2.2.2.2.2.2.2.2.2.2.2.2.1;clear aB;simp only[Aj,Aq,Dr,cZ,dA,dB,dC,Nat.reduceBEq,Nat.reduceAdd,dD,dE,cond_true,cond_false];obtain⟨V2,u,aV,O,A,J⟩:=dW;have aP:=Hd aV;have aZ:=Hd O;have bX:=Hd A;have Q:=Hd J;clear aV O A J;go_wp2_with fail;go_roundg (gk-1);case measure=>have:=HR.out;omega
      case rel=>
       refine⟨r+1,V2,fun j=>if j<r then U j else u,by have:=HR.out;omega,by go_num,aP.out,?_,fun j hj=> ?_,?_,fun j hj=> ?_,?_,HB.out.trans Q.out.low⟩
       ·rw[Zh4 (g:=fun j z=>[.int .i64 ((SO.getD j 0:Nat):Int),z]),←b6.out,←a3.out];exact aZ.out
       ·by_cases hjr:j<r
        ·show Own P (q+1) 5 (if j<r then U j else u) _;rw[if_pos hjr];exact CutS.ownK (k:=1) Q.out (HU.out j hjr) (dG q) (OwnK.apartK (k:=1) (HU.out j hjr) l.out (by decide))
        ·obtain rfl:j=r:=(by omega);show Own P (q+1) 5 (if j<j then U j else u) _;rw[if_neg hjr,←a3.out,←dH.out];exact bX.out
       ·exact CutS.ownK Q.out bA.out (dG q) (OwnK.apartK bA.out l.out (by decide))
       ·exact NodeO.cutQ Q.out (aE.out j hj) (dG q) l.out (by decide) (by decide)
       ·exact CutS.ownK (k:=1) Q.out aA.out (dG q) (OwnK.apartK (k:=1) aA.out l.out (by decide))
    ·obtain rfl:r=ns:=(by have:=HR.out;omega);have cG:decide (r<r)=false:=decide_eq_false hlt;clear hlt;obtain⟨va,vc,rfl⟩:=OwnK.sl bA.out;obtain⟨sa,sc,rfl⟩:=OwnK.sl l.out;go_wp2_with (first|(refine wpList_load_row rfl 25 (.tmp 3) rfl q rfl 25 _ (0,0) _ o.out Tryz.underlying25 rfl (by kernel_rfl) ?_)|(refine Aa rfl 25 (.tmp 2) (.tmp 57) rfl (N+1) #[.int .i64 lv,.int .i64 ow,.slice va no vc,.slice sa r sc] rfl rfl 25 _ bC.out (by kernel_rfl) rfl rfl ?_));rintro P a6 b5 cT dR;have a7:Only (N+1) wr P:=Only.storeQ b5 cT;have dI:=s.out;have cQ:Below w.heap.size w P:=I.out.trans (b5 _ (by rw[←HN.out];exact fZ N));have aU:=OwnK.onlyQ bA.out a7 (by omega);have c4:=OwnK.onlyQ l.out a7 (by omega);have bN:=Hd a6;have bL:=fun k hk=>NodeO.onlyQ (aE.out k hk) a7 (by omega);have cP:=fun j hj=>OwnK.onlyQ (k:=1) (HU.out j hj) a7 (by omega);have mk:∀W:World,(∀ {e:TypeId} {k n:Nat} {v:Value} {xs:List Value},OwnK P (q+1) e k v n xs→OwnK W (q+1) e k v n xs)→SparseR W (.agg #[.int .i64 lv,.int .i64 ow,.slice va no vc,.slice sa r sc]) ⟨lv,ow,R.map fun m:Nat=>((m:Int),D m),SO.map fun m:Nat=>((m:Int),H m)⟩:=fun W hW=>by
      refine⟨_,_,rfl,?_,?_⟩
      ·refine Zbw (B:=q+1) (CF:=CF) (fun k hk=>((bL k (by rw[bB.out];exact hk)).keep2 fun e v xs _ S=>hW (k:=1) S).c) ?_;rw[←bB.out];exact hW aU
      ·refine Zbx (B:=q+1) (U:=U) (fun j hj=>hW (k:=1) (cP j (by rw[aR.out];exact hj))) ?_;rw[←aR.out];exact hW c4
     have cU:=Hd (mk P fun h=>h);have b9:=Hd fun(g:Nat) (W:World) (hg:g<w.heap.size) (ho:Only g P W)=>mk W fun h=>OwnK.onlyQ h ho (by have:=HN.out;omega);have bN:=Hd a6;have dM:=Hd cQ;clear a6 b5 cT dR a7 cQ aU c4 dI bL cP mk;go_wp2_with fail;exact bodyPost_ret (v:=.agg #[.int .i64 lv,.int .i64 ow,.slice va no vc,.slice sa r sc]) (Hq Tryz.results67 _ _ (N+1) _ _ _ rfl bN.out Tryz.underlying25 rfl (by kernel_rfl)) rfl ⟨_,rfl,cU.out,dM.out,b9.out⟩
theorem Uq (v:Value) (t:List NodeD) (hh m d:Nat) (j f:List Nat) (w:World) (h:TreeR w v t) (hs:Bg t=true) (T:TreeOk t) (hr:Bv t=true) (z:t.length=2*hh+1) (U:Ap t.length=hh+1) (hd:d≤16) (R:hh+1=2^d) (hi:((m:Nat):Int)∈Nf t (hh+1))
  (eO:(Bt (atT t) m false d (2^d-1) 0 []).1=j.map fun m:Nat=>(m:Int)) (eS:(Bt (atT t) m false d (2^d-1) 0 []).2.1=f.map fun m:Nat=>(m:Int)) (S:j.Pairwise (· < ·)) (Y:f.Pairwise (· < ·))
  (hO:∀x∈j,x<t.length) (hS:∀x∈f,x<t.length) (r:j.length≤100000) (p:f.length≤100000) (V:∀x,(Dq (nd t) x).length≤1000000):
  Calls Tryz.prog 41 #[v,.int .i64 (m:Nat)] w fun e w'=>∃v',e=.returned (.tuple #[v',.int .u8 0])∧SparseR w' v' (Zfc t (2^d) m j f)∧Below w.heap.size w w':=by
 have aJ:=Bo hs;have P:=Hd fun(W:World) (hw:Below w.heap.size w W)=>Zk6 v t hh m d false j f W (h.below hw lR) hs T hr z U hd R hi eO eS S Y hO hS r p;have L:=Hd fun(W:World) (ob sb:Nat) (G K:Int→Option Value) (hm:MapF W ob j.length G) (hk:Dl G (j.map fun m:Nat=>(m:Int))) (hn:∀x∈j,∃c,G ((x:Nat):Int)=some (.agg c)∧NodeC W (nd t x) c) (aF:MapF W sb f.length K) (aE:Dl K (f.map fun m:Nat=>(m:Int))) (hu:∀x∈f,∃u,K ((x:Nat):Int)=some u∧Rd W u (bvs (Dq (nd t) x)))=>
  Qa ((2^d:Nat):Int) (m:Nat) ob sb j.length f.length G K j f (nd t) (Dq (nd t)) W hm aF r p hk aE (fun x hx=>⟨by unfold inI;have:=hO x hx;omega,Cf hs x,hn x hx⟩) (fun x hx=>⟨by unfold inI;have:=hS x hx;omega,V x,hu x hx⟩) r p
 obtain⟨M,hM⟩:=eX (2^d);rw[←hM]at P L⊢;obtain⟨RS,H⟩:=eX (Zfc t M m j f);have aB:=Hd H;rw[←H];obtain⟨a,n,c,rfl⟩:∃a n c,v=.slice a n c:=(by obtain⟨a,c,e,_⟩:=h.sl;exact⟨_,_,_,e⟩);clear h hs T hr z U hd R hi eO eS S Y hO hS r p V aJ hM H;obtain⟨N,hN⟩:=eX w.heap.size;have HN:=Hd hN;go_enter Tryz.func41,Tryz.ntmps41;go_wp2_with fail;obtain⟨w2,q⟩:=eX (w.alloc (.cells #[.int .i64 0,.int .i64 0,.slice none 0 0,.slice none 0 0] 25));have F:=Hd (show Below w.heap.size w w2 from by rw[q];exact bR.alloc lR _);have C:=Hd (show Blk w2 N 25 #[.int .i64 0,.int .i64 0,.slice none 0 0,.slice none 0 0]from by rw[q,hN];exact Blk.new _ _ _);rw[←q,←hN];clear q hN;refine(P.out _ F.out).mono ?_;rintro e Z ⟨ob,sb,G,K,rfl,m1,m2,m3,m4,m5,m6,I⟩;have aA:=Hd (F.out.trans (I.mono F.out.size));have y:=Hd (C.out.below I C.out.lt);obtain⟨w4,l⟩:=eX (Z.alloc (.cells #[.int .i64 (M:Nat),.int .i64 (m:Nat),.map (some ob),.map (some sb)] 101));have b:Below Z.heap.size Z w4:=(by rw[l];exact bR.alloc lR _);have HX:=Hd (L.out w4 ob sb G K (m1.below b lR) m2 (fun x hx=>by obtain⟨c,h1,h2⟩:=m3 x hx;exact⟨c,h1,h2.below b lR⟩) (m4.below b lR) m5 (fun x hx=>by obtain⟨u,h1,h2⟩:=m6 x hx;exact⟨u,h1,h2.below b lR⟩));have E:=Hd (aA.out.trans (b.mono aA.out.size));have i:=Hd (y.out.below b y.out.lt);have X:=Hd (show Blk w4 Z.heap.size 101 #[.int .i64 (M:Nat),.int .i64 (m:Nat),.map (some ob),.map (some sb)]from by rw[l];exact Blk.new _ _ _);rw[l]at HX E i X;clear I m1 m2 m3 m4 m5 m6 b l;go_wp2_with (refine wpList_load_row rfl 101 (.tmp 6) rfl Z.heap.size rfl 101 _ (0,0) _ X.out Tryz.underlying101 rfl (by kernel_rfl) ?_);refine HX.out.mono ?_;rintro e w5 ⟨vr,rfl,aC,J,A⟩;obtain⟨o,g,rfl,ho,hg⟩:=aC;obtain⟨a1,c1,rfl,aI⟩:=ho;obtain⟨a2,c2,rfl,aL⟩:=hg;have O:=Hd A;have Q:=Hd (i.out.below J i.out.lt);have aH:=Hd (E.out.trans (J.mono E.out.size));have aK:=Hd i.out.lt;clear J A aI aL;simp only[gH]at O⊢;go_wp2_with (refine Aa rfl 25 (.tmp 4) (.tmp 19) rfl N #[.int .i64 (M:Nat),.int .i64 (m:Nat),.slice a1 j.length c1,.slice a2 f.length c2] rfl rfl 25 #[.int .i64 0,.int .i64 0,.slice none 0 0,.slice none 0 0] Q.out (by kernel_rfl) rfl rfl ?_);rintro w9 s k B D;have HK:=Hd s;have aD:=Hd (aH.out.trans (k w.heap.size (by rw[←HN.out];exact eI N)));have aG:=Hd (O.out N w9 aK.out (Only.storeQ k B));clear s k B D;go_wp2_with fail;refine bodyPost_ret (v:=.tuple #[.agg #[.int .i64 (M:Nat),.int .i64 (m:Nat),.slice a1 j.length c1,.slice a2 f.length c2],.int .u8 0]) (Ad Tryz.results41 _ _ N _ _ _ rfl HK.out Tryz.underlying25 rfl (by kernel_rfl)) rfl ⟨_,rfl,?_,aD.out⟩;rw[aB.out];exact aG.out
end Go.Proofs.YtfofaiommeckbaaGreat
namespace Go.Proofs.YtfofaiommeckbaaGreat
open Go.RowKit WalkM WireM
theorem Zfk (l l':List (Int×NodeD))(x:Int):Ai (l++l') x=(Ai l x).or (Ai l' x):=by
 induction l with
 |nil=>simp[Ai]
 |cons p l ih=>
  rw[List.cons_append,Ai,Ai]
  by_cases e:p.1=x
  ·rw[if_pos e,if_pos e];rfl
  ·rw[if_neg e,if_neg e];exact ih
theorem Xd (D:Nat→NodeD)(n:Nat):∀k,Ai ((aH k).map fun i=>(((i:Nat):Int),D i)) ((n:Nat):Int)=if n<k then some (D n)else none:=by
 intro k
 induction k with
 |zero=>rfl
 |succ k ih=>
  rw[eZ,iH,Zfk,ih]
  by_cases h:n<k
  ·rw[if_pos h,if_pos (by omega)];rfl
  ·rw[if_neg h,Option.none_or];simp only[List.map_cons,iI,Ai]
   by_cases e:n=k
   ·subst e;rw[if_pos rfl,if_pos (by omega)]
   ·rw[if_neg (by omega),if_neg (by omega)]
theorem Ziq (t:List NodeD)(n:Nat):atT t n=Ai (Zd t) ((n:Nat):Int):=by
 rw[Zd,Xd];rfl
theorem Zfl {t:List NodeD}(hr:Bv t=true):Cu (atT t):=by
 intro x D hx u hu;unfold atT at hx
 split at hx
 ·rename_i hlt
  cases hx;rw[Bv,cL,cL,cL]at hr;obtain⟨h1,hp,_,hl⟩:=hr;obtain⟨h2,m,rfl,hm⟩:=Hi hp hlt hu;exact⟨m,rfl,hm,(Ks (Kt hl x hlt) _ hu).2.1⟩
 ·cases hx
theorem Zk7 {F:Nat→Option NodeD} {i:Nat} {only:Bool}:∀(k x how:Nat) (late:List Int),IsLev x k→x+2^k≤131071→(∀y,inR k x y→(F y).isSome=true)→(Bt F i only k x how late).2.2=true:=by
 intro k
 induction k with
 |zero=>
  intro x how late m hx h;obtain⟨d,j⟩:=Option.isSome_iff_exists.1 (h x (Dc _ _));rw[Dz j]
 |succ k ih=>
  intro x how late m hx h;obtain⟨d,j⟩:=Option.isSome_iff_exists.1 (h x (Dc _ _));obtain⟨p,n,l,o,h2,-,-⟩:=El m hx lR;have f:∀c,IsLev c k→c+2^k≤131071→(∀y,inR k c y→(F y).isSome=true)→∀a,(Fq (Bt F i only k) i only c how d a).2.2=true:=fun c g b e a=>by
   unfold Fq
   split
   ·exact ih _ _ _ g b e
   ·split
    ·rfl
    ·split
     ·exact ih _ _ _ g b e
     ·split
      ·exact ih _ _ _ g b e
      ·rfl
  rw[Cz j];show(_&&_)=true;rw[f _ p o (fun y e=>h y ((Az l).2 (.inr (.inl e)))),f _ n h2 (fun y e=>h y ((Az l).2 (.inr (.inr e))))]
  rfl
theorem Zby:∀(L:List Nat) (b n:Nat),b≤n→L.Pairwise (· < ·)→(∀x∈L,b≤x∧x<n)→L.length≤n-b:=by
 intro L
 induction L with
 |nil=>intro b n _ _ _;simp
 |cons a L ih=>
  intro b n e c d;rw[List.pairwise_cons]at c;have f:=d a (by simp);have:=ih (a+1) n (by omega) c.2 fun x hx=>⟨c.1 x hx,(d x (by simp[hx])).2⟩;rw[List.length_cons];omega
theorem Zfm {L:List Int} {k x n:Nat}(h:Rn k x L)(g:L.Pairwise (· < ·))(i:∀m,inR k x m→m<n)(j:n≤100000):∃OL:List Nat,L=OL.map (fun m:Nat=>(m:Int))∧OL.Pairwise (· < ·)∧(∀m∈OL,m<n)∧OL.length≤100000:=by
 have e:L=(L.map iK).map (fun m:Nat=>(m:Int)):=by
  rw[List.map_map]
  conv=>lhs;rw[←List.map_id L]
  refine iG fun y f=> ?_;obtain⟨m,rfl,-⟩:=h y f;simp
 have c:(L.map iK).Pairwise (· < ·):=by
  rw[iJ];refine g.imp_of_mem fun {a b} ha hb2 hab=> ?_;obtain⟨m,rfl,-⟩:=h a ha;obtain⟨l,rfl,-⟩:=h b hb2;simp only[dI];omega
 have d:∀m∈L.map iK,m<n:=fun m d=>by
  obtain⟨y,f,rfl⟩:=List.mem_map.1 d;obtain⟨m,rfl,h2⟩:=h y f;simpa using i m h2
 refine⟨_,e,c,d,?_⟩;have:=Zby _ 0 n (aA _) c fun x hx=>⟨aA _,d x hx⟩;omega
theorem Zfn {t:List NodeD}(A:Bg t=true)(q:Bv t=true) {hh m d:Nat}(only:Bool)(j:t.length=2*hh+1)(B:d≤16)(r:hh+1=2^d)(E:2*m<t.length):∃e b:List Nat,
  (Bt (atT t) m only d (2^d-1) 0 []).1=e.map (fun m:Nat=>(m:Int))∧(Bt (atT t) m only d (2^d-1) 0 []).2.1=b.map (fun m:Nat=>(m:Int))∧
  Jy (Ea (Ai (Zd t)) d m only d)=e.map (fun m:Nat=>(m:Int))∧Jy (Hl (Ea (Ai (Zd t)) d m only d))=b.map (fun m:Nat=>(m:Int))∧
  e.Pairwise (· < ·)∧b.Pairwise (· < ·)∧(∀x∈e,x<t.length)∧(∀x∈b,x<t.length)∧e.length≤100000∧b.length≤100000:=by
 have v:=Bo A;have G:=Nat.two_pow_pos d;have e2:2^(d+1)=2*2^d:=(by rw[aP];omega);have a:IsLev (2^d-1) d:=by
  unfold IsLev;rw[aP];exact Nat.mod_eq_of_lt (by omega)
 have c:∀y,inR d (2^d-1) y→y<t.length:=fun y g=>(by unfold inR at g;omega);have h:=Zk7 (F:=atT t) (i:=m) (only:=only) d (2^d-1) 0 [] a (by omega) fun y g=>(by unfold atT;rw[if_pos (c y g)];rfl);obtain⟨D,s⟩:=Ua B (fun n=>Ziq t n) (Zfl q) (by omega) h;have f:=Ch (F:=atT t) (i:=m) (only:=only) d (2^d-1) 0 [] a (by omega);obtain⟨e,l,o,C,p⟩:=Zfm f.op f.opr c (by omega);obtain⟨b,k,z,u,w⟩:=Zfm f.sh f.shr c (by omega);exact⟨e,b,l,k,D.trans l,s.trans k,o,z,C,u,p,w⟩
open ShaM
theorem Xe (d:NodeD):Ev d d=true:=by simp[Ev,Jp]
end Go.Proofs.YtfofaiommeckbaaGreat
namespace Go.Proofs.YtfofaiommeckbaaGreat
open Go.RowKit WalkM WireM
def Ga (a b:SparseD):Bool:=decide (a.leaves=b.leaves∧a.own=b.own∧a.op.length=b.op.length∧a.sh.length=b.sh.length)&&(aH a.op.length).all (fun i=>decide ((spt a.op i).1=(spt b.op i).1)&&Ev (spt a.op i).2 (spt b.op i).2)&&
 (aH a.sh.length).all fun i=>decide ((stb a.sh i).1=(stb b.sh i).1)&&decide ((stb a.sh i).2=(stb b.sh i).2)
theorem Ny (a:SparseD):Ga a a=true:=by
 unfold Ga;rw[cL,cL,decide_eq_true_iff,fV,fV];exact⟨⟨⟨rfl,rfl,rfl,rfl⟩,fun i _=>by rw[decide_eq_true rfl,Xe];rfl⟩,fun i _=>by rw[decide_eq_true rfl,decide_eq_true rfl];rfl⟩
theorem Zma {a b:SparseD}(h:¬(a.leaves=b.leaves∧a.own=b.own∧a.op.length=b.op.length∧a.sh.length=b.sh.length)):Ga a b=false:=by rw[Ga,decide_eq_false h];rfl
theorem Zmb {a b:SparseD} {i:Nat}(c:i<a.op.length)(h:(decide ((spt a.op i).1=(spt b.op i).1)&&Ev (spt a.op i).2 (spt b.op i).2)=false):Ga a b=false:=by
 have:(aH a.op.length).all (fun i=>decide ((spt a.op i).1=(spt b.op i).1)&&Ev (spt a.op i).2 (spt b.op i).2)=false:=List.all_eq_false.2 ⟨i,List.mem_range.2 c,by rw[h];simp⟩;rw[Ga,this];simp
theorem Zmc {a b:SparseD} {i:Nat}(c:i<a.sh.length)(h:(decide ((stb a.sh i).1=(stb b.sh i).1)&&decide ((stb a.sh i).2=(stb b.sh i).2))=false):Ga a b=false:=by
 have:((aH a.sh.length).all fun i=>decide ((stb a.sh i).1=(stb b.sh i).1)&&decide ((stb a.sh i).2=(stb b.sh i).2))=false:=List.all_eq_false.2 ⟨i,List.mem_range.2 c,by rw[h];simp⟩;rw[Ga,this];simp
theorem Zk8 {a b:SparseD} (h:a.leaves=b.leaves∧a.own=b.own∧a.op.length=b.op.length∧a.sh.length=b.sh.length) (d:∀i,i<a.op.length→(decide ((spt a.op i).1=(spt b.op i).1)&&Ev (spt a.op i).2 (spt b.op i).2)=true)
  (h2:∀i,i<a.sh.length→(decide ((stb a.sh i).1=(stb b.sh i).1)&&decide ((stb a.sh i).2=(stb b.sh i).2))=true):Ga a b=true:=by
 unfold Ga;rw[cL,cL,decide_eq_true_iff,fV,fV];exact⟨⟨h,fun i c=>d i (List.mem_range.1 c)⟩,fun i c=>h2 i (List.mem_range.1 c)⟩
theorem Qb (v v':Value)(s t:SparseD)(w:World)(h:SparseR w v s)(h':SparseR w v' t)(a7:SparseOk s)(aU:SparseOk t)(bX:s.op.length≤1000000)(b4:s.sh.length≤1000000):
  Calls Tryz.prog 24 #[v,v'] w fun e w'=>e=.returned (.bool (Ga s t))∧Below w.heap.size w w':=by
 obtain⟨o,g,rfl,L,hg⟩:=h;obtain⟨oa,oc,rfl,bZ,b6⟩:=L.sl;obtain⟨ga,gc,rfl,b3,b5⟩:=hg.sl;obtain⟨o',g',rfl,a5,a4⟩:=h';obtain⟨a6,Z,rfl,bL,b0⟩:=a5.sl;obtain⟨a3,T,rfl,bT,bY⟩:=a4.sl;have bO:=Hd fun(i:Nat) (R:i<s.op.length)=>L.at R;have bB:=Hd fun(i:Nat) (R:i<s.sh.length)=>hg.at R;have bK:=Hd fun(i:Nat) (R:i<t.op.length)=>a5.at R;have bS:=Hd fun(i:Nat) (R:i<t.sh.length)=>a4.at R;have bD:=Hd fun(i:Nat) (R:i<s.op.length)=>(a7.op _ (Qy R)).2;have bV:=Hd fun(i:Nat) (R:i<t.op.length)=>(aU.op _ (Qy R)).2;have bH:=Hd fun(i:Nat) (R:i<s.sh.length)=>(a7.sh _ (Vv R)).2;have bF:=Hd fun(i:Nat) (R:i<t.sh.length)=>(aU.sh _ (Vv R)).2;have aH:=Hd (Zma (a:=s) (b:=t));have a1:=Hd fun i=>Zmb (a:=s) (b:=t) (i:=i);have a8:=Hd fun i=>Zmc (a:=s) (b:=t) (i:=i);have aL:=Hd (Zk8 (a:=s) (b:=t));obtain⟨b7,a0⟩:=eX (Ga s t);rw[←a0]at aH a1 a8 aL⊢;obtain⟨lv,a9⟩:=eX s.leaves;obtain⟨ow,how⟩:=eX s.own;obtain⟨n,hn⟩:=eX s.op.length;obtain⟨m,hm⟩:=eX s.sh.length;obtain⟨aT,aR⟩:=eX t.leaves;obtain⟨aW,aV⟩:=eX t.own;obtain⟨n2,O⟩:=eX t.op.length;obtain⟨m2,aX⟩:=eX t.sh.length;rw[←a9,←how,←aR,←aV,←hn,←hm,←O,←aX]at aH aL;rw[←a9,←how,←aR,←aV,←hn,←hm,←O,←aX];rw[←hn]at a1 bO bD bZ bX;rw[←hm]at a8 bB bH b3 b4;rw[←O]at bK bV bL;rw[←aX]at bS bF bT;clear a0 a9 how hn hm aR aV O aX L hg a5 a4 a7 aU;obtain⟨N,hN⟩:=eX w.heap.size;have HH:=Hd hN;obtain⟨w1,aQ⟩:=eX ((w.alloc (.cells #[.int .i64 lv,.int .i64 ow,.slice oa n oc,.slice ga m gc] 25)).alloc (.cells #[.int .i64 aT,.int .i64 aW,.slice a6 n2 Z,.slice a3 m2 T] 25));have aS:=Hd aQ;have aO:=Hd (show Below w.heap.size w w1 by rw[aQ];exact(bR.alloc lR _).alloc (by simp) _);have aM:=Hd (show Blk w1 N 25 #[.int .i64 lv,.int .i64 ow,.slice oa n oc,.slice ga m gc] by rw[aQ,hN];exact(Blk.new _ _ _).alloc _);have aN:=Hd (show Blk w1 (N+1) 25 #[.int .i64 aT,.int .i64 aW,.slice a6 n2 Z,.slice a3 m2 T] by
  rw[aQ,hN];have h1:=Blk.new (w.alloc (.cells #[.int .i64 lv,.int .i64 ow,.slice oa n oc,.slice ga m gc] 25)) 25 #[.int .i64 aT,.int .i64 aW,.slice a6 n2 Z,.slice a3 m2 T];simpa using h1)
 have c0:=aM.out.cell 0;have c1:=aM.out.cell 1;have c2:=aM.out.cell 2;have c3:=aM.out.cell 3;have e0:=aN.out.cell 0;have e1:=aN.out.cell 1;have e2:=aN.out.cell 2;have e3:=aN.out.cell 3;simp only[cC,cD,cE]at c0 c1 c2 c3 e0 e1 e2 e3;clear aQ hN
 by_cases q1:lv=aT
 ·subst q1;have bJ:(lv !=lv)=false:=by simp
  by_cases q2:ow=aW
  ·subst q2;have bI:(ow !=ow)=false:=by simp
   by_cases q3:n=n2
   ·subst q3;have bG:((n:Int) !=(n:Int))=false:=by simp
    by_cases q4:m=m2
    ·subst q4;have bN:((m:Int) !=(m:Int))=false:=(by simp);have HY:=Hd (aL.out ⟨rfl,rfl,rfl,rfl⟩);go_enter Tryz.func24,Tryz.ntmps24;go_wp2_with fail;rw[←HH.out,←aS.out];go_wp2_with fail;clear bJ bI bG bN c0 c1 c2 c3 e0 e1 e2 e3 aH aL
     go_loopg [5] n (fun q iv wr=>∃r:Nat,r+q=n∧iv=.int .i64 (r:Nat)∧(∀i,i<r→(decide ((spt s.op i).1=(spt t.op i).1)&&Ev (spt s.op i).2 (spt t.op i).2)=true)∧Below w1.heap.size w1 wr)
     case atStart=>exact⟨0,by omega,rfl,fun i R=>by omega,bR⟩
     case round=>
      obtain⟨r,hr,rfl,V,hb⟩:=hrel;have HR:=Hd hr;have Y:=Hd V;have HB:=Hd hb;have J:=Hd (aO.out.trans (hb.mono aO.out.size));have aJ:=Hd (aM.out.below hb aM.out.lt);have aK:=Hd (aN.out.below hb aN.out.lt);have c2:=aJ.out.cell 2;have c3:=aJ.out.cell 3;have e2:=aK.out.cell 2;have e3:=aK.out.cell 3;simp only[cC,cD,cE]at c2 c3 e2 e3;have X:N<wr.heap.size:=aJ.out.lt;have I:N+1<wr.heap.size:=aK.out.lt;clear hr V hb
      by_cases hlt:r<n
      ·have aP:decide (r<n)=true:=decide_eq_true hlt;have bE:(r:Int)<(n:Int):=(by omega);obtain⟨C,F,y,rfl,H,aE,aG⟩:=bO.out r hlt;obtain⟨B,E,z,rfl,u,O,aD⟩:=bK.out r hlt;have S:=(J.out.cell (p:=⟨C,F+r*11,none⟩) H).trans (Dn aG);have Q:=(J.out.cell (p:=⟨B,E+r*11,none⟩) u).trans (Dn aD);have aZ:=Hd (Am (Fd aG) J.out H);have aY:=Hd (Am (Fd aD) J.out u);have aI:=Hd fun(W:World) (hw:Below w.heap.size w W)=>Hg _ _ y z W (aE.below hw lR) (O.below hw lR) (bD.out r hlt) (bV.out r hlt);obtain⟨y0,y1,y2,y3,y4,y5,y6,y7,y8,y9,rfl⟩:=aE.ten;obtain⟨z0,z1,z2,z3,z4,z5,z6,z7,z8,z9,rfl⟩:=O.ten;have H:C<wr.heap.size:=dX H J.out.size;have u:B<wr.heap.size:=dX u J.out.size;have G:=Hd (fun hp=>a1.out r hlt hp);have A:=Hd (fun(hp:(decide ((spt s.op r).1=(spt t.op r).1)&&Ev (spt s.op r).2 (spt t.op r).2)=true)=>(show∀i,i<r+1→(decide ((spt s.op i).1=(spt t.op i).1)&&Ev (spt s.op i).2 (spt t.op i).2)=true from fun i R=>by
        by_cases e:i=r
        ·rw[e];exact hp
        ·exact Y.out i (by omega)))
       obtain⟨x1,aB⟩:=eX ((spt s.op r).1);obtain⟨x2,aC⟩:=eX ((spt t.op r).1);obtain⟨sb,aF⟩:=eX (Ev (spt s.op r).2 (spt t.op r).2);rw[←aB]at S;rw[←aC]at Q;rw[←aF]at aI;rw[←aB,←aC,←aF]at G A;clear aB aC aF aG aD aE O
       by_cases hx:x1=x2
       ·have bA:(x1 !=x2)=false:=(by simp[hx]);have HX:=Hd hx;clear hx;cases sb with
        |true=>
         have a2:=Hd (A.out (by rw[decide_eq_true HX.out];rfl));clear A G;go_wp2_with fail;refine Cb [eF (.pointer (some ⟨N,2,none⟩)),eF (.slice (some ⟨C,F,none⟩) n oc),eF (.int .i64 (r:Nat)),eF (.pointer (some ⟨C,F+r*11,none⟩)),eF (.pointer (some ⟨C,F+r*11,none⟩)),eF (.int .i64 x1),eF (.pointer (some ⟨N+1,2,none⟩)),eF (.slice (some ⟨B,E,none⟩) n Z),eF (.int .i64 (r:Nat)),eF (.pointer (some ⟨B,E+r*11,none⟩)),eF (.pointer (some ⟨B,E+r*11,none⟩)),eF (.int .i64 x2),eF (.bool false),eF (.bool false),eF (.pointer (some ⟨N,2,none⟩)),eF (.slice (some ⟨C,F,none⟩) n oc),eF (.int .i64 (r:Nat)),eF (.pointer (some ⟨C,F+r*11,none⟩)),eF (.pointer (some ⟨C,F+r*11+1,none⟩)),eF (.agg #[y0,y1,y2,y3,y4,y5,y6,y7,y8,y9]),eF (.pointer (some ⟨N+1,2,none⟩)),eF (.slice (some ⟨B,E,none⟩) n Z),eF (.int .i64 (r:Nat)),eF (.pointer (some ⟨B,E+r*11,none⟩)),eF (.pointer (some ⟨B,E+r*11+1,none⟩)),eF (.agg #[z0,z1,z2,z3,z4,z5,z6,z7,z8,z9]),eF (.bool true),eF (.bool false),eF (.bool false)] (by kernel_rfl) (by kernel_rfl) (by kernel_rfl) (kE (kE (kE (kE (kE (kE (kE (kE (kE (kE (kE (kE (kE (kE (kE (kE (kE (kE (kE (kE (kE (kE (kE (kE (kE (kE (kE (kE (kE Ae))))))))))))))))))))))))))))) ?_ ?_
         ·refine gQ ?_ (gQ ?_ (gQ ?_ (gQ ?_ (gQ ?_ (gB ?_ (gQ ?_ (gB ?_ (gQ ?_ (gQ ?_ (gQ ?_ (gB ?_ (gQ ?_ (gQ ?_ (gQ ?_ (gQ ?_ (gQ ?_ (gQ ?_ (gQ ?_ (gB ?_ (gQ ?_ (gB ?_ (gQ ?_ (gQ ?_ (gQ ?_ (gB ?_ (gB ?_ (gQ ?_ (gQ ?_ .nil))))))))))))))))))))))))))));all_goals
           intro a wx d L j;refine⟨by first|rfl|exact Ag rfl rfl rfl j.1|exact Ag rfl rfl rfl j.2.1|exact Ag rfl rfl rfl j.2.2.1,?_⟩;intro K D;try have P2:a.tmps[2]?.getD undef=.pointer (some ⟨N,0,none⟩):=L 2 (by kernel_rfl)
           try have P3:a.tmps[3]?.getD undef=.pointer (some ⟨N+1,0,none⟩):=L 3 (by kernel_rfl)
           try have P5:a.tmps[5]?.getD undef=.int .i64 (r:Nat):=L 5 (by kernel_rfl)
           try have E0:=eqn j.1
           try have E1:=eqn j.2.1
           try have D0:=(d.cell (p:=⟨N,2,none⟩) X).trans c2
           try(refine Hd ?_;go_simp;exact D _ rfl)
          ·have d1:=(d.cell (p:=⟨C,F+r*11,none⟩) H).trans S;go_simp;exact D _ _ rfl bR
          ·have d1:=(d.cell (p:=⟨N+1,2,none⟩) I).trans e2;go_simp;exact D _ _ rfl bR
          ·have d1:=(d.cell (p:=⟨B,E+r*11,none⟩) u).trans Q;go_simp;exact D _ _ rfl bR
          ·exact wp_load_mid 52 (.tmp 62) rfl C (F+r*11+1) (evs E0) _ _ (Am aZ.out d H) Tryz.underlying52 rfl (Ak) (D _ _ rfl bR)
          ·have d1:=(d.cell (p:=⟨N+1,2,none⟩) I).trans e2;go_simp;exact D _ _ rfl bR
          ·exact wp_load_mid 52 (.tmp 68) rfl B (E+r*11+1) (evs E0) _ _ (Am aY.out d u) Tryz.underlying52 rfl (Ak) (D _ _ rfl bR)
          ·go_simp;refine(aI.out wx (J.out.trans (d.mono J.out.size))).mono ?_;rintro e w2 ⟨rfl,u⟩;exact D _ _ rfl u
         ·rintro f w9 x l;have x:Below wr.heap.size wr w9:=x;have aA:f 72=.bool false:=l.2.2.2.2.2.2.2.2.2.2.2.2.2.2.2.2.2.2.2.2.2.2.2.2.2.2.2.2.1;clear l;simp only[Aj,Aq,Dr,cZ,dA,dB,dC,Nat.reduceBEq,Nat.reduceAdd,dD,dE,cond_true,cond_false];rw[aA];clear aA;have P:=Hd (HB.out.trans (x.mono HB.out.size));go_wp2_with fail;go_roundg (gk-1);case measure=>have:=HR.out;omega
          case rel=>exact⟨r+1,by have:=HR.out;omega,by go_num,a2.out,P.out⟩
        |false=>
         have U:=Hd (G.out (by simp));clear A G;go_wp2_with fail;refine Cb [eF (.pointer (some ⟨N,2,none⟩)),eF (.slice (some ⟨C,F,none⟩) n oc),eF (.int .i64 (r:Nat)),eF (.pointer (some ⟨C,F+r*11,none⟩)),eF (.pointer (some ⟨C,F+r*11,none⟩)),eF (.int .i64 x1),eF (.pointer (some ⟨N+1,2,none⟩)),eF (.slice (some ⟨B,E,none⟩) n Z),eF (.int .i64 (r:Nat)),eF (.pointer (some ⟨B,E+r*11,none⟩)),eF (.pointer (some ⟨B,E+r*11,none⟩)),eF (.int .i64 x2),eF (.bool false),eF (.bool false),eF (.pointer (some ⟨N,2,none⟩)),eF (.slice (some ⟨C,F,none⟩) n oc),eF (.int .i64 (r:Nat)),eF (.pointer (some ⟨C,F+r*11,none⟩)),eF (.pointer (some ⟨C,F+r*11+1,none⟩)),eF (.agg #[y0,y1,y2,y3,y4,y5,y6,y7,y8,y9]),eF (.pointer (some ⟨N+1,2,none⟩)),eF (.slice (some ⟨B,E,none⟩) n Z),eF (.int .i64 (r:Nat)),eF (.pointer (some ⟨B,E+r*11,none⟩)),eF (.pointer (some ⟨B,E+r*11+1,none⟩)),eF (.agg #[z0,z1,z2,z3,z4,z5,z6,z7,z8,z9]),eF (.bool false),eF (.bool true),eF (.bool true)] (by kernel_rfl) (by kernel_rfl) (by kernel_rfl) (kE (kE (kE (kE (kE (kE (kE (kE (kE (kE (kE (kE (kE (kE (kE (kE (kE (kE (kE (kE (kE (kE (kE (kE (kE (kE (kE (kE (kE Ae))))))))))))))))))))))))))))) ?_ ?_
         ·refine gQ ?_ (gQ ?_ (gQ ?_ (gQ ?_ (gQ ?_ (gB ?_ (gQ ?_ (gB ?_ (gQ ?_ (gQ ?_ (gQ ?_ (gB ?_ (gQ ?_ (gQ ?_ (gQ ?_ (gQ ?_ (gQ ?_ (gQ ?_ (gQ ?_ (gB ?_ (gQ ?_ (gB ?_ (gQ ?_ (gQ ?_ (gQ ?_ (gB ?_ (gB ?_ (gQ ?_ (gQ ?_ .nil))))))))))))))))))))))))))));all_goals
           intro a wx d L j;refine⟨by first|rfl|exact Ag rfl rfl rfl j.1|exact Ag rfl rfl rfl j.2.1|exact Ag rfl rfl rfl j.2.2.1,?_⟩;intro K D;try have P2:a.tmps[2]?.getD undef=.pointer (some ⟨N,0,none⟩):=L 2 (by kernel_rfl)
           try have P3:a.tmps[3]?.getD undef=.pointer (some ⟨N+1,0,none⟩):=L 3 (by kernel_rfl)
           try have P5:a.tmps[5]?.getD undef=.int .i64 (r:Nat):=L 5 (by kernel_rfl)
           try have E0:=eqn j.1
           try have E1:=eqn j.2.1
           try have D0:=(d.cell (p:=⟨N,2,none⟩) X).trans c2
           try(refine Hd ?_;go_simp;exact D _ rfl)
          ·have d1:=(d.cell (p:=⟨C,F+r*11,none⟩) H).trans S;go_simp;exact D _ _ rfl bR
          ·have d1:=(d.cell (p:=⟨N+1,2,none⟩) I).trans e2;go_simp;exact D _ _ rfl bR
          ·have d1:=(d.cell (p:=⟨B,E+r*11,none⟩) u).trans Q;go_simp;exact D _ _ rfl bR
          ·exact wp_load_mid 52 (.tmp 62) rfl C (F+r*11+1) (evs E0) _ _ (Am aZ.out d H) Tryz.underlying52 rfl (Ak) (D _ _ rfl bR)
          ·have d1:=(d.cell (p:=⟨N+1,2,none⟩) I).trans e2;go_simp;exact D _ _ rfl bR
          ·exact wp_load_mid 52 (.tmp 68) rfl B (E+r*11+1) (evs E0) _ _ (Am aY.out d u) Tryz.underlying52 rfl (Ak) (D _ _ rfl bR)
          ·go_simp;refine(aI.out wx (J.out.trans (d.mono J.out.size))).mono ?_;rintro e w2 ⟨rfl,u⟩;exact D _ _ rfl u
         ·rintro f w9 x l;have x:Below wr.heap.size wr w9:=x;have aA:f 72=.bool true:=l.2.2.2.2.2.2.2.2.2.2.2.2.2.2.2.2.2.2.2.2.2.2.2.2.2.2.2.2.1;clear l;simp only[Aj,Aq,Dr,cZ,dA,dB,dC,Nat.reduceBEq,Nat.reduceAdd,dD,dE,cond_true,cond_false];rw[aA];clear aA;have P:=Hd (J.out.trans (x.mono J.out.size));go_wp2_with fail;go_ret;exact⟨Dh U.out,P.out⟩
       ·have bA:(x1 !=x2)=true:=(by simp[hx]);have U:=Hd (G.out (by rw[decide_eq_false hx];rfl));clear hx A G;go_wp2_with fail;refine Cb [eF (.pointer (some ⟨N,2,none⟩)),eF (.slice (some ⟨C,F,none⟩) n oc),eF (.int .i64 (r:Nat)),eF (.pointer (some ⟨C,F+r*11,none⟩)),eF (.pointer (some ⟨C,F+r*11,none⟩)),eF (.int .i64 x1),eF (.pointer (some ⟨N+1,2,none⟩)),eF (.slice (some ⟨B,E,none⟩) n Z),eF (.int .i64 (r:Nat)),eF (.pointer (some ⟨B,E+r*11,none⟩)),eF (.pointer (some ⟨B,E+r*11,none⟩)),eF (.int .i64 x2),eF (.bool true),eF (.bool true),eF undef,eF undef,eF undef,eF undef,eF undef,eF undef,eF undef,eF undef,eF undef,eF undef,eF undef,eF undef,eF undef,eF undef,eF (.bool true)] (by kernel_rfl) (by kernel_rfl) (by kernel_rfl) (kE (kE (kE (kE (kE (kE (kE (kE (kE (kE (kE (kE (kE (kE (kE (kE (kE (kE (kE (kE (kE (kE (kE (kE (kE (kE (kE (kE (kE Ae))))))))))))))))))))))))))))) ?_ ?_
        ·refine gQ ?_ (gQ ?_ (gQ ?_ (gQ ?_ (gQ ?_ (gB ?_ (gQ ?_ (gB ?_ (gQ ?_ (gQ ?_ (gQ ?_ (gB ?_ (gQ ?_ (gQ ?_ (fO rfl rfl rfl rfl rfl rfl (fun _ _ j=>j.1) rfl (fO rfl rfl rfl rfl rfl rfl (fun _ _ j=>j.2.1) rfl (fO rfl rfl rfl rfl rfl rfl (fun _ _ j=>j.1) rfl (fO rfl rfl rfl rfl rfl rfl (fun _ _ j=>j.2.2.1) rfl (fO rfl rfl rfl rfl rfl rfl (fun _ _ j=>j.2.1) rfl (fO rfl rfl rfl rfl rfl rfl (fun _ _ j=>j.2.1) rfl (fO rfl rfl rfl rfl rfl rfl (fun _ _ j=>j.1) rfl (fO rfl rfl rfl rfl rfl rfl (fun _ _ j=>j.2.1) rfl (fO rfl rfl rfl rfl rfl rfl (fun _ _ j=>j.1) rfl (fO rfl rfl rfl rfl rfl rfl (fun _ _ j=>j.2.2.1) rfl (fO rfl rfl rfl rfl rfl rfl (fun _ _ j=>j.2.1) rfl (fO rfl rfl rfl rfl rfl rfl (fun _ _ j=>j.2.1) rfl (fO rfl rfl rfl rfl rfl rfl (fun _ _ j=>j.2.2.1) rfl (fO rfl rfl rfl rfl rfl rfl (fun _ _ j=>j.2.1) rfl (gQ ?_ .nil))))))))))))))))))))))))))));all_goals
          intro a wx d L j;refine⟨rfl,?_⟩;intro K D;try have P2:a.tmps[2]?.getD undef=.pointer (some ⟨N,0,none⟩):=L 2 (by kernel_rfl)
          try have P3:a.tmps[3]?.getD undef=.pointer (some ⟨N+1,0,none⟩):=L 3 (by kernel_rfl)
          try have P5:a.tmps[5]?.getD undef=.int .i64 (r:Nat):=L 5 (by kernel_rfl)
          try have E0:=eqn j.1
          try have E1:=eqn j.2.1
          try have D0:=(d.cell (p:=⟨N,2,none⟩) X).trans c2
          try(refine Hd ?_;go_simp;exact D _ rfl)
         ·have d1:=(d.cell (p:=⟨C,F+r*11,none⟩) H).trans S;go_simp;exact D _ _ rfl bR
         ·have d1:=(d.cell (p:=⟨N+1,2,none⟩) I).trans e2;go_simp;exact D _ _ rfl bR
         ·have d1:=(d.cell (p:=⟨B,E+r*11,none⟩) u).trans Q;go_simp;exact D _ _ rfl bR
        ·rintro f w9 x l;have x:Below wr.heap.size wr w9:=x;have aA:f 72=.bool true:=l.2.2.2.2.2.2.2.2.2.2.2.2.2.2.2.2.2.2.2.2.2.2.2.2.2.2.2.2.1;clear l;simp only[Aj,Aq,Dr,cZ,dA,dB,dC,Nat.reduceBEq,Nat.reduceAdd,dD,dE,cond_true,cond_false];rw[aA];clear aA;have P:=Hd (J.out.trans (x.mono J.out.size));go_wp2_with fail;go_ret;exact⟨Dh U.out,P.out⟩
      ·obtain rfl:r=n:=(by have:=HR.out;omega);have aP:decide (r<r)=false:=decide_eq_false hlt;obtain⟨wo,rfl⟩:∃wo:World,wo=wr:=⟨_,rfl⟩;have bU:=Hd J.out;have bC:=Hd aJ.out;have bP:=Hd aK.out;have bW:=Hd Y.out;clear hlt;go_wp2_with fail;clear c2 c3 e2 e3 X I
       go_loopg [6] m (fun q iv wr=>∃k:Nat,k+q=m∧iv=.int .i64 (k:Nat)∧(∀i,i<k→(decide ((stb s.sh i).1=(stb t.sh i).1)&&decide ((stb s.sh i).2=(stb t.sh i).2))=true)∧Below wo.heap.size wo wr)
       case atStart=>exact⟨0,by omega,rfl,fun i R=>by omega,bR⟩
       case round=>
        obtain⟨k,hr,rfl,V,hb⟩:=hrel;have HR:=Hd hr;have Y:=Hd V;have HB:=Hd hb;have J:=Hd (bU.out.trans (hb.mono bU.out.size));have aJ:=Hd (bC.out.below hb bC.out.lt);have aK:=Hd (bP.out.below hb bP.out.lt);have c3:=aJ.out.cell 3;have e3:=aK.out.cell 3;simp only[cC,cD,cE]at c3 e3;have X:N<wr.heap.size:=aJ.out.lt;have I:N+1<wr.heap.size:=aK.out.lt;clear hr V hb
        by_cases hlt:k<m
        ·have aP:decide (k<m)=true:=decide_eq_true hlt;have bE:(k:Int)<(m:Int):=(by omega);obtain⟨C,F,y,rfl,H,aE,aG⟩:=bB.out k hlt;obtain⟨B,E,z,rfl,u,O,aD⟩:=bS.out k hlt;have S:=(J.out.cell (p:=⟨C,F+k*2,none⟩) H).trans (Dn aG);have Q:=(J.out.cell (p:=⟨B,E+k*2,none⟩) u).trans (Dn aD);have bM:=(J.out.cell (p:=⟨C,F+k*2+1,none⟩) H).trans (Dn (Fd aG));have bQ:=(J.out.cell (p:=⟨B,E+k*2+1,none⟩) u).trans (Dn (Fd aD));have aI:=Hd fun(W:World) (hw:Below w.heap.size w W)=>Qk y z _ _ W (aE.below hw lR) (O.below hw lR) (bH.out k hlt) (bF.out k hlt);obtain⟨u1,v1,t1,rfl⟩:∃a n c,y=.slice a n c:=(by obtain⟨a,c,e,_⟩:=aE;exact⟨_,_,_,e⟩);obtain⟨u2,v2,t2,rfl⟩:∃a n c,z=.slice a n c:=(by obtain⟨a,c,e,_⟩:=O;exact⟨_,_,_,e⟩);have H:C<wr.heap.size:=dX H J.out.size;have u:B<wr.heap.size:=dX u J.out.size;have G:=Hd (fun hp=>a8.out k hlt hp);have A:=Hd (fun(hp:(decide ((stb s.sh k).1=(stb t.sh k).1)&&decide ((stb s.sh k).2=(stb t.sh k).2))=true)=>(show∀i,i<k+1→(decide ((stb s.sh i).1=(stb t.sh i).1)&&decide ((stb s.sh i).2=(stb t.sh i).2))=true from fun i R=>by
          by_cases e:i=k
          ·rw[e];exact hp
          ·exact Y.out i (by omega)))
         obtain⟨x1,aB⟩:=eX ((stb s.sh k).1);obtain⟨x2,aC⟩:=eX ((stb t.sh k).1);obtain⟨sb,aF⟩:=eX (decide ((stb s.sh k).2=(stb t.sh k).2));rw[←aB]at S;rw[←aC]at Q;rw[←aF]at aI;rw[←aB,←aC,←aF]at G A;clear aB aC aF aG aD aE O
         by_cases hx:x1=x2
         ·have bA:(x1 !=x2)=false:=(by simp[hx]);have HX:=Hd hx;clear hx;cases sb with
          |true=>
           have a2:=Hd (A.out (by rw[decide_eq_true HX.out];rfl));clear A G;go_wp2_with fail;refine Cb [eF (.pointer (some ⟨N,3,none⟩)),eF (.slice (some ⟨C,F,none⟩) m gc),eF (.int .i64 (k:Nat)),eF (.pointer (some ⟨C,F+k*2,none⟩)),eF (.pointer (some ⟨C,F+k*2,none⟩)),eF (.int .i64 x1),eF (.pointer (some ⟨N+1,3,none⟩)),eF (.slice (some ⟨B,E,none⟩) m T),eF (.int .i64 (k:Nat)),eF (.pointer (some ⟨B,E+k*2,none⟩)),eF (.pointer (some ⟨B,E+k*2,none⟩)),eF (.int .i64 x2),eF (.bool false),eF (.bool false),eF (.pointer (some ⟨N,3,none⟩)),eF (.slice (some ⟨C,F,none⟩) m gc),eF (.int .i64 (k:Nat)),eF (.pointer (some ⟨C,F+k*2,none⟩)),eF (.pointer (some ⟨C,F+k*2+1,none⟩)),eF (.slice u1 v1 t1),eF (.pointer (some ⟨N+1,3,none⟩)),eF (.slice (some ⟨B,E,none⟩) m T),eF (.int .i64 (k:Nat)),eF (.pointer (some ⟨B,E+k*2,none⟩)),eF (.pointer (some ⟨B,E+k*2+1,none⟩)),eF (.slice u2 v2 t2),eF (.bool true),eF (.bool false),eF (.bool false)] (by kernel_rfl) (by kernel_rfl) (by kernel_rfl) (kE (kE (kE (kE (kE (kE (kE (kE (kE (kE (kE (kE (kE (kE (kE (kE (kE (kE (kE (kE (kE (kE (kE (kE (kE (kE (kE (kE (kE Ae))))))))))))))))))))))))))))) ?_ ?_
           ·refine gQ ?_ (gQ ?_ (gQ ?_ (gQ ?_ (gQ ?_ (gB ?_ (gQ ?_ (gB ?_ (gQ ?_ (gQ ?_ (gQ ?_ (gB ?_ (gQ ?_ (gQ ?_ (gQ ?_ (gQ ?_ (gQ ?_ (gQ ?_ (gQ ?_ (gB ?_ (gQ ?_ (gB ?_ (gQ ?_ (gQ ?_ (gQ ?_ (gB ?_ (gB ?_ (gQ ?_ (gQ ?_ .nil))))))))))))))))))))))))))));all_goals
             intro a wx d L j;refine⟨by first|rfl|exact Ag rfl rfl rfl j.1|exact Ag rfl rfl rfl j.2.1|exact Ag rfl rfl rfl j.2.2.1,?_⟩;intro K D;try have P2:a.tmps[2]?.getD undef=.pointer (some ⟨N,0,none⟩):=L 2 (by kernel_rfl)
             try have P3:a.tmps[3]?.getD undef=.pointer (some ⟨N+1,0,none⟩):=L 3 (by kernel_rfl)
             try have P6:a.tmps[6]?.getD undef=.int .i64 (k:Nat):=L 6 (by kernel_rfl)
             try have E0:=eqn j.1
             try have E1:=eqn j.2.1
             try have D0:=(d.cell (p:=⟨N,3,none⟩) X).trans c3
             try(refine Hd ?_;go_simp;exact D _ rfl)
            ·have d1:=(d.cell (p:=⟨C,F+k*2,none⟩) H).trans S;go_simp;exact D _ _ rfl bR
            ·have d1:=(d.cell (p:=⟨N+1,3,none⟩) I).trans e3;go_simp;exact D _ _ rfl bR
            ·have d1:=(d.cell (p:=⟨B,E+k*2,none⟩) u).trans Q;go_simp;exact D _ _ rfl bR
            ·have d1:=(d.cell (p:=⟨C,F+k*2+1,none⟩) H).trans bM;go_simp;exact D _ _ rfl bR
            ·have d1:=(d.cell (p:=⟨N+1,3,none⟩) I).trans e3;go_simp;exact D _ _ rfl bR
            ·have d1:=(d.cell (p:=⟨B,E+k*2+1,none⟩) u).trans bQ;go_simp;exact D _ _ rfl bR
            ·go_simp;refine(aI.out wx (J.out.trans (d.mono J.out.size))).mono ?_;rintro e w2 ⟨rfl,n9,rfl⟩;exact D _ _ rfl (Ab bR _)
           ·rintro f w9 x l;have x:Below wr.heap.size wr w9:=x;have M:f 108=.bool false:=l.2.2.2.2.2.2.2.2.2.2.2.2.2.2.2.2.2.2.2.2.2.2.2.2.2.2.2.2.1;clear l;simp only[Aj,Aq,Dr,cZ,dA,dB,dC,Nat.reduceBEq,Nat.reduceAdd,dD,dE,cond_true,cond_false];rw[M];clear M;have P:=Hd (HB.out.trans (x.mono HB.out.size));go_wp2_with fail;go_roundg (gk-1);case measure=>have:=HR.out;omega
            case rel=>exact⟨k+1,by have:=HR.out;omega,by go_num,a2.out,P.out⟩
          |false=>
           have U:=Hd (G.out (by simp));clear A G;go_wp2_with fail;refine Cb [eF (.pointer (some ⟨N,3,none⟩)),eF (.slice (some ⟨C,F,none⟩) m gc),eF (.int .i64 (k:Nat)),eF (.pointer (some ⟨C,F+k*2,none⟩)),eF (.pointer (some ⟨C,F+k*2,none⟩)),eF (.int .i64 x1),eF (.pointer (some ⟨N+1,3,none⟩)),eF (.slice (some ⟨B,E,none⟩) m T),eF (.int .i64 (k:Nat)),eF (.pointer (some ⟨B,E+k*2,none⟩)),eF (.pointer (some ⟨B,E+k*2,none⟩)),eF (.int .i64 x2),eF (.bool false),eF (.bool false),eF (.pointer (some ⟨N,3,none⟩)),eF (.slice (some ⟨C,F,none⟩) m gc),eF (.int .i64 (k:Nat)),eF (.pointer (some ⟨C,F+k*2,none⟩)),eF (.pointer (some ⟨C,F+k*2+1,none⟩)),eF (.slice u1 v1 t1),eF (.pointer (some ⟨N+1,3,none⟩)),eF (.slice (some ⟨B,E,none⟩) m T),eF (.int .i64 (k:Nat)),eF (.pointer (some ⟨B,E+k*2,none⟩)),eF (.pointer (some ⟨B,E+k*2+1,none⟩)),eF (.slice u2 v2 t2),eF (.bool false),eF (.bool true),eF (.bool true)] (by kernel_rfl) (by kernel_rfl) (by kernel_rfl) (kE (kE (kE (kE (kE (kE (kE (kE (kE (kE (kE (kE (kE (kE (kE (kE (kE (kE (kE (kE (kE (kE (kE (kE (kE (kE (kE (kE (kE Ae))))))))))))))))))))))))))))) ?_ ?_
           ·refine gQ ?_ (gQ ?_ (gQ ?_ (gQ ?_ (gQ ?_ (gB ?_ (gQ ?_ (gB ?_ (gQ ?_ (gQ ?_ (gQ ?_ (gB ?_ (gQ ?_ (gQ ?_ (gQ ?_ (gQ ?_ (gQ ?_ (gQ ?_ (gQ ?_ (gB ?_ (gQ ?_ (gB ?_ (gQ ?_ (gQ ?_ (gQ ?_ (gB ?_ (gB ?_ (gQ ?_ (gQ ?_ .nil))))))))))))))))))))))))))));all_goals
             intro a wx d L j;refine⟨by first|rfl|exact Ag rfl rfl rfl j.1|exact Ag rfl rfl rfl j.2.1|exact Ag rfl rfl rfl j.2.2.1,?_⟩;intro K D;try have P2:a.tmps[2]?.getD undef=.pointer (some ⟨N,0,none⟩):=L 2 (by kernel_rfl)
             try have P3:a.tmps[3]?.getD undef=.pointer (some ⟨N+1,0,none⟩):=L 3 (by kernel_rfl)
             try have P6:a.tmps[6]?.getD undef=.int .i64 (k:Nat):=L 6 (by kernel_rfl)
             try have E0:=eqn j.1
             try have E1:=eqn j.2.1
             try have D0:=(d.cell (p:=⟨N,3,none⟩) X).trans c3
             try(refine Hd ?_;go_simp;exact D _ rfl)
            ·have d1:=(d.cell (p:=⟨C,F+k*2,none⟩) H).trans S;go_simp;exact D _ _ rfl bR
            ·have d1:=(d.cell (p:=⟨N+1,3,none⟩) I).trans e3;go_simp;exact D _ _ rfl bR
            ·have d1:=(d.cell (p:=⟨B,E+k*2,none⟩) u).trans Q;go_simp;exact D _ _ rfl bR
            ·have d1:=(d.cell (p:=⟨C,F+k*2+1,none⟩) H).trans bM;go_simp;exact D _ _ rfl bR
            ·have d1:=(d.cell (p:=⟨N+1,3,none⟩) I).trans e3;go_simp;exact D _ _ rfl bR
            ·have d1:=(d.cell (p:=⟨B,E+k*2+1,none⟩) u).trans bQ;go_simp;exact D _ _ rfl bR
            ·go_simp;refine(aI.out wx (J.out.trans (d.mono J.out.size))).mono ?_;rintro e w2 ⟨rfl,n9,rfl⟩;exact D _ _ rfl (Ab bR _)
           ·rintro f w9 x l;have x:Below wr.heap.size wr w9:=x;have M:f 108=.bool true:=l.2.2.2.2.2.2.2.2.2.2.2.2.2.2.2.2.2.2.2.2.2.2.2.2.2.2.2.2.1;clear l;simp only[Aj,Aq,Dr,cZ,dA,dB,dC,Nat.reduceBEq,Nat.reduceAdd,dD,dE,cond_true,cond_false];rw[M];clear M;have P:=Hd (J.out.trans (x.mono J.out.size));go_wp2_with fail;go_ret;exact⟨Dh U.out,P.out⟩
         ·have bA:(x1 !=x2)=true:=(by simp[hx]);have U:=Hd (G.out (by rw[decide_eq_false hx];rfl));clear hx A G;go_wp2_with fail;refine Cb [eF (.pointer (some ⟨N,3,none⟩)),eF (.slice (some ⟨C,F,none⟩) m gc),eF (.int .i64 (k:Nat)),eF (.pointer (some ⟨C,F+k*2,none⟩)),eF (.pointer (some ⟨C,F+k*2,none⟩)),eF (.int .i64 x1),eF (.pointer (some ⟨N+1,3,none⟩)),eF (.slice (some ⟨B,E,none⟩) m T),eF (.int .i64 (k:Nat)),eF (.pointer (some ⟨B,E+k*2,none⟩)),eF (.pointer (some ⟨B,E+k*2,none⟩)),eF (.int .i64 x2),eF (.bool true),eF (.bool true),eF undef,eF undef,eF undef,eF undef,eF undef,eF undef,eF undef,eF undef,eF undef,eF undef,eF undef,eF undef,eF undef,eF undef,eF (.bool true)] (by kernel_rfl) (by kernel_rfl) (by kernel_rfl) (kE (kE (kE (kE (kE (kE (kE (kE (kE (kE (kE (kE (kE (kE (kE (kE (kE (kE (kE (kE (kE (kE (kE (kE (kE (kE (kE (kE (kE Ae))))))))))))))))))))))))))))) ?_ ?_
          ·refine gQ ?_ (gQ ?_ (gQ ?_ (gQ ?_ (gQ ?_ (gB ?_ (gQ ?_ (gB ?_ (gQ ?_ (gQ ?_ (gQ ?_ (gB ?_ (gQ ?_ (gQ ?_ (fO rfl rfl rfl rfl rfl rfl (fun _ _ j=>j.1) rfl (fO rfl rfl rfl rfl rfl rfl (fun _ _ j=>j.2.1) rfl (fO rfl rfl rfl rfl rfl rfl (fun _ _ j=>j.1) rfl (fO rfl rfl rfl rfl rfl rfl (fun _ _ j=>j.2.2.1) rfl (fO rfl rfl rfl rfl rfl rfl (fun _ _ j=>j.2.1) rfl (fO rfl rfl rfl rfl rfl rfl (fun _ _ j=>j.2.1) rfl (fO rfl rfl rfl rfl rfl rfl (fun _ _ j=>j.1) rfl (fO rfl rfl rfl rfl rfl rfl (fun _ _ j=>j.2.1) rfl (fO rfl rfl rfl rfl rfl rfl (fun _ _ j=>j.1) rfl (fO rfl rfl rfl rfl rfl rfl (fun _ _ j=>j.2.2.1) rfl (fO rfl rfl rfl rfl rfl rfl (fun _ _ j=>j.2.1) rfl (fO rfl rfl rfl rfl rfl rfl (fun _ _ j=>j.2.1) rfl (fO rfl rfl rfl rfl rfl rfl (fun _ _ j=>j.2.2.1) rfl (fO rfl rfl rfl rfl rfl rfl (fun _ _ j=>j.2.1) rfl (gQ ?_ .nil))))))))))))))))))))))))))));all_goals
            intro a wx d L j;refine⟨rfl,?_⟩;intro K D;try have P2:a.tmps[2]?.getD undef=.pointer (some ⟨N,0,none⟩):=L 2 (by kernel_rfl)
            try have P3:a.tmps[3]?.getD undef=.pointer (some ⟨N+1,0,none⟩):=L 3 (by kernel_rfl)
            try have P6:a.tmps[6]?.getD undef=.int .i64 (k:Nat):=L 6 (by kernel_rfl)
            try have E0:=eqn j.1
            try have E1:=eqn j.2.1
            try have D0:=(d.cell (p:=⟨N,3,none⟩) X).trans c3
            try(refine Hd ?_;go_simp;exact D _ rfl)
           ·have d1:=(d.cell (p:=⟨C,F+k*2,none⟩) H).trans S;go_simp;exact D _ _ rfl bR
           ·have d1:=(d.cell (p:=⟨N+1,3,none⟩) I).trans e3;go_simp;exact D _ _ rfl bR
           ·have d1:=(d.cell (p:=⟨B,E+k*2,none⟩) u).trans Q;go_simp;exact D _ _ rfl bR
          ·rintro f w9 x l;have x:Below wr.heap.size wr w9:=x;have M:f 108=.bool true:=l.2.2.2.2.2.2.2.2.2.2.2.2.2.2.2.2.2.2.2.2.2.2.2.2.2.2.2.2.1;clear l;simp only[Aj,Aq,Dr,cZ,dA,dB,dC,Nat.reduceBEq,Nat.reduceAdd,dD,dE,cond_true,cond_false];rw[M];clear M;have P:=Hd (J.out.trans (x.mono J.out.size));go_wp2_with fail;go_ret;exact⟨Dh U.out,P.out⟩
        ·obtain rfl:k=m:=(by have:=HR.out;omega);have aP:decide (k<k)=false:=decide_eq_false hlt;have U:=Hd (HY.out bW.out Y.out);clear hlt;go_wp2_with fail;go_ret;exact⟨Dh U.out,J.out⟩
    ·have bN:((m:Int) !=(m2:Int))=true:=(by simp;omega);have U:=Hd (aH.out fun h=>q4 h.2.2.2);clear q4;go_enter Tryz.func24,Tryz.ntmps24;go_wp2_with fail;rw[←HH.out,←aS.out];go_wp2_with fail;go_ret;exact⟨Dh U.out,by rw[HH.out];exact aO.out⟩
   ·have bG:((n:Int) !=(n2:Int))=true:=(by simp;omega);have U:=Hd (aH.out fun h=>q3 h.2.2.1);clear q3;go_enter Tryz.func24,Tryz.ntmps24;go_wp2_with fail;rw[←HH.out,←aS.out];go_wp2_with fail;go_ret;exact⟨Dh U.out,by rw[HH.out];exact aO.out⟩
  ·have bI:(ow !=aW)=true:=(by simp[q2]);have U:=Hd (aH.out fun h=>q2 h.2.1);clear q2;go_enter Tryz.func24,Tryz.ntmps24;go_wp2_with fail;rw[←HH.out,←aS.out];go_wp2_with fail;go_ret;exact⟨Dh U.out,by rw[HH.out];exact aO.out⟩
 ·have bJ:(lv !=aT)=true:=(by simp[q1]);have U:=Hd (aH.out fun h=>q1 h.1);clear q1;go_enter Tryz.func24,Tryz.ntmps24;go_wp2_with fail;rw[←HH.out,←aS.out];go_wp2_with fail;go_ret;exact⟨Dh U.out,by rw[HH.out];exact aO.out⟩
def Ln:SparseD:=⟨0,0,[],[]⟩
theorem Ur:SparseOk Ln:=⟨by unfold inI Ln;simp,by unfold inI Ln;simp,fun p hp=>(by cases hp),fun p hp=>(by cases hp)⟩
theorem Zir (w:World):SparseR w (.agg #[.int .i64 0,.int .i64 0,.slice none 0 0,.slice none 0 0]) Ln:=⟨_,_,rfl,SpotsR.nil w,StubsR.nil w⟩
theorem Xf (v:Value)(s:SparseD)(w:World)(h:SparseR w v s)(f:SparseOk s)(c:s.op.length≤1000000)(d:s.sh.length≤1000000):
  Calls Tryz.prog 37 #[v] w fun e w'=>e=.returned (.bool (Ga s Ln))∧Below w.heap.size w w':=by
 have j:=fun(W:World) (l:Below w.heap.size w W)=>Qb v _ s Ln W (h.below l lR) (Zir W) f Ur c d;obtain⟨o,g,rfl,-,-⟩:=h;obtain⟨m,a⟩:=eX (Ga s Ln);rw[←a]at j⊢;have k:=Hd j;have b:=Hd ((Below.refl w.heap.size w).alloc lR (.cells #[.int .i64 s.leaves,.int .i64 s.own,o,g] 25));clear j f c d a;go_enter Tryz.func37,Tryz.ntmps37;go_wp2_with fail;refine(k.out _ b.out).mono ?_;rintro e n ⟨rfl,i⟩;go_wp2_with fail;go_ret;exact⟨rfl,b.out.trans (i.mono b.out.size)⟩
end Go.Proofs.YtfofaiommeckbaaGreat
