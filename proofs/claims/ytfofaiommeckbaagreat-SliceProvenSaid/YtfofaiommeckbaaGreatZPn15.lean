import Derived.ArgAppend
import Derived.Test.YtfofaiommeckbaaGreatZPn14
open Go.Obj renaming cells -> rJ
open Go.Ending renaming returned -> rK
open Go.Value renaming slice -> rC, int -> rD, pointer -> rE
open Option renaming none -> rI
open List renaming mem_flatten -> fQ, mem_map -> eA, mem_cons -> aZ, mem_append -> fR, not_mem_nil -> dC
open Array renaming getElem?_setIfInBounds -> aL, length_toList -> fM
open Nat renaming pow_succ -> bF, pos_of_ne_zero -> bH, lt_of_lt_of_le -> cH, le_of_lt -> eY
set_option linter.unusedVariables false
set_option maxRecDepth 100000
set_option maxHeartbeats 40000000
namespace Go.Proofs.YtfofaiommeckbaaGreat
open Go.RowKit WireM
theorem Zkm:∀(l:List (List Nat)),(∀r∈l,r.length<=200)->(∀r∈l,∀x∈r,x<256)->∀x∈Pc l,x<256:=by
 intro l h1 h2 x hx;simp only[Pc,fQ,eA]at hx;obtain⟨y,⟨r,hr,rfl⟩,hx⟩:=hx;exact Fk (by have:=h1 r hr;omega) (h2 r hr) x hx
theorem Zh0 (L:List Int):∀x∈Cr L,x<256:=by
 intro x hx;simp only[Cr,fQ,eA]at hx;obtain⟨y,⟨z,_,rfl⟩,hx⟩:=hx;exact beN_lt _ _ x hx
theorem Ys {d:NodeD}(hk:NodeOk d)(b:Cj d=true):∀x∈By d,x<256:=by
 have c:=oD b;have e:=Jy d.par.late;unfold By
 split
 ·intro x hx;rw[aZ,fR]at hx;rcases hx with rfl|hx|hx
  ·omega
  ·rw[Kz,fR,fR]at hx;rcases hx with(hx|hx)|hx
   ·refine Zkm _ ?_ ?_ x hx
    ·intro r a;simp at a;rcases a with rfl|rfl|rfl<;>omega
    ·intro r a;simp at a;rcases a with rfl|rfl|rfl
     ·exact hk.box
     ·exact hk.sign
     ·exact hk.ident
   ·rw[List.mem_singleton]at hx;have:=hk.source;omega
   ·split at hx
    ·exact Fk (by omega) hk.par x hx
    ·cases hx
  ·exact Fk (by omega) hk.sig x hx
 ·split
  ·intro x hx;rw[aZ,Zjc,fR,fR]at hx;rcases hx with rfl|(hx|hx)|hx
   ·omega
   ·exact Fk (by omega) hk.pbox x hx
   ·exact Fk (by omega) hk.hash x hx
   ·exact Fk (by omega) (Zh0 _) x hx
  ·intro x hx;simp at hx;omega
open WalkM ShaM
theorem Ue (t:Nat->NodeD)(hk:∀x,NodeOk (t x))(c:∀x,Cj (t x)=true)(k x:Nat):∀y∈Ph t k x,y<256:=by
 have b:=Ys (hk x) (c x);intro y a;cases k with
 |zero=>
  rw[Lf]at a;simp only[fR,aZ,dC,or_false]at a;rcases a with(rfl|a)|a
  ·omega
  ·exact beN_lt _ _ y a
  ·exact b y a
 |succ k=>
  rw[Lg]at a;simp only[fR,aZ,dC,or_false]at a;rcases a with(rfl|a)|a|a
  ·omega
  ·exact b y a
  ·exact Fk (by rw[Et];omega) (Yr _ _ _) y a
  ·exact Fk (by rw[Et];omega) (Yr _ _ _) y a
def Dl (u:Value)(g:Nat):Prop:=∀a m c,u=.slice (some a) m c->a.block≠g
theorem Zdv {w:World} {B g:Nat} {e:TypeId} {v:Value} {xs:List Value}(h:Own w B e v xs)(hg:g<B):Dl v g:=by
 intro a m c e;rcases h.2 with⟨e2,_⟩|⟨g',cp,cur,e2,hb,_⟩
 ·rw[e2]at e;cases e
 ·rw[e2]at e;simp only[Value.slice.injEq,Option.some.injEq]at e;rw[<-e.1];show g'≠g;omega
def AllR (w:World)(g n:Nat)(F:Nat->Option (List Nat)):Prop:=
 ∃cs:Array Value,Blk w g 28 cs/\cs.size=n/\∀y,y<n->∃u,cs[y]? =some u/\∀L,F y=some L->Rd w u (bvs L)/\Dl u g
theorem AllR.lt {w:World} {g n:Nat} {F:Nat->Option (List Nat)}(h:AllR w g n F):g<w.heap.size:=by
 obtain⟨cs,hb,_⟩:=h;exact hb.lt
theorem AllR.below {w w':World} {g n:Nat} {F:Nat->Option (List Nat)}(h:AllR w g n F)(hb:Below w.heap.size w w'):AllR w' g n F:=by
 obtain⟨cs,h1,h2,h3⟩:=h;refine⟨cs,h1.below hb h1.lt,h2,fun y hy=> ?_⟩;obtain⟨u,k1,k2⟩:=h3 y hy;exact⟨u,k1,fun L hL=>⟨(k2 L hL).1.below hb lR,(k2 L hL).2⟩⟩
theorem AllR.alloc {w:World} {g n:Nat} {F:Nat->Option (List Nat)}(h:AllR w g n F)(o:Obj):AllR (w.alloc o) g n F:=h.below (bR.alloc lR o)
theorem AllR.at {w:World} {g n:Nat} {F:Nat->Option (List Nat)}(h:AllR w g n F) {x:Nat}(hx:x<n):∃u,w.cell? ⟨g,x,rI⟩=some u/\w.frozen? ⟨g,x,rI⟩=false:=by
 obtain⟨cs,h1,h2,h3⟩:=h;obtain⟨u,k1,_⟩:=h3 x hx;exact⟨u,by rw[h1.cell];exact k1,h1.frozen x⟩
theorem AllR.row {w:World} {g n:Nat} {F:Nat->Option (List Nat)}(h:AllR w g n F) {x:Nat}(hx:x<n) {L:List Nat}(hL:F x=some L):∃u,w.cell? ⟨g,x,rI⟩=some u/\Rd w u (bvs L)/\Dl u g:=by
 obtain⟨cs,h1,h2,h3⟩:=h;obtain⟨u,k1,k2⟩:=h3 x hx;exact⟨u,by rw[h1.cell];exact k1,k2 L hL⟩
theorem AllR.set {w:World} {g n:Nat} {F:Nat->Option (List Nat)}(h:AllR w g n F) {x:Nat}(hx:x<n)(u:Value)(L:List Nat)(f:Rd w u (bvs L))(d:Dl u g):AllR (w.setCell ⟨g,x,rI⟩ u) g n (fun y=>if y=x then some L else F y):=by
 obtain⟨cs,h1,h2,h3⟩:=h;refine⟨_,h1.set x u,by rw[Array.size_setIfInBounds];exact h2,fun y i=> ?_⟩
 by_cases e:y=x
 ·subst e;refine⟨u,by rw[aL,iP rfl,iP (by omega)],fun b a=> ?_⟩;have a:(if y=y then some L else F y)=some b:=a;rw[iP rfl]at a;cases a;exact⟨f.onlyG (OnlyG.setCell y u) d,d⟩
 ·obtain⟨k,j,c⟩:=h3 y i;refine⟨k,by rw[aL,iN (fun h=>e h.symm)];exact j,fun b a=> ?_⟩;have a:(if y=x then some L else F y)=some b:=a;rw[iN e]at a;exact⟨(c b a).1.onlyG (OnlyG.setCell x u) (c b a).2,(c b a).2⟩
def Lh (T:Nat->NodeD)(F:Nat->Option (List Nat))(k x:Nat)(y:Nat):Option (List Nat):=if x+1<=y+2^k/\y<x+2^k then some (Ha T (lev y) y)else F y
theorem Za9 (T:Nat->NodeD)(F:Nat->Option (List Nat)) {x:Nat}(hl:lev x=0):Lh T F 0 x=fun y=>if y=x then some (Ha T 0 x)else F y:=by
 funext y
 unfold Lh;rw[show(2:Nat)^0=1 from rfl]
 by_cases h:y=x
 ·rw[iP (by omega),iP h,h,hl]
 ·rw[iN (by omega),iN h]
theorem Zba (T:Nat->NodeD)(F:Nat->Option (List Nat)) {x k:Nat}(a:lev x=k+1)(hx:2^k<=x):Lh T F (k+1) x=fun y=>if y=x then some (Ha T (k+1) x)else Lh T (Lh T F k (x-2^k)) k (x+2^k) y:=by
 funext y
 have e:2^(k+1)=2*2^k:=(by rw[bF];omega);have b:0<2^k:=bH (by simp)
 by_cases h:y=x
 ·rw[iP h];unfold Lh;rw[iP (by omega),h,a]
 ·rw[iN h];unfold Lh;rw[e]
  by_cases h2:x+2^k+1<=y+2^k/\y<x+2^k+2^k
  ·rw[iP h2,iP (by omega)]
  ·rw[iN h2]
   by_cases h3:x-2^k+1<=y+2^k/\y<x-2^k+2^k
   ·rw[iP h3,iP (by omega)]
   ·rw[iN h3,iN (by omega)]
def TreeG (w:World)(g:Nat)(v:Value)(t:List NodeD):Prop:=
 ∃a cap,v=.slice a t.length cap/\t.length<=cap/\cap<=maxLen/\∀i,i<t.length->∃b off c,a=some ⟨b,off,rI⟩/\b<w.heap.size/\b≠g/\c.size=10/\w.rangeAt b (off+i*10) c.toList/\∀W,OnlyG g w W->NodeC W (nd t i) c
theorem Gr {w w':World} {g b o:Nat} {cs:List Value}(h:w.rangeAt b o cs)(hb:OnlyG g w w')(hl:b<w.heap.size)(hne:b≠g):w'.rangeAt b o cs:=by
 intro j u hu;have:=h j u hu;rw[World.cell?_of_block (hb.2.2 b hl hne)];exact this
theorem TreeG.onlyG {w w':World} {g:Nat} {v:Value} {t:List NodeD}(h:TreeG w g v t)(d:OnlyG g w w'):TreeG w' g v t:=by
 obtain⟨a,cap,e,h1,h2,h3⟩:=h;refine⟨a,cap,e,h1,h2,fun i m=> ?_⟩;obtain⟨b,f,c,n,j,k,o,p,q⟩:=h3 i m;exact⟨b,f,c,n,cH j d.2.1,k,o,Gr p d j k,fun W l=>q W (d.trans l)⟩
theorem TreeR.g {w0 w:World} {g:Nat} {v:Value} {t:List NodeD}(h:TreeR w0 v t)(d:Below w0.heap.size w0 w)(m:w0.heap.size<=g):TreeG w g v t:=by
 obtain⟨a,cap,e,h1,h2,h3⟩:=h;refine⟨a,cap,e,h1,h2,fun i n=> ?_⟩;obtain⟨b,f,c,o,j,k,p⟩:=h3 i n;exact⟨b,f,c,o,cH j d.size,by omega,k.size,As p d j,fun W l=>k.below (d.trans (l.1.mono m)) lR⟩
theorem TreeG.sl {w:World} {g:Nat} {v:Value} {t:List NodeD}(h:TreeG w g v t):∃a c,v=.slice a t.length c/\t.length<=c/\c<=9223372036854775807:=by
 obtain⟨a,cap,e,h1,h2,_⟩:=h;unfold maxLen at h2;exact⟨a,cap,e,h1,h2⟩
theorem TreeG.node {w:World} {g:Nat} {a:Option Addr} {n c:Nat} {t:List NodeD}(h:TreeG w g (rC a n c) t) {i:Nat}(d:i<n):∃b off cs,a=some ⟨b,off,rI⟩/\b<w.heap.size/\b≠g/\cs.size=10/\w.rangeAt b (off+i*10) cs.toList/\∀W,OnlyG g w W->NodeC W (nd t i) cs:=by
 obtain⟨f,cap,e,h1,h2,h3⟩:=h;simp only[Value.slice.injEq]at e;obtain⟨rfl,rfl,rfl⟩:=e;exact h3 i d
def Zh1 (t:List NodeD)(k:Nat):Prop:=∀(x g:Nat) (v:Value) (w:World) (F:Nat->Option (List Nat)),TreeG w g v t->AllR w g t.length F->IsLev x k->x+2^k<=t.length->
 Calls Tryz.prog 189 #[v,rD .i64 (x:Nat),rC (some ⟨g,0,rI⟩) t.length t.length] w fun e w'=>∃v',e=rK v'/\Rd w' v' (bvs (Ha (nd t) k x))/\Dl v' g/\AllR w' g t.length (Lh (nd t) F k x)/\OnlyG g w w'
theorem Zdw (t:List NodeD)(Y:Ef t=true)(B:TreeOk t)(hp:Ch t=true):Zh1 t 0:=by
 intro x g v w F h f i hx;have N:=Gp i;have hx:x<t.length:=(by have:(2:Nat)^0=1:=rfl;omega);have Q:=Ft Y;have W:OnlyG g w w:=OnlyG.of_below bR (eY f.lt);obtain⟨a,c,rfl,hc,aV⟩:=h.sl;obtain⟨b,aS,cs,rfl,aT,aQ,aR,X,l⟩:=h.node hx;have A:=l w W;have S:lev x=0:=lev_eq (by omega) i;have C:=Fv hp hx;have P:(nd t x).kind≠2:=(by have:=C.1;rwa [Jg N]at this);have r:=Lq ((x/2:Nat):Int) (nd t x) cs w A (B.nd x) (Dy Y x);have R:ltF ((x/2:Nat):Int) (nd t x)=(([1]++beN 4 (x/2))++By (nd t x),0):=by
  rw[ltF,iN (by omega),iN (by rw[C.2];simp[P]),Int.toNat_natCast]
 unfold Wd at r;rw[R]at r;have aB:=Lf (nd t) x;have q:=Mt (nd t) 0 x;have aA:=Ud (t:=nd t) (fun y=>Dy Y y) 0 x;have D:=Ue (nd t) (fun y=>B.nd y) (fun y=>Dy Y y) 0 x;rw[<-aB]at r;obtain⟨n,hn⟩:=eX t.length;rw[<-hn]at hx hc Q f|-;obtain⟨m,T⟩:=eX (x/2);rw[<-T]at r;have hq:(x:Int)/2=(m:Int):=(by omega);have hm:(x:Int)%2=0:=(by omega);obtain⟨TX,L⟩:=eX (Ph (nd t) 0 x);rw[<-L]at r q aA D;have k:=Hd q;have aG:=Hd r;have aL:=Hd X;have aN:=Hd A.size;have J:=Hd f;have aP:=Hd (show TX.length<=1000000 by omega);have aO:=Hd D;have aF:=Hd (Za9 (nd t) F S);have aC:=hx;clear L aB T hn R C P h l W aR aQ A X r q aA D Y B hp i S N f;go_in;go_wp2_with (refine wpList_load_mid rfl 52 (.tmp 17) rfl b (aS+x*10) rfl cs.toList _ aL.out Tryz.underlying52 rfl (by rw[fM,aN.out];exact Bk) ?_);refine(aG.out).mono ?_;rintro e w1 ⟨u,v1,rfl,d⟩;obtain⟨E,G,H,rfl⟩:=Cw d;have aK:=Hd d.rd;have I:=Hd (J.out.below u);have aI:=Hd (OnlyG.of_below u (eY J.out.lt));clear u d;go_wp2_with fail;have K:=Hd (show Rd (w1.alloc (rJ #[rC E G H] 28)) (rC E G H) (bvs TX)from(aK.out).alloc _);have aM:=Hd (Kk w1.heap.size (rC E G H) TX (w1.alloc (rJ #[rC E G H] 28)) (Ao rfl) (by simp) K.out aO.out aP.out);have aD:=Hd ((I.out).alloc (rJ #[rC E G H] 28));have O:=(I.out).lt;have aH:=Hd ((aI.out).trans (OnlyG.of_below (bR.alloc lR (rJ #[rC E G H] 28)) (eY O)));go_wp2_with fail;refine(aM.out).mono ?_;rintro e w2 ⟨ob,rfl,U,V,o,z⟩;have s:=aD.out.below z;have aJ:=Hd (aH.out.trans (OnlyG.of_below z (by simp;omega)));have j:=Hd o;have M:Dl (rC (some ⟨ob,0,rI⟩) 32 32) g:=by
  intro a m c e;simp only[Value.slice.injEq,Option.some.injEq]at e;rw[<-e.1];show ob≠g;have:w1.heap.size+1<=ob:=(by simpa using U);omega
 have p:=Hd M;obtain⟨y0,aU,aW⟩:=s.at aC;have aE:=Hd s;clear z o s U V O M;go_wp2_with fail;go_ret;have Z:=aE.out.set aC _ _ j.out p.out;refine⟨_,rfl,?_,p.out,?_,aJ.out.trans (OnlyG.setCell x _)⟩
 ·rw[k.out];exact j.out.onlyG (OnlyG.setCell x _) p.out
 ·rw[aF.out,k.out];exact Z
theorem Zdx (t:List NodeD)(i:Ef t=true)(aP:TreeOk t)(hp:Ch t=true)(k:Nat)(IH:Zh1 t k):Zh1 t (k+1):=by
 intro x g v w F h s l hx;have bI:=Gq l;have bC:=Ft i;have cB:2^(k+1)=2*2^k:=(by rw[bF];omega);have cA:0<2^k:=bH (by simp);have P:x<t.length:=(by omega);obtain⟨a7,a8,bA,bB,a9⟩:=kids_lev (by omega) l;have aF:=Hd (fun(W:World)=>Jv (x:Int) W);have aG:=Hd (fun(W:World)=>Hz (x:Int) W);rw[a7]at aF;rw[a8]at aG;have bD:lev x=k+1:=lev_eq (by omega) l;have o:=Hd (IH (x-2^k) g v w F h s bA (by omega));obtain⟨F1,aK⟩:=eX (Lh (nd t) F k (x-2^k));have p:=fun(W:World) (O:OnlyG g w W) (ha:AllR W g t.length F1)=>IH (x+2^k) g v W F1 (h.onlyG O) ha bB (by omega);obtain⟨F2,aL⟩:=eX (Lh (nd t) F1 k (x+2^k));have bV:=Hd (show Lh (nd t) F (k+1) x=fun y=>if y=x then some (Ha (nd t) (k+1) x)else F2 y by rw[Zba (nd t) F bD a9,aL,aK]);rw[<-aK]at o;rw[<-aL]at p;have aQ:=Fv hp P;have a6:(nd t x).kind≠1:=(by have:=aQ.1;rwa [Lc bI]at this);have N:=Lg (nd t) k x;have aE:=Mt (nd t) (k+1) x;have bM:=Ud (t:=nd t) (fun y=>Dy i y) (k+1) x;have aS:=Ue (nd t) (fun y=>aP.nd y) (fun y=>Dy i y) (k+1) x;have C:=Et (nd t) k (x-2^k);have E:=Et (nd t) k (x+2^k);obtain⟨q,aZ⟩:=eX (Ph (nd t) (k+1) x);rw[<-aZ]at N aE bM aS;obtain⟨H1,aM⟩:=eX (Ha (nd t) k (x-2^k));obtain⟨H2,aN⟩:=eX (Ha (nd t) k (x+2^k));rw[<-aM,<-aN]at N;rw[<-aM]at o C;rw[<-aN]at p E;have PT:=fun(cs:Array Value) (W:World) (O:NodeC W (nd t x) cs) (vl vr:Value) (h1:Rd W vl (bvs H1)) (h2:Rd W vr (bvs H2))=>Ix (nd t x) cs vl vr H1 H2 W O (aP.nd x) (Dy i x) h1 h2;have bJ:ptF (nd t x) H1 H2=(q,0):=by
  rw[ptF,iN (by rw[aQ.2];simp[a6]),iN (by simp[C,E]),N,List.append_assoc _ (Be H1)]
 unfold Wd at PT;simp only[bJ]at PT;obtain⟨a,c,rfl,hc,cM⟩:=h.sl;obtain⟨b,H,cs,rfl,a2,V,a4,bK,aA⟩:=h.node P;obtain⟨n,hn⟩:=eX t.length;rw[<-hn]at P hc bC s o p|-;obtain⟨xl,bO⟩:=eX (x-2^k);obtain⟨xr,bQ⟩:=eX (x+2^k);rw[<-bO]at aF o;rw[<-bQ]at aG p;have hm:(x:Int)%2=1:=(by omega);have U:=Hd aE;have R:=Hd PT;have aV:=Hd p;have b5:=Hd (show q.length<=1000000 by omega);have b4:=Hd aS;have bP:=P;have Q:=Hd aA;have S:=Hd bK;have aY:=Hd a4;clear aK aL aZ N hn bJ aQ a6 h aA a4 bK PT aE bM aS i aP hp l bD bI aM aN bO bQ a7 a8 bA bB a9 C E IH p s cB cA hx;go_in;go_wp2_with fail;refine(aF.out w).mono ?_;rintro e w' ⟨rfl,rfl⟩;go_wp2_with fail;refine(o.out).mono ?_;rintro e wz ⟨v1,rfl,aR,a0,j,r⟩;obtain⟨q1,q2,q3,rfl⟩:∃a b c,v1=.slice a b c:=(by obtain⟨a,c,e,_⟩:=aR;exact⟨_,_,_,e⟩);have M:g<wz.heap.size:=j.lt;have aW:=Hd (Gr S.out r a2 V);have a3:b<wz.heap.size:=cH a2 r.2.1;obtain⟨CS,aJ⟩:=eX cs;rw[<-aJ]at aW aY;have b1:=Hd (fun(W:World) (O:OnlyG g wz W) (v:Value) (hv:Rd W v (bvs H2))=>R.out CS W (by rw[aJ];exact Q.out W (r.trans O)) (rC q1 q2 q3) v (aR.onlyG O a0) hv);have bW:=Hd (fun(W:World) (O:Below wz.heap.size wz W)=>aV.out W (r.trans (OnlyG.of_below O (eY M))) (j.below O));have b7:b≠g:=V;have bY:=Hd r;clear aR a0 j r aJ R aV S Q o;go_wp2_with fail;refine Bb [eF (rC (some ⟨b,H,rI⟩) n c),eF (rD .i64 (x:Nat)),eF (rE (some ⟨b,H+x*10,rI⟩)),eF (.agg CS),eF (rC q1 q2 q3),eF (rC (some ⟨b,H,rI⟩) n c),eF (rD .i64 (x:Nat)),eF (rD .i64 (xr:Nat)),eF (rC (some ⟨g,0,rI⟩) n n),fun v w'=>Rd w' v (bvs H2)/\Dl v g/\AllR w' g n F2,fun v w'=>∃u,v=.tuple #[u,rD .u8 0]/\Rd w' u (bvs q)/\Dl u g,fun v w'=>∃u,v=.tuple #[u,rD .u8 0]/\Rd w' u (bvs q)/\Dl u g,fun v w'=>Rd w' v (bvs q)/\Dl v g,eF (rD .u8 0),fun v w'=>Rd w' v (bvs q)/\Dl v g]
  (List.replicate 15 true) (fun X=>OnlyG g wz X) (fun X Y=>OnlyG g X Y) (some 9) (by kernel_rfl) ?_ ((OnlyG.of_below bR (eY M)).drewN 1) (fun X Y hx h=>OnlyG.of_below h (Nat.le_trans (eY M) hx.2.1)) (fun X Y hx i=>hx.trans i) (by kernel_rfl) (by kernel_rfl) ?_ ?_
 ·exact kE (kE (kE (kE (kE (kE (kE (kE (kE (Co (fun v x y h _ i=>⟨h.1.below i lR,h.2.1,h.2.2.below i⟩) (Aw (fun v x y h hi i=>let⟨u,e,h2⟩:=h;⟨u,e,(fun v x y h _ i=>⟨h.1.onlyG i h.2,h.2⟩) u x y h2 hi i⟩) (Aw (fun v x y h hi i=>let⟨u,e,h2⟩:=h;⟨u,e,(fun v x y h _ i=>⟨h.1.onlyG i h.2,h.2⟩) u x y h2 hi i⟩) (Aw (fun v x y h _ i=>⟨h.1.onlyG i h.2,h.2⟩) (kE (Aw (fun v x y h _ i=>⟨h.1.onlyG i h.2,h.2⟩) (Ai)))))))))))))))
 ·refine gP ?_ rfl (gP ?_ rfl (gP ?_ rfl (gO ?_ (gP ?_ rfl (gPw (by kernel_rfl) ?_ rfl (gP ?_ rfl (gOw (by kernel_rfl) ?_ (gPw (by kernel_rfl) ?_ rfl (gOw (by kernel_rfl) ?_ (gO ?_ (gO ?_ (gO ?_ (gO ?_ (gO ?_ .nil))))))))))))));all_goals
   intro a I A b8 ho Z;have A:OnlyG g wz I:=A;refine⟨rfl,?_⟩;intro K J;try have cG:a.tmps[0]?.getD undef=rC (some ⟨b,H,rI⟩) n c:=ho 0 (by kernel_rfl)
   try have cI:a.tmps[1]?.getD undef=rD .i64 (x:Nat):=ho 1 (by kernel_rfl)
   try have cJ:a.tmps[2]?.getD undef=rC (some ⟨g,0,rI⟩) n n:=ho 2 (by kernel_rfl)
   try have cK:a.tmps[8]?.getD undef=.slice q1 q2 q3:=ho 8 (by kernel_rfl)
   try have bS:=eqn Z.1
   try have cE:=eqn Z.2.1
   try have cF:=eqn Z.2.2.1
   try(refine Hd ?_;go_simp;exact J _ rfl)
  ·exact wp_load_mid 52 (.tmp 30) rfl b (H+x*10) (evs bS) _ _ (Gr aW.out A a3 b7) Tryz.underlying52 rfl (by rw[fM,aY.out];exact Bk) (J _ _ rfl (Ah rfl bR))
  ·go_simp;refine(aG.out I).mono ?_;rintro e w2 ⟨rfl,rfl⟩;exact J _ _ rfl (Ah rfl bR)
  ·go_simp;refine(bW.out I b8).mono ?_;rintro e w2 ⟨v9,rfl,cD,b6,aO,b9⟩;exact J _ _ ⟨cD,b6,aO⟩ (Bt rfl b9)
  ·have o2:Rd I (a.tmps[37]?.getD undef) (bvs H2)/\Dl (a.tmps[37]?.getD undef) g/\AllR I g n F2:=Z.2.2.1;obtain⟨v2,aT⟩:=eX (a.tmps[37]?.getD undef);rw[<-aT]at o2;have e2:=aT.symm;clear aT;go_simp;refine(b1.out I A v2 o2.1).mono ?_;rintro e w2 ⟨z,v9,rfl,D⟩;exact J _ _ ⟨_,rfl,D.rd,Zdv D (cH M A.2.1)⟩ (Ah rfl z)
  ·have G:∃u,(a.tmps[38]?.getD undef)=.tuple #[u,rD .u8 0]/\Rd I u (bvs q)/\Dl u g:=Z.1;obtain⟨v0,d⟩:=eX (a.tmps[38]?.getD undef);rw[<-d]at G;have e0:=d.symm;clear d;go_simp;exact J _ _ G (Ah rfl bR)
  ·have G:∃u,(a.tmps[27]?.getD undef)=.tuple #[u,rD .u8 0]/\Rd I u (bvs q)/\Dl u g:=Z.1;obtain⟨v0,d⟩:=eX (a.tmps[27]?.getD undef);rw[<-d]at G;have e0:=d.symm;clear d;obtain⟨u,rfl,o1⟩:=G;go_simp;exact J _ _ o1 (Ah rfl bR)
  ·have G:∃u,(a.tmps[27]?.getD undef)=.tuple #[u,rD .u8 0]/\Rd I u (bvs q)/\Dl u g:=Z.1;obtain⟨v0,d⟩:=eX (a.tmps[27]?.getD undef);rw[<-d]at G;have e0:=d.symm;clear d;obtain⟨u,rfl,o1⟩:=G;go_simp;exact J _ _ rfl (Ah rfl bR)
  ·have G:Rd I (a.tmps[39]?.getD undef) (bvs q)/\Dl (a.tmps[39]?.getD undef) g:=Z.1;obtain⟨v0,d⟩:=eX (a.tmps[39]?.getD undef);rw[<-d]at G;have e0:=d.symm;clear d;go_simp;exact J _ _ G (Ah rfl bR)
 ·rintro f w9 L B;have L:OnlyG g wz w9:=L;have S7:Rd w9 (f 7) (bvs q)/\Dl (f 7) g:=B.2.2.2.2.2.2.2.2.2.2.2.2.2.2.1;have aH:Rd w9 (f 37) (bvs H2)/\Dl (f 37) g/\AllR w9 g n F2:=B.2.2.2.2.2.2.2.2.2.1;clear B;simp only[Aq,Ba,Fc,List.filterMap_cons,List.filterMap_nil,List.contains_cons,List.contains_nil,Nat.reduceBEq,Nat.reduceAdd,Bool.or_false,Bool.or_true,cond_true,cond_false];obtain⟨u7,bN⟩:=eX (f 7);rw[<-bN]at S7|-;clear bN;obtain⟨u37,aC⟩:=eX (f 37);rw[<-aC]at aH|-;clear aC;have cC:∃a b c,u7=.slice a b c:=(by obtain⟨a,c,e,_⟩:=S7.1;exact⟨_,_,_,e⟩);obtain⟨p1,p2,p3,rfl⟩:=cC;have b2:=Hd S7.1;have aU:=Hd aH.2.2;have b0:=Hd (bY.out.trans L);clear S7 aH L;go_wp2_with fail;have aX:=Hd (show Rd (w9.alloc (rJ #[rC p1 p2 p3] 28)) (rC p1 p2 p3) (bvs q)from(b2.out).alloc _);have b3:=Hd (Kk w9.heap.size (rC p1 p2 p3) q (w9.alloc (rJ #[rC p1 p2 p3] 28)) (Ao rfl) (by simp) aX.out b4.out b5.out);have bT:=Hd ((aU.out).alloc (rJ #[rC p1 p2 p3] 28));have a5:=(aU.out).lt;have bX:=Hd ((b0.out).trans (OnlyG.of_below (bR.alloc lR (rJ #[rC p1 p2 p3] 28)) (eY a5)));go_wp2_with fail;refine(b3.out).mono ?_;rintro e w2 ⟨ob,rfl,bE,bG,aB,z⟩;have aI:=bT.out.below z;have bZ:=Hd (bX.out.trans (OnlyG.of_below z (by simp;omega)));have T:=Hd aB;have a1:Dl (rC (some ⟨ob,0,rI⟩) 32 32) g:=by
   intro a m c e;simp only[Value.slice.injEq,Option.some.injEq]at e;rw[<-e.1];show ob≠g;have:w9.heap.size+1<=ob:=(by simpa using bE);omega
  have aD:=Hd a1;obtain⟨y0,cL,cN⟩:=aI.at bP;have bU:=Hd aI;clear z aB aI bE bG a5 a1;go_wp2_with fail;go_ret;have bL:=bU.out.set bP _ _ T.out aD.out;refine⟨_,rfl,?_,aD.out,?_,bZ.out.trans (OnlyG.setCell x _)⟩
  ·rw[U.out];exact T.out.onlyG (OnlyG.setCell x _) aD.out
  ·rw[bV.out,U.out];exact bL
