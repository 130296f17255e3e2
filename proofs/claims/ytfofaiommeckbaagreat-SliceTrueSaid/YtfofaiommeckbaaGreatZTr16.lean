import Derived.Test.YtfofaiommeckbaaGreatZTr15
open Go.Obj renaming cells -> rK
open Go.Ending renaming returned -> rM
open Go.Value renaming slice -> rD, int -> rE, pointer -> rF
open Option renaming none -> rJ
open List renaming mem_append -> dZ, mem_cons -> aB, not_mem_nil -> dC
open Array renaming getElem?_setIfInBounds -> cV, length_toList -> eK
open Nat renaming pow_succ -> aN, pos_of_ne_zero -> aQ, lt_of_lt_of_le -> bO, le_of_lt -> fE
set_option linter.unusedVariables false
set_option maxRecDepth 100000
set_option maxHeartbeats 40000000
namespace Go.Proofs.YtfofaiommeckbaaGreat
open Go.RowKit WalkM ShaM WireM
theorem Zmr {t:List NodeD}(hok:TreeOk t)(ps:List Int)(x:Nat):NodeOk (woD t ps x):=by
 have h:=hok.nd x;unfold woD
 split
 ·split
  ·exact Gh
  ·exact h
 ·exact⟨h.kind,h.source,h.box,h.sign,h.ident,h.par,h.sig,h.pbox,h.hash,fun u hu=>h.late u (List.mem_filter.1 hu).1⟩
theorem Ns (t:Nat->NodeD)(hk:∀x,NodeOk (t x))(c:∀x,Cb (t x)=true)(k x:Nat):∀y∈Lb t k x,y<256:=by
 have b:=Mn (hk x) (c x);intro y a;cases k with
 |zero=>
  rw[Gk]at a;simp only[dZ,aB,dC,or_false]at a;rcases a with(rfl|a)|a
  ·omega
  ·exact beN_lt _ _ y a
  ·exact b y a
 |succ k=>
  rw[Gl]at a;simp only[dZ,aB,dC,or_false]at a;rcases a with(rfl|a)|a|a
  ·omega
  ·exact b y a
  ·exact Ft (by rw[Dn];omega) (Ru _ _ _) y a
  ·exact Ft (by rw[Dn];omega) (Ru _ _ _) y a
def Do (u:Value)(g:Nat):Prop:=∀a m c,u=.slice (some a) m c->a.block≠g
theorem Zes {w:World} {B g:Nat} {e:TypeId} {v:Value} {xs:List Value}(h:Own w B e v xs)(hg:g<B):Do v g:=by
 intro a m c e;rcases h.2 with⟨e2,_⟩|⟨g',cp,cur,e2,hb,_⟩
 ·rw[e2]at e;cases e
 ·rw[e2]at e;simp only[Value.slice.injEq,Option.some.injEq]at e;rw[<-e.1];show g'≠g;omega
def AllR (w:World)(g n:Nat)(F:Nat->Option (List Nat)):Prop:=
 ∃cs:Array Value,Blk w g 28 cs/\cs.size=n/\∀y,y<n->∃u,cs[y]? =some u/\∀L,F y=some L->Rd w u (bvs L)/\Do u g
theorem AllR.lt {w:World} {g n:Nat} {F:Nat->Option (List Nat)}(h:AllR w g n F):g<w.heap.size:=by
 obtain⟨cs,hb,_⟩:=h;exact hb.lt
theorem AllR.below {w w':World} {g n:Nat} {F:Nat->Option (List Nat)}(h:AllR w g n F)(hb:Below w.heap.size w w'):AllR w' g n F:=by
 obtain⟨cs,h1,h2,h3⟩:=h;refine⟨cs,h1.below hb h1.lt,h2,fun y hy=> ?_⟩;obtain⟨u,k1,k2⟩:=h3 y hy;exact⟨u,k1,fun L hL=>⟨(k2 L hL).1.below hb lR,(k2 L hL).2⟩⟩
theorem AllR.alloc {w:World} {g n:Nat} {F:Nat->Option (List Nat)}(h:AllR w g n F)(o:Obj):AllR (w.alloc o) g n F:=h.below (bR.alloc lR o)
theorem AllR.at {w:World} {g n:Nat} {F:Nat->Option (List Nat)}(h:AllR w g n F) {x:Nat}(hx:x<n):∃u,w.cell? ⟨g,x,rJ⟩=some u/\w.frozen? ⟨g,x,rJ⟩=false:=by
 obtain⟨cs,h1,h2,h3⟩:=h;obtain⟨u,k1,_⟩:=h3 x hx;exact⟨u,by rw[h1.cell];exact k1,h1.frozen x⟩
theorem AllR.row {w:World} {g n:Nat} {F:Nat->Option (List Nat)}(h:AllR w g n F) {x:Nat}(hx:x<n) {L:List Nat}(hL:F x=some L):∃u,w.cell? ⟨g,x,rJ⟩=some u/\Rd w u (bvs L)/\Do u g:=by
 obtain⟨cs,h1,h2,h3⟩:=h;obtain⟨u,k1,k2⟩:=h3 x hx;exact⟨u,by rw[h1.cell];exact k1,k2 L hL⟩
theorem AllR.set {w:World} {g n:Nat} {F:Nat->Option (List Nat)}(h:AllR w g n F) {x:Nat}(hx:x<n)(u:Value)(L:List Nat)(i:Rd w u (bvs L))(d:Do u g):AllR (w.setCell ⟨g,x,rJ⟩ u) g n (fun y=>if y=x then some L else F y):=by
 obtain⟨cs,f,h2,h3⟩:=h;refine⟨_,f.set x u,by rw[Array.size_setIfInBounds];exact h2,fun y j=> ?_⟩
 by_cases e:y=x
 ·subst e;refine⟨u,by rw[cV,iP rfl,iP (by omega)],fun b a=> ?_⟩;have a:(if y=y then some L else F y)=some b:=a;rw[iP rfl]at a;cases a;exact⟨i.onlyG (OnlyG.setCell y u) d,d⟩
 ·obtain⟨l,k,c⟩:=h3 y j;refine⟨l,by rw[cV,iN (fun h=>e h.symm)];exact k,fun b a=> ?_⟩;have a:(if y=x then some L else F y)=some b:=a;rw[iN e]at a;exact⟨(c b a).1.onlyG (OnlyG.setCell x u) (c b a).2,(c b a).2⟩
def Lc (T:Nat->NodeD)(F:Nat->Option (List Nat))(k x:Nat)(y:Nat):Option (List Nat):=if x+1<=y+2^k/\y<x+2^k then some (Ff T (lev y) y)else F y
theorem Zbw (T:Nat->NodeD)(F:Nat->Option (List Nat)) {x:Nat}(hl:lev x=0):Lc T F 0 x=fun y=>if y=x then some (Ff T 0 x)else F y:=by
 funext y
 unfold Lc;rw[show(2:Nat)^0=1 from rfl]
 by_cases h:y=x
 ·rw[iP (by omega),iP h,h,hl]
 ·rw[iN (by omega),iN h]
theorem Zbx (T:Nat->NodeD)(F:Nat->Option (List Nat)) {x k:Nat}(a:lev x=k+1)(hx:2^k<=x):Lc T F (k+1) x=fun y=>if y=x then some (Ff T (k+1) x)else Lc T (Lc T F k (x-2^k)) k (x+2^k) y:=by
 funext y
 have e:2^(k+1)=2*2^k:=(by rw[aN];omega);have b:0<2^k:=aQ (by simp)
 by_cases h:y=x
 ·rw[iP h];unfold Lc;rw[iP (by omega),h,a]
 ·rw[iN h];unfold Lc;rw[e]
  by_cases h2:x+2^k+1<=y+2^k/\y<x+2^k+2^k
  ·rw[iP h2,iP (by omega)]
  ·rw[iN h2]
   by_cases h3:x-2^k+1<=y+2^k/\y<x-2^k+2^k
   ·rw[iP h3,iP (by omega)]
   ·rw[iN h3,iN (by omega)]
def TreeG (w:World)(g:Nat)(v:Value)(t:List NodeD):Prop:=
 ∃a cap,v=.slice a t.length cap/\t.length<=cap/\cap<=maxLen/\∀i,i<t.length->∃b off c,a=some ⟨b,off,rJ⟩/\b<w.heap.size/\b≠g/\c.size=10/\w.rangeAt b (off+i*10) c.toList/\∀W,OnlyG g w W->NodeC W (nd t i) c
theorem Hj {w w':World} {g b o:Nat} {cs:List Value}(h:w.rangeAt b o cs)(hb:OnlyG g w w')(hl:b<w.heap.size)(hne:b≠g):w'.rangeAt b o cs:=by
 intro j u hu;have:=h j u hu;rw[World.cell?_of_block (hb.2.2 b hl hne)];exact this
theorem TreeG.onlyG {w w':World} {g:Nat} {v:Value} {t:List NodeD}(h:TreeG w g v t)(d:OnlyG g w w'):TreeG w' g v t:=by
 obtain⟨a,cap,e,l,h2,h3⟩:=h;refine⟨a,cap,e,l,h2,fun i n=> ?_⟩;obtain⟨b,f,c,o,j,k,p,q,r⟩:=h3 i n;exact⟨b,f,c,o,bO j d.2.1,k,p,Hj q d j k,fun W m=>r W (d.trans m)⟩
theorem TreeR.g {w0 w:World} {g:Nat} {v:Value} {t:List NodeD}(h:TreeR w0 v t)(d:Below w0.heap.size w0 w)(n:w0.heap.size<=g):TreeG w g v t:=by
 obtain⟨a,cap,e,l,h2,h3⟩:=h;refine⟨a,cap,e,l,h2,fun i o=> ?_⟩;obtain⟨b,f,c,p,j,k,q⟩:=h3 i o;exact⟨b,f,c,p,bO j d.size,by omega,k.size,Am q d j,fun W m=>k.below (d.trans (m.1.mono n)) lR⟩
theorem TreeG.sl {w:World} {g:Nat} {v:Value} {t:List NodeD}(h:TreeG w g v t):∃a c,v=.slice a t.length c/\t.length<=c/\c<=9223372036854775807:=by
 obtain⟨a,cap,e,h1,h2,_⟩:=h;unfold maxLen at h2;exact⟨a,cap,e,h1,h2⟩
theorem TreeG.node {w:World} {g:Nat} {a:Option Addr} {n c:Nat} {t:List NodeD}(h:TreeG w g (rD a n c) t) {i:Nat}(d:i<n):∃b off cs,a=some ⟨b,off,rJ⟩/\b<w.heap.size/\b≠g/\cs.size=10/\w.rangeAt b (off+i*10) cs.toList/\∀W,OnlyG g w W->NodeC W (nd t i) cs:=by
 obtain⟨f,cap,e,j,h2,h3⟩:=h;simp only[Value.slice.injEq]at e;obtain⟨rfl,rfl,rfl⟩:=e;exact h3 i d
def Ziv (t:List NodeD)(k:Nat):Prop:=∀(x g:Nat) (v:Value) (w:World) (F:Nat->Option (List Nat)),TreeG w g v t->AllR w g t.length F->IsLev x k->x+2^k<=t.length->
 Calls Tryz.prog 189 #[v,rE .i64 (x:Nat),rD (some ⟨g,0,rJ⟩) t.length t.length] w fun e w'=>∃v',e=rM v'/\Rd w' v' (bvs (Ff (nd t) k x))/\Do v' g/\AllR w' g t.length (Lc (nd t) F k x)/\OnlyG g w w'
theorem Zet (t:List NodeD)(Y:Bc t=true)(B:TreeOk t)(hp:Ax t=true):Ziv t 0:=by
 intro x g v w F h f i hx;have N:=Hh i;have hx:x<t.length:=(by have:(2:Nat)^0=1:=rfl;omega);have Q:=Bb Y;have W:OnlyG g w w:=OnlyG.of_below bR (fE f.lt);obtain⟨a,c,rfl,hc,aV⟩:=h.sl;obtain⟨b,aS,cs,rfl,aT,aQ,aR,X,l⟩:=h.node hx;have A:=l w W;have S:lev x=0:=lev_eq (by omega) i;have C:=Cu hp hx;have P:(nd t x).kind≠2:=(by have:=C.1;rwa [Du N]at this);have r:=Ll ((x/2:Nat):Int) (nd t x) cs w A (B.nd x) (Ct Y x);have R:ltF ((x/2:Nat):Int) (nd t x)=(([1]++beN 4 (x/2))++Bk (nd t x),0):=by
  rw[ltF,iN (by omega),iN (by rw[C.2];simp[P]),Int.toNat_natCast]
 unfold Wb at r;rw[R]at r;have aB:=Gk (nd t) x;have q:=Hi (nd t) 0 x;have aA:=Nq (t:=nd t) (fun y=>Ct Y y) 0 x;have D:=Ns (nd t) (fun y=>B.nd y) (fun y=>Ct Y y) 0 x;rw[<-aB]at r;obtain⟨n,hn⟩:=eX t.length;rw[<-hn]at hx hc Q f|-;obtain⟨m,T⟩:=eX (x/2);rw[<-T]at r;have hq:(x:Int)/2=(m:Int):=(by omega);have hm:(x:Int)%2=0:=(by omega);obtain⟨TX,L⟩:=eX (Lb (nd t) 0 x);rw[<-L]at r q aA D;have k:=Hd q;have aG:=Hd r;have aL:=Hd X;have aN:=Hd A.size;have J:=Hd f;have aP:=Hd (show TX.length<=1000000 by omega);have aO:=Hd D;have aF:=Hd (Zbw (nd t) F S);have aC:=hx;clear L aB T hn R C P h l W aR aQ A X r q aA D Y B hp i S N f;go_in;go_wp2_with (refine wpList_load_mid rfl 52 (.tmp 17) rfl b (aS+x*10) rfl cs.toList _ aL.out Tryz.underlying52 rfl (by rw[eK,aN.out];exact Ai) ?_);refine(aG.out).mono ?_;rintro e w1 ⟨u,v1,rfl,d⟩;obtain⟨E,G,H,rfl⟩:=Dr d;have aK:=Hd d.rd;have I:=Hd (J.out.below u);have aI:=Hd (OnlyG.of_below u (fE J.out.lt));clear u d;go_wp2_with fail;have K:=Hd (show Rd (w1.alloc (rK #[rD E G H] 28)) (rD E G H) (bvs TX)from(aK.out).alloc _);have aM:=Hd (Jv w1.heap.size (rD E G H) TX (w1.alloc (rK #[rD E G H] 28)) (Bi rfl) (by simp) K.out aO.out aP.out);have aD:=Hd ((I.out).alloc (rK #[rD E G H] 28));have O:=(I.out).lt;have aH:=Hd ((aI.out).trans (OnlyG.of_below (bR.alloc lR (rK #[rD E G H] 28)) (fE O)));go_wp2_with fail;refine(aM.out).mono ?_;rintro e w2 ⟨ob,rfl,U,V,o,z⟩;have s:=aD.out.below z;have aJ:=Hd (aH.out.trans (OnlyG.of_below z (by simp;omega)));have j:=Hd o;have M:Do (rD (some ⟨ob,0,rJ⟩) 32 32) g:=by
  intro a m c e;simp only[Value.slice.injEq,Option.some.injEq]at e;rw[<-e.1];show ob≠g;have:w1.heap.size+1<=ob:=(by simpa using U);omega
 have p:=Hd M;obtain⟨y0,aU,aW⟩:=s.at aC;have aE:=Hd s;clear z o s U V O M;go_wp2_with fail;go_ret;have Z:=aE.out.set aC _ _ j.out p.out;refine⟨_,rfl,?_,p.out,?_,aJ.out.trans (OnlyG.setCell x _)⟩
 ·rw[k.out];exact j.out.onlyG (OnlyG.setCell x _) p.out
 ·rw[aF.out,k.out];exact Z
theorem Zeu (t:List NodeD)(i:Bc t=true)(aR:TreeOk t)(hp:Ax t=true)(k:Nat)(IH:Ziv t k):Ziv t (k+1):=by
 intro x g v w F h s l hx;have bI:=Fn l;have bE:=Bb i;have cC:2^(k+1)=2*2^k:=(by rw[aN];omega);have cB:0<2^k:=aQ (by simp);have P:x<t.length:=(by omega);obtain⟨a9,bA,bC,bD,bB⟩:=kids_lev (by omega) l;have aF:=Hd (fun(W:World)=>Gb (x:Int) W);have aG:=Hd (fun(W:World)=>Ev (x:Int) W);rw[a9]at aF;rw[bA]at aG;have bF:lev x=k+1:=lev_eq (by omega) l;have o:=Hd (IH (x-2^k) g v w F h s bC (by omega));obtain⟨F1,aK⟩:=eX (Lc (nd t) F k (x-2^k));have p:=fun(W:World) (O:OnlyG g w W) (ha:AllR W g t.length F1)=>IH (x+2^k) g v W F1 (h.onlyG O) ha bD (by omega);obtain⟨F2,aL⟩:=eX (Lc (nd t) F1 k (x+2^k));have bW:=Hd (show Lc (nd t) F (k+1) x=fun y=>if y=x then some (Ff (nd t) (k+1) x)else F2 y by rw[Zbx (nd t) F bF bB,aL,aK]);rw[<-aK]at o;rw[<-aL]at p;have aS:=Cu hp P;have a8:(nd t x).kind≠1:=(by have:=aS.1;rwa [Gi bI]at this);have N:=Gl (nd t) k x;have aE:=Hi (nd t) (k+1) x;have bM:=Nq (t:=nd t) (fun y=>Ct i y) (k+1) x;have aU:=Ns (nd t) (fun y=>aR.nd y) (fun y=>Ct i y) (k+1) x;have C:=Dn (nd t) k (x-2^k);have E:=Dn (nd t) k (x+2^k);obtain⟨q,a1⟩:=eX (Lb (nd t) (k+1) x);rw[<-a1]at N aE bM aU;obtain⟨H1,aM⟩:=eX (Ff (nd t) k (x-2^k));obtain⟨H2,aO⟩:=eX (Ff (nd t) k (x+2^k));rw[<-aM,<-aO]at N;rw[<-aM]at o C;rw[<-aO]at p E;have PT:=fun(cs:Array Value) (W:World) (O:NodeC W (nd t x) cs) (vl vr:Value) (h1:Rd W vl (bvs H1)) (h2:Rd W vr (bvs H2))=>It (nd t x) cs vl vr H1 H2 W O (aR.nd x) (Ct i x) h1 h2;have bJ:ptF (nd t x) H1 H2=(q,0):=by
  rw[ptF,iN (by rw[aS.2];simp[a8]),iN (by simp[C,E]),N,List.append_assoc _ (Ba H1)]
 unfold Wb at PT;simp only[bJ]at PT;obtain⟨a,c,rfl,hc,cM⟩:=h.sl;obtain⟨b,H,cs,rfl,a4,V,a6,bK,aA⟩:=h.node P;obtain⟨n,hn⟩:=eX t.length;rw[<-hn]at P hc bE s o p|-;obtain⟨xl,bP⟩:=eX (x-2^k);obtain⟨xr,bS⟩:=eX (x+2^k);rw[<-bP]at aF o;rw[<-bS]at aG p;have hm:(x:Int)%2=1:=(by omega);have U:=Hd aE;have R:=Hd PT;have aX:=Hd p;have b6:=Hd (show q.length<=1000000 by omega);have b5:=Hd aU;have bQ:=P;have Q:=Hd aA;have S:=Hd bK;have a0:=Hd a6;clear aK aL a1 N hn bJ aS a8 h aA a6 bK PT aE bM aU i aR hp l bF bI aM aO bP bS a9 bA bC bD bB C E IH p s cC cB hx;go_in;go_wp2_with fail;refine(aF.out w).mono ?_;rintro e w' ⟨rfl,rfl⟩;go_wp2_with fail;refine(o.out).mono ?_;rintro e wz ⟨v1,rfl,aT,a2,j,r⟩;obtain⟨q1,q2,q3,rfl⟩:∃a b c,v1=.slice a b c:=(by obtain⟨a,c,e,_⟩:=aT;exact⟨_,_,_,e⟩);have M:g<wz.heap.size:=j.lt;have aY:=Hd (Hj S.out r a4 V);have a5:b<wz.heap.size:=bO a4 r.2.1;obtain⟨CS,aJ⟩:=eX cs;rw[<-aJ]at aY a0;have b2:=Hd (fun(W:World) (O:OnlyG g wz W) (v:Value) (hv:Rd W v (bvs H2))=>R.out CS W (by rw[aJ];exact Q.out W (r.trans O)) (rD q1 q2 q3) v (aT.onlyG O a2) hv);have bX:=Hd (fun(W:World) (O:Below wz.heap.size wz W)=>aX.out W (r.trans (OnlyG.of_below O (fE M))) (j.below O));have b8:b≠g:=V;have bZ:=Hd r;clear aT a2 j r aJ R aX S Q o;go_wp2_with fail;refine Bp [eF (rD (some ⟨b,H,rJ⟩) n c),eF (rE .i64 (x:Nat)),eF (rF (some ⟨b,H+x*10,rJ⟩)),eF (.agg CS),eF (rD q1 q2 q3),eF (rD (some ⟨b,H,rJ⟩) n c),eF (rE .i64 (x:Nat)),eF (rE .i64 (xr:Nat)),eF (rD (some ⟨g,0,rJ⟩) n n),fun v w'=>Rd w' v (bvs H2)/\Do v g/\AllR w' g n F2,fun v w'=>∃u,v=.tuple #[u,rE .u8 0]/\Rd w' u (bvs q)/\Do u g,fun v w'=>∃u,v=.tuple #[u,rE .u8 0]/\Rd w' u (bvs q)/\Do u g,fun v w'=>Rd w' v (bvs q)/\Do v g,eF (rE .u8 0),fun v w'=>Rd w' v (bvs q)/\Do v g]
  (List.replicate 15 true) (fun X=>OnlyG g wz X) (fun X Y=>OnlyG g X Y) (some 9) (by kernel_rfl) ?_ ((OnlyG.of_below bR (fE M)).drewN 1) (fun X Y hx h=>OnlyG.of_below h (Nat.le_trans (fE M) hx.2.1)) (fun X Y hx i=>hx.trans i) (by kernel_rfl) (by kernel_rfl) ?_ ?_
 ·exact kE (kE (kE (kE (kE (kE (kE (kE (kE (Cw (fun v x y h _ i=>⟨h.1.below i lR,h.2.1,h.2.2.below i⟩) (Ag (fun v x y h hi i=>let⟨u,e,h2⟩:=h;⟨u,e,(fun v x y h _ i=>⟨h.1.onlyG i h.2,h.2⟩) u x y h2 hi i⟩) (Ag (fun v x y h hi i=>let⟨u,e,h2⟩:=h;⟨u,e,(fun v x y h _ i=>⟨h.1.onlyG i h.2,h.2⟩) u x y h2 hi i⟩) (Ag (fun v x y h _ i=>⟨h.1.onlyG i h.2,h.2⟩) (kE (Ag (fun v x y h _ i=>⟨h.1.onlyG i h.2,h.2⟩) (Ae)))))))))))))))
 ·refine gP ?_ rfl (gP ?_ rfl (gP ?_ rfl (gO ?_ (gP ?_ rfl (gPw (by kernel_rfl) ?_ rfl (gP ?_ rfl (gOw (by kernel_rfl) ?_ (gPw (by kernel_rfl) ?_ rfl (gOw (by kernel_rfl) ?_ (gO ?_ (gO ?_ (gO ?_ (gO ?_ (gO ?_ .nil))))))))))))));all_goals
   intro a I A b9 ho Z;have A:OnlyG g wz I:=A;refine⟨rfl,?_⟩;intro K J;try have cH:a.tmps[0]?.getD undef=rD (some ⟨b,H,rJ⟩) n c:=ho 0 (by kernel_rfl)
   try have cI:a.tmps[1]?.getD undef=rE .i64 (x:Nat):=ho 1 (by kernel_rfl)
   try have cJ:a.tmps[2]?.getD undef=rD (some ⟨g,0,rJ⟩) n n:=ho 2 (by kernel_rfl)
   try have cK:a.tmps[8]?.getD undef=.slice q1 q2 q3:=ho 8 (by kernel_rfl)
   try have bT:=eqn Z.1
   try have cF:=eqn Z.2.1
   try have cG:=eqn Z.2.2.1
   try(refine Hd ?_;go_simp;exact J _ rfl)
  ·exact wp_load_mid 52 (.tmp 30) rfl b (H+x*10) (evs bT) _ _ (Hj aY.out A a5 b8) Tryz.underlying52 rfl (by rw[eK,a0.out];exact Ai) (J _ _ rfl (Af rfl bR))
  ·go_simp;refine(aG.out I).mono ?_;rintro e w2 ⟨rfl,rfl⟩;exact J _ _ rfl (Af rfl bR)
  ·go_simp;refine(bX.out I b9).mono ?_;rintro e w2 ⟨v9,rfl,cE,b7,aP,cA⟩;exact J _ _ ⟨cE,b7,aP⟩ (Cc rfl cA)
  ·have o2:Rd I (a.tmps[37]?.getD undef) (bvs H2)/\Do (a.tmps[37]?.getD undef) g/\AllR I g n F2:=Z.2.2.1;obtain⟨v2,aV⟩:=eX (a.tmps[37]?.getD undef);rw[<-aV]at o2;have e2:=aV.symm;clear aV;go_simp;refine(b2.out I A v2 o2.1).mono ?_;rintro e w2 ⟨z,v9,rfl,D⟩;exact J _ _ ⟨_,rfl,D.rd,Zes D (bO M A.2.1)⟩ (Af rfl z)
  ·have G:∃u,(a.tmps[38]?.getD undef)=.tuple #[u,rE .u8 0]/\Rd I u (bvs q)/\Do u g:=Z.1;obtain⟨v0,d⟩:=eX (a.tmps[38]?.getD undef);rw[<-d]at G;have e0:=d.symm;clear d;go_simp;exact J _ _ G (Af rfl bR)
  ·have G:∃u,(a.tmps[27]?.getD undef)=.tuple #[u,rE .u8 0]/\Rd I u (bvs q)/\Do u g:=Z.1;obtain⟨v0,d⟩:=eX (a.tmps[27]?.getD undef);rw[<-d]at G;have e0:=d.symm;clear d;obtain⟨u,rfl,o1⟩:=G;go_simp;exact J _ _ o1 (Af rfl bR)
  ·have G:∃u,(a.tmps[27]?.getD undef)=.tuple #[u,rE .u8 0]/\Rd I u (bvs q)/\Do u g:=Z.1;obtain⟨v0,d⟩:=eX (a.tmps[27]?.getD undef);rw[<-d]at G;have e0:=d.symm;clear d;obtain⟨u,rfl,o1⟩:=G;go_simp;exact J _ _ rfl (Af rfl bR)
  ·have G:Rd I (a.tmps[39]?.getD undef) (bvs q)/\Do (a.tmps[39]?.getD undef) g:=Z.1;obtain⟨v0,d⟩:=eX (a.tmps[39]?.getD undef);rw[<-d]at G;have e0:=d.symm;clear d;go_simp;exact J _ _ G (Af rfl bR)
 ·rintro f w9 L B;have L:OnlyG g wz w9:=L;have S7:Rd w9 (f 7) (bvs q)/\Do (f 7) g:=B.2.2.2.2.2.2.2.2.2.2.2.2.2.2.1;have aH:Rd w9 (f 37) (bvs H2)/\Do (f 37) g/\AllR w9 g n F2:=B.2.2.2.2.2.2.2.2.2.1;clear B;simp only[Ak,At,Ei,List.filterMap_cons,List.filterMap_nil,List.contains_cons,List.contains_nil,Nat.reduceBEq,Nat.reduceAdd,Bool.or_false,Bool.or_true,cond_true,cond_false];obtain⟨u7,bN⟩:=eX (f 7);rw[<-bN]at S7|-;clear bN;obtain⟨u37,aC⟩:=eX (f 37);rw[<-aC]at aH|-;clear aC;have cD:∃a b c,u7=.slice a b c:=(by obtain⟨a,c,e,_⟩:=S7.1;exact⟨_,_,_,e⟩);obtain⟨p1,p2,p3,rfl⟩:=cD;have b3:=Hd S7.1;have aW:=Hd aH.2.2;have b1:=Hd (bZ.out.trans L);clear S7 aH L;go_wp2_with fail;have aZ:=Hd (show Rd (w9.alloc (rK #[rD p1 p2 p3] 28)) (rD p1 p2 p3) (bvs q)from(b3.out).alloc _);have b4:=Hd (Jv w9.heap.size (rD p1 p2 p3) q (w9.alloc (rK #[rD p1 p2 p3] 28)) (Bi rfl) (by simp) aZ.out b5.out b6.out);have bU:=Hd ((aW.out).alloc (rK #[rD p1 p2 p3] 28));have a7:=(aW.out).lt;have bY:=Hd ((b1.out).trans (OnlyG.of_below (bR.alloc lR (rK #[rD p1 p2 p3] 28)) (fE a7)));go_wp2_with fail;refine(b4.out).mono ?_;rintro e w2 ⟨ob,rfl,bG,bH,aB,z⟩;have aI:=bU.out.below z;have b0:=Hd (bY.out.trans (OnlyG.of_below z (by simp;omega)));have T:=Hd aB;have a3:Do (rD (some ⟨ob,0,rJ⟩) 32 32) g:=by
   intro a m c e;simp only[Value.slice.injEq,Option.some.injEq]at e;rw[<-e.1];show ob≠g;have:w9.heap.size+1<=ob:=(by simpa using bG);omega
  have aD:=Hd a3;obtain⟨y0,cL,cN⟩:=aI.at bQ;have bV:=Hd aI;clear z aB aI bG bH a7 a3;go_wp2_with fail;go_ret;have bL:=bV.out.set bQ _ _ T.out aD.out;refine⟨_,rfl,?_,aD.out,?_,b0.out.trans (OnlyG.setCell x _)⟩
  ·rw[U.out];exact T.out.onlyG (OnlyG.setCell x _) aD.out
  ·rw[bW.out,U.out];exact bL
