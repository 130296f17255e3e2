import Derived.Laws.MakeOwn
import Derived.Test.YtfofaiommeckbaaGreatZTr21
import Derived.Test.YtfofaiommeckbaaGreatZTr22
import Derived.Test.YtfofaiommeckbaaGreatZTr23
open Go.Obj renaming cells -> rK
open Go.Ending renaming returned -> rM
open Go.Value renaming slice -> rD, int -> rE, pointer -> rF
open Go.IntKind renaming i64 -> rG, u8 -> rH
open Option renaming none -> rJ
open Go.Proofs.Tryz
open Int renaming toNat_natCast -> cD, toNat -> gL
open Bool renaming and_eq_true -> cK, or_false -> dO, or_true -> dP
open Nat renaming mod_eq_of_lt -> aT, pow_succ -> aN, le_trans -> eN, le_refl -> eR, lt_of_lt_of_le -> bO, le_succ -> gJ, lt_succ_self -> dV, not_lt_zero -> iI, succ_le_of_lt -> iJ, le_of_lt -> fE, zero_le -> aI
open List renaming getD_eq_getElem?_getD -> aE, range -> aC, flatMap_def -> gY, map_congr_left -> iK, map_nil -> iL, getElem?_eq_getElem -> aF, map_append -> eG, pairwise_map -> fU, take_length -> dD, getElem_mem -> aG, replicate -> cJ, getElem?_toArray -> bY, getElem?_cons_zero -> bZ, getElem?_cons_succ -> cA, filterMap_cons -> dG, filterMap_nil -> dH, contains_cons -> dJ, contains_nil -> dK, all_eq_true -> eB
set_option linter.unusedVariables false
set_option maxRecDepth 100000
set_option maxHeartbeats 40000000
namespace Go.Proofs.YtfofaiommeckbaaGreat
open Go.RowKit WalkM ShaM WireM
def Dg (T:Nat->NodeD)(y:Nat):List Nat:=Ff T (lev y) y
theorem Kn (T:Nat->NodeD)(y:Nat):(Dg T y).length=32:=Dn _ _ _
theorem Mx (T:Nat->NodeD)(y:Nat):∀x∈Dg T y,x<256:=Ru _ _ _
theorem Zjd (t:List NodeD)(hs:Bc t=true)(hok:TreeOk t)(hp:Ax t=true):∀k,Ziv t k:=by
 intro k
 induction k with
 |zero=>exact Zet t hs hok hp
 |succ k ih=>exact Zeu t hs hok hp k ih
theorem AllR.congr {w:World} {g n:Nat} {F F':Nat->Option (List Nat)}(h:AllR w g n F)(e:∀y,y<n->F' y=F y):AllR w g n F':=by
 obtain⟨cs,h1,h2,h3⟩:=h;refine⟨cs,h1,h2,fun y hy=> ?_⟩;obtain⟨u,k1,k2⟩:=h3 y hy;exact⟨u,k1,fun L hL=>k2 L (by rw[<-e y hy];exact hL)⟩
theorem Zfo {n:Nat}(f:n<=4000000):∀w:World,(Instr.makeSlice 64 (rE rG (n:Nat)) (rE rG (n:Nat))).run prog w=.ok (rD (some ⟨w.heap.size,0,rJ⟩) n n) (w.alloc (.cells (madeCells (Value.slice none 0 0).cells (n*1)) 28)):=by
 intro w;obtain⟨i,d,e,b,a⟩:∃i,prog.info? 28=some i/\i.zero=some (rD rJ 0 0)/\i.size=1/\i.bytes=24:=info_parts (by kernel_rfl);have c:=run_make (P:=prog) w 64 28 i (rD rJ 0 0) underlying64 d e .i64 .i64 n n (by omega) (by omega) (by rw[a];omega) (by omega);simp only[cD,b]at c;exact c
theorem Zfp (w:World)(n:Nat):AllR (w.alloc (.cells (madeCells (Value.slice none 0 0).cells (n*1)) 28)) w.heap.size n (fun _=>none):=by
 refine⟨_,Blk.new w _ _,by simp[madeCells],fun y hy=> ?_⟩;exact⟨_,Array.getElem?_eq_getElem (by simpa [madeCells]using hy),fun L hL=>by cases hL⟩
theorem Zje (v:Value)(t:List NodeD)(w:World)(h:TreeR w v t)(u:Bc t=true)(f:TreeOk t)(o:Bm t=true):
  Calls prog 131 #[v] w fun e w'=>∃g,w.heap.size<=g/\e=rM (.tuple #[rD (some ⟨g,0,rJ⟩) t.length t.length,rE rH 0])/\AllR w' g t.length (fun y=>some (Dg (nd t) y))/\Below w.heap.size w w':=by
 have D:=Zbm v t w h u f;rw[o]at D;have J:=Hd D;obtain⟨l,N⟩:Ao t.length≠0/\Ax t=true:=by
  rw[Bm,cK,cK]at o;exact⟨oD o.1,o.2.1⟩
 obtain⟨d,V,P,L⟩:=Ch l;have k:=Bb u;have H:0<2^d:=Nat.pos_of_ne_zero (by simp);have p:IsLev (2^d-1) d:=by
  unfold IsLev;exact aT (by have:2^(d+1)=2*2^d:=(by rw[aN];omega);omega)
 have r:=fun(W:World) (g:Nat) (T:Below w.heap.size w W) (S:w.heap.size<=g) (E:AllR W g t.length (fun _=>none))=>Zjd t u f N d (2^d-1) g v W _ (h.g T S) E p (by omega);have q:=fun(W:World) (g:Nat) (E:AllR W g t.length (Lc (nd t) (fun _=>none) d (2^d-1)))=>E.congr (F':=fun y=>some (Dg (nd t) y)) (fun y Y=>by
  unfold Lc Dg;rw[iP ⟨by omega,by omega⟩])
 obtain⟨a,c,rfl,Q,R⟩:=h.sl;obtain⟨n,M⟩:=eX t.length;rw[<-M]at L k Q r q J|-;obtain⟨x,hx⟩:=eX (2^d-1);rw[<-hx]at r q;have X:(n:Int)/2=(x:Int):=(by omega);have C:=Zfo (n:=n) (by omega);have j:=Hd (fun(W:World)=>Zfp W n);obtain⟨Z,K⟩:=eX (madeCells (Value.slice none 0 0).cells (n*1));rw[<-K]at C j;have B:=Hd r;have A:=Hd q;clear hx K D h u f o l N P L p r q M H;go_in;go_wp2_with fail;refine(J.out).mono ?_;rintro e U ⟨rfl,G⟩;have s:=Hd G;have i:=G.size;clear G;go_wp2_with fail;refine(B.out _ _ (s.out.alloc s.out.size _) i (j.out U)).mono ?_;rintro e w2 ⟨v2,rfl,I,F,b,m⟩;have O:=Hd (A.out _ _ b);have z:=Hd ((s.out.alloc s.out.size (.cells Z 28)).trans (m.1.mono i));clear I F b m;go_wp2_with fail;go_ret2;exact⟨_,i,rfl,O.out,z.out⟩
end Go.Proofs.YtfofaiommeckbaaGreat
namespace Go.Proofs.YtfofaiommeckbaaGreat
open Go.RowKit Go.Maps WalkM WireM
theorem Zfq (g:Nat)(b d n A x:Nat)(x0 x1 x2 x3 x4 x5 x6 x7 x8 x9:Value)(w:World)(t:w.cell? ⟨g,0,rJ⟩=some (rD (some ⟨b,d,rJ⟩) n A))(hx:x<n)(y:w.rangeAt b (d+x*10) [x0,x1,x2,x3,x4,x5,x6,x7,x8,x9])(j:(#[x0,x1,x2,x3,x4,x5,x6,x7,x8,x9]:Array Value).toList.all (·.oneCell')=true):
  Calls prog 134 #[rE rG (x:Nat),rF (some ⟨g,0,rJ⟩)] w fun e w'=>e=rM (.tuple #[.agg #[x0,x1,x2,x3,x4,x5,x6,x7,x8,x9],.bool true])/\Below w.heap.size w w':=by
 have E:(x:Int)<(n:Int):=(by omega);have r:=Hd y;have m:=Hd j;have B:=Hd t;have u:g<w.heap.size:=World.block_lt_of_cell? w _ t;have s:b<w.heap.size:=World.block_lt_of_cell? w _ (y 0 x0 rfl);obtain⟨z,c⟩:=eX (w.alloc (rK #[rE rH 0,rD rJ 0 0,rD rJ 0 0,rD rJ 0 0,rE rH 0,rD rJ 0 0,rD rJ 0 0,rD rJ 0 0,rD rJ 0 0,rD rJ 0 0] 52));have a:=Hd (show Below w.heap.size w z from by rw[c];exact bR.alloc lR _);have l:=Hd (show Blk z w.heap.size 52 #[rE rH 0,rD rJ 0 0,rD rJ 0 0,rD rJ 0 0,rE rH 0,rD rJ 0 0,rD rJ 0 0,rD rJ 0 0,rD rJ 0 0,rD rJ 0 0]from by rw[c];exact Blk.new _ _ _);have D:z.cell? ⟨g,0,rJ⟩=some (rD (some ⟨b,d,rJ⟩) n A):=(a.out.cell (p:=⟨g,0,rJ⟩) u).trans B.out;have f:=Hd (Am r.out a.out s);rw[c]at l f D a;clear y j t c;go_in;go_wp2_with (first|(refine wpList_load_mid rfl 52 (.tmp 7) rfl b (d+x*10) rfl [x0,x1,x2,x3,x4,x5,x6,x7,x8,x9] _ f.out underlying52 rfl Ai ?_)|(refine Aa rfl 52 (.tmp 3) (.tmp 8) rfl w.heap.size #[x0,x1,x2,x3,x4,x5,x6,x7,x8,x9] rfl rfl 52 #[rE rH 0,rD rJ 0 0,rD rJ 0 0,rD rJ 0 0,rE rH 0,rD rJ 0 0,rD rJ 0 0,rD rJ 0 0,rD rJ 0 0,rD rJ 0 0] l.out (by kernel_rfl) rfl m.out ?_));rintro F i h o k;have C:=Hd i;have q:=Hd (a.out.trans (h w.heap.size lR));clear i h o k;go_wp2_with fail;exact bodyPost_ret (v:=.tuple #[.agg #[x0,x1,x2,x3,x4,x5,x6,x7,x8,x9],.bool true]) (Ad results134 _ _ w.heap.size _ _ _ rfl C.out underlying52 rfl (by kernel_rfl)) rfl ⟨rfl,q.out⟩
end Go.Proofs.YtfofaiommeckbaaGreat
namespace Go.Proofs.YtfofaiommeckbaaGreat
open Go.RowKit ShaM WireM
theorem Zcb (v:Value)(L:List Nat)(w:World)(h:Rd w v (bvs L))(i:∀x∈L,x<256)(j:L.length<=1000000):
  Calls prog 85 #[v] w fun e w'=>∃v',e=rM v'/\Own w' w.heap.size 5 v' (bvs (shaF L))/\Below w.heap.size w w':=by
 have n:=Hd (Zc5 w);have RS:=Hd (fun(W:World) (p:Below w.heap.size w W) (k l:Value) (o:Rd W k (qvs HL0)) (hk:Rd W l (qvs KL))=>Zi9 v k l L W (h.below p lR) o hk i j);clear h i j;go_in;go_wp2_with fail;refine(n.out).mono ?_;rintro e s ⟨q,r,rfl,g,h2,f⟩;have C:=Hd (RS.out s f q r g h2);have c:=Hd f;clear g h2 f;go_wp2_with fail;refine(C.out).mono ?_;rintro e u ⟨t,rfl,a,b⟩;have m:=Hd a;have d:=Hd (c.out.trans (b.mono c.out.size));clear a b;go_wp2_with fail;go_ret;exact⟨_,rfl,m.out.mono c.out.size,d.out⟩
open WalkM
theorem Zag (t:List NodeD)(g:List Int)(z:Bc t=true)(q:TreeOk t)(k:Nat)(u:Zh t g k):Zeq t g k:=by
 intro x v E w h m f hx;have C:=Hd (u x v E w h m f hx);have y:=Nq (Nr z g) k x;have i:=Ns (woD t g) (Zmr q g) (Nr z g) k x;have r:=Hd (Hi (woD t g) k x);obtain⟨s,j⟩:=eX (Lb (woD t g) k x);rw[<-j]at C y i r;rw[r.out];have A:=Hd (show s.length<=1000000 by omega);have p:=Hd i;obtain⟨G,H,I,rfl⟩:∃a b c,v=.slice a b c:=(by obtain⟨a,c,e,_⟩:=h.sl;exact⟨_,_,_,e⟩);clear y i j h m f hx u;go_in;go_wp2_with fail;refine(C.out).mono ?_;rintro e F ⟨J,rfl,d,l⟩;have D:=Hd d.rd;have n:=Hd l;clear d l;go_wp2_with fail;refine(Zcb _ s F D.out p.out A.out).mono ?_;rintro e L ⟨K,rfl,d,l⟩;have B:=Hd (d.mono n.out.size);have o:=Hd (n.out.trans (l.mono n.out.size));clear d l;go_wp2_with fail;go_ret;exact⟨_,rfl,B.out,o.out⟩
theorem Zfr (t:List NodeD)(ps:List Int)(hs:Bc t=true)(hok:TreeOk t)(hp:Ax t=true):∀k,Zh t ps k/\Zeq t ps k:=by
 intro k
 induction k with
 |zero=>have h:=Zbu t ps hs hok hp;exact⟨h,Zag t ps hs hok 0 h⟩
 |succ k ih=>have h:=Zbv t ps hs hok hp k ih.2;exact⟨h,Zag t ps hs hok (k+1) h⟩
theorem Zcc (t:List NodeD)(k:Bc t=true)(b:TreeOk t)(f:Bm t=true)(x:Nat)(hx:x<t.length)(v i:Value)(g:List Int)(w:World)(h:TreeR w v t)(m:Rd w i (ivs .i64 g)):
  Calls prog 76 #[v,rE rG (x:Nat),i] w fun e w'=>∃v',e=rM v'/\Own w' w.heap.size 5 v' (bvs (Dg (woD t g) x))/\Below w.heap.size w w':=by
 obtain⟨a,c⟩:Ao t.length≠0/\Ax t=true:=by
  rw[Bm,cK,cK]at f;exact⟨oD f.1,f.2.1⟩
 obtain⟨d,l,n,o⟩:=Ch a;have j:=Bb k;have e:2^(d+1)=2*2^d:=(by rw[aN];omega);exact(Zfr t g k b c (lev x)).2 x v i w h m (lev_is (by omega)) (by have:=Mq (x:=x) (d:=d) (by omega) l;omega)
end Go.Proofs.YtfofaiommeckbaaGreat
namespace Go.Proofs.YtfofaiommeckbaaGreat
open Go.RowKit WalkM WireM ShaM
theorem Zfs {t:List NodeD}(b:Bm t=true) {x:Nat}(hx:x<t.length):∀u∈(nd t x).par.late,∃m:Nat,u=(m:Int)/\2*m<t.length:=by
 rw[Bm,cK,cK,cK]at b;obtain⟨e,i,_,h⟩:=b;obtain⟨d,j,g,a⟩:=Ch (oD e);intro u c;obtain⟨h2,m,rfl,k⟩:=Hg i hx c;have f:=If (Ig h x hx) _ c;refine⟨m,rfl,?_⟩;have:=f.1;rw[g]at this;omega
theorem Sh {w:World} {v:Value} {OL:List Nat}(h:Rd w v (ivs .i64 (OL.map fun m:Nat=>(m:Int)))):∃a c,v=.slice a OL.length c/\∀r,r<OL.length->∃b o,a=some ⟨b,o,rJ⟩/\b<w.heap.size/\w.cell? ⟨b,o+r,rJ⟩=some (rE rG ((OL.getD r 0:Nat):Int)):=by
 obtain⟨a,n,c,rfl⟩:∃a n c,v=.slice a n c:=(by obtain⟨a,c,e,-⟩:=h;exact⟨_,_,_,e⟩);obtain rfl:n=OL.length:=by
  obtain⟨f,g,e,-⟩:=h;cases e;simp[ivs]
 refine⟨a,c,rfl,fun r d=>h.at3 ?_⟩;rw[Zr (by simpa using d)]
 congr 3
 simp[aE,d]
def Fr (t:List NodeD)(M i:Nat)(OL SL:List Nat):SparseD:=⟨(M:Int),(i:Int),OL.map fun m:Nat=>((m:Int),nd t m),SL.map fun m:Nat=>((m:Int),Dg (nd t) m)⟩
end Go.Proofs.YtfofaiommeckbaaGreat
namespace Go.Proofs.YtfofaiommeckbaaGreat
open Go.RowKit WalkM WireM
theorem NodeO.keep2 {w w':World} {B:Nat} {d:NodeD} {c:Array Value}(h:NodeO w B d c)(hk:∀e v xs,e=5\/e=3->Own w B e v xs->Own w' B e v xs):NodeO w' B d c:=by
 obtain⟨x0,x1,x2,x3,x4,u0,u1,u2,rfl,a,b,h2,h3,f,g,i,j⟩:=h;exact⟨x0,x1,x2,x3,x4,u0,u1,u2,rfl,hk _ _ _ (.inl rfl) a,hk _ _ _ (.inl rfl) b,hk _ _ _ (.inl rfl) h2,hk _ _ _ (.inl rfl) h3,hk _ _ _ (.inl rfl) f,hk _ _ _ (.inl rfl) g,hk _ _ _ (.inl rfl) i,hk _ _ _ (.inr rfl) j⟩
theorem NodeO.stepQ {V:Value} {B B':Nat} {X Y:World} {d:NodeD} {c:Array Value}(hs:StepO V B X Y)(k:NodeO X B' d c)(hV:∀g,V.ownBlock=some g->g<B'):NodeO Y B' d c:=k.keep2 fun _ _ _ _ hu=>hs.own hu hV
theorem NodeO.onlyQ {w w':World} {B C:Nat} {d:NodeD} {c:Array Value}(k:NodeO w B d c)(hb:Only C w w')(hC:C<B):NodeO w' B d c:=k.keep2 fun e v xs _ hu=>OwnK.onlyQ (show OwnK w B e 1 v xs.length xs from hu) hb hC
theorem NodeO.cutQ {w X:World} {V:Value} {q B B' k n:Nat} {T:TypeId} {i:List Value} {d:NodeD} {c:Array Value}(h:CutS w V q X)(o:NodeO w B d c)(b:q<B)(f:OwnK w B' T k V n i)(j:5≠T)(h2:3≠T):NodeO X B d c:=
 o.keep2 fun e v xs g a=>CutS.ownK (k:=1) h a b (OwnK.apartK (k:=1) a f (by rcases g with rfl|rfl<;>assumption))
theorem Si {w:World} {a:Option Addr} {n c:Nat} {OL:List Nat}(h:Rd w (rD a n c) (ivs .i64 (OL.map fun m:Nat=>(m:Int)))) {r:Nat}(d:r<OL.length):∃b o,a=some ⟨b,o,rJ⟩/\b<w.heap.size/\w.cell? ⟨b,o+r,rJ⟩=some (rE rG ((OL.getD r 0:Nat):Int)):=by
 refine h.at3 ?_;rw[Zr (by simpa using d)]
 congr 3
 simp[aE,d]
theorem Zcd {W:World} {B:Nat} {V:Value} {D:Nat->NodeD} {OL:List Nat} {CF:Nat->Array Value} (c:∀k,k<OL.length->NodeC W (D (OL.getD k 0)) (CF k))
  (f:OwnK W B 87 11 V OL.length ((aC OL.length).flatMap fun k=> rE rG ((OL.getD k 0:Nat):Int)::(CF k).toList)):SpotsR W V (OL.map fun m:Nat=>((m:Int),D m)):=by
 have d:(OL.map fun m:Nat=>((m:Int),D m)).length=OL.length:=(by simp);have b:∀i,i<OL.length->spt (OL.map fun m:Nat=>((m:Int),D m)) i=(((OL.getD i 0:Nat):Int),D (OL.getD i 0)):=fun i a=>(by simp[spt,aE,a]);refine Zi1 (B:=B) (C:=fun i=>if i<OL.length then CF i else#[rE rH 0,rD rJ 0 0,rD rJ 0 0,rD rJ 0 0,rE rH 0,rD rJ 0 0,rD rJ 0 0,rD rJ 0 0,rD rJ 0 0,rD rJ 0 0]) (fun i=> ?_) (fun i a=> ?_) ?_
 ·split
  ·rename_i a;exact(c _ a).size
  ·rfl
 ·rw[d]at a;rw[b i a,iP a];exact c i a
 ·rw[d];have e:(aC OL.length).flatMap (Gm (OL.map fun m:Nat=>((m:Int),D m)) fun i=>if i<OL.length then CF i else#[rE rH 0,rD rJ 0 0,rD rJ 0 0,rD rJ 0 0,rE rH 0,rD rJ 0 0,rD rJ 0 0,rD rJ 0 0,rD rJ 0 0,rD rJ 0 0])=(aC OL.length).flatMap fun k=> rE rG ((OL.getD k 0:Nat):Int)::(CF k).toList:=by
   rw[gY,gY]
   congr 1
   refine iK fun i a=> ?_;have a:=List.mem_range.1 a;rw[Gm,b i a,iP a]
  rw[e];exact f
theorem Zce {W:World} {B:Nat} {V:Value} {H:Nat->List Nat} {SL:List Nat} {U:Nat->Value} (d:∀j,j<SL.length->Own W B 5 (U j) (bvs (H (SL.getD j 0))))
  (f:OwnK W B 89 2 V SL.length ((aC SL.length).flatMap fun j=>[rE rG ((SL.getD j 0:Nat):Int),U j])):StubsR W V (SL.map fun m:Nat=>((m:Int),H m)):=by
 have c:(SL.map fun m:Nat=>((m:Int),H m)).length=SL.length:=(by simp);have b:∀i,i<SL.length->stb (SL.map fun m:Nat=>((m:Int),H m)) i=(((SL.getD i 0:Nat):Int),H (SL.getD i 0)):=fun i a=>(by simp[stb,aE,a]);refine Zi2 (B:=B) (U:=U) (fun i a=> ?_) ?_
 ·rw[c]at a;rw[b i a];exact(d i a).rd
 ·rw[c];have e:(aC SL.length).flatMap (Ke (SL.map fun m:Nat=>((m:Int),H m)) U)=(aC SL.length).flatMap fun j=>[rE rG ((SL.getD j 0:Nat):Int),U j]:=by
   rw[gY,gY]
   congr 1
   refine iK fun i a=> ?_;have a:=List.mem_range.1 a;rw[Ke,b i a]
  rw[e];exact f
open Go.Maps
def atT (t:List NodeD)(x:Nat):Option NodeD:=if x<t.length then some (nd t x)else none
def GF (OL:List Nat)(val:Nat->Value)(r:Nat)(y:Int):Option Value:=if y∈(OL.take r).map (fun m:Nat=>(m:Int))then some (val y.toNat)else none
theorem Zft (OL:List Nat)(val:Nat->Value):GF OL val 0=fun _=>none:=by
 funext y;unfold GF;rw[List.take_zero,iL,iN (by simp)]
theorem Zfu {OL:List Nat} {val:Nat->Value} {r:Nat}(h:r<OL.length):(fun y:Int=>if y=((OL.getD r 0:Nat):Int)then some (val (OL.getD r 0))else GF OL val r y)=GF OL val (r+1):=by
 have e:OL.getD r 0=OL[r]:=by rw[aE,aF h];rfl
 funext y
 unfold GF;rw[List.take_succ_eq_append_getElem h,eG,e]
 by_cases hy:y=((OL[r]:Nat):Int)
 ·rw[iP hy,iP (by simp[hy]),hy,cD]
 ·rw[iN hy]
  by_cases h2:y∈(OL.take r).map (fun m:Nat=>(m:Int))
  ·rw[iP h2,iP (List.mem_append_left _ h2)]
  ·rw[iN h2,iN (fun h3=>by
    rw[List.mem_append]at h3;rcases h3 with h3|h3
    ·exact h2 h3
    ·exact hy (by simpa using h3))]
theorem Zfv {OL:List Nat} {val:Nat->Value}(h:OL.Pairwise (· < ·)):Dc (GF OL val OL.length) (OL.map fun m:Nat=>(m:Int)):=by
 refine⟨by rw[fU];exact h.imp fun h=>by omega,fun x=> ?_⟩;unfold GF;rw[dD]
 by_cases hx:x∈OL.map (fun m:Nat=>(m:Int))
 ·rw[iP hx];simp[hx]
 ·rw[iN hx];simp[hx]
theorem Zm3 {OL:List Nat} {val:Nat->Value} {x:Nat}(h:x∈OL):GF OL val OL.length ((x:Nat):Int)=some (val x):=by
 unfold GF;rw[dD,iP (List.mem_map.2 ⟨x,h,rfl⟩),cD]
theorem Zjf {w w':World} {g:Nat} {T:TypeId} {cs:Array Value} {u:Value} {L:List Nat}(h:Rd w u (bvs L))(o:Blk w g T cs)(f:∀z∈cs.toList,∀k:Int,z≠ rE rH k)(q:Only g w w'):Rd w' u (bvs L):=by
 obtain⟨a,cap,rfl,n,h2,h3⟩:=h;refine⟨a,cap,rfl,n,h2,?_⟩;rcases h3 with h3|⟨b,c,rfl,m⟩
 ·exact .inl h3
 ·cases L with
  |nil=>exact .inr ⟨b,c,rfl,fun j u l=>by simp[bvs]at l⟩
  |cons x L=>
   have d:=m 0 (rE rH (x:Nat)) (by simp[bvs]);have p:=World.block_lt_of_cell? w _ d;have i:b≠g:=by
    intro e;subst e;rw[o.cell]at d;exact f _ (Array.mem_toList_iff.2 (Array.mem_of_getElem? d)) x rfl
   refine .inr ⟨b,c,rfl,fun j u l=> ?_⟩;have:=m j u l;have e:=q.block b p (fun e=>i (by cases e;rfl));simp only[World.cell?]at this|-;rw[e];exact this
theorem Zfw (b:World)(c:Array Value)(M i:Nat)(a:Nat)(d:a=b.heap.size):
  MapF ((((b.alloc (.cells c 44)).alloc (.map #[] 0)).alloc (.map #[] 0)).alloc (rK #[rE rG (M:Nat),rE rG (i:Nat),.map (some (a+1)),.map (some (a+1+1))] 101)) (a+1) 0 (fun _=>none)/\
  MapF ((((b.alloc (.cells c 44)).alloc (.map #[] 0)).alloc (.map #[] 0)).alloc (rK #[rE rG (M:Nat),rE rG (i:Nat),.map (some (a+1)),.map (some (a+1+1))] 101)) (a+1+1) 0 (fun _=>none)/\
  Blk ((((b.alloc (.cells c 44)).alloc (.map #[] 0)).alloc (.map #[] 0)).alloc (rK #[rE rG (M:Nat),rE rG (i:Nat),.map (some (a+1)),.map (some (a+1+1))] 101)) (a+1+1+1) 101 #[rE rG (M:Nat),rE rG (i:Nat),.map (some (a+1)),.map (some (a+1+1))]/\
  Below a b ((((b.alloc (.cells c 44)).alloc (.map #[] 0)).alloc (.map #[] 0)).alloc (rK #[rE rG (M:Nat),rE rG (i:Nat),.map (some (a+1)),.map (some (a+1+1))] 101))/\
  ((((b.alloc (.cells c 44)).alloc (.map #[] 0)).alloc (.map #[] 0)).alloc (rK #[rE rG (M:Nat),rE rG (i:Nat),.map (some (a+1)),.map (some (a+1+1))] 101)).heap.size=a+1+1+1+1:=by
 subst d;refine⟨?_,?_,?_,?_,by simp⟩
 ·have:=((MapF.made (b.alloc (.cells c 44))).alloc (.map #[] 0)).alloc (rK #[rE rG (M:Nat),rE rG (i:Nat),.map (some (b.heap.size+1)),.map (some (b.heap.size+1+1))] 101);simpa using this
 ·have:=(MapF.made ((b.alloc (.cells c 44)).alloc (.map #[] 0))).alloc (rK #[rE rG (M:Nat),rE rG (i:Nat),.map (some (b.heap.size+1)),.map (some (b.heap.size+1+1))] 101);simpa using this
 ·have:=Blk.new (((b.alloc (.cells c 44)).alloc (.map #[] 0)).alloc (.map #[] 0)) 101 #[rE rG (M:Nat),rE rG (i:Nat),.map (some (b.heap.size+1)),.map (some (b.heap.size+1+1))];simpa using this
 ·exact(((bR.alloc lR _).alloc (by simp) _).alloc (by simp;omega) _).alloc (by simp;omega) _
theorem Zly (v:Value) (t:List NodeD) (hh m d:Nat) (only:Bool) (OL SL:List Nat) (w:World) (h:TreeR w v t) (hs:Bc t=true) (a7:TreeOk t) (hr:Bm t=true) (aR:t.length=2*hh+1) (dA:Ao t.length=hh+1) (hd:d<=16) (dM:hh+1=2^d) (Q:((m:Nat):Int)∈Ek t (hh+1))
  (eO:(Bf (atT t) m only d (2^d-1) 0 []).1=OL.map fun m:Nat=>(m:Int)) (eS:(Bf (atT t) m only d (2^d-1) 0 []).2.1=SL.map fun m:Nat=>(m:Int)) (dC:OL.Pairwise (· < ·)) (dD:SL.Pairwise (· < ·))
  (hO:∀x∈OL,x<t.length) (hS:∀x∈SL,x<t.length) (eQ:OL.length<=100000) (eT:SL.length<=100000):
  Calls prog 74 #[v,rE rG (m:Nat),.bool only] w fun e w'=>∃ob sb G G2,e=rM (.tuple #[.agg #[rE rG ((2^d:Nat):Int),rE rG (m:Nat),.map (some ob),.map (some sb)],rE rH 0])/\
   MapF w' ob OL.length G/\Dc G (OL.map fun m:Nat=>(m:Int))/\(∀x∈OL,∃c,G ((x:Nat):Int)=some (.agg c)/\NodeC w' (nd t x) c)/\MapF w' sb SL.length G2/\Dc G2 (SL.map fun m:Nat=>(m:Int))/\(∀x∈SL,∃u,G2 ((x:Nat):Int)=some u/\Rd w' u (bvs (Dg (nd t) x)))/\Below w.heap.size w w':=by
 have eI:=Bb hs;have e9:=((mem_iff t (hh+1) m).1 Q).1;obtain⟨a,cp,rfl,hc,eK⟩:=h.sl;obtain⟨b,s,-,rfl,bW,-,-⟩:=h.node (i:=0) (by omega);obtain⟨C0,cZ⟩:=Im (n:=t.length) (P:=fun i c=>NodeC w (nd t i) c/\w.rangeAt b (s+i*10) c.toList) fun i Q=>by
  obtain⟨b',off',c,h1,h2,h3,h4⟩:=h.node Q;cases h1;exact⟨c,h3,h4⟩
 obtain⟨C,a4⟩:∃C:Nat->Array Value,C=fun i=>if i<t.length then C0 i else#[rE rH 0,rD rJ 0 0,rD rJ 0 0,rD rJ 0 0,rE rH 0,rD rJ 0 0,rD rJ 0 0,rD rJ 0 0,rD rJ 0 0,rD rJ 0 0]:=⟨_,rfl⟩;have hC:∀i,i<t.length->NodeC w (nd t i) (C i)/\w.rangeAt b (s+i*10) (C i).toList:=fun i Q=>(by rw[a4];simp only[iP Q];exact cZ i Q);have R:∀i,∃c0 c1 c2 c3 c4 c5 c6 c7 c8 c9,C i=#[c0,c1,c2,c3,c4,c5,c6,c7,c8,c9]:=fun i=>by
  by_cases Q:i<t.length
  ·exact(hC i Q).1.ten
  ·rw[a4];simp only[iN Q];exact⟨_,_,_,_,_,_,_,_,_,_,rfl⟩
 have aU:∀i,(C i).toList.all (·.oneCell')=true:=fun i=>by
  by_cases Q:i<t.length
  ·exact(hC i Q).1.oneL
  ·rw[a4];simp only[iN Q];rfl
 have a5:∀x d,atT t x=some d->x<t.length/\d=nd t x:=fun x d hx=>by
  unfold atT at hx
  split at hx
  ·rename_i hx2;cases hx;exact⟨hx2,rfl⟩
  ·cases hx
 have cE:=Hd fun(W:World) (hw:Below w.heap.size w W)=>Zje _ t W (h.below hw lR) hs a7 hr;have cW:=Hd fun(W:World) (hw:Below w.heap.size w W)=>Zeo _ t hh m W (h.below hw lR) hs a7 hr aR dA Q;have aM:=Hd fun(g:Nat) (W:World) (hw:Below w.heap.size w W) (hg:W.cell? ⟨g,0,rJ⟩=some (rD (some ⟨b,s,rJ⟩) t.length cp))=>
  Ua 134 g (fun _ _=>rfl) (atT t) C W ⟨R,fun x d hx=>by
   obtain⟨h1,rfl⟩:=a5 x d hx;exact(hC x h1).1.below hw lR,aU,fun x d hx=>by
   obtain⟨h1,rfl⟩:=a5 x d hx;exact(a7.nd x).kind,fun x d hx=>by
   obtain⟨h1,rfl⟩:=a5 x d hx;have:=Ct hs x;unfold Cb at this;have:=oD this;refine⟨fun u hu=> ?_,by omega⟩;obtain⟨k,rfl,hk⟩:=Zfs hr h1 u hu
   omega⟩ d m only (by omega) hd fun x hx W' dY=>by
   have cB:x<t.length:=(by omega);obtain⟨x0,x1,x2,x3,x4,x5,x6,x7,x8,x9,he⟩:=R x;have dV:=(hC x cB).2;have dS:=aU x;rw[he]at dV dS|-;rw[show(atT t x).isSome=true from by unfold atT;rw[iP cB];rfl];have eM:g<W.heap.size:=World.block_lt_of_cell? W _ hg;exact Zfq g b s t.length cp x x0 x1 x2 x3 x4 x5 x6 x7 x8 x9 W' ((dY.cell (p:=⟨g,0,rJ⟩) eM).trans hg) cB (Am dV (hw.trans (dY.mono hw.size)) bW) dS
 rw[eO,eS]at aM;obtain⟨e4,bH⟩:=eX ((Bf (atT t) m only d (2^d-1) 0 []).2.2);rw[<-bH]at aM;obtain⟨M,hM⟩:=eX (2^d);rw[<-hM]at aM dM|-;obtain⟨n,hn⟩:=eX t.length;rw[<-hn]at cE cW aM hC hO hS eI aR|-;have e0:Int.tdiv ((n:Int)+1) 2=(M:Int):=(by rw[Int.tdiv_eq_ediv_of_nonneg (by omega)];omega);have e8:IntKind.i64.wrap (M:Int)=(M:Int):=(by rw[IntKind.wrap_i64]<;>omega);have e7:IntKind.i64.wrap ((n:Int)+1)=(n:Int)+1:=(by rw[IntKind.wrap_i64]<;>omega);have HC:=Hd hC;have cV:=Hd R;have HO:=Hd (show∀k,k<OL.length->OL.getD k 0<n from fun k hk=>hO _ (by rw[aE,aF hk];exact aG hk));have HS:=Hd (show∀k,k<SL.length->SL.getD k 0<n from fun k hk=>hS _ (by rw[aE,aF hk];exact aG hk));have d7:=Hd hO;have eA:=Hd hS;have bN:=Hd (Zfv (val:=fun x=> .agg (C x)) dC);have d3:=Hd dD;obtain⟨N,hN⟩:=eX w.heap.size;have HN:=Hd hN;clear cZ a4 hC R aU a5 hO hS dC dD eO eS bH hn h hs a7 hr dA Q aR hc eK hM dM;go_in;go_wp2_with fail;obtain⟨w2,aX⟩:=eX ((w.alloc (rK #[rD (some ⟨b,s,rJ⟩) n cp] 55)).alloc (rK #[rE rG 0,rE rG 0,.map none,.map none] 101));have bL:=Hd (show Below w.heap.size w w2 from by rw[aX];exact(bR.alloc lR _).alloc (by simp) _);have aC:=Hd (show Blk w2 N 55 #[rD (some ⟨b,s,rJ⟩) n cp]from by rw[aX,hN];exact(Blk.new _ _ _).alloc _);have Z:=Hd (show Blk w2 (N+1) 101 #[rE rG 0,rE rG 0,.map none,.map none]from by
  rw[aX,hN];have:=Blk.new (w.alloc (rK #[rD (some ⟨b,s,rJ⟩) n cp] 55)) 101 #[rE rG 0,rE rG 0,.map none,.map none];simpa using this)
 rw[<-aX,<-hN];clear aX hN;refine(cE.out _ bL.out).mono ?_;rintro e w3 ⟨ga,eL,rfl,aP,a6⟩;have aZ:=Hd (bL.out.trans (a6.mono bL.out.size));have aD:=Hd (aC.out.below a6 aC.out.lt);have a9:=Hd (Z.out.below a6 Z.out.lt);obtain⟨U,hU⟩:=Im (n:=n) (P:=fun y u=>w3.cell? ⟨ga,y,rJ⟩=some u/\Rd w3 u (bvs (Dg (nd t) y))) fun y hy=>by
  obtain⟨u,h1,h2,-⟩:=aP.row hy rfl;exact⟨u,h1,h2⟩
 have cQ:=Hd (show ga<w3.heap.size from aP.lt);have HU:=Hd hU;have c0:w3.cell? ⟨N,0,rJ⟩=some (rD (some ⟨b,s,rJ⟩) n cp):=aD.out.cell 0;clear a6 eL aP hU aC Z;go_wp2_with fail;clear c0;refine(cW.out _ aZ.out).mono ?_;rintro e w4 ⟨c6,rfl,eP,aQ⟩;have cH:=Hd (aZ.out.trans (aQ.mono aZ.out.size));have V:=Hd aQ;have aH:=Hd (aD.out.below aQ aD.out.lt);have aA:=Hd (a9.out.below aQ a9.out.lt);obtain⟨y1,z1,y2,z2,y3,z3,y4,z4,y5,z5,rfl,-⟩:=eP;have k1:(w4.alloc (rK #[.slice y1 (nd t (2*m)).leaf.box.length z1,.slice y2 (nd t (2*m)).leaf.sign.length z2,.slice y3 (nd t (2*m)).leaf.ident.length z3,rE rH ((nd t (2*m)).leaf.source:Nat),.slice y4 (nd t (2*m)).leaf.par.length z4,.slice y5 (nd t (2*m)).leaf.sig.length z5] 44)).cell? ⟨N,0,rJ⟩=some (rD (some ⟨b,s,rJ⟩) n cp):=(aH.out.alloc _).cell 0;have eD:∀w,(Instr.makeMap 98 none).run prog w=.ok (.map (some w.heap.size)) (w.alloc (.map #[] 0)):=fun w=>rfl;have eE:∀w,(Instr.makeMap 99 none).run prog w=.ok (.map (some w.heap.size)) (w.alloc (.map #[] 0)):=fun w=>rfl;clear aQ;go_wp2_with fail;obtain⟨h0,H⟩:=eX w4.heap.size;have dX:=Zfw w4 #[.slice y1 (nd t (2*m)).leaf.box.length z1,.slice y2 (nd t (2*m)).leaf.sign.length z2,.slice y3 (nd t (2*m)).leaf.ident.length z3,rE rH ((nd t (2*m)).leaf.source:Nat),.slice y4 (nd t (2*m)).leaf.par.length z4,.slice y5 (nd t (2*m)).leaf.sig.length z5] M m h0 H;rw[<-H];generalize hw7:((((w4.alloc (rK #[.slice y1 (nd t (2*m)).leaf.box.length z1,.slice y2 (nd t (2*m)).leaf.sign.length z2,.slice y3 (nd t (2*m)).leaf.ident.length z3,rE rH ((nd t (2*m)).leaf.source:Nat),.slice y4 (nd t (2*m)).leaf.par.length z4,.slice y5 (nd t (2*m)).leaf.sig.length z5] 44)).alloc (.map #[] 0)).alloc (.map #[] 0)).alloc (rK #[rE rG (M:Nat),rE rG (m:Nat),.map (some (h0+1)),.map (some (h0+1+1))] 101))=w7 at dX|-;obtain⟨m1,m2,m3,m4,m5⟩:=dX;have HH:=Hd H;have a0:=Hd (cH.out.trans (m4.mono (by rw[H];exact cH.out.size)));have J:=Hd (aH.out.below m4 (by rw[H];exact aH.out.lt));have aB:=Hd (aA.out.below m4 (by rw[H];exact aA.out.lt));have cI:=Hd m4;have aI:=Hd m1;have aJ:=Hd m2;have L:=Hd m3;have E:=Hd m5;obtain⟨pv,a8⟩:=eX (h0+1+1+1);obtain⟨sb,aV⟩:=eX (h0+1+1);obtain⟨ob,aT⟩:=eX (h0+1);rw[<-a8,<-aV,<-aT]at L;rw[<-aV]at aJ;rw[<-aT]at aI;rw[<-a8,<-aV,<-aT];have HI:=Hd (And.intro a8 (And.intro aV aT));have dB:N+1<w4.heap.size:=aA.out.lt;have bS:=Hd (show N+1<h0 from by rw[H];exact dB);clear hw7 m1 m2 m3 m4 m5 k1 eD eE H a8 aV aT dB;refine(aM.out N w7 a0.out (J.out.cell 0)).mono ?_;rintro e w8 ⟨vo,vs,rfl,b7,b8,D⟩;obtain⟨a1,c1,rfl,-⟩:=Sh b7.rd;obtain⟨a2,c2,rfl,-⟩:=Sh b8.rd;have O:=Hd b7;have aO:=Hd b8;have bC:=Hd (aI.out.below D lR);have bD:=Hd (aJ.out.below D lR);have aN:=Hd (L.out.below D L.out.lt);have bB:=Hd (J.out.below D J.out.lt);have bA:=Hd (aB.out.below D aB.out.lt);have bM:=Hd (a0.out.trans (D.mono a0.out.size));have cG:=Hd (show Below w3.heap.size w3 w8 from by
  have h1:=V.out.trans (cI.out.mono (by rw[HH.out];exact V.out.size));exact h1.trans (D.mono h1.size))
 have bE:=Hd D.size;have H3:=Hd (show w3.heap.size<=h0 from by rw[HH.out];exact V.out.size);have bU:=Hd (show w.heap.size<=h0 from eN aZ.out.size H3.out);obtain⟨no,b4⟩:=eX OL.length;obtain⟨T,b5⟩:=eX SL.length;rw[<-b4]at O HO eQ bN|-;rw[<-b5]at aO HS eT|-;have a3:=Hd b4;have aK:=Hd b5;clear b7 b8 D b4 b5 L J aB aI aJ a0;go_wp2_with fail;obtain⟨val,aW⟩:∃val:Nat->Value,val=fun x=> .agg (C x):=⟨_,rfl⟩;have bF:=Hd (show∀x,val x=.agg (C x)from fun x=>by rw[aW]);rw[<-aW]at bN;clear aW
 go_loopg [58] no (fun gk iv wr=>∃(r:Nat),r+gk=no/\iv=rE rG (r:Nat)/\MapF wr ob r (GF OL val r)/\Only ob w8 wr)
 case atStart=>exact⟨0,by omega,rfl,by rw[Zft];exact bC.out,Only.refl _ _⟩
 case round=>
  obtain⟨r,hr,rfl,o,j⟩:=hrel;have HR:=Hd hr;have HM:=Hd o;have l:=Hd j;clear hr o j;obtain⟨e1,e2,e3⟩:=HI.out;have h8:=bE.out;rw[E.out]at h8;have aS:=bS.out;have I:=Hd (aN.out.grownR l.out (by omega));have bP:=Hd (bB.out.grownR l.out (by omega));have cX:=Hd (O.out.grown l.out (fun g hg e=>by have:=(O.out.blockLt hg).2;rw[E.out]at this;cases e;omega));have A:=Hd (Only.below l.out (eR ob) (by omega));have cM:=Hd (show b<wr.heap.size from bO bW (eN bM.out.size A.out.size));have cN:=Hd (show b<ob from by have:=bU.out;omega);clear e1 e2 e3 h8 aS
  by_cases hlt:r<no
  ·have dN:decide (r<no)=true:=dT hlt;have dR:(r:Int)<(no:Int):=(by omega);obtain⟨b1,o1,rfl,dE,cx⟩:=Si cX.out.rd (show r<OL.length from by rw[<-a3.out];exact hlt);have hx:=HO.out r hlt;have S:=Hd (Zfu (val:=val) (show r<OL.length from by rw[<-a3.out];exact hlt));obtain⟨x,aY⟩:=eX (OL.getD r 0);rw[<-aY]at cx hx S;have eW:(x:Int)<(n:Int):=(by omega);obtain⟨eU,b6⟩:=HC.out x hx;obtain⟨x0,x1,x2,x3,x4,x5,x6,x7,x8,x9,b0⟩:=cV.out x;rw[bF.out,b0]at S;rw[b0]at b6;have d8:=Hd (Am (Am b6 bM.out bW) A.out cN.out);have bV:=Hd (show inI (x:Int)from by unfold inI;omega);have bT:=Hd (show r<=100000 from by omega);clear aY eU b6 b0 dE;go_wp2_with fail;refine Au [eF (rF (some ⟨pv,2,rJ⟩)),eF (.map (some ob)),eF (rE rG (x:Nat)),eF (rD (some ⟨b,s,rJ⟩) n cp),eF (rE rG (x:Nat)),eF (rF (some ⟨b,s+x*10,rJ⟩)),eF (.agg #[x0,x1,x2,x3,x4,x5,x6,x7,x8,x9]),fun v w'=>MapF w' ob (r+1) (fun y=>if y=((x:Nat):Int)then some (.agg #[x0,x1,x2,x3,x4,x5,x6,x7,x8,x9])else GF OL val r y)/\Only ob wr w']
    ((cJ 8 false).set 7 true) (fun x=>Below wr.heap.size wr x) (fun x y=>Below x.heap.size x y) none 7 (by kernel_rfl) ?_ (⟨rfl,rfl,rfl,lR,fun _ _=>rfl⟩) (fun x y _ h=>h) (fun x y hx hs=>hx.trans (hs.mono hx.size)) (by kernel_rfl) (by kernel_rfl) (by kernel_rfl) ?_ ?_
   ·exact kE (kE (kE (kE (kE (kE (kE (Ag (fun _ _ _ _ _ _=>trivial) (Ae))))))))
   ·refine On (by kernel_rfl) ?_ rfl (On (by kernel_rfl) ?_ rfl (On (by kernel_rfl) ?_ rfl (On (by kernel_rfl) ?_ rfl (On (by kernel_rfl) ?_ rfl (On (by kernel_rfl) ?_ rfl (Oq (by kernel_rfl) ?_ (Oq (by kernel_rfl) ?_ .nil)))))));all_goals
     intro a wx q eJ ho hf;have q:Below wr.heap.size wr wx:=q;refine⟨rfl,?_⟩;intro K hK;try have e5:a.tmps[3]?.getD undef=rF (some ⟨N,0,rJ⟩):=ho 3 (by kernel_rfl)
     try have cY:a.tmps[12]?.getD undef=rF (some ⟨pv,0,rJ⟩):=ho 12 (by kernel_rfl)
     try have eY:a.tmps[17]?.getD undef=rE rG (x:Nat):=ho 17 (by kernel_rfl)
     try have cD:=eqn hf.1
     try have d0:=eqn hf.2.1
     try have d1:=eqn hf.2.2.1
     try(have bJ:=(q.cell (p:=⟨pv,2,rJ⟩) I.out.lt).trans (I.out.cell 2);simp only[bY,bZ,cA]at bJ)
     try(have cC:=(q.cell (p:=⟨N,0,rJ⟩) bP.out.lt).trans (bP.out.cell 0);simp only[bY,bZ]at cC)
     try have bK:=HM.out.below q lR
     try(refine Hd ?_;go_simp;exact hK _ rfl)
    ·exact wp_load_mid 52 (.tmp 67) rfl b (s+x*10) (evs cD) _ _ (Am d8.out q cM.out) underlying52 rfl (Ai) (hK _ _ rfl (fun _=>Af rfl bR))
    ·obtain⟨w',dW,o,b3⟩:=bK.run_put underlying98 bV.out (by have:=bT.out;unfold maxLen;omega) (.agg #[x0,x1,x2,x3,x4,x5,x6,x7,x8,x9]);have j:=(Only.of (B:=ob) q).trans b3;go_simp;exact hK undef _ ⟨o,j⟩ (fun h=>absurd rfl h)
   ·rintro f w9 F;have eG:MapF w9 ob (r+1) (fun y=>if y=((x:Nat):Int)then some (.agg #[x0,x1,x2,x3,x4,x5,x6,x7,x8,x9])else GF OL val r y)/\Only ob wr w9:=F.2.2.2.2.2.2.2.1;clear F;simp only[Ak,At,Ei,dG,dH,dJ,dK,Nat.reduceBEq,Nat.reduceAdd,dO,dP,cond_true,cond_false];obtain⟨o,j⟩:=eG;rw[S.out]at o;have bQ:=Hd o;have aL:=Hd (l.out.trans j);clear o j;go_wp2_with fail;go_roundg (gk-1);case measure=>have:=HR.out;omega
    case rel=>exact⟨r+1,by have:=HR.out;omega,by go_num,bQ.out,aL.out⟩
  ·obtain rfl:no=r:=(by have:=HR.out;omega);have dN:decide (no<no)=false:=dF hlt;clear hlt;go_wp2_with fail;obtain⟨w5,dZ⟩:=eX wr;rw[<-dZ]at HM l A|-;clear I bP cX cM cN;obtain⟨e1,e2,e3⟩:=HI.out;have h8:=bE.out;rw[E.out]at h8;have aS:=bS.out;have h3:=H3.out;have b9:=bU.out;have d5:=Hd HM.out;have cT:=Hd (bD.out.grown l.out (fun e=>by cases e;omega));have cU:=Hd (aN.out.grownR l.out (by omega));have cS:=Hd (bA.out.grownR l.out (by omega));have bG:=Hd (aO.out.grown l.out (fun g hg e=>by have:=(aO.out.blockLt hg).2;rw[E.out]at this;cases e;omega));have cF:=Hd (cG.out.trans (A.out.mono (by omega)));have cO:=Hd (bM.out.trans (A.out.mono (by omega)));have d9:=Hd (show pv+1<=w5.heap.size from by have:=A.out.size;omega);clear dZ e1 e2 e3 h8 aS h3 b9 HM l A HR bC bD aN bB bA O;go_wp2_with fail
   go_loopg [72] T (fun gk iv wr=>∃(r:Nat),r+gk=T/\iv=rE rG (r:Nat)/\MapF wr sb r (GF SL U r)/\Only sb w5 wr)
   case atStart=>exact⟨0,by omega,rfl,by rw[Zft];exact cT.out,Only.refl _ _⟩
   case round=>
    obtain⟨r,hr,rfl,o,j⟩:=hrel;have HR:=Hd hr;have HM:=Hd o;have l:=Hd j;clear hr o j;obtain⟨e1,e2,e3⟩:=HI.out;have h5:=d9.out;have aS:=bS.out;have h3:=H3.out;have b9:=bU.out;have h7:w7.heap.size=pv+1:=(by rw[E.out];omega);have I:=Hd (cU.out.grownR l.out (by omega));have cR:=Hd (cS.out.grownR l.out (by omega));have eC:=Hd (bG.out.grown l.out (fun g hg e=>by have:=(bG.out.blockLt hg).2;cases e;omega));have A:=Hd (Only.below l.out (eR sb) (by omega));have X:=Hd (cF.out.trans (A.out.mono (by omega)));have cP:=Hd (cO.out.trans (A.out.mono (by omega)));have d6:=Hd (show ob≠sb/\ob≠N+1/\sb≠N+1 from by omega);clear e1 e2 e3 h5 aS h3 b9 h7
    by_cases hlt:r<T
    ·have dQ:decide (r<T)=true:=dT hlt;have dR:(r:Int)<(T:Int):=(by omega);obtain⟨b2,o2,rfl,dI,cx⟩:=Si eC.out.rd (show r<SL.length from by rw[<-aK.out];exact hlt);have hx:=HS.out r hlt;have S:=Hd (Zfu (val:=U) (show r<SL.length from by rw[<-aK.out];exact hlt));obtain⟨x,aY⟩:=eX (SL.getD r 0);rw[<-aY]at cx hx S;have eW:(x:Int)<(n:Int):=(by omega);have eB:=Hd ((X.out.cell (p:=⟨ga,x,rJ⟩) cQ.out).trans (HU.out x hx).1);have d2:=Hd (show ga<wr.heap.size from bO cQ.out X.out.size);have bV:=Hd (show inI (x:Int)from by unfold inI;omega);have bT:=Hd (show r<=100000 from by omega);clear aY dI;go_wp2_with fail;refine Au [eF (rF (some ⟨pv,3,rJ⟩)),eF (.map (some sb)),eF (rE rG (x:Nat)),eF (rD (some ⟨ga,0,rJ⟩) n n),eF (rE rG (x:Nat)),eF (rF (some ⟨ga,x,rJ⟩)),eF (U x),fun v w'=>MapF w' sb (r+1) (fun y=>if y=((x:Nat):Int)then some (U x)else GF SL U r y)/\Only sb wr w']
      ((cJ 8 false).set 7 true) (fun x=>Below wr.heap.size wr x) (fun x y=>Below x.heap.size x y) none 7 (by kernel_rfl) ?_ (⟨rfl,rfl,rfl,lR,fun _ _=>rfl⟩) (fun x y _ h=>h) (fun x y hx hs=>hx.trans (hs.mono hx.size)) (by kernel_rfl) (by kernel_rfl) (by kernel_rfl) ?_ ?_
     ·exact kE (kE (kE (kE (kE (kE (kE (Ag (fun _ _ _ _ _ _=>trivial) (Ae))))))))
     ·refine On (by kernel_rfl) ?_ rfl (On (by kernel_rfl) ?_ rfl (On (by kernel_rfl) ?_ rfl (On (by kernel_rfl) ?_ rfl (On (by kernel_rfl) ?_ rfl (On (by kernel_rfl) ?_ rfl (On (by kernel_rfl) ?_ rfl (Oq (by kernel_rfl) ?_ .nil)))))));all_goals
       intro a wx q eJ ho hf;have q:Below wr.heap.size wr wx:=q;refine⟨rfl,?_⟩;intro K hK;try have e6:a.tmps[8]?.getD undef=rD (some ⟨ga,0,rJ⟩) n n:=ho 8 (by kernel_rfl)
       try have cY:a.tmps[12]?.getD undef=rF (some ⟨pv,0,rJ⟩):=ho 12 (by kernel_rfl)
       try have eZ:a.tmps[19]?.getD undef=rE rG (x:Nat):=ho 19 (by kernel_rfl)
       try have cD:=eqn hf.1
       try have d0:=eqn hf.2.1
       try have d1:=eqn hf.2.2.1
       try(have bJ:=(q.cell (p:=⟨pv,3,rJ⟩) I.out.lt).trans (I.out.cell 3);simp only[bY,bZ,cA]at bJ)
       try have cC:=(q.cell (p:=⟨ga,x,rJ⟩) d2.out).trans eB.out
       try have bK:=HM.out.below q lR
       try(refine Hd ?_;go_simp;exact hK _ rfl)
      ·obtain⟨w',dW,o,b3⟩:=bK.run_put underlying99 bV.out (by have:=bT.out;unfold maxLen;omega) (U x);have j:=(Only.of (B:=sb) q).trans b3;go_simp;exact hK undef _ ⟨o,j⟩ (fun h=>absurd rfl h)
     ·rintro f w9 F;have eH:MapF w9 sb (r+1) (fun y=>if y=((x:Nat):Int)then some (U x)else GF SL U r y)/\Only sb wr w9:=F.2.2.2.2.2.2.2.1;clear F;simp only[Ak,At,Ei,dG,dH,dJ,dK,Nat.reduceBEq,Nat.reduceAdd,dO,dP,cond_true,cond_false];obtain⟨o,j⟩:=eH;rw[S.out]at o;have bQ:=Hd o;have aL:=Hd (l.out.trans j);clear o j;go_wp2_with fail;go_roundg (gk-1);case measure=>have:=HR.out;omega
      case rel=>exact⟨r+1,by have:=HR.out;omega,by go_num,bQ.out,aL.out⟩
    ·obtain rfl:T=r:=(by have:=HR.out;omega);have dQ:decide (T<T)=false:=dF hlt;clear hlt;go_wp2_with (first|(refine wpList_load_row rfl 101 (.tmp 12) rfl pv rfl 101 _ (0,0) _ I.out underlying101 rfl (by kernel_rfl) ?_)|(refine Aa rfl 101 (.tmp 6) (.tmp 84) rfl (N+1) #[rE rG (M:Nat),rE rG (m:Nat),.map (some ob),.map (some sb)] rfl rfl 101 _ cR.out (by kernel_rfl) rfl rfl ?_));rintro w9 bI bX dU eV;have j:Only (N+1) wr w9:=Only.storeQ bX dU;obtain⟨n1,n2,n3⟩:=d6.out;have dL:Below w.heap.size w w9:=cP.out.trans (bX _ (by rw[<-HN.out];exact gJ N));have Y:=Hd (show MapF w9 ob no (GF OL val no)/\MapF w9 sb T (GF SL U T)/\∀x∈SL,∃u,GF SL U T ((x:Nat):Int)=some u/\Rd w9 u (bvs (Dg (nd t) x))from by
      refine⟨(d5.out.grown l.out (fun e=>by cases e;omega)).grown j (fun e=>by cases e;omega),HM.out.grown j (fun e=>by cases e;omega),fun x hx=>⟨U x,by rw[aK.out];exact Zm3 hx,?_⟩⟩;refine Zjf ((HU.out x (eA.out x hx)).2.below X.out lR) cR.out (fun z hz k e=> ?_) j;simp at hz;rcases hz with rfl|rfl<;>cases e)
     have cL:=Hd bI;have cK:=Hd dL;have d4:=Hd (show Dc (GF SL U T) (SL.map fun m:Nat=>(m:Int))from by rw[aK.out];exact Zfv d3.out);clear bI bX dU eV j dL n1 n2 n3;go_wp2_with fail;refine bodyPost_ret (v:=.tuple #[.agg #[rE rG (M:Nat),rE rG (m:Nat),.map (some ob),.map (some sb)],rE rH 0]) (Ad results74 _ _ (N+1) _ _ _ rfl cL.out underlying101 rfl (by kernel_rfl)) rfl ?_;refine⟨ob,sb,GF OL val no,GF SL U T,rfl,by rw[<-a3.out];exact Y.out.1,bN.out,fun x hx=>⟨C x,?_,((HC.out x (d7.out x hx)).1.below cK.out lR)⟩,by rw[<-aK.out];exact Y.out.2.1,d4.out,Y.out.2.2,cK.out⟩;rw[a3.out,<-bF.out];exact Zm3 hx
theorem Zfx {α:Type} {U:Nat->α} {g:Nat->α->List Value}(r:Nat)(u: α):((aC (r+1)).flatMap fun k=>g k (if k<r then U k else u))=((aC r).flatMap fun k=>g k (U k))++g r u:=by
 rw[Od,iN (Nat.lt_irrefl r)]
 congr 1
 rw[gY,gY]
 congr 1
 exact iK fun k hk=>by rw[iP (List.mem_range.1 hk)]
theorem Qj (lv ow:Int) (ob sb n1 n2:Nat) (G G2:Int->Option Value) (R SO:List Nat) (D:Nat->NodeD) (H:Nat->List Nat) (w:World) (hm:MapF w ob n1 G) (b7:MapF w sb n2 G2) (d5:n1<=100000) (d6:n2<=100000)
  (cU:Dc G (R.map fun m:Nat=>(m:Int))) (cV:Dc G2 (SO.map fun m:Nat=>(m:Int))) (hD:∀m∈R,inI (m:Int)/\Cb (D m)=true/\∃c,G m=some (.agg c)/\NodeC w (D m) c)
  (hH:∀m∈SO,inI (m:Int)/\(H m).length<=1000000/\∃u,G2 m=some u/\Rd w u (bvs (H m))) (dU:R.length<=100000) (dW:SO.length<=100000):
  Calls prog 67 #[.agg #[rE rG lv,rE rG ow,.map (some ob),.map (some sb)]] w fun e w'=>∃v',e=rM v'/\SparseR w' v' ⟨lv,ow,R.map fun m:Nat=>((m:Int),D m),SO.map fun m:Nat=>((m:Int),H m)⟩/\Below w.heap.size w w'/\∀(g:Nat) (W:World),g<w.heap.size->Only g w' W->SparseR W v' ⟨lv,ow,R.map fun m:Nat=>((m:Int),D m),SO.map fun m:Nat=>((m:Int),H m)⟩:=by
 have cT:∀ {L:List Nat} {k:Nat},k<L.length->L.getD k 0∈L:=fun {L k} hk=>(by rw[aE,aF hk];exact aG hk);obtain⟨N,hN⟩:=eX w.heap.size;obtain⟨q,hq⟩:=eX (w.heap.size+2);have HN:=Hd hN;have HQ:=Hd hq;have dI:=Hd (show ob<w.heap.size from hm.lt);have dL:=Hd (show sb<w.heap.size from b7.lt);have cI:=Hd hm;have aW:=Hd b7;have dB:=Hd cU;have dC:=Hd cV;have HD:=Hd hD;have HH:=Hd hH;have cH:=Hd (show∀(L:List Nat) (k:Nat),k<L.length->L.getD k 0∈L from fun L k hk=>cT hk);clear hm b7 cU cV hD hH cT;go_in;go_wp2_with fail;obtain⟨w2,aQ⟩:=eX ((((w.alloc (rK #[rE rG lv,rE rG ow,.map (some ob),.map (some sb)] 101)).alloc (rK #[rE rG 0,rE rG 0,rD rJ 0 0,rD rJ 0 0] 25)).alloc (rK #[rE rG lv,rE rG ow,rD rJ 0 0,rD rJ 0 0] 25)));have c4:q=w.heap.size+1+1:=hq;have bJ:=Hd (show Blk w2 N 101 #[rE rG lv,rE rG ow,.map (some ob),.map (some sb)]from by rw[aQ,hN];exact((Blk.new w 101 #[rE rG lv,rE rG ow,.map (some ob),.map (some sb)]).alloc _).alloc _);have bK:=Hd (show Blk w2 (N+1) 25 #[rE rG 0,rE rG 0,rD rJ 0 0,rD rJ 0 0]from by
  rw[aQ,hN];have:=(Blk.new (w.alloc (rK #[rE rG lv,rE rG ow,.map (some ob),.map (some sb)] 101)) 25 #[rE rG 0,rE rG 0,rD rJ 0 0,rD rJ 0 0]).alloc (rK #[rE rG lv,rE rG ow,rD rJ 0 0,rD rJ 0 0] 25);simpa using this)
 have cF:=Hd (show Blk w2 q 25 #[rE rG lv,rE rG ow,rD rJ 0 0,rD rJ 0 0]from by
  rw[aQ,hq];have:=Blk.new ((w.alloc (rK #[rE rG lv,rE rG ow,.map (some ob),.map (some sb)] 101)).alloc (rK #[rE rG 0,rE rG 0,rD rJ 0 0,rD rJ 0 0] 25)) 25 #[rE rG lv,rE rG ow,rD rJ 0 0,rD rJ 0 0];simpa using this)
 have aZ:=Hd (show w2.heap.size=q+1 from by rw[aQ,hq];simp);have a8:=Hd (show Below w.heap.size w w2 from by
  rw[aQ];exact((bR.alloc lR _).alloc (by simp) _).alloc (by simp;omega) _)
 rw[<-aQ,<-c4,<-hN];clear aQ c4 hq hN;have dE:=Hd (cI.out.below a8.out lR);have dZ:=Hd (aW.out.below a8.out lR);have s:=Hd (show N+1<q from by rw[HQ.out,HN.out];omega);refine(Uj (some ob) w2).mono ?_;rintro e w3 ⟨rfl,rfl⟩;have cN:=Hd (Nw ob n1 w2.heap.size G _ (w2.alloc (rK #[.map (some ob)] 98)) (dE.out.alloc _) dB.out (by omega) (by rw[(Blk.new w2 _ _).cell];rfl) (by simp));go_wp2_with fail;refine cN.out.mono ?_;rintro e w4 ⟨VK,rfl,P,cQ⟩;obtain⟨a1,c1,rfl,-⟩:=Sh P.rd;have cD:=Hd (show Below (q+1) w2 w4 from by
  have h1:=(Below.refl (q+1) w2).alloc (by rw[aZ.out];exact lR) (rK #[.map (some ob)] 98);exact h1.trans (cQ.mono (by simp[aZ.out])))
 have bM:=Hd (P.mono (show q+1<=_ from by simp[aZ.out]));clear P cQ cN;obtain⟨no,b8⟩:=eX R.length;obtain⟨ns,b9⟩:=eX SO.length;rw[<-b8]at dU bM|-;rw[<-b9]at dW;have bA:=Hd b8;have aR:=Hd b9;have bE:=Hd (cF.out.below cD.out (dV q));clear b8 b9;go_wp2_with fail
 go_loopg [18] no (fun gk iv wr=>∃(r:Nat) (V:Value) (CF:Nat->Array Value),r+gk=no/\iv=rE rG (r:Nat)/\Blk wr q 25 #[rE rG lv,rE rG ow,V,rD rJ 0 0]/\OwnK wr (q+1) 87 11 V r ((aC r).flatMap fun j=> rE rG ((R.getD j 0:Nat):Int)::(CF j).toList)/\(∀j,j<r->NodeO wr (q+1) (D (R.getD j 0)) (CF j))/\Own wr (q+1) 3 (rD a1 no c1) (ivs .i64 (R.map fun m:Nat=>(m:Int)))/\Below q w2 wr)
 case atStart=>exact⟨0,_,fun _=>#[],by omega,rfl,bE.out,OwnK.nil _ _ _ _,fun j hj=>absurd hj (iI j),bM.out,cD.out.mono (gJ q)⟩
 case round=>
  obtain⟨r,V,CF,hr,rfl,b,aD,a5,P,hb⟩:=hrel;have HR:=Hd hr;have o:=Hd b;have l:=Hd aD;have aI:=Hd a5;have Z:=Hd P;have HB:=Hd hb;clear hr b aD a5 P hb bE;have aS:=Hd (bJ.out.below HB.out (by have:=s.out;omega));have bC:=Hd (bK.out.below HB.out s.out);have I:=Hd (a8.out.trans (HB.out.mono (show w.heap.size<=q from by have:=s.out;have:=HN.out;omega)));have cK:=Hd (show N<q+1 from by have:=s.out;omega);have bD:=Hd (show w.heap.size<=q+1 from by have:=s.out;have:=HN.out;omega);have cL:=Hd (show ob<q+1 from by have:=dI.out;have:=bD.out;omega);have cM:=Hd (show sb<q+1 from by have:=dL.out;have:=bD.out;omega)
  by_cases hlt:r<no
  ·have cW:decide (r<no)=true:=dT hlt;have cY:(r:Int)<(no:Int):=(by omega);obtain⟨b1,C,rfl,cO,cx⟩:=Si Z.out.rd (show r<R.length from by rw[<-bA.out];exact hlt);obtain⟨aL,aU,c,aK,aN⟩:=HD.out _ (cH.out R r (by rw[<-bA.out];exact hlt));obtain⟨m,aM⟩:=eX (R.getD r 0);rw[<-aM]at cx aL aU aK aN;have aX:=Hd aM;have bV:=Hd aL;have bU:=Hd aK;have HM:=Hd (cI.out.below I.out lR);have a9:=Hd fun(W:World) (hw:Below w.heap.size w W)=>Ln (D m) c W (aN.below hw lR) aU;obtain⟨XS,aJ⟩:=eX ((aC r).flatMap fun j=> rE rG ((R.getD j 0:Nat):Int)::(CF j).toList);rw[<-aJ]at l;have b0:=Hd aJ;have E:=Hd (show∀g,V.ownBlock=some g->g<wr.heap.size from fun g hg=>(l.out.lt hg).1);have bW:=Hd (show r<=100000 from by omega);clear aM aL aU aK aN aJ cO;go_wp2_with fail;refine Au [eF (rF (some ⟨q,2,rJ⟩)),eF V,eF (rE rG (m:Nat)),eF (rF (some ⟨N,2,rJ⟩)),eF (.map (some ob)),eF (rE rG (m:Nat)),eF (.agg c),fun v w'=>∃c2,v=.agg c2/\NodeO w' wr.heap.size (D m) c2,fun v w'=>∃x0 x1 x2 x3 x4 x5 x6 x7 x8 x9,v=.agg #[rE rG (m:Nat),x0,x1,x2,x3,x4,x5,x6,x7,x8,x9]/\NodeO w' wr.heap.size (D m) #[x0,x1,x2,x3,x4,x5,x6,x7,x8,x9],fun v w'=>∃g x0 x1 x2 x3 x4 x5 x6 x7 x8 x9,v=rD (some ⟨g,0,rJ⟩) 1 1/\wr.heap.size<=g/\Blk w' g 87 #[rE rG (m:Nat),x0,x1,x2,x3,x4,x5,x6,x7,x8,x9]/\NodeO w' wr.heap.size (D m) #[x0,x1,x2,x3,x4,x5,x6,x7,x8,x9],fun v w'=>∃c2,OwnK w' (q+1) 87 11 v (r+1) (XS++(rE rG (m:Nat)::c2.toList))/\NodeO w' (q+1) (D m) c2,eF (rF (some ⟨q,2,rJ⟩)),fun v w'=>∃V2 c2,Blk w' q 25 #[rE rG lv,rE rG ow,V2,rD rJ 0 0]/\OwnK w' (q+1) 87 11 V2 (r+1) (XS++(rE rG (m:Nat)::c2.toList))/\NodeO w' (q+1) (D m) c2/\CutS wr V q w']
    ((cJ 13 false).set 12 true) (fun X=>ButO wr V (q+1) X) (fun X Y=>StepO V (q+1) X Y) (some 10) 12 (by kernel_rfl) ?_ (ButO.start wr V (q+1)) (fun X Y hx h=>StepO.of h (eN (iJ o.out.lt) hx.low.size)) (fun X Y hx F=>hx.step F) (by kernel_rfl) (by kernel_rfl) (by kernel_rfl) ?_ ?_
   ·exact kE (kE (kE (kE (kE (kE (kE (Dk (fun v x y h hi F=>let⟨u,e,k⟩:=h;⟨u,e,NodeO.stepQ F k E.out⟩) (Dk (fun v x y h hi F=>let⟨x0,x1,x2,x3,x4,x5,x6,x7,x8,x9,e,k⟩:=h;⟨x0,x1,x2,x3,x4,x5,x6,x7,x8,x9,e,NodeO.stepQ F k E.out⟩) (Dk (fun v x y h hi F=>let⟨g,x0,x1,x2,x3,x4,x5,x6,x7,x8,x9,e,hg,k,k2⟩:=h;⟨g,x0,x1,x2,x3,x4,x5,x6,x7,x8,x9,e,hg,(F.2 g k.lt (fun ee=>absurd (E.out g ee) (by omega))).trans k,NodeO.stepQ F k2 E.out⟩) (Cw (fun v x y h hi F=>let⟨u,k,k2⟩:=h;⟨u,OwnK.below k F lR,NodeO.below k2 F lR⟩) (kE (Ag (fun _ _ _ _ _ _=>trivial) (Ae)))))))))))))
   ·refine gP8 ?_ rfl (On (by kernel_rfl) ?_ rfl (gP8 ?_ rfl (gP8 ?_ rfl (gP8 ?_ rfl (gP8 ?_ rfl (gO8 ?_ (Oq (by kernel_rfl) ?_ (gO8 ?_ (Oq (by kernel_rfl) ?_ (Oq (by kernel_rfl) ?_ (gP8 ?_ rfl (gO8 ?_ .nil))))))))))));all_goals
     intro a t d b4 ho hf;have d:ButO wr V (q+1) t:=d;refine⟨rfl,?_⟩;intro K hK;try have dN:a.tmps[1]?.getD undef=rF (some ⟨N,0,rJ⟩):=ho 1 (by kernel_rfl)
     try have dQ:a.tmps[3]?.getD undef=rF (some ⟨q,0,rJ⟩):=ho 3 (by kernel_rfl)
     try have d0:a.tmps[5]?.getD undef=rE rG (m:Nat):=ho 5 (by kernel_rfl)
     try have bS:=eqn hf.1
     try have c8:=eqn hf.2.1
     try(have bP:=(d.low.cell (p:=⟨q,2,rJ⟩) (dV q)).trans (o.out.cell 2);simp only[bY,bZ,cA]at bP)
     try(have bQ:=(d.low.cell (p:=⟨N,2,rJ⟩) cK.out).trans (aS.out.cell 2);simp only[bY,bZ,cA]at bQ)
     try have aV:=MapF.run_get (T:=98) (HM.out.belowB d.low cL.out) underlying98 (Fg t) bV.out
     try(refine Hd ?_;go_simp;exact hK _ rfl)
    ·rw[bU.out]at aV;simp only[Option.getD_some]at aV;go_simp;exact hK _ _ rfl (fun _=>Af rfl bR)
    ·go_simp;refine(a9.out t (I.out.trans (d.low.mono bD.out))).mono ?_;rintro e w2 ⟨c9,rfl,aT,b6⟩;exact hK _ _ ⟨_,rfl,aT.mono d.low.size⟩ (fun _=>Af rfl b6)
    ·have C:∃c2,(a.tmps[29]?.getD undef)=.agg c2/\NodeO t wr.heap.size (D m) c2:=hf.2.1;obtain⟨v1,i⟩:=eX (a.tmps[29]?.getD undef);rw[<-i]at C;have e1:=i.symm;clear i;obtain⟨c2,rfl,ho⟩:=C;obtain⟨x0,x1,x2,x3,x4,x5,x6,x7,x8,x9,rfl⟩:=ho.c.ten;go_simp;exact hK _ _ ⟨x0,x1,x2,x3,x4,x5,x6,x7,x8,x9,rfl,ho⟩ (fun _=>Af rfl bR)
    ·have o0:∃x0 x1 x2 x3 x4 x5 x6 x7 x8 x9,(a.tmps[30]?.getD undef)=.agg #[rE rG (m:Nat),x0,x1,x2,x3,x4,x5,x6,x7,x8,x9]/\NodeO t wr.heap.size (D m) #[x0,x1,x2,x3,x4,x5,x6,x7,x8,x9]:=hf.1;obtain⟨v0,aP⟩:=eX (a.tmps[30]?.getD undef);rw[<-aP]at o0;have e0:=aP.symm;clear aP;obtain⟨x0,x1,x2,x3,x4,x5,x6,x7,x8,x9,rfl,S⟩:=o0;go_simp;exact hK _ _ ⟨_,x0,x1,x2,x3,x4,x5,x6,x7,x8,x9,rfl,d.low.size,Blk.new _ _ _,S.below (bR.alloc lR _) lR⟩ (fun _=>Af rfl (bR.alloc lR _))
    ·have C:∃g x0 x1 x2 x3 x4 x5 x6 x7 x8 x9,(a.tmps[31]?.getD undef)=rD (some ⟨g,0,rJ⟩) 1 1/\wr.heap.size<=g/\Blk t g 87 #[rE rG (m:Nat),x0,x1,x2,x3,x4,x5,x6,x7,x8,x9]/\NodeO t wr.heap.size (D m) #[x0,x1,x2,x3,x4,x5,x6,x7,x8,x9]:=hf.2.1;obtain⟨v1,i⟩:=eX (a.tmps[31]?.getD undef);rw[<-i]at C;have e1:=i.symm;clear i;obtain⟨g,x0,x1,x2,x3,x4,x5,x6,x7,x8,x9,hv,hg,b,S⟩:=C;have a6:=l.out.below b4 lR;have cZ:=S.c.oneL;refine Ut (.tmp 23) (.tmp 31) 22 rfl (q+1) 87 _ 11 216 Zmw V r XS (evs bS) a6 g [rE rG (m:Nat),x0,x1,x2,x3,x4,x5,x6,x7,x8,x9] (evs (e1.trans hv)) rfl (fun j u2 A=>by have:=b.range 0 j u2 A;simpa using this) (by rw[List.all_eq_true.symm];exact cZ) (by have:=bW.out;omega) (by have:=d.low.size;have:=o.out.lt;omega) ?_;intro v' w' h2 h3;exact hK _ _ ⟨#[x0,x1,x2,x3,x4,x5,x6,x7,x8,x9],h2,(NodeO.stepQ h3 S E.out).mono (iJ o.out.lt)⟩ (fun _=>Cc rfl h3)
    ·have C:∃c2,OwnK t (q+1) 87 11 (a.tmps[32]?.getD undef) (r+1) (XS++(rE rG (m:Nat)::c2.toList))/\NodeO t (q+1) (D m) c2:=hf.2.1;obtain⟨v1,i⟩:=eX (a.tmps[32]?.getD undef);rw[<-i]at C;have e1:=i.symm;clear i;obtain⟨u,C,S⟩:=C;have b:=o.out.below d.low (dV q);have d1:t.cell? ⟨q,2,rJ⟩=some V:=b.cell 2;have d2:=b.frozen 2;obtain⟨ga,gc,rfl⟩:=OwnK.sl C;have aO:q<=t.heap.size:=fE b.lt;have cB:=b.set 2 (rD ga (r+1) gc);have O:=OwnK.onlyQ C (Only.set (a:=t) (B:=q) 2 (rD ga (r+1) gc)) (dV q);have A:=NodeO.onlyQ S (Only.set (a:=t) (B:=q) 2 (rD ga (r+1) gc)) (dV q);have M:=d.put aO 2 (rD ga (r+1) gc);go_simp;exact hK undef _ ⟨_,u,cB,O,A,M⟩ (fun h=>absurd rfl h)
   ·rintro f Q aB;have dR:∃V2 c2,Blk Q q 25 #[rE rG lv,rE rG ow,V2,rD rJ 0 0]/\OwnK Q (q+1) 87 11 V2 (r+1) (XS++(rE rG (m:Nat)::c2.toList))/\NodeO Q (q+1) (D m) c2/\CutS wr V q Q:=aB.2.2.2.2.2.2.2.2.2.2.2.2.1;clear aB;simp only[Ak,At,Ei,dG,dH,dJ,dK,Nat.reduceBEq,Nat.reduceAdd,dO,dP,cond_true,cond_false];obtain⟨V2,c2,a3,O,A,M⟩:=dR;have aH:=Hd a3;have aY:=Hd O;have bX:=Hd A;have J:=Hd M;clear a3 O A M;go_wp2_with fail;go_roundg (gk-1);case measure=>have:=HR.out;omega
    case rel=>
     refine⟨r+1,V2,fun j=>if j<r then CF j else c2,by have:=HR.out;omega,by go_num,aH.out,?_,fun j hj=> ?_,?_,HB.out.trans J.out.low⟩
     ·rw[Zfx (g:=fun j (z:Array Value)=> rE rG ((R.getD j 0:Nat):Int)::z.toList),<-b0.out,<-aX.out];exact aY.out
     ·by_cases hjr:j<r
      ·show NodeO Q (q+1) _ (if j<r then CF j else c2);rw[iP hjr];exact NodeO.cutQ J.out (aI.out j hjr) (dV q) l.out (by decide) (by decide)
      ·obtain rfl:j=r:=(by omega);show NodeO Q (q+1) _ (if j<j then CF j else c2);rw[iN hjr,<-aX.out];exact bX.out
     ·exact CutS.ownK (k:=1) J.out Z.out (dV q) (OwnK.apartK (k:=1) Z.out l.out (by decide))
  ·obtain rfl:no=r:=(by have:=HR.out;omega);have cW:decide (no<no)=false:=dF hlt;clear hlt;have d3:=aS.out.cell 3;simp only[bY,bZ,cA]at d3;go_wp2_with fail;obtain⟨w5,c7⟩:=eX wr;rw[<-c7]at o l HB I aI aS bC d3|-;clear c7;refine(Uk (some sb) w5).mono ?_;rintro e w6 ⟨rfl,rfl⟩;have bL:=Hd (Nx sb n2 w5.heap.size G2 _ (w5.alloc (rK #[.map (some sb)] 99)) ((aW.out.below I.out lR).alloc _) dC.out (by omega) (by rw[(Blk.new w5 _ _).cell];rfl) (by simp));clear d3;go_wp2_with fail;refine bL.out.mono ?_;rintro e w7 ⟨VS,rfl,cC,cR⟩;obtain⟨a2,c2,rfl,-⟩:=Sh cC.rd;have aO:=o.out.lt;have aA:Below w5.heap.size w5 w7:=(bR.alloc lR (rK #[.map (some sb)] 99)).trans (cR.mono (by simp));have a0:=Hd (cC.mono (show q+1<=_ from by simp;omega));have bF:=Hd (o.out.below aA aO);have bI:=Hd (l.out.below aA lR);have bH:=Hd (show∀j,j<no->NodeO w7 (q+1) (D (R.getD j 0)) (CF j)from fun j hj=>(aI.out j hj).below aA lR);have cE:=Hd (HB.out.trans (aA.mono (fE aO)));rw[<-aR.out]at a0;have bO:=aR.out;rw[<-bO];clear cC cR aA bO bL o l HB I aI aS bC Z aO HR;go_wp2_with fail
   go_loopg [40] ns (fun gk iv wr=>∃(r:Nat) (SV:Value) (U:Nat->Value),r+gk=ns/\iv=rE rG (r:Nat)/\Blk wr q 25 #[rE rG lv,rE rG ow,V,SV]/\OwnK wr (q+1) 89 2 SV r ((aC r).flatMap fun j=>[rE rG ((SO.getD j 0:Nat):Int),U j])/\(∀j,j<r->Own wr (q+1) 5 (U j) (bvs (H (SO.getD j 0))))/\OwnK wr (q+1) 87 11 V no ((aC no).flatMap fun j=> rE rG ((R.getD j 0:Nat):Int)::(CF j).toList)/\(∀j,j<no->NodeO wr (q+1) (D (R.getD j 0)) (CF j))/\Own wr (q+1) 3 (rD a2 ns c2) (ivs .i64 (SO.map fun m:Nat=>(m:Int)))/\Below q w2 wr)
   case atStart=>exact⟨0,_,fun _=> rD rJ 0 0,by omega,rfl,bF.out,OwnK.nil _ _ _ _,fun j hj=>absurd hj (iI j),bI.out,bH.out,a0.out,cE.out⟩
   case round=>
    obtain⟨r,SV,U,hr,rfl,b,aD,S,c3,a5,P,hb⟩:=hrel;have HR:=Hd hr;have o:=Hd b;have l:=Hd aD;have HU:=Hd S;have bB:=Hd c3;have aI:=Hd a5;have Z:=Hd P;have HB:=Hd hb;clear hr b aD S c3 a5 P hb bF bI bH a0 cE;have aS:=Hd (bJ.out.below HB.out (by have:=s.out;omega));have bC:=Hd (bK.out.below HB.out s.out);have I:=Hd (a8.out.trans (HB.out.mono (show w.heap.size<=q from by have:=s.out;have:=HN.out;omega)))
    by_cases hlt:r<ns
    ·have cX:decide (r<ns)=true:=dT hlt;have cY:(r:Int)<(ns:Int):=(by omega);obtain⟨b2,o2,rfl,cP,cx⟩:=Si Z.out.rd (show r<SO.length from by rw[<-aR.out];exact hlt);obtain⟨aL,aU,UV,aK,aN⟩:=HH.out _ (cH.out SO r (by rw[<-aR.out];exact hlt));obtain⟨m,aM⟩:=eX (SO.getD r 0);rw[<-aM]at cx aL aU aK aN;have aX:=Hd aM;have bV:=Hd aL;have bU:=Hd aK;have dD:=Hd (aW.out.below I.out lR);have a9:=Hd fun(W:World) (hw:Below w.heap.size w W)=>Ck UV (H m) W (aN.below hw lR) (by omega);obtain⟨HX,b3⟩:=eX (H m);rw[<-b3]at a9;have dM:=Hd b3;obtain⟨XS,aJ⟩:=eX ((aC r).flatMap fun j=>[rE rG ((SO.getD j 0:Nat):Int),U j]);rw[<-aJ]at l;have b0:=Hd aJ;have E:=Hd (show∀g,SV.ownBlock=some g->g<wr.heap.size from fun g hg=>(l.out.lt hg).1);have bW:=Hd (show r<=100000 from by omega);clear aM aL aU aK aN aJ cP b3;go_wp2_with fail;refine Au [eF (rF (some ⟨q,3,rJ⟩)),eF SV,eF (rE rG (m:Nat)),eF (rF (some ⟨N,3,rJ⟩)),eF (.map (some sb)),eF (rE rG (m:Nat)),eF UV,fun v w'=>Own w' wr.heap.size 5 v (bvs HX),fun v w'=>∃u,v=.agg #[rE rG (m:Nat),u]/\Own w' wr.heap.size 5 u (bvs HX),fun v w'=>∃g u,v=rD (some ⟨g,0,rJ⟩) 1 1/\wr.heap.size<=g/\Blk w' g 89 #[rE rG (m:Nat),u]/\Own w' wr.heap.size 5 u (bvs HX),fun v w'=>∃u,OwnK w' (q+1) 89 2 v (r+1) (XS++[rE rG (m:Nat),u])/\Own w' (q+1) 5 u (bvs HX),eF (rF (some ⟨q,3,rJ⟩)),fun v w'=>∃V2 u,Blk w' q 25 #[rE rG lv,rE rG ow,V,V2]/\OwnK w' (q+1) 89 2 V2 (r+1) (XS++[rE rG (m:Nat),u])/\Own w' (q+1) 5 u (bvs HX)/\CutS wr SV q w']
      ((cJ 13 false).set 12 true) (fun X=>ButO wr SV (q+1) X) (fun X Y=>StepO SV (q+1) X Y) (some 10) 12 (by kernel_rfl) ?_ (ButO.start wr SV (q+1)) (fun X Y hx h=>StepO.of h (eN (iJ o.out.lt) hx.low.size)) (fun X Y hx F=>hx.step F) (by kernel_rfl) (by kernel_rfl) (by kernel_rfl) ?_ ?_
     ·exact kE (kE (kE (kE (kE (kE (kE (Dk (fun v x y h hi F=>StepO.own F h E.out) (Dk (fun v x y h hi F=>let⟨u,e,k⟩:=h;⟨u,e,StepO.own F k E.out⟩) (Dk (fun v x y h hi F=>let⟨g,u,e,hg,k,k2⟩:=h;⟨g,u,e,hg,(F.2 g k.lt (fun ee=>absurd (E.out g ee) (by omega))).trans k,StepO.own F k2 E.out⟩) (Cw (fun v x y h hi F=>let⟨u,k,k2⟩:=h;⟨u,OwnK.below k F lR,Own.below k2 F lR⟩) (kE (Ag (fun _ _ _ _ _ _=>trivial) (Ae)))))))))))))
     ·refine gP8 ?_ rfl (On (by kernel_rfl) ?_ rfl (gP8 ?_ rfl (gP8 ?_ rfl (gP8 ?_ rfl (gP8 ?_ rfl (gO8 ?_ (Oq (by kernel_rfl) ?_ (gO8 ?_ (Oq (by kernel_rfl) ?_ (Oq (by kernel_rfl) ?_ (gP8 ?_ rfl (gO8 ?_ .nil))))))))))));all_goals
       intro a t d b4 ho hf;have d:ButO wr SV (q+1) t:=d;refine⟨rfl,?_⟩;intro K hK;try have dN:a.tmps[1]?.getD undef=rF (some ⟨N,0,rJ⟩):=ho 1 (by kernel_rfl)
       try have dQ:a.tmps[3]?.getD undef=rF (some ⟨q,0,rJ⟩):=ho 3 (by kernel_rfl)
       try have d4:a.tmps[7]?.getD undef=rE rG (m:Nat):=ho 7 (by kernel_rfl)
       try have bS:=eqn hf.1
       try have c8:=eqn hf.2.1
       try(have bP:=(d.low.cell (p:=⟨q,3,rJ⟩) (dV q)).trans (o.out.cell 3);simp only[bY,bZ,cA]at bP)
       try(have bQ:=(d.low.cell (p:=⟨N,3,rJ⟩) cK.out).trans (aS.out.cell 3);simp only[bY,bZ,cA]at bQ)
       try have aV:=MapF.run_get (T:=99) (dD.out.belowB d.low cM.out) underlying99 (zeroValue28 t) bV.out
       try(refine Hd ?_;go_simp;exact hK _ rfl)
      ·rw[bU.out]at aV;simp only[Option.getD_some]at aV;go_simp;exact hK _ _ rfl (fun _=>Af rfl bR)
      ·go_simp;refine(a9.out t (I.out.trans (d.low.mono bD.out))).mono ?_;rintro e w2 ⟨v9,rfl,aT,b6⟩;exact hK _ _ (aT.mono d.low.size) (fun _=>Af rfl b6)
      ·have C:Own t wr.heap.size 5 (a.tmps[51]?.getD undef) (bvs HX):=hf.2.1;obtain⟨v1,i⟩:=eX (a.tmps[51]?.getD undef);rw[<-i]at C;have e1:=i.symm;clear i;obtain⟨ua,un,uc,rfl⟩:∃a n c,v1=.slice a n c:=(by obtain⟨a,c,e,-⟩:=C.rd;exact⟨_,_,_,e⟩);go_simp;exact hK _ _ ⟨_,rfl,C⟩ (fun _=>Af rfl bR)
      ·have o0:∃u,(a.tmps[52]?.getD undef)=.agg #[rE rG (m:Nat),u]/\Own t wr.heap.size 5 u (bvs HX):=hf.1;obtain⟨v0,aP⟩:=eX (a.tmps[52]?.getD undef);rw[<-aP]at o0;have e0:=aP.symm;clear aP;obtain⟨u,rfl,S⟩:=o0;go_simp;exact hK _ _ ⟨_,u,rfl,d.low.size,Blk.new _ _ _,S.alloc _⟩ (fun _=>Af rfl (bR.alloc lR _))
      ·have C:∃g u,(a.tmps[53]?.getD undef)=rD (some ⟨g,0,rJ⟩) 1 1/\wr.heap.size<=g/\Blk t g 89 #[rE rG (m:Nat),u]/\Own t wr.heap.size 5 u (bvs HX):=hf.2.1;obtain⟨v1,i⟩:=eX (a.tmps[53]?.getD undef);rw[<-i]at C;have e1:=i.symm;clear i;obtain⟨g,u,hv,hg,b,S⟩:=C;have a6:=l.out.below b4 lR;refine Ut (.tmp 45) (.tmp 53) 23 rfl (q+1) 89 _ 2 32 Zmx SV r XS (evs bS) a6 g [rE rG (m:Nat),u] (evs (e1.trans hv)) rfl (fun j u2 A=>by have:=b.range 0 j u2 A;simpa using this) (fun z hz=>by
        simp only[List.mem_cons,List.not_mem_nil,or_false]at hz;rcases hz with rfl|rfl
        ·rfl
        ·exact S.oneCell) (by have:=bW.out;omega) (by have:=d.low.size;have:=o.out.lt;omega) ?_
       intro v' w' h2 h3;exact hK _ _ ⟨u,h2,(h3.own S E.out).mono (iJ o.out.lt)⟩ (fun _=>Cc rfl h3)
      ·have C:∃u,OwnK t (q+1) 89 2 (a.tmps[54]?.getD undef) (r+1) (XS++[rE rG (m:Nat),u])/\Own t (q+1) 5 u (bvs HX):=hf.2.1;obtain⟨v1,i⟩:=eX (a.tmps[54]?.getD undef);rw[<-i]at C;have e1:=i.symm;clear i;obtain⟨u,C,S⟩:=C;have b:=o.out.below d.low (dV q);have d1:t.cell? ⟨q,3,rJ⟩=some SV:=b.cell 3;have d2:=b.frozen 3;obtain⟨ga,gc,rfl⟩:=OwnK.sl C;have aO:q<=t.heap.size:=fE b.lt;have cB:=b.set 3 (rD ga (r+1) gc);have O:=OwnK.onlyQ C (Only.set (a:=t) (B:=q) 3 (rD ga (r+1) gc)) (dV q);have A:=OwnK.onlyQ (show OwnK t (q+1) 5 1 u (bvs HX).length (bvs HX)from S) (Only.set (a:=t) (B:=q) 3 (rD ga (r+1) gc)) (dV q);have M:=d.put aO 3 (rD ga (r+1) gc);go_simp;exact hK undef _ ⟨_,u,cB,O,A,M⟩ (fun h=>absurd rfl h)
     ·rintro f Q aB;have dS:∃V2 u,Blk Q q 25 #[rE rG lv,rE rG ow,V,V2]/\OwnK Q (q+1) 89 2 V2 (r+1) (XS++[rE rG (m:Nat),u])/\Own Q (q+1) 5 u (bvs HX)/\CutS wr SV q Q:=aB.2.2.2.2.2.2.2.2.2.2.2.2.1;clear aB;simp only[Ak,At,Ei,dG,dH,dJ,dK,Nat.reduceBEq,Nat.reduceAdd,dO,dP,cond_true,cond_false];obtain⟨V2,u,a3,O,A,M⟩:=dS;have aH:=Hd a3;have aY:=Hd O;have bX:=Hd A;have J:=Hd M;clear a3 O A M;go_wp2_with fail;go_roundg (gk-1);case measure=>have:=HR.out;omega
      case rel=>
       refine⟨r+1,V2,fun j=>if j<r then U j else u,by have:=HR.out;omega,by go_num,aH.out,?_,fun j hj=> ?_,?_,fun j hj=> ?_,?_,HB.out.trans J.out.low⟩
       ·rw[Zi3 (g:=fun j z=>[rE rG ((SO.getD j 0:Nat):Int),z]),<-b0.out,<-aX.out];exact aY.out
       ·by_cases hjr:j<r
        ·show Own Q (q+1) 5 (if j<r then U j else u) _;rw[iP hjr];exact CutS.ownK (k:=1) J.out (HU.out j hjr) (dV q) (OwnK.apartK (k:=1) (HU.out j hjr) l.out (by decide))
        ·obtain rfl:j=r:=(by omega);show Own Q (q+1) 5 (if j<j then U j else u) _;rw[iN hjr,<-aX.out,<-dM.out];exact bX.out
       ·exact CutS.ownK J.out bB.out (dV q) (OwnK.apartK bB.out l.out (by decide))
       ·exact NodeO.cutQ J.out (aI.out j hj) (dV q) l.out (by decide) (by decide)
       ·exact CutS.ownK (k:=1) J.out Z.out (dV q) (OwnK.apartK (k:=1) Z.out l.out (by decide))
    ·obtain rfl:r=ns:=(by have:=HR.out;omega);have cX:decide (r<r)=false:=dF hlt;clear hlt;obtain⟨va,vc,rfl⟩:=OwnK.sl bB.out;obtain⟨sa,sc,rfl⟩:=OwnK.sl l.out;go_wp2_with (first|(refine wpList_load_row rfl 25 (.tmp 3) rfl q rfl 25 _ (0,0) _ o.out underlying25 rfl (by kernel_rfl) ?_)|(refine Aa rfl 25 (.tmp 2) (.tmp 57) rfl (N+1) #[rE rG lv,rE rG ow,rD va no vc,rD sa r sc] rfl rfl 25 _ bC.out (by kernel_rfl) rfl rfl ?_));rintro Q a4 b5 c0 dY;have a7:Only (N+1) wr Q:=Only.storeQ b5 c0;have dX:=s.out;have cS:Below w.heap.size w Q:=I.out.trans (b5 _ (by rw[<-HN.out];exact gJ N));have aT:=OwnK.onlyQ bB.out a7 (by omega);have c5:=OwnK.onlyQ l.out a7 (by omega);have bG:=Hd a4;have bN:=fun k hk=>NodeO.onlyQ (aI.out k hk) a7 (by omega);have c6:=fun j hj=>OwnK.onlyQ (k:=1) (HU.out j hj) a7 (by omega);have mk:∀W:World,(∀ {e:TypeId} {k n:Nat} {v:Value} {xs:List Value},OwnK Q (q+1) e k v n xs->OwnK W (q+1) e k v n xs)->SparseR W (.agg #[rE rG lv,rE rG ow,rD va no vc,rD sa r sc]) ⟨lv,ow,R.map fun m:Nat=>((m:Int),D m),SO.map fun m:Nat=>((m:Int),H m)⟩:=fun W hW=>by
      refine⟨_,_,rfl,?_,?_⟩
      ·refine Zcd (B:=q+1) (CF:=CF) (fun k hk=>((bN k (by rw[bA.out];exact hk)).keep2 fun e v xs _ S=>hW (k:=1) S).c) ?_;rw[<-bA.out];exact hW aT
      ·refine Zce (B:=q+1) (U:=U) (fun j hj=>hW (k:=1) (c6 j (by rw[aR.out];exact hj))) ?_;rw[<-aR.out];exact hW c5
     have cG:=Hd (mk Q fun h=>h);have bT:=Hd fun(g:Nat) (W:World) (hg:g<w.heap.size) (ho:Only g Q W)=>mk W fun h=>OwnK.onlyQ h ho (by have:=HN.out;omega);have bG:=Hd a4;have dA:=Hd cS;clear a4 b5 c0 dY a7 cS aT c5 dX bN c6 mk;go_wp2_with fail;exact bodyPost_ret (v:=.agg #[rE rG lv,rE rG ow,rD va no vc,rD sa r sc]) (Hp results67 _ _ (N+1) _ _ _ rfl bG.out underlying25 rfl (by kernel_rfl)) rfl ⟨_,rfl,cG.out,dA.out,bT.out⟩
theorem Uz (v:Value) (t:List NodeD) (X m d:Nat) (OL SL:List Nat) (w:World) (h:TreeR w v t) (hs:Bc t=true) (Y:TreeOk t) (hr:Bm t=true) (y:t.length=2*X+1) (S:Ao t.length=X+1) (hd:d<=16) (V:X+1=2^d) (hi:((m:Nat):Int)∈Ek t (X+1))
  (eO:(Bf (atT t) m false d (2^d-1) 0 []).1=OL.map fun m:Nat=>(m:Int)) (eS:(Bf (atT t) m false d (2^d-1) 0 []).2.1=SL.map fun m:Nat=>(m:Int)) (T:OL.Pairwise (· < ·)) (U:SL.Pairwise (· < ·))
  (hO:∀x∈OL,x<t.length) (hS:∀x∈SL,x<t.length) (j:OL.length<=100000) (k:SL.length<=100000) (R:∀x,(Dg (nd t) x).length<=1000000):
  Calls prog 41 #[v,rE rG (m:Nat)] w fun e w'=>∃v',e=rM (.tuple #[v',rE rH 0])/\SparseR w' v' (Fr t (2^d) m OL SL)/\Below w.heap.size w w':=by
 have aF:=Bb hs;have L:=Hd fun(W:World) (hw:Below w.heap.size w W)=>Zly v t X m d false OL SL W (h.below hw lR) hs Y hr y S hd V hi eO eS T U hO hS j k;have Q:=Hd fun(W:World) (ob sb:Nat) (G I:Int->Option Value) (hm:MapF W ob OL.length G) (hk:Dc G (OL.map fun m:Nat=>(m:Int))) (hn:∀x∈OL,∃c,G ((x:Nat):Int)=some (.agg c)/\NodeC W (nd t x) c) (aI:MapF W sb SL.length I) (aH:Dc I (SL.map fun m:Nat=>(m:Int))) (hu:∀x∈SL,∃u,I ((x:Nat):Int)=some u/\Rd W u (bvs (Dg (nd t) x)))=>
  Qj ((2^d:Nat):Int) (m:Nat) ob sb OL.length SL.length G I OL SL (nd t) (Dg (nd t)) W hm aI j k hk aH (fun x hx=>⟨by unfold inI;have:=hO x hx;omega,Ct hs x,hn x hx⟩) (fun x hx=>⟨by unfold inI;have:=hS x hx;omega,R x,hu x hx⟩) j k
 obtain⟨M,hM⟩:=eX (2^d);rw[<-hM]at L Q|-;obtain⟨RS,D⟩:=eX (Fr t M m OL SL);have aD:=Hd D;rw[<-D];obtain⟨a,n,c,rfl⟩:∃a n c,v=.slice a n c:=(by obtain⟨a,c,e,_⟩:=h.sl;exact⟨_,_,_,e⟩);clear h hs Y hr y S hd V hi eO eS T U hO hS j k R aF hM D;obtain⟨N,hN⟩:=eX w.heap.size;have HN:=Hd hN;go_in;go_wp2_with fail;obtain⟨w2,l⟩:=eX (w.alloc (rK #[rE rG 0,rE rG 0,rD rJ 0 0,rD rJ 0 0] 25));have B:=Hd (show Below w.heap.size w w2 from by rw[l];exact bR.alloc lR _);have q:=Hd (show Blk w2 N 25 #[rE rG 0,rE rG 0,rD rJ 0 0,rD rJ 0 0]from by rw[l,hN];exact Blk.new _ _ _);rw[<-l,<-hN];clear l hN;refine(L.out _ B.out).mono ?_;rintro e Z ⟨ob,sb,G,I,rfl,m1,m2,m3,m4,m5,m6,E⟩;have J:=Hd (B.out.trans (E.mono B.out.size));have r:=Hd (q.out.below E q.out.lt);obtain⟨w4,p⟩:=eX (Z.alloc (rK #[rE rG (M:Nat),rE rG (m:Nat),.map (some ob),.map (some sb)] 101));have b:Below Z.heap.size Z w4:=(by rw[p];exact bR.alloc lR _);have HX:=Hd (Q.out w4 ob sb G I (m1.below b lR) m2 (fun x hx=>by obtain⟨c,h1,h2⟩:=m3 x hx;exact⟨c,h1,h2.below b lR⟩) (m4.below b lR) m5 (fun x hx=>by obtain⟨u,h1,h2⟩:=m6 x hx;exact⟨u,h1,h2.below b lR⟩));have C:=Hd (J.out.trans (b.mono J.out.size));have f:=Hd (r.out.below b r.out.lt);have K:=Hd (show Blk w4 Z.heap.size 101 #[rE rG (M:Nat),rE rG (m:Nat),.map (some ob),.map (some sb)]from by rw[p];exact Blk.new _ _ _);rw[p]at HX C f K;clear E m1 m2 m3 m4 m5 m6 b p;go_wp2_with (refine wpList_load_row rfl 101 (.tmp 6) rfl Z.heap.size rfl 101 _ (0,0) _ K.out underlying101 rfl (by kernel_rfl) ?_);refine HX.out.mono ?_;rintro e w5 ⟨vr,rfl,aK,F,A⟩;obtain⟨o,g,rfl,ho,hg⟩:=aK;obtain⟨a1,c1,rfl,aJ⟩:=ho;obtain⟨a2,c2,rfl,aG⟩:=hg;have P:=Hd A;have O:=Hd (f.out.below F f.out.lt);have aA:=Hd (C.out.trans (F.mono C.out.size));have aC:=Hd f.out.lt;clear F A aJ aG;simp only[List.length_map]at P|-;go_wp2_with (refine Aa rfl 25 (.tmp 4) (.tmp 19) rfl N #[rE rG (M:Nat),rE rG (m:Nat),.slice a1 OL.length c1,.slice a2 SL.length c2] rfl rfl 25 #[rE rG 0,rE rG 0,rD rJ 0 0,rD rJ 0 0] O.out (by kernel_rfl) rfl rfl ?_);rintro w9 s i z H;have HK:=Hd s;have aB:=Hd (aA.out.trans (i w.heap.size (by rw[<-HN.out];exact eR N)));have aE:=Hd (P.out N w9 aC.out (Only.storeQ i z));clear s i z H;go_wp2_with fail;refine bodyPost_ret (v:=.tuple #[.agg #[rE rG (M:Nat),rE rG (m:Nat),.slice a1 OL.length c1,.slice a2 SL.length c2],rE rH 0]) (Ad results41 _ _ N _ _ _ rfl HK.out underlying25 rfl (by kernel_rfl)) rfl ⟨_,rfl,?_,aB.out⟩;rw[aD.out];exact aE.out
end Go.Proofs.YtfofaiommeckbaaGreat
namespace Go.Proofs.YtfofaiommeckbaaGreat
open Go.RowKit WalkM WireM
theorem Zfy (l l':List (Int×NodeD))(x:Int):Aj (l++l') x=(Aj l x).or (Aj l' x):=by
 induction l with
 |nil=>simp[Aj]
 |cons p l ih=>
  rw[List.cons_append,Aj,Aj]
  by_cases e:p.1=x
  ·rw[iP e,iP e];rfl
  ·rw[iN e,iN e];exact ih
theorem Xm (D:Nat->NodeD)(n:Nat):∀k,Aj ((aC k).map fun i=>(((i:Nat):Int),D i)) ((n:Nat):Int)=if n<k then some (D n)else none:=by
 intro k
 induction k with
 |zero=>rfl
 |succ k ih=>
  rw[List.range_succ,eG,Zfy,ih]
  by_cases h:n<k
  ·rw[iP h,iP (by omega)];rfl
  ·rw[iN h,Option.none_or];simp only[List.map_cons,iL,Aj]
   by_cases e:n=k
   ·subst e;rw[iP rfl,iP (by omega)]
   ·rw[iN (by omega),iN (by omega)]
theorem Zjg (t:List NodeD)(n:Nat):atT t n=Aj (Zu t) ((n:Nat):Int):=by
 rw[Zu,Xm];rfl
theorem Zfz {t:List NodeD}(hr:Bm t=true):Cm (atT t):=by
 intro x D hx u hu;unfold atT at hx
 split at hx
 ·rename_i hlt
  cases hx;rw[Bm,cK,cK,cK]at hr;obtain⟨h1,hp,_,hl⟩:=hr;obtain⟨h2,m,rfl,hm⟩:=Hg hp hlt hu;exact⟨m,rfl,hm,(If (Ig hl x hlt) _ hu).2.1⟩
 ·cases hx
theorem Sj {F:Nat->Option NodeD} {i:Nat} {only:Bool}:∀(k x how:Nat) (late:List Int),IsLev x k->x+2^k<=131071->(∀y,inR k x y->(F y).isSome=true)->(Bf F i only k x how late).2.2=true:=by
 intro k
 induction k with
 |zero=>
  intro x how late m hx h;obtain⟨d,j⟩:=Option.isSome_iff_exists.1 (h x (Dp _ _));rw[Cd j]
 |succ k ih=>
  intro x how late m hx h;obtain⟨d,j⟩:=Option.isSome_iff_exists.1 (h x (Dp _ _));obtain⟨o,p,l,n,h2,-,-⟩:=Er m hx lR;have f:∀c,IsLev c k->c+2^k<=131071->(∀y,inR k c y->(F y).isSome=true)->∀a,(Ds (Bf F i only k) i only c how d a).2.2=true:=fun c g b e a=>by
   unfold Ds
   split
   ·exact ih _ _ _ g b e
   ·split
    ·rfl
    ·split
     ·exact ih _ _ _ g b e
     ·split
      ·exact ih _ _ _ g b e
      ·rfl
  rw[Br j];show(_&&_)=true;rw[f _ o n (fun y e=>h y ((Az l).2 (.inr (.inl e)))),f _ p h2 (fun y e=>h y ((Az l).2 (.inr (.inr e))))]
  rfl
theorem Zcf:∀(L:List Nat) (b n:Nat),b<=n->L.Pairwise (· < ·)->(∀x∈L,b<=x/\x<n)->L.length<=n-b:=by
 intro L
 induction L with
 |nil=>intro b n _ _ _;simp
 |cons a L ih=>
  intro b n e c d;rw[List.pairwise_cons]at c;have f:=d a (by simp);have:=ih (a+1) n (by omega) c.2 fun x hx=>⟨c.1 x hx,(d x (by simp[hx])).2⟩;rw[List.length_cons];omega
theorem Zf0 {L:List Int} {k x n:Nat}(h:Rx k x L)(i:L.Pairwise (· < ·))(g:∀m,inR k x m->m<n)(j:n<=100000):∃OL:List Nat,L=OL.map (fun m:Nat=>(m:Int))/\OL.Pairwise (· < ·)/\(∀m∈OL,m<n)/\OL.length<=100000:=by
 have e:L=(L.map gL).map (fun m:Nat=>(m:Int)):=by
  rw[List.map_map]
  conv=>lhs;rw[<-List.map_id L]
  refine iK fun y f=> ?_;obtain⟨m,rfl,-⟩:=h y f;simp
 have c:(L.map gL).Pairwise (· < ·):=by
  rw[fU];refine i.imp_of_mem fun {a b} ha hb2 hab=> ?_;obtain⟨m,rfl,-⟩:=h a ha;obtain⟨l,rfl,-⟩:=h b hb2;simp only[cD];omega
 have d:∀m∈L.map gL,m<n:=fun m d=>by
  obtain⟨y,f,rfl⟩:=List.mem_map.1 d;obtain⟨m,rfl,h2⟩:=h y f;simpa using g m h2
 refine⟨_,e,c,d,?_⟩;have:=Zcf _ 0 n (aI _) c fun x hx=>⟨aI _,d x hx⟩;omega
theorem Zlz {t:List NodeD}(r:Bc t=true)(q:Bm t=true) {g m d:Nat}(only:Bool)(h:t.length=2*g+1)(o:d<=16)(p:g+1=2^d)(D:2*m<t.length):∃OL SL:List Nat,
  (Bf (atT t) m only d (2^d-1) 0 []).1=OL.map (fun m:Nat=>(m:Int))/\(Bf (atT t) m only d (2^d-1) 0 []).2.1=SL.map (fun m:Nat=>(m:Int))/\
  Jw (Dq (Aj (Zu t)) d m only d)=OL.map (fun m:Nat=>(m:Int))/\Jw (Hk (Dq (Aj (Zu t)) d m only d))=SL.map (fun m:Nat=>(m:Int))/\
  OL.Pairwise (· < ·)/\SL.Pairwise (· < ·)/\(∀x∈OL,x<t.length)/\(∀x∈SL,x<t.length)/\OL.length<=100000/\SL.length<=100000:=by
 have l:=Bb r;have E:=Nat.two_pow_pos d;have e2:2^(d+1)=2*2^d:=(by rw[aN];omega);have a:IsLev (2^d-1) d:=by
  unfold IsLev;rw[aN];exact aT (by omega)
 have b:∀y,inR d (2^d-1) y->y<t.length:=fun y f=>(by unfold inR at f;omega);have e:=Sj (F:=atT t) (i:=m) (only:=only) d (2^d-1) 0 [] a (by omega) fun y f=>(by unfold atT;rw[iP (b y f)];rfl);obtain⟨s,u⟩:=Uq o (fun n=>Zjg t n) (Zfz q) (by omega) e;have c:=Ci (F:=atT t) (i:=m) (only:=only) d (2^d-1) 0 [] a (by omega);obtain⟨OL,j,v,w,z⟩:=Zf0 c.op c.opr b (by omega);obtain⟨SL,k,A,B,C⟩:=Zf0 c.sh c.shr b (by omega);exact⟨OL,SL,j,k,s.trans j,u.trans k,v,A,w,B,z,C⟩
open ShaM
end Go.Proofs.YtfofaiommeckbaaGreat
namespace Go.Proofs.YtfofaiommeckbaaGreat
open Go.RowKit ShaM WireM
open WalkM
theorem Xn (d:NodeD):Co d d=true:=by simp[Co,Ht]
end Go.Proofs.YtfofaiommeckbaaGreat
namespace Go.Proofs.YtfofaiommeckbaaGreat
open Go.RowKit WalkM WireM
def Va (a b:SparseD):Bool:=decide (a.leaves=b.leaves/\a.own=b.own/\a.op.length=b.op.length/\a.sh.length=b.sh.length)&&(aC a.op.length).all (fun i=>decide ((spt a.op i).1=(spt b.op i).1)&&Co (spt a.op i).2 (spt b.op i).2)&&
 (aC a.sh.length).all fun i=>decide ((stb a.sh i).1=(stb b.sh i).1)&&decide ((stb a.sh i).2=(stb b.sh i).2)
theorem Xo (a:SparseD):Va a a=true:=by
 unfold Va;rw[cK,cK,dI,eB,eB];exact⟨⟨⟨rfl,rfl,rfl,rfl⟩,fun i _=>by rw[dT rfl,Xn];rfl⟩,fun i _=>by rw[dT rfl,dT rfl];rfl⟩
