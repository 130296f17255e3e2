import Derived.Test.YtfofaiommeckbaaGreatZCk13
import Derived.Laws.MakeOwn
import Derived.Test.YtfofaiommeckbaaGreatZCk17
import Derived.Test.YtfofaiommeckbaaGreatZCk19
open Go.Obj renaming cells -> rJ
open Go.Ending renaming returned -> rK
open Go.Value renaming slice -> rC, int -> rD, pointer -> rE
open Go.IntKind renaming i64 -> rF, u8 -> rG
open Option renaming none -> rI
open Go.Proofs.Tryz
open Int renaming toNat_natCast -> cV
open Bool renaming and_eq_true -> aT, or_false -> dM, or_true -> dO
open List renaming getD_eq_getElem?_getD -> aS, range -> aN, flatMap_def -> gL, map_congr_left -> gZ, getElem?_eq_getElem -> bB, take_length -> dD, getElem_mem -> bC, replicate -> eK, getElem?_toArray -> cR, getElem?_cons_zero -> cS, getElem?_cons_succ -> aP, filterMap_cons -> dG, filterMap_nil -> dH, contains_cons -> dJ, contains_nil -> dK, all_eq_true -> dX
open Nat renaming le_trans -> eT, le_refl -> eG, lt_of_lt_of_le -> cH, le_succ -> gI, lt_succ_self -> dU, not_lt_zero -> hQ, succ_le_of_lt -> iC, le_of_lt -> eW
set_option linter.unusedVariables false
set_option maxRecDepth 100000
set_option maxHeartbeats 40000000
namespace Go.Proofs.YtfofaiommeckbaaGreat
open Go.RowKit WalkM ShaM WireM
def Ot (T:Nat->NodeD)(y:Nat):List Nat:=Hh T (lev y) y
theorem Zer (T:Nat->NodeD)(y:Nat):(Ot T y).length=32:=Ex _ _ _
theorem Zid (t:List NodeD)(hs:El t=true)(hok:TreeOk t)(hp:Ci t=true):∀k,Zhw t k:=by
 intro k
 induction k with
 |zero=>exact Zdq t hs hok hp
 |succ k ih=>exact Zdr t hs hok hp k ih
theorem AllR.congr {w:World} {g n:Nat} {F F':Nat->Option (List Nat)}(h:AllR w g n F)(e:∀y,y<n->F' y=F y):AllR w g n F':=by
 obtain⟨cs,h1,h2,h3⟩:=h;refine⟨cs,h1,h2,fun y hy=> ?_⟩;obtain⟨u,k1,k2⟩:=h3 y hy;exact⟨u,k1,fun L hL=>k2 L (by rw[<-e y hy];exact hL)⟩
theorem Zes {n:Nat}(f:n<=4000000):∀w:World,(Instr.makeSlice 64 (rD rF (n:Nat)) (rD rF (n:Nat))).run prog w=.ok (rC (some ⟨w.heap.size,0,rI⟩) n n) (w.alloc (.cells (madeCells (Value.slice none 0 0).cells (n*1)) 28)):=by
 intro w;obtain⟨i,d,e,b,a⟩:∃i,prog.info? 28=some i/\i.zero=some (rC rI 0 0)/\i.size=1/\i.bytes=24:=info_parts (by kernel_rfl);have c:=run_make (P:=prog) w 64 28 i (rC rI 0 0) underlying64 d e .i64 .i64 n n (by omega) (by omega) (by rw[a];omega) (by omega);simp only[cV,b]at c;exact c
theorem Zet (w:World)(n:Nat):AllR (w.alloc (.cells (madeCells (Value.slice none 0 0).cells (n*1)) 28)) w.heap.size n (fun _=>none):=by
 refine⟨_,Blk.new w _ _,by simp[madeCells],fun y hy=> ?_⟩;exact⟨_,Array.getElem?_eq_getElem (by simpa [madeCells]using hy),fun L hL=>by cases hL⟩
theorem Zie (v:Value)(t:List NodeD)(w:World)(h:TreeR w v t)(u:El t=true)(f:TreeOk t)(o:Fy t=true):
  Calls prog 131 #[v] w fun e w'=>∃g,w.heap.size<=g/\e=rK (.tuple #[rC (some ⟨g,0,rI⟩) t.length t.length,rD rG 0])/\AllR w' g t.length (fun y=>some (Ot (nd t) y))/\Below w.heap.size w w':=by
 have D:=Za4 v t w h u f;rw[o]at D;have J:=Hd D;obtain⟨l,N⟩:Be t.length≠0/\Ci t=true:=by
  rw[Fy,aT,aT]at o;exact⟨oD o.1,o.2.1⟩
 obtain⟨d,V,P,L⟩:=Jf l;have k:=Fv u;have H:0<2^d:=Nat.pos_of_ne_zero (by simp);have p:IsLev (2^d-1) d:=by
  unfold IsLev;exact Nat.mod_eq_of_lt (by have:2^(d+1)=2*2^d:=(by rw[Nat.pow_succ];omega);omega)
 have r:=fun(W:World) (g:Nat) (T:Below w.heap.size w W) (S:w.heap.size<=g) (E:AllR W g t.length (fun _=>none))=>Zid t u f N d (2^d-1) g v W _ (h.g T S) E p (by omega);have q:=fun(W:World) (g:Nat) (E:AllR W g t.length (Lk (nd t) (fun _=>none) d (2^d-1)))=>E.congr (F':=fun y=>some (Ot (nd t) y)) (fun y Y=>by
  unfold Lk Ot;rw[iP ⟨by omega,by omega⟩])
 obtain⟨a,c,rfl,Q,R⟩:=h.sl;obtain⟨n,M⟩:=eX t.length;rw[<-M]at L k Q r q J|-;obtain⟨x,hx⟩:=eX (2^d-1);rw[<-hx]at r q;have X:(n:Int)/2=(x:Int):=(by omega);have C:=Zes (n:=n) (by omega);have j:=Hd (fun(W:World)=>Zet W n);obtain⟨Z,K⟩:=eX (madeCells (Value.slice none 0 0).cells (n*1));rw[<-K]at C j;have B:=Hd r;have A:=Hd q;clear hx K D h u f o l N P L p r q M H;go_in;go_wp2_with fail;refine(J.out).mono ?_;rintro e U ⟨rfl,G⟩;have s:=Hd G;have i:=G.size;clear G;go_wp2_with fail;refine(B.out _ _ (s.out.alloc s.out.size _) i (j.out U)).mono ?_;rintro e w2 ⟨v2,rfl,I,F,b,m⟩;have O:=Hd (A.out _ _ b);have z:=Hd ((s.out.alloc s.out.size (.cells Z 28)).trans (m.1.mono i));clear I F b m;go_wp2_with fail;go_ret2;exact⟨_,i,rfl,O.out,z.out⟩
end Go.Proofs.YtfofaiommeckbaaGreat
namespace Go.Proofs.YtfofaiommeckbaaGreat
open Go.RowKit Go.Maps WalkM WireM
theorem Zeu (g:Nat)(b d n A x:Nat)(x0 x1 x2 x3 x4 x5 x6 x7 x8 x9:Value)(w:World)(t:w.cell? ⟨g,0,rI⟩=some (rC (some ⟨b,d,rI⟩) n A))(hx:x<n)(y:w.rangeAt b (d+x*10) [x0,x1,x2,x3,x4,x5,x6,x7,x8,x9])(j:(#[x0,x1,x2,x3,x4,x5,x6,x7,x8,x9]:Array Value).toList.all (·.oneCell')=true):
  Calls prog 134 #[rD rF (x:Nat),rE (some ⟨g,0,rI⟩)] w fun e w'=>e=rK (.tuple #[.agg #[x0,x1,x2,x3,x4,x5,x6,x7,x8,x9],.bool true])/\Below w.heap.size w w':=by
 have E:(x:Int)<(n:Int):=(by omega);have r:=Hd y;have m:=Hd j;have B:=Hd t;have u:g<w.heap.size:=World.block_lt_of_cell? w _ t;have s:b<w.heap.size:=World.block_lt_of_cell? w _ (y 0 x0 rfl);obtain⟨z,c⟩:=eX (w.alloc (rJ #[rD rG 0,rC rI 0 0,rC rI 0 0,rC rI 0 0,rD rG 0,rC rI 0 0,rC rI 0 0,rC rI 0 0,rC rI 0 0,rC rI 0 0] 52));have a:=Hd (show Below w.heap.size w z from by rw[c];exact bR.alloc lR _);have l:=Hd (show Blk z w.heap.size 52 #[rD rG 0,rC rI 0 0,rC rI 0 0,rC rI 0 0,rD rG 0,rC rI 0 0,rC rI 0 0,rC rI 0 0,rC rI 0 0,rC rI 0 0]from by rw[c];exact Blk.new _ _ _);have D:z.cell? ⟨g,0,rI⟩=some (rC (some ⟨b,d,rI⟩) n A):=(a.out.cell (p:=⟨g,0,rI⟩) u).trans B.out;have f:=Hd (Aj r.out a.out s);rw[c]at l f D a;clear y j t c;go_in;go_wp2_with (first|(refine wpList_load_mid rfl 52 (.tmp 7) rfl b (d+x*10) rfl [x0,x1,x2,x3,x4,x5,x6,x7,x8,x9] _ f.out underlying52 rfl Bc ?_)|(refine Aa rfl 52 (.tmp 3) (.tmp 8) rfl w.heap.size #[x0,x1,x2,x3,x4,x5,x6,x7,x8,x9] rfl rfl 52 #[rD rG 0,rC rI 0 0,rC rI 0 0,rC rI 0 0,rD rG 0,rC rI 0 0,rC rI 0 0,rC rI 0 0,rC rI 0 0,rC rI 0 0] l.out (by kernel_rfl) rfl m.out ?_));rintro F i h o k;have C:=Hd i;have q:=Hd (a.out.trans (h w.heap.size lR));clear i h o k;go_wp2_with fail;exact bodyPost_ret (v:=.tuple #[.agg #[x0,x1,x2,x3,x4,x5,x6,x7,x8,x9],.bool true]) (Ac results134 _ _ w.heap.size _ _ _ rfl C.out underlying52 rfl (by kernel_rfl)) rfl ⟨rfl,q.out⟩
end Go.Proofs.YtfofaiommeckbaaGreat
namespace Go.Proofs.YtfofaiommeckbaaGreat
open Go.RowKit ShaM WireM
theorem Zbo (v:Value)(L:List Nat)(w:World)(h:Rd w v (bvs L))(g:∀x∈L,x<256)(i:L.length<=1000000):
  Calls prog 85 #[v] w fun e w'=>∃v',e=rK v'/\Own w' w.heap.size 5 v' (bvs (shaF L))/\Below w.heap.size w w':=by
 have m:=Hd (Zcm w);have RS:=Hd (fun(W:World) (o:Below w.heap.size w W) (j k:Value) (n:Rd W j (qvs HL0)) (hk:Rd W k (qvs KL))=>Zic v j k L W (h.below o lR) n hk g i);clear h g i;go_in;go_wp2_with fail;refine(m.out).mono ?_;rintro e r ⟨p,q,rfl,h1,h2,f⟩;have C:=Hd (RS.out r f p q h1 h2);have c:=Hd f;clear h1 h2 f;go_wp2_with fail;refine(C.out).mono ?_;rintro e t ⟨s,rfl,a,b⟩;have l:=Hd a;have d:=Hd (c.out.trans (b.mono c.out.size));clear a b;go_wp2_with fail;go_ret;exact⟨_,rfl,l.out.mono c.out.size,d.out⟩
open WalkM
end Go.Proofs.YtfofaiommeckbaaGreat
namespace Go.Proofs.YtfofaiommeckbaaGreat
open Go.RowKit WalkM WireM ShaM
theorem Zev {t:List NodeD}(b:Fy t=true) {x:Nat}(hx:x<t.length):∀u∈(nd t x).par.late,∃m:Nat,u=(m:Int)/\2*m<t.length:=by
 rw[Fy,aT,aT,aT]at b;obtain⟨h1,h,_,g⟩:=b;obtain⟨d,i,f,a⟩:=Jf (oD h1);intro u c;obtain⟨h2,m,rfl,j⟩:=Nz h hx c;have e:=Px (Qa g x hx) _ c;refine⟨m,rfl,?_⟩;have:=e.1;rw[f]at this;omega
theorem Sm {w:World} {v:Value} {d:List Nat}(h:Rd w v (ivs .i64 (d.map fun m:Nat=>(m:Int)))):∃a c,v=.slice a d.length c/\∀r,r<d.length->∃b o,a=some ⟨b,o,rI⟩/\b<w.heap.size/\w.cell? ⟨b,o+r,rI⟩=some (rD rF ((d.getD r 0:Nat):Int)):=by
 obtain⟨a,n,c,rfl⟩:∃a n c,v=.slice a n c:=(by obtain⟨a,c,e,-⟩:=h;exact⟨_,_,_,e⟩);obtain rfl:n=d.length:=by
  obtain⟨g,i,e,-⟩:=h;cases e;simp[ivs]
 refine⟨a,c,rfl,fun r f=>h.at3 ?_⟩;rw[By (by simpa using f)]
 congr 3
 simp[aS,f]
def Zjx (t:List NodeD)(M i:Nat)(OL SL:List Nat):SparseD:=⟨(M:Int),(i:Int),OL.map fun m:Nat=>((m:Int),nd t m),SL.map fun m:Nat=>((m:Int),Ot (nd t) m)⟩
end Go.Proofs.YtfofaiommeckbaaGreat
namespace Go.Proofs.YtfofaiommeckbaaGreat
open Go.RowKit WalkM WireM
theorem NodeO.keep2 {w w':World} {B:Nat} {d:NodeD} {c:Array Value}(h:NodeO w B d c)(hk:∀e v xs,e=5\/e=3->Own w B e v xs->Own w' B e v xs):NodeO w' B d c:=by
 obtain⟨x0,x1,x2,x3,x4,u0,u1,u2,rfl,h0,h1,h2,h3,a,b,f,g⟩:=h;exact⟨x0,x1,x2,x3,x4,u0,u1,u2,rfl,hk _ _ _ (.inl rfl) h0,hk _ _ _ (.inl rfl) h1,hk _ _ _ (.inl rfl) h2,hk _ _ _ (.inl rfl) h3,hk _ _ _ (.inl rfl) a,hk _ _ _ (.inl rfl) b,hk _ _ _ (.inl rfl) f,hk _ _ _ (.inr rfl) g⟩
theorem NodeO.stepQ {V:Value} {B B':Nat} {X Y:World} {d:NodeD} {c:Array Value}(hs:StepO V B X Y)(k:NodeO X B' d c)(hV:∀g,V.ownBlock=some g->g<B'):NodeO Y B' d c:=k.keep2 fun _ _ _ _ hu=>hs.own hu hV
theorem NodeO.onlyQ {w w':World} {B C:Nat} {d:NodeD} {c:Array Value}(k:NodeO w B d c)(hb:Only C w w')(hC:C<B):NodeO w' B d c:=k.keep2 fun e v xs _ hu=>OwnK.onlyQ (show OwnK w B e 1 v xs.length xs from hu) hb hC
theorem NodeO.cutQ {w X:World} {V:Value} {q B B' k n:Nat} {T:TypeId} {i:List Value} {d:NodeD} {c:Array Value}(h:CutS w V q X)(o:NodeO w B d c)(b:q<B)(f:OwnK w B' T k V n i)(h1:5≠T)(h2:3≠T):NodeO X B d c:=
 o.keep2 fun e v xs g a=>CutS.ownK (k:=1) h a b (OwnK.apartK (k:=1) a f (by rcases g with rfl|rfl<;>assumption))
theorem Sn {w:World} {a:Option Addr} {n c:Nat} {d:List Nat}(h:Rd w (rC a n c) (ivs .i64 (d.map fun m:Nat=>(m:Int)))) {r:Nat}(e:r<d.length):∃b o,a=some ⟨b,o,rI⟩/\b<w.heap.size/\w.cell? ⟨b,o+r,rI⟩=some (rD rF ((d.getD r 0:Nat):Int)):=by
 refine h.at3 ?_;rw[By (by simpa using e)]
 congr 3
 simp[aS,e]
theorem Zbp {W:World} {B:Nat} {V:Value} {D:Nat->NodeD} {a:List Nat} {CF:Nat->Array Value} (d:∀k,k<a.length->NodeC W (D (a.getD k 0)) (CF k))
  (g:OwnK W B 87 11 V a.length ((aN a.length).flatMap fun k=> rD rF ((a.getD k 0:Nat):Int)::(CF k).toList)):SpotsR W V (a.map fun m:Nat=>((m:Int),D m)):=by
 have f:(a.map fun m:Nat=>((m:Int),D m)).length=a.length:=(by simp);have c:∀i,i<a.length->spt (a.map fun m:Nat=>((m:Int),D m)) i=(((a.getD i 0:Nat):Int),D (a.getD i 0)):=fun i b=>(by simp[spt,aS,b]);refine Zh (B:=B) (C:=fun i=>if i<a.length then CF i else#[rD rG 0,rC rI 0 0,rC rI 0 0,rC rI 0 0,rD rG 0,rC rI 0 0,rC rI 0 0,rC rI 0 0,rC rI 0 0,rC rI 0 0]) (fun i=> ?_) (fun i b=> ?_) ?_
 ·split
  ·rename_i b;exact(d _ b).size
  ·rfl
 ·rw[f]at b;rw[c i b,iP b];exact d i b
 ·rw[f];have e:(aN a.length).flatMap (Ez (a.map fun m:Nat=>((m:Int),D m)) fun i=>if i<a.length then CF i else#[rD rG 0,rC rI 0 0,rC rI 0 0,rC rI 0 0,rD rG 0,rC rI 0 0,rC rI 0 0,rC rI 0 0,rC rI 0 0,rC rI 0 0])=(aN a.length).flatMap fun k=> rD rF ((a.getD k 0:Nat):Int)::(CF k).toList:=by
   rw[gL,gL]
   congr 1
   refine gZ fun i b=> ?_;have b:=List.mem_range.1 b;rw[Ez,c i b,iP b]
  rw[e];exact g
theorem Zbq {W:World} {B:Nat} {V:Value} {H:Nat->List Nat} {a:List Nat} {U:Nat->Value} (f:∀j,j<a.length->Own W B 5 (U j) (bvs (H (a.getD j 0))))
  (g:OwnK W B 89 2 V a.length ((aN a.length).flatMap fun j=>[rD rF ((a.getD j 0:Nat):Int),U j])):StubsR W V (a.map fun m:Nat=>((m:Int),H m)):=by
 have d:(a.map fun m:Nat=>((m:Int),H m)).length=a.length:=(by simp);have c:∀i,i<a.length->stb (a.map fun m:Nat=>((m:Int),H m)) i=(((a.getD i 0:Nat):Int),H (a.getD i 0)):=fun i b=>(by simp[stb,aS,b]);refine Zi (B:=B) (U:=U) (fun i b=> ?_) ?_
 ·rw[d]at b;rw[c i b];exact(f i b).rd
 ·rw[d];have e:(aN a.length).flatMap (Ht (a.map fun m:Nat=>((m:Int),H m)) U)=(aN a.length).flatMap fun j=>[rD rF ((a.getD j 0:Nat):Int),U j]:=by
   rw[gL,gL]
   congr 1
   refine gZ fun i b=> ?_;have b:=List.mem_range.1 b;rw[Ht,c i b]
  rw[e];exact g
open Go.Maps
def atT (t:List NodeD)(x:Nat):Option NodeD:=if x<t.length then some (nd t x)else none
def GF (OL:List Nat)(val:Nat->Value)(r:Nat)(y:Int):Option Value:=if y∈(OL.take r).map (fun m:Nat=>(m:Int))then some (val y.toNat)else none
theorem Zew (OL:List Nat)(val:Nat->Value):GF OL val 0=fun _=>none:=by
 funext y;unfold GF;rw[List.take_zero,List.map_nil,iN (by simp)]
theorem Zex {a:List Nat} {val:Nat->Value} {r:Nat}(h:r<a.length):(fun y:Int=>if y=((a.getD r 0:Nat):Int)then some (val (a.getD r 0))else GF a val r y)=GF a val (r+1):=by
 have e:a.getD r 0=a[r]:=by rw[aS,bB h];rfl
 funext y
 unfold GF;rw[List.take_succ_eq_append_getElem h,List.map_append,e]
 by_cases hy:y=((a[r]:Nat):Int)
 ·rw[iP hy,iP (by simp[hy]),hy,cV]
 ·rw[iN hy]
  by_cases h2:y∈(a.take r).map (fun m:Nat=>(m:Int))
  ·rw[iP h2,iP (List.mem_append_left _ h2)]
  ·rw[iN h2,iN (fun h3=>by
    rw[List.mem_append]at h3;rcases h3 with h3|h3
    ·exact h2 h3
    ·exact hy (by simpa using h3))]
theorem Zey {OL:List Nat} {val:Nat->Value}(h:OL.Pairwise (· < ·)):Dg (GF OL val OL.length) (OL.map fun m:Nat=>(m:Int)):=by
 refine⟨by rw[List.pairwise_map];exact h.imp fun h=>by omega,fun x=> ?_⟩;unfold GF;rw[dD]
 by_cases hx:x∈OL.map (fun m:Nat=>(m:Int))
 ·rw[iP hx];simp[hx]
 ·rw[iN hx];simp[hx]
theorem Zmc {OL:List Nat} {val:Nat->Value} {x:Nat}(h:x∈OL):GF OL val OL.length ((x:Nat):Int)=some (val x):=by
 unfold GF;rw[dD,iP (List.mem_map.2 ⟨x,h,rfl⟩),cV]
theorem Zif {w w':World} {g:Nat} {T:TypeId} {cs:Array Value} {u:Value} {L:List Nat}(h:Rd w u (bvs L))(n:Blk w g T cs)(f:∀z∈cs.toList,∀k:Int,z≠ rD rG k)(p:Only g w w'):Rd w' u (bvs L):=by
 obtain⟨a,cap,rfl,h1,h2,h3⟩:=h;refine⟨a,cap,rfl,h1,h2,?_⟩;rcases h3 with h3|⟨b,c,rfl,m⟩
 ·exact .inl h3
 ·cases L with
  |nil=>exact .inr ⟨b,c,rfl,fun j u l=>by simp[bvs]at l⟩
  |cons x L=>
   have d:=m 0 (rD rG (x:Nat)) (by simp[bvs]);have o:=World.block_lt_of_cell? w _ d;have i:b≠g:=by
    intro e;subst e;rw[n.cell]at d;exact f _ (Array.mem_toList_iff.2 (Array.mem_of_getElem? d)) x rfl
   refine .inr ⟨b,c,rfl,fun j u l=> ?_⟩;have:=m j u l;have e:=p.block b o (fun e=>i (by cases e;rfl));simp only[World.cell?]at this|-;rw[e];exact this
theorem Zez (a:World)(b:Array Value)(M i:Nat)(h0:Nat)(c:h0=a.heap.size):
  MapF ((((a.alloc (.cells b 44)).alloc (.map #[] 0)).alloc (.map #[] 0)).alloc (rJ #[rD rF (M:Nat),rD rF (i:Nat),.map (some (h0+1)),.map (some (h0+1+1))] 101)) (h0+1) 0 (fun _=>none)/\
  MapF ((((a.alloc (.cells b 44)).alloc (.map #[] 0)).alloc (.map #[] 0)).alloc (rJ #[rD rF (M:Nat),rD rF (i:Nat),.map (some (h0+1)),.map (some (h0+1+1))] 101)) (h0+1+1) 0 (fun _=>none)/\
  Blk ((((a.alloc (.cells b 44)).alloc (.map #[] 0)).alloc (.map #[] 0)).alloc (rJ #[rD rF (M:Nat),rD rF (i:Nat),.map (some (h0+1)),.map (some (h0+1+1))] 101)) (h0+1+1+1) 101 #[rD rF (M:Nat),rD rF (i:Nat),.map (some (h0+1)),.map (some (h0+1+1))]/\
  Below h0 a ((((a.alloc (.cells b 44)).alloc (.map #[] 0)).alloc (.map #[] 0)).alloc (rJ #[rD rF (M:Nat),rD rF (i:Nat),.map (some (h0+1)),.map (some (h0+1+1))] 101))/\
  ((((a.alloc (.cells b 44)).alloc (.map #[] 0)).alloc (.map #[] 0)).alloc (rJ #[rD rF (M:Nat),rD rF (i:Nat),.map (some (h0+1)),.map (some (h0+1+1))] 101)).heap.size=h0+1+1+1+1:=by
 subst c;refine⟨?_,?_,?_,?_,by simp⟩
 ·have:=((MapF.made (a.alloc (.cells b 44))).alloc (.map #[] 0)).alloc (rJ #[rD rF (M:Nat),rD rF (i:Nat),.map (some (a.heap.size+1)),.map (some (a.heap.size+1+1))] 101);simpa using this
 ·have:=(MapF.made ((a.alloc (.cells b 44)).alloc (.map #[] 0))).alloc (rJ #[rD rF (M:Nat),rD rF (i:Nat),.map (some (a.heap.size+1)),.map (some (a.heap.size+1+1))] 101);simpa using this
 ·have:=Blk.new (((a.alloc (.cells b 44)).alloc (.map #[] 0)).alloc (.map #[] 0)) 101 #[rD rF (M:Nat),rD rF (i:Nat),.map (some (a.heap.size+1)),.map (some (a.heap.size+1+1))];simpa using this
 ·exact(((bR.alloc lR _).alloc (by simp) _).alloc (by simp;omega) _).alloc (by simp;omega) _
theorem Zla (v:Value) (t:List NodeD) (hh m d:Nat) (only:Bool) (F A:List Nat) (w:World) (h:TreeR w v t) (hs:El t=true) (a8:TreeOk t) (hr:Fy t=true) (aR:t.length=2*hh+1) (dB:Be t.length=hh+1) (hd:d<=16) (dP:hh+1=2^d) (S:((m:Nat):Int)∈Pj t (hh+1))
  (eO:(Cv (atT t) m only d (2^d-1) 0 []).1=F.map fun m:Nat=>(m:Int)) (eS:(Cv (atT t) m only d (2^d-1) 0 []).2.1=A.map fun m:Nat=>(m:Int)) (dD:F.Pairwise (· < ·)) (dE:A.Pairwise (· < ·))
  (hO:∀x∈F,x<t.length) (hS:∀x∈A,x<t.length) (eU:F.length<=100000) (eV:A.length<=100000):
  Calls prog 74 #[v,rD rF (m:Nat),.bool only] w fun e w'=>∃ob sb G G2,e=rK (.tuple #[.agg #[rD rF ((2^d:Nat):Int),rD rF (m:Nat),.map (some ob),.map (some sb)],rD rG 0])/\
   MapF w' ob F.length G/\Dg G (F.map fun m:Nat=>(m:Int))/\(∀x∈F,∃c,G ((x:Nat):Int)=some (.agg c)/\NodeC w' (nd t x) c)/\MapF w' sb A.length G2/\Dg G2 (A.map fun m:Nat=>(m:Int))/\(∀x∈A,∃u,G2 ((x:Nat):Int)=some u/\Rd w' u (bvs (Ot (nd t) x)))/\Below w.heap.size w w':=by
 have eL:=Fv hs;have fB:=((mem_iff t (hh+1) m).1 S).1;obtain⟨a,cp,rfl,hc,eN⟩:=h.sl;obtain⟨b,s,-,rfl,bY,-,-⟩:=h.node (i:=0) (by omega);obtain⟨C0,dA⟩:=Ip (n:=t.length) (P:=fun i c=>NodeC w (nd t i) c/\w.rangeAt b (s+i*10) c.toList) fun i S=>by
  obtain⟨b',off',c,h1,h2,h3,h4⟩:=h.node S;cases h1;exact⟨c,h3,h4⟩
 obtain⟨C,a5⟩:∃C:Nat->Array Value,C=fun i=>if i<t.length then C0 i else#[rD rG 0,rC rI 0 0,rC rI 0 0,rC rI 0 0,rD rG 0,rC rI 0 0,rC rI 0 0,rC rI 0 0,rC rI 0 0,rC rI 0 0]:=⟨_,rfl⟩;have hC:∀i,i<t.length->NodeC w (nd t i) (C i)/\w.rangeAt b (s+i*10) (C i).toList:=fun i S=>(by rw[a5];simp only[iP S];exact dA i S);have T:∀i,∃c0 c1 c2 c3 c4 c5 c6 c7 c8 c9,C i=#[c0,c1,c2,c3,c4,c5,c6,c7,c8,c9]:=fun i=>by
  by_cases S:i<t.length
  ·exact(hC i S).1.ten
  ·rw[a5];simp only[iN S];exact⟨_,_,_,_,_,_,_,_,_,_,rfl⟩
 have aV:∀i,(C i).toList.all (·.oneCell')=true:=fun i=>by
  by_cases S:i<t.length
  ·exact(hC i S).1.oneL
  ·rw[a5];simp only[iN S];rfl
 have a6:∀x d,atT t x=some d->x<t.length/\d=nd t x:=fun x d hx=>by
  unfold atT at hx
  split at hx
  ·rename_i hx2;cases hx;exact⟨hx2,rfl⟩
  ·cases hx
 have cD:=Hd fun(W:World) (hw:Below w.heap.size w W)=>Zie _ t W (h.below hw lR) hs a8 hr;have cX:=Hd fun(W:World) (hw:Below w.heap.size w W)=>Zdn _ t hh m W (h.below hw lR) hs a8 hr aR dB S;have aL:=Hd fun(g:Nat) (W:World) (hw:Below w.heap.size w W) (hg:W.cell? ⟨g,0,rI⟩=some (rC (some ⟨b,s,rI⟩) t.length cp))=>
  Tz 134 g (fun _ _=>rfl) (atT t) C W ⟨T,fun x d hx=>by
   obtain⟨h1,rfl⟩:=a6 x d hx;exact(hC x h1).1.below hw lR,aV,fun x d hx=>by
   obtain⟨h1,rfl⟩:=a6 x d hx;exact(a8.nd x).kind,fun x d hx=>by
   obtain⟨h1,rfl⟩:=a6 x d hx;have:=Ed hs x;unfold Cj at this;have:=oD this;refine⟨fun u hu=> ?_,by omega⟩;obtain⟨k,rfl,hk⟩:=Zev hr h1 u hu
   omega⟩ d m only (by omega) hd fun x hx W' dZ=>by
   have cA:x<t.length:=(by omega);obtain⟨x0,x1,x2,x3,x4,x5,x6,x7,x8,x9,he⟩:=T x;have dW:=(hC x cA).2;have dU:=aV x;rw[he]at dW dU|-;rw[show(atT t x).isSome=true from by unfold atT;rw[iP cA];rfl];have eQ:g<W.heap.size:=World.block_lt_of_cell? W _ hg;exact Zeu g b s t.length cp x x0 x1 x2 x3 x4 x5 x6 x7 x8 x9 W' ((dZ.cell (p:=⟨g,0,rI⟩) eQ).trans hg) cA (Aj dW (hw.trans (dZ.mono hw.size)) bY) dU
 rw[eO,eS]at aL;obtain⟨e6,bK⟩:=eX ((Cv (atT t) m only d (2^d-1) 0 []).2.2);rw[<-bK]at aL;obtain⟨M,hM⟩:=eX (2^d);rw[<-hM]at aL dP|-;obtain⟨n,hn⟩:=eX t.length;rw[<-hn]at cD cX aL hC hO hS eL aR|-;have e5:Int.tdiv ((n:Int)+1) 2=(M:Int):=(by rw[Int.tdiv_eq_ediv_of_nonneg (by omega)];omega);have fA:IntKind.i64.wrap (M:Int)=(M:Int):=(by rw[IntKind.wrap_i64]<;>omega);have e9:IntKind.i64.wrap ((n:Int)+1)=(n:Int)+1:=(by rw[IntKind.wrap_i64]<;>omega);have HC:=Hd hC;have cW:=Hd T;have HO:=Hd (show∀k,k<F.length->F.getD k 0<n from fun k hk=>hO _ (by rw[aS,bB hk];exact bC hk));have HS:=Hd (show∀k,k<A.length->A.getD k 0<n from fun k hk=>hS _ (by rw[aS,bB hk];exact bC hk));have d8:=Hd hO;have eB:=Hd hS;have bQ:=Hd (Zey (val:=fun x=> .agg (C x)) dD);have d4:=Hd dE;obtain⟨N,hN⟩:=eX w.heap.size;have HN:=Hd hN;clear dA a5 hC T aV a6 hO hS dD dE eO eS bK hn h hs a8 hr dB S aR hc eN hM dP;go_in;go_wp2_with fail;obtain⟨w2,aY⟩:=eX ((w.alloc (rJ #[rC (some ⟨b,s,rI⟩) n cp] 55)).alloc (rJ #[rD rF 0,rD rF 0,.map none,.map none] 101));have bO:=Hd (show Below w.heap.size w w2 from by rw[aY];exact(bR.alloc lR _).alloc (by simp) _);have aE:=Hd (show Blk w2 N 55 #[rC (some ⟨b,s,rI⟩) n cp]from by rw[aY,hN];exact(Blk.new _ _ _).alloc _);have aB:=Hd (show Blk w2 (N+1) 101 #[rD rF 0,rD rF 0,.map none,.map none]from by
  rw[aY,hN];have:=Blk.new (w.alloc (rJ #[rC (some ⟨b,s,rI⟩) n cp] 55)) 101 #[rD rF 0,rD rF 0,.map none,.map none];simpa using this)
 rw[<-aY,<-hN];clear aY hN;refine(cD.out _ bO.out).mono ?_;rintro e w3 ⟨ga,eP,rfl,aO,a7⟩;have a0:=Hd (bO.out.trans (a7.mono bO.out.size));have aF:=Hd (aE.out.below a7 aE.out.lt);have bA:=Hd (aB.out.below a7 aB.out.lt);obtain⟨U,hU⟩:=Ip (n:=n) (P:=fun y u=>w3.cell? ⟨ga,y,rI⟩=some u/\Rd w3 u (bvs (Ot (nd t) y))) fun y hy=>by
  obtain⟨u,h1,h2,-⟩:=aO.row hy rfl;exact⟨u,h1,h2⟩
 have cP:=Hd (show ga<w3.heap.size from aO.lt);have HU:=Hd hU;have c0:w3.cell? ⟨N,0,rI⟩=some (rC (some ⟨b,s,rI⟩) n cp):=aF.out.cell 0;clear a7 eP aO hU aE aB;go_wp2_with fail;clear c0;refine(cX.out _ a0.out).mono ?_;rintro e w4 ⟨c6,rfl,eR,aQ⟩;have cG:=Hd (a0.out.trans (aQ.mono a0.out.size));have Y:=Hd aQ;have aG:=Hd (aF.out.below aQ aF.out.lt);have aC:=Hd (bA.out.below aQ bA.out.lt);obtain⟨y1,z1,y2,z2,y3,z3,y4,z4,y5,z5,rfl,-⟩:=eR;have k1:(w4.alloc (rJ #[.slice y1 (nd t (2*m)).leaf.box.length z1,.slice y2 (nd t (2*m)).leaf.sign.length z2,.slice y3 (nd t (2*m)).leaf.ident.length z3,rD rG ((nd t (2*m)).leaf.source:Nat),.slice y4 (nd t (2*m)).leaf.par.length z4,.slice y5 (nd t (2*m)).leaf.sig.length z5] 44)).cell? ⟨N,0,rI⟩=some (rC (some ⟨b,s,rI⟩) n cp):=(aG.out.alloc _).cell 0;have eE:∀w,(Instr.makeMap 98 none).run prog w=.ok (.map (some w.heap.size)) (w.alloc (.map #[] 0)):=fun w=>rfl;have eH:∀w,(Instr.makeMap 99 none).run prog w=.ok (.map (some w.heap.size)) (w.alloc (.map #[] 0)):=fun w=>rfl;clear aQ;go_wp2_with fail;obtain⟨h0,J⟩:=eX w4.heap.size;have dY:=Zez w4 #[.slice y1 (nd t (2*m)).leaf.box.length z1,.slice y2 (nd t (2*m)).leaf.sign.length z2,.slice y3 (nd t (2*m)).leaf.ident.length z3,rD rG ((nd t (2*m)).leaf.source:Nat),.slice y4 (nd t (2*m)).leaf.par.length z4,.slice y5 (nd t (2*m)).leaf.sig.length z5] M m h0 J;rw[<-J];generalize hw7:((((w4.alloc (rJ #[.slice y1 (nd t (2*m)).leaf.box.length z1,.slice y2 (nd t (2*m)).leaf.sign.length z2,.slice y3 (nd t (2*m)).leaf.ident.length z3,rD rG ((nd t (2*m)).leaf.source:Nat),.slice y4 (nd t (2*m)).leaf.par.length z4,.slice y5 (nd t (2*m)).leaf.sig.length z5] 44)).alloc (.map #[] 0)).alloc (.map #[] 0)).alloc (rJ #[rD rF (M:Nat),rD rF (m:Nat),.map (some (h0+1)),.map (some (h0+1+1))] 101))=w7 at dY|-;obtain⟨m1,m2,m3,m4,m5⟩:=dY;have HH:=Hd J;have a3:=Hd (cG.out.trans (m4.mono (by rw[J];exact cG.out.size)));have O:=Hd (aG.out.below m4 (by rw[J];exact aG.out.lt));have aD:=Hd (aC.out.below m4 (by rw[J];exact aC.out.lt));have cI:=Hd m4;have aH:=Hd m1;have aI:=Hd m2;have Q:=Hd m3;have H:=Hd m5;obtain⟨pv,a9⟩:=eX (h0+1+1+1);obtain⟨sb,aW⟩:=eX (h0+1+1);obtain⟨ob,aU⟩:=eX (h0+1);rw[<-a9,<-aW,<-aU]at Q;rw[<-aW]at aI;rw[<-aU]at aH;rw[<-a9,<-aW,<-aU];have HI:=Hd (And.intro a9 (And.intro aW aU));have dC:N+1<w4.heap.size:=aC.out.lt;have bU:=Hd (show N+1<h0 from by rw[J];exact dC);clear hw7 m1 m2 m3 m4 m5 k1 eE eH J a9 aW aU dC;refine(aL.out N w7 a3.out (O.out.cell 0)).mono ?_;rintro e w8 ⟨vo,vs,rfl,b7,b8,E⟩;obtain⟨a1,c1,rfl,-⟩:=Sm b7.rd;obtain⟨a2,c2,rfl,-⟩:=Sm b8.rd;have R:=Hd b7;have aN:=Hd b8;have bF:=Hd (aH.out.below E lR);have bG:=Hd (aI.out.below E lR);have aM:=Hd (Q.out.below E Q.out.lt);have bE:=Hd (O.out.below E O.out.lt);have bD:=Hd (aD.out.below E aD.out.lt);have bP:=Hd (a3.out.trans (E.mono a3.out.size));have cF:=Hd (show Below w3.heap.size w3 w8 from by
  have h1:=Y.out.trans (cI.out.mono (by rw[HH.out];exact Y.out.size));exact h1.trans (E.mono h1.size))
 have bH:=Hd E.size;have H3:=Hd (show w3.heap.size<=h0 from by rw[HH.out];exact Y.out.size);have bW:=Hd (show w.heap.size<=h0 from eT a0.out.size H3.out);obtain⟨no,b4⟩:=eX F.length;obtain⟨X,b5⟩:=eX A.length;rw[<-b4]at R HO eU bQ|-;rw[<-b5]at aN HS eV|-;have a4:=Hd b4;have aJ:=Hd b5;clear b7 b8 E b4 b5 Q O aD aH aI a3;go_wp2_with fail;obtain⟨val,aX⟩:∃val:Nat->Value,val=fun x=> .agg (C x):=⟨_,rfl⟩;have bI:=Hd (show∀x,val x=.agg (C x)from fun x=>by rw[aX]);rw[<-aX]at bQ;clear aX
 go_loopg [58] no (fun gk iv wr=>∃(r:Nat),r+gk=no/\iv=rD rF (r:Nat)/\MapF wr ob r (GF F val r)/\Only ob w8 wr)
 case atStart=>exact⟨0,by omega,rfl,by rw[Zew];exact bF.out,Only.refl _ _⟩
 case round=>
  obtain⟨r,hr,rfl,o,j⟩:=hrel;have HR:=Hd hr;have HM:=Hd o;have l:=Hd j;clear hr o j;obtain⟨e1,e2,e3⟩:=HI.out;have h8:=bH.out;rw[H.out]at h8;have aT:=bU.out;have L:=Hd (aM.out.grownR l.out (by omega));have bS:=Hd (bE.out.grownR l.out (by omega));have cY:=Hd (R.out.grown l.out (fun g hg e=>by have:=(R.out.blockLt hg).2;rw[H.out]at this;cases e;omega));have D:=Hd (Only.below l.out (eG ob) (by omega));have cL:=Hd (show b<wr.heap.size from cH bY (eT bP.out.size D.out.size));have cM:=Hd (show b<ob from by have:=bW.out;omega);clear e1 e2 e3 h8 aT
  by_cases hlt:r<no
  ·have dQ:decide (r<no)=true:=dT hlt;have dS:(r:Int)<(no:Int):=(by omega);obtain⟨b1,o1,rfl,dI,cx⟩:=Sn cY.out.rd (show r<F.length from by rw[<-a4.out];exact hlt);have hx:=HO.out r hlt;have V:=Hd (Zex (val:=val) (show r<F.length from by rw[<-a4.out];exact hlt));obtain⟨x,aZ⟩:=eX (F.getD r 0);rw[<-aZ]at cx hx V;have eZ:(x:Int)<(n:Int):=(by omega);obtain⟨eW,b6⟩:=HC.out x hx;obtain⟨x0,x1,x2,x3,x4,x5,x6,x7,x8,x9,b0⟩:=cW.out x;rw[bI.out,b0]at V;rw[b0]at b6;have d9:=Hd (Aj (Aj b6 bP.out bY) D.out cM.out);have bX:=Hd (show inI (x:Int)from by unfold inI;omega);have bV:=Hd (show r<=100000 from by omega);clear aZ eW b6 b0 dI;go_wp2_with fail;refine Aw [eF (rE (some ⟨pv,2,rI⟩)),eF (.map (some ob)),eF (rD rF (x:Nat)),eF (rC (some ⟨b,s,rI⟩) n cp),eF (rD rF (x:Nat)),eF (rE (some ⟨b,s+x*10,rI⟩)),eF (.agg #[x0,x1,x2,x3,x4,x5,x6,x7,x8,x9]),fun v w'=>MapF w' ob (r+1) (fun y=>if y=((x:Nat):Int)then some (.agg #[x0,x1,x2,x3,x4,x5,x6,x7,x8,x9])else GF F val r y)/\Only ob wr w']
    ((eK 8 false).set 7 true) (fun x=>Below wr.heap.size wr x) (fun x y=>Below x.heap.size x y) none 7 (by kernel_rfl) ?_ (⟨rfl,rfl,rfl,lR,fun _ _=>rfl⟩) (fun x y _ h=>h) (fun x y hx hs=>hx.trans (hs.mono hx.size)) (by kernel_rfl) (by kernel_rfl) (by kernel_rfl) ?_ ?_
   ·exact kE (kE (kE (kE (kE (kE (kE (Ax (fun _ _ _ _ _ _=>trivial) (Ag))))))))
   ·refine Pc (by kernel_rfl) ?_ rfl (Pc (by kernel_rfl) ?_ rfl (Pc (by kernel_rfl) ?_ rfl (Pc (by kernel_rfl) ?_ rfl (Pc (by kernel_rfl) ?_ rfl (Pc (by kernel_rfl) ?_ rfl (Pd (by kernel_rfl) ?_ (Pd (by kernel_rfl) ?_ .nil)))))));all_goals
     intro a wx q eM ho hf;have q:Below wr.heap.size wr wx:=q;refine⟨rfl,?_⟩;intro K hK;try have e7:a.tmps[3]?.getD undef=rE (some ⟨N,0,rI⟩):=ho 3 (by kernel_rfl)
     try have cZ:a.tmps[12]?.getD undef=rE (some ⟨pv,0,rI⟩):=ho 12 (by kernel_rfl)
     try have e0:a.tmps[17]?.getD undef=rD rF (x:Nat):=ho 17 (by kernel_rfl)
     try have cC:=eqn hf.1
     try have d1:=eqn hf.2.1
     try have d2:=eqn hf.2.2.1
     try(have bM:=(q.cell (p:=⟨pv,2,rI⟩) L.out.lt).trans (L.out.cell 2);simp only[cR,cS,aP]at bM)
     try(have cB:=(q.cell (p:=⟨N,0,rI⟩) bS.out.lt).trans (bS.out.cell 0);simp only[cR,cS]at cB)
     try have bN:=HM.out.below q lR
     try(refine Hd ?_;go_simp;exact hK _ rfl)
    ·exact wp_load_mid 52 (.tmp 67) rfl b (s+x*10) (evs cC) _ _ (Aj d9.out q cL.out) underlying52 rfl (Bc) (hK _ _ rfl (fun _=>Ai rfl bR))
    ·obtain⟨w',dX,o,b3⟩:=bN.run_put underlying98 bX.out (by have:=bV.out;unfold maxLen;omega) (.agg #[x0,x1,x2,x3,x4,x5,x6,x7,x8,x9]);have j:=(Only.of (B:=ob) q).trans b3;go_simp;exact hK undef _ ⟨o,j⟩ (fun h=>absurd rfl h)
   ·rintro f w9 I;have eI:MapF w9 ob (r+1) (fun y=>if y=((x:Nat):Int)then some (.agg #[x0,x1,x2,x3,x4,x5,x6,x7,x8,x9])else GF F val r y)/\Only ob wr w9:=I.2.2.2.2.2.2.2.1;clear I;simp only[Ao,Av,Ej,dG,dH,dJ,dK,Nat.reduceBEq,Nat.reduceAdd,dM,dO,cond_true,cond_false];obtain⟨o,j⟩:=eI;rw[V.out]at o;have bT:=Hd o;have aK:=Hd (l.out.trans j);clear o j;go_wp2_with fail;go_roundg (gk-1);case measure=>have:=HR.out;omega
    case rel=>exact⟨r+1,by have:=HR.out;omega,by go_num,bT.out,aK.out⟩
  ·obtain rfl:no=r:=(by have:=HR.out;omega);have dQ:decide (no<no)=false:=dF hlt;clear hlt;go_wp2_with fail;obtain⟨w5,d0⟩:=eX wr;rw[<-d0]at HM l D|-;clear L bS cY cL cM;obtain⟨e1,e2,e3⟩:=HI.out;have h8:=bH.out;rw[H.out]at h8;have aT:=bU.out;have h3:=H3.out;have b9:=bW.out;have d6:=Hd HM.out;have cU:=Hd (bG.out.grown l.out (fun e=>by cases e;omega));have cV:=Hd (aM.out.grownR l.out (by omega));have cT:=Hd (bD.out.grownR l.out (by omega));have bJ:=Hd (aN.out.grown l.out (fun g hg e=>by have:=(aN.out.blockLt hg).2;rw[H.out]at this;cases e;omega));have cE:=Hd (cF.out.trans (D.out.mono (by omega)));have cN:=Hd (bP.out.trans (D.out.mono (by omega)));have eA:=Hd (show pv+1<=w5.heap.size from by have:=D.out.size;omega);clear d0 e1 e2 e3 h8 aT h3 b9 HM l D HR bF bG aM bE bD R;go_wp2_with fail
   go_loopg [72] X (fun gk iv wr=>∃(r:Nat),r+gk=X/\iv=rD rF (r:Nat)/\MapF wr sb r (GF A U r)/\Only sb w5 wr)
   case atStart=>exact⟨0,by omega,rfl,by rw[Zew];exact cU.out,Only.refl _ _⟩
   case round=>
    obtain⟨r,hr,rfl,o,j⟩:=hrel;have HR:=Hd hr;have HM:=Hd o;have l:=Hd j;clear hr o j;obtain⟨e1,e2,e3⟩:=HI.out;have h5:=eA.out;have aT:=bU.out;have h3:=H3.out;have b9:=bW.out;have h7:w7.heap.size=pv+1:=(by rw[H.out];omega);have L:=Hd (cV.out.grownR l.out (by omega));have cQ:=Hd (cT.out.grownR l.out (by omega));have eD:=Hd (bJ.out.grown l.out (fun g hg e=>by have:=(bJ.out.blockLt hg).2;cases e;omega));have D:=Hd (Only.below l.out (eG sb) (by omega));have Z:=Hd (cE.out.trans (D.out.mono (by omega)));have cO:=Hd (cN.out.trans (D.out.mono (by omega)));have d7:=Hd (show ob≠sb/\ob≠N+1/\sb≠N+1 from by omega);clear e1 e2 e3 h5 aT h3 b9 h7
    by_cases hlt:r<X
    ·have dR:decide (r<X)=true:=dT hlt;have dS:(r:Int)<(X:Int):=(by omega);obtain⟨b2,o2,rfl,dL,cx⟩:=Sn eD.out.rd (show r<A.length from by rw[<-aJ.out];exact hlt);have hx:=HS.out r hlt;have V:=Hd (Zex (val:=U) (show r<A.length from by rw[<-aJ.out];exact hlt));obtain⟨x,aZ⟩:=eX (A.getD r 0);rw[<-aZ]at cx hx V;have eZ:(x:Int)<(n:Int):=(by omega);have eC:=Hd ((Z.out.cell (p:=⟨ga,x,rI⟩) cP.out).trans (HU.out x hx).1);have d3:=Hd (show ga<wr.heap.size from cH cP.out Z.out.size);have bX:=Hd (show inI (x:Int)from by unfold inI;omega);have bV:=Hd (show r<=100000 from by omega);clear aZ dL;go_wp2_with fail;refine Aw [eF (rE (some ⟨pv,3,rI⟩)),eF (.map (some sb)),eF (rD rF (x:Nat)),eF (rC (some ⟨ga,0,rI⟩) n n),eF (rD rF (x:Nat)),eF (rE (some ⟨ga,x,rI⟩)),eF (U x),fun v w'=>MapF w' sb (r+1) (fun y=>if y=((x:Nat):Int)then some (U x)else GF A U r y)/\Only sb wr w']
      ((eK 8 false).set 7 true) (fun x=>Below wr.heap.size wr x) (fun x y=>Below x.heap.size x y) none 7 (by kernel_rfl) ?_ (⟨rfl,rfl,rfl,lR,fun _ _=>rfl⟩) (fun x y _ h=>h) (fun x y hx hs=>hx.trans (hs.mono hx.size)) (by kernel_rfl) (by kernel_rfl) (by kernel_rfl) ?_ ?_
     ·exact kE (kE (kE (kE (kE (kE (kE (Ax (fun _ _ _ _ _ _=>trivial) (Ag))))))))
     ·refine Pc (by kernel_rfl) ?_ rfl (Pc (by kernel_rfl) ?_ rfl (Pc (by kernel_rfl) ?_ rfl (Pc (by kernel_rfl) ?_ rfl (Pc (by kernel_rfl) ?_ rfl (Pc (by kernel_rfl) ?_ rfl (Pc (by kernel_rfl) ?_ rfl (Pd (by kernel_rfl) ?_ .nil)))))));all_goals
       intro a wx q eM ho hf;have q:Below wr.heap.size wr wx:=q;refine⟨rfl,?_⟩;intro K hK;try have e8:a.tmps[8]?.getD undef=rC (some ⟨ga,0,rI⟩) n n:=ho 8 (by kernel_rfl)
       try have cZ:a.tmps[12]?.getD undef=rE (some ⟨pv,0,rI⟩):=ho 12 (by kernel_rfl)
       try have e4:a.tmps[19]?.getD undef=rD rF (x:Nat):=ho 19 (by kernel_rfl)
       try have cC:=eqn hf.1
       try have d1:=eqn hf.2.1
       try have d2:=eqn hf.2.2.1
       try(have bM:=(q.cell (p:=⟨pv,3,rI⟩) L.out.lt).trans (L.out.cell 3);simp only[cR,cS,aP]at bM)
       try have cB:=(q.cell (p:=⟨ga,x,rI⟩) d3.out).trans eC.out
       try have bN:=HM.out.below q lR
       try(refine Hd ?_;go_simp;exact hK _ rfl)
      ·obtain⟨w',dX,o,b3⟩:=bN.run_put underlying99 bX.out (by have:=bV.out;unfold maxLen;omega) (U x);have j:=(Only.of (B:=sb) q).trans b3;go_simp;exact hK undef _ ⟨o,j⟩ (fun h=>absurd rfl h)
     ·rintro f w9 I;have eJ:MapF w9 sb (r+1) (fun y=>if y=((x:Nat):Int)then some (U x)else GF A U r y)/\Only sb wr w9:=I.2.2.2.2.2.2.2.1;clear I;simp only[Ao,Av,Ej,dG,dH,dJ,dK,Nat.reduceBEq,Nat.reduceAdd,dM,dO,cond_true,cond_false];obtain⟨o,j⟩:=eJ;rw[V.out]at o;have bT:=Hd o;have aK:=Hd (l.out.trans j);clear o j;go_wp2_with fail;go_roundg (gk-1);case measure=>have:=HR.out;omega
      case rel=>exact⟨r+1,by have:=HR.out;omega,by go_num,bT.out,aK.out⟩
    ·obtain rfl:X=r:=(by have:=HR.out;omega);have dR:decide (X<X)=false:=dF hlt;clear hlt;go_wp2_with (first|(refine wpList_load_row rfl 101 (.tmp 12) rfl pv rfl 101 _ (0,0) _ L.out underlying101 rfl (by kernel_rfl) ?_)|(refine Aa rfl 101 (.tmp 6) (.tmp 84) rfl (N+1) #[rD rF (M:Nat),rD rF (m:Nat),.map (some ob),.map (some sb)] rfl rfl 101 _ cQ.out (by kernel_rfl) rfl rfl ?_));rintro w9 bL bZ dV eY;have j:Only (N+1) wr w9:=Only.storeQ bZ dV;obtain⟨n1,n2,n3⟩:=d7.out;have dN:Below w.heap.size w w9:=cO.out.trans (bZ _ (by rw[<-HN.out];exact gI N));have aA:=Hd (show MapF w9 ob no (GF F val no)/\MapF w9 sb X (GF A U X)/\∀x∈A,∃u,GF A U X ((x:Nat):Int)=some u/\Rd w9 u (bvs (Ot (nd t) x))from by
      refine⟨(d6.out.grown l.out (fun e=>by cases e;omega)).grown j (fun e=>by cases e;omega),HM.out.grown j (fun e=>by cases e;omega),fun x hx=>⟨U x,by rw[aJ.out];exact Zmc hx,?_⟩⟩;refine Zif ((HU.out x (eB.out x hx)).2.below Z.out lR) cQ.out (fun z hz k e=> ?_) j;simp at hz;rcases hz with rfl|rfl<;>cases e)
     have cK:=Hd bL;have cJ:=Hd dN;have d5:=Hd (show Dg (GF A U X) (A.map fun m:Nat=>(m:Int))from by rw[aJ.out];exact Zey d4.out);clear bL bZ dV eY j dN n1 n2 n3;go_wp2_with fail;refine bodyPost_ret (v:=.tuple #[.agg #[rD rF (M:Nat),rD rF (m:Nat),.map (some ob),.map (some sb)],rD rG 0]) (Ac results74 _ _ (N+1) _ _ _ rfl cK.out underlying101 rfl (by kernel_rfl)) rfl ?_;refine⟨ob,sb,GF F val no,GF A U X,rfl,by rw[<-a4.out];exact aA.out.1,bQ.out,fun x hx=>⟨C x,?_,((HC.out x (d8.out x hx)).1.below cJ.out lR)⟩,by rw[<-aJ.out];exact aA.out.2.1,d5.out,aA.out.2.2,cJ.out⟩;rw[a4.out,<-bI.out];exact Zmc hx
theorem Ze0 {α:Type} {U:Nat->α} {g:Nat->α->List Value}(r:Nat)(u: α):((aN (r+1)).flatMap fun k=>g k (if k<r then U k else u))=((aN r).flatMap fun k=>g k (U k))++g r u:=by
 rw[Op,iN (Nat.lt_irrefl r)]
 congr 1
 rw[gL,gL]
 congr 1
 exact gZ fun k hk=>by rw[iP (List.mem_range.1 hk)]
theorem Qp (lv ow:Int) (ob sb n1 n2:Nat) (G G2:Int->Option Value) (R SO:List Nat) (D:Nat->NodeD) (H:Nat->List Nat) (w:World) (hm:MapF w ob n1 G) (b6:MapF w sb n2 G2) (d4:n1<=100000) (d5:n2<=100000)
  (cT:Dg G (R.map fun m:Nat=>(m:Int))) (cU:Dg G2 (SO.map fun m:Nat=>(m:Int))) (hD:∀m∈R,inI (m:Int)/\Cj (D m)=true/\∃c,G m=some (.agg c)/\NodeC w (D m) c)
  (hH:∀m∈SO,inI (m:Int)/\(H m).length<=1000000/\∃u,G2 m=some u/\Rd w u (bvs (H m))) (dS:R.length<=100000) (dV:SO.length<=100000):
  Calls prog 67 #[.agg #[rD rF lv,rD rF ow,.map (some ob),.map (some sb)]] w fun e w'=>∃v',e=rK v'/\SparseR w' v' ⟨lv,ow,R.map fun m:Nat=>((m:Int),D m),SO.map fun m:Nat=>((m:Int),H m)⟩/\Below w.heap.size w w'/\∀(g:Nat) (W:World),g<w.heap.size->Only g w' W->SparseR W v' ⟨lv,ow,R.map fun m:Nat=>((m:Int),D m),SO.map fun m:Nat=>((m:Int),H m)⟩:=by
 have cQ:∀ {L:List Nat} {k:Nat},k<L.length->L.getD k 0∈L:=fun {L k} hk=>(by rw[aS,bB hk];exact bC hk);obtain⟨N,hN⟩:=eX w.heap.size;obtain⟨q,hq⟩:=eX (w.heap.size+2);have HN:=Hd hN;have HQ:=Hd hq;have dE:=Hd (show ob<w.heap.size from hm.lt);have dI:=Hd (show sb<w.heap.size from b6.lt);have cG:=Hd hm;have aV:=Hd b6;have dA:=Hd cT;have dB:=Hd cU;have HD:=Hd hD;have HH:=Hd hH;have cF:=Hd (show∀(L:List Nat) (k:Nat),k<L.length->L.getD k 0∈L from fun L k hk=>cQ hk);clear hm b6 cT cU hD hH cQ;go_in;go_wp2_with fail;obtain⟨w2,aM⟩:=eX ((((w.alloc (rJ #[rD rF lv,rD rF ow,.map (some ob),.map (some sb)] 101)).alloc (rJ #[rD rF 0,rD rF 0,rC rI 0 0,rC rI 0 0] 25)).alloc (rJ #[rD rF lv,rD rF ow,rC rI 0 0,rC rI 0 0] 25)));have c3:q=w.heap.size+1+1:=hq;have bK:=Hd (show Blk w2 N 101 #[rD rF lv,rD rF ow,.map (some ob),.map (some sb)]from by rw[aM,hN];exact((Blk.new w 101 #[rD rF lv,rD rF ow,.map (some ob),.map (some sb)]).alloc _).alloc _);have bL:=Hd (show Blk w2 (N+1) 25 #[rD rF 0,rD rF 0,rC rI 0 0,rC rI 0 0]from by
  rw[aM,hN];have:=(Blk.new (w.alloc (rJ #[rD rF lv,rD rF ow,.map (some ob),.map (some sb)] 101)) 25 #[rD rF 0,rD rF 0,rC rI 0 0,rC rI 0 0]).alloc (rJ #[rD rF lv,rD rF ow,rC rI 0 0,rC rI 0 0] 25);simpa using this)
 have cD:=Hd (show Blk w2 q 25 #[rD rF lv,rD rF ow,rC rI 0 0,rC rI 0 0]from by
  rw[aM,hq];have:=Blk.new ((w.alloc (rJ #[rD rF lv,rD rF ow,.map (some ob),.map (some sb)] 101)).alloc (rJ #[rD rF 0,rD rF 0,rC rI 0 0,rC rI 0 0] 25)) 25 #[rD rF lv,rD rF ow,rC rI 0 0,rC rI 0 0];simpa using this)
 have aY:=Hd (show w2.heap.size=q+1 from by rw[aM,hq];simp);have a7:=Hd (show Below w.heap.size w w2 from by
  rw[aM];exact((bR.alloc lR _).alloc (by simp) _).alloc (by simp;omega) _)
 rw[<-aM,<-c3,<-hN];clear aM c3 hq hN;have dD:=Hd (cG.out.below a7.out lR);have dY:=Hd (aV.out.below a7.out lR);have s:=Hd (show N+1<q from by rw[HQ.out,HN.out];omega);refine(Uh (some ob) w2).mono ?_;rintro e w3 ⟨rfl,rfl⟩;have cK:=Hd (Of ob n1 w2.heap.size G _ (w2.alloc (rJ #[.map (some ob)] 98)) (dD.out.alloc _) dA.out (by omega) (by rw[(Blk.new w2 _ _).cell];rfl) (by simp));go_wp2_with fail;refine cK.out.mono ?_;rintro e w4 ⟨VK,rfl,P,cN⟩;obtain⟨a1,c1,rfl,-⟩:=Sm P.rd;have cB:=Hd (show Below (q+1) w2 w4 from by
  have h1:=(Below.refl (q+1) w2).alloc (by rw[aY.out];exact lR) (rJ #[.map (some ob)] 98);exact h1.trans (cN.mono (by simp[aY.out])))
 have bN:=Hd (P.mono (show q+1<=_ from by simp[aY.out]));clear P cN cK;obtain⟨no,b7⟩:=eX R.length;obtain⟨ns,b8⟩:=eX SO.length;rw[<-b7]at dS bN|-;rw[<-b8]at dV;have a9:=Hd b7;have aO:=Hd b8;have bF:=Hd (cD.out.below cB.out (dU q));clear b7 b8;go_wp2_with fail
 go_loopg [18] no (fun gk iv wr=>∃(r:Nat) (V:Value) (CF:Nat->Array Value),r+gk=no/\iv=rD rF (r:Nat)/\Blk wr q 25 #[rD rF lv,rD rF ow,V,rC rI 0 0]/\OwnK wr (q+1) 87 11 V r ((aN r).flatMap fun j=> rD rF ((R.getD j 0:Nat):Int)::(CF j).toList)/\(∀j,j<r->NodeO wr (q+1) (D (R.getD j 0)) (CF j))/\Own wr (q+1) 3 (rC a1 no c1) (ivs .i64 (R.map fun m:Nat=>(m:Int)))/\Below q w2 wr)
 case atStart=>exact⟨0,_,fun _=>#[],by omega,rfl,bF.out,OwnK.nil _ _ _ _,fun j hj=>absurd hj (hQ j),bN.out,cB.out.mono (gI q)⟩
 case round=>
  obtain⟨r,V,CF,hr,rfl,b,aC,a4,P,hb⟩:=hrel;have HR:=Hd hr;have o:=Hd b;have l:=Hd aC;have aE:=Hd a4;have Z:=Hd P;have HB:=Hd hb;clear hr b aC a4 P hb bF;have aQ:=Hd (bK.out.below HB.out (by have:=s.out;omega));have bD:=Hd (bL.out.below HB.out s.out);have I:=Hd (a7.out.trans (HB.out.mono (show w.heap.size<=q from by have:=s.out;have:=HN.out;omega)));have cH:=Hd (show N<q+1 from by have:=s.out;omega);have bE:=Hd (show w.heap.size<=q+1 from by have:=s.out;have:=HN.out;omega);have cI:=Hd (show ob<q+1 from by have:=dE.out;have:=bE.out;omega);have cJ:=Hd (show sb<q+1 from by have:=dI.out;have:=bE.out;omega)
  by_cases hlt:r<no
  ·have cV:decide (r<no)=true:=dT hlt;have cX:(r:Int)<(no:Int):=(by omega);obtain⟨b1,C,rfl,cL,cx⟩:=Sn Z.out.rd (show r<R.length from by rw[<-a9.out];exact hlt);obtain⟨aH,aT,c,aG,aJ⟩:=HD.out _ (cF.out R r (by rw[<-a9.out];exact hlt));obtain⟨m,aI⟩:=eX (R.getD r 0);rw[<-aI]at cx aH aT aG aJ;have aW:=Hd aI;have bW:=Hd aH;have bV:=Hd aG;have HM:=Hd (cG.out.below I.out lR);have a8:=Hd fun(W:World) (hw:Below w.heap.size w W)=>Lw (D m) c W (aJ.below hw lR) aT;obtain⟨XS,aF⟩:=eX ((aN r).flatMap fun j=> rD rF ((R.getD j 0:Nat):Int)::(CF j).toList);rw[<-aF]at l;have bZ:=Hd aF;have E:=Hd (show∀g,V.ownBlock=some g->g<wr.heap.size from fun g hg=>(l.out.lt hg).1);have bX:=Hd (show r<=100000 from by omega);clear aI aH aT aG aJ aF cL;go_wp2_with fail;refine Aw [eF (rE (some ⟨q,2,rI⟩)),eF V,eF (rD rF (m:Nat)),eF (rE (some ⟨N,2,rI⟩)),eF (.map (some ob)),eF (rD rF (m:Nat)),eF (.agg c),fun v w'=>∃c2,v=.agg c2/\NodeO w' wr.heap.size (D m) c2,fun v w'=>∃x0 x1 x2 x3 x4 x5 x6 x7 x8 x9,v=.agg #[rD rF (m:Nat),x0,x1,x2,x3,x4,x5,x6,x7,x8,x9]/\NodeO w' wr.heap.size (D m) #[x0,x1,x2,x3,x4,x5,x6,x7,x8,x9],fun v w'=>∃g x0 x1 x2 x3 x4 x5 x6 x7 x8 x9,v=rC (some ⟨g,0,rI⟩) 1 1/\wr.heap.size<=g/\Blk w' g 87 #[rD rF (m:Nat),x0,x1,x2,x3,x4,x5,x6,x7,x8,x9]/\NodeO w' wr.heap.size (D m) #[x0,x1,x2,x3,x4,x5,x6,x7,x8,x9],fun v w'=>∃c2,OwnK w' (q+1) 87 11 v (r+1) (XS++(rD rF (m:Nat)::c2.toList))/\NodeO w' (q+1) (D m) c2,eF (rE (some ⟨q,2,rI⟩)),fun v w'=>∃V2 c2,Blk w' q 25 #[rD rF lv,rD rF ow,V2,rC rI 0 0]/\OwnK w' (q+1) 87 11 V2 (r+1) (XS++(rD rF (m:Nat)::c2.toList))/\NodeO w' (q+1) (D m) c2/\CutS wr V q w']
    ((eK 13 false).set 12 true) (fun X=>ButO wr V (q+1) X) (fun X Y=>StepO V (q+1) X Y) (some 10) 12 (by kernel_rfl) ?_ (ButO.start wr V (q+1)) (fun X Y hx h=>StepO.of h (eT (iC o.out.lt) hx.low.size)) (fun X Y hx F=>hx.step F) (by kernel_rfl) (by kernel_rfl) (by kernel_rfl) ?_ ?_
   ·exact kE (kE (kE (kE (kE (kE (kE (Cw (fun v x y h hi F=>let⟨u,e,k⟩:=h;⟨u,e,NodeO.stepQ F k E.out⟩) (Cw (fun v x y h hi F=>let⟨x0,x1,x2,x3,x4,x5,x6,x7,x8,x9,e,k⟩:=h;⟨x0,x1,x2,x3,x4,x5,x6,x7,x8,x9,e,NodeO.stepQ F k E.out⟩) (Cw (fun v x y h hi F=>let⟨g,x0,x1,x2,x3,x4,x5,x6,x7,x8,x9,e,hg,k,k2⟩:=h;⟨g,x0,x1,x2,x3,x4,x5,x6,x7,x8,x9,e,hg,(F.2 g k.lt (fun ee=>absurd (E.out g ee) (by omega))).trans k,NodeO.stepQ F k2 E.out⟩) (Cp (fun v x y h hi F=>let⟨u,k,k2⟩:=h;⟨u,OwnK.below k F lR,NodeO.below k2 F lR⟩) (kE (Ax (fun _ _ _ _ _ _=>trivial) (Ag)))))))))))))
   ·refine gP8 ?_ rfl (Pc (by kernel_rfl) ?_ rfl (gP8 ?_ rfl (gP8 ?_ rfl (gP8 ?_ rfl (gP8 ?_ rfl (gO8 ?_ (Pd (by kernel_rfl) ?_ (gO8 ?_ (Pd (by kernel_rfl) ?_ (Pd (by kernel_rfl) ?_ (gP8 ?_ rfl (gO8 ?_ .nil))))))))))));all_goals
     intro a t d b3 ho hf;have d:ButO wr V (q+1) t:=d;refine⟨rfl,?_⟩;intro K hK;try have dN:a.tmps[1]?.getD undef=rE (some ⟨N,0,rI⟩):=ho 1 (by kernel_rfl)
     try have dP:a.tmps[3]?.getD undef=rE (some ⟨q,0,rI⟩):=ho 3 (by kernel_rfl)
     try have dZ:a.tmps[5]?.getD undef=rD rF (m:Nat):=ho 5 (by kernel_rfl)
     try have bT:=eqn hf.1
     try have c7:=eqn hf.2.1
     try(have bQ:=(d.low.cell (p:=⟨q,2,rI⟩) (dU q)).trans (o.out.cell 2);simp only[cR,cS,aP]at bQ)
     try(have bS:=(d.low.cell (p:=⟨N,2,rI⟩) cH.out).trans (aQ.out.cell 2);simp only[cR,cS,aP]at bS)
     try have aU:=MapF.run_get (T:=98) (HM.out.belowB d.low cI.out) underlying98 (Kq t) bW.out
     try(refine Hd ?_;go_simp;exact hK _ rfl)
    ·rw[bV.out]at aU;simp only[Option.getD_some]at aU;go_simp;exact hK _ _ rfl (fun _=>Ai rfl bR)
    ·go_simp;refine(a8.out t (I.out.trans (d.low.mono bE.out))).mono ?_;rintro e w2 ⟨c9,rfl,aR,b5⟩;exact hK _ _ ⟨_,rfl,aR.mono d.low.size⟩ (fun _=>Ai rfl b5)
    ·have C:∃c2,(a.tmps[29]?.getD undef)=.agg c2/\NodeO t wr.heap.size (D m) c2:=hf.2.1;obtain⟨v1,i⟩:=eX (a.tmps[29]?.getD undef);rw[<-i]at C;have e1:=i.symm;clear i;obtain⟨c2,rfl,ho⟩:=C;obtain⟨x0,x1,x2,x3,x4,x5,x6,x7,x8,x9,rfl⟩:=ho.c.ten;go_simp;exact hK _ _ ⟨x0,x1,x2,x3,x4,x5,x6,x7,x8,x9,rfl,ho⟩ (fun _=>Ai rfl bR)
    ·have o0:∃x0 x1 x2 x3 x4 x5 x6 x7 x8 x9,(a.tmps[30]?.getD undef)=.agg #[rD rF (m:Nat),x0,x1,x2,x3,x4,x5,x6,x7,x8,x9]/\NodeO t wr.heap.size (D m) #[x0,x1,x2,x3,x4,x5,x6,x7,x8,x9]:=hf.1;obtain⟨v0,aL⟩:=eX (a.tmps[30]?.getD undef);rw[<-aL]at o0;have e0:=aL.symm;clear aL;obtain⟨x0,x1,x2,x3,x4,x5,x6,x7,x8,x9,rfl,S⟩:=o0;go_simp;exact hK _ _ ⟨_,x0,x1,x2,x3,x4,x5,x6,x7,x8,x9,rfl,d.low.size,Blk.new _ _ _,S.below (bR.alloc lR _) lR⟩ (fun _=>Ai rfl (bR.alloc lR _))
    ·have C:∃g x0 x1 x2 x3 x4 x5 x6 x7 x8 x9,(a.tmps[31]?.getD undef)=rC (some ⟨g,0,rI⟩) 1 1/\wr.heap.size<=g/\Blk t g 87 #[rD rF (m:Nat),x0,x1,x2,x3,x4,x5,x6,x7,x8,x9]/\NodeO t wr.heap.size (D m) #[x0,x1,x2,x3,x4,x5,x6,x7,x8,x9]:=hf.2.1;obtain⟨v1,i⟩:=eX (a.tmps[31]?.getD undef);rw[<-i]at C;have e1:=i.symm;clear i;obtain⟨g,x0,x1,x2,x3,x4,x5,x6,x7,x8,x9,hv,hg,b,S⟩:=C;have a5:=l.out.below b3 lR;have cY:=S.c.oneL;refine Uz (.tmp 23) (.tmp 31) 22 rfl (q+1) 87 _ 11 216 Zjr V r XS (evs bT) a5 g [rD rF (m:Nat),x0,x1,x2,x3,x4,x5,x6,x7,x8,x9] (evs (e1.trans hv)) rfl (fun j u2 A=>by have:=b.range 0 j u2 A;simpa using this) (by rw[List.all_eq_true.symm];exact cY) (by have:=bX.out;omega) (by have:=d.low.size;have:=o.out.lt;omega) ?_;intro v' w' h2 h3;exact hK _ _ ⟨#[x0,x1,x2,x3,x4,x5,x6,x7,x8,x9],h2,(NodeO.stepQ h3 S E.out).mono (iC o.out.lt)⟩ (fun _=>Bu rfl h3)
    ·have C:∃c2,OwnK t (q+1) 87 11 (a.tmps[32]?.getD undef) (r+1) (XS++(rD rF (m:Nat)::c2.toList))/\NodeO t (q+1) (D m) c2:=hf.2.1;obtain⟨v1,i⟩:=eX (a.tmps[32]?.getD undef);rw[<-i]at C;have e1:=i.symm;clear i;obtain⟨u,C,S⟩:=C;have b:=o.out.below d.low (dU q);have d1:t.cell? ⟨q,2,rI⟩=some V:=b.cell 2;have d2:=b.frozen 2;obtain⟨ga,gc,rfl⟩:=OwnK.sl C;have aK:q<=t.heap.size:=eW b.lt;have b9:=b.set 2 (rC ga (r+1) gc);have O:=OwnK.onlyQ C (Only.set (a:=t) (B:=q) 2 (rC ga (r+1) gc)) (dU q);have A:=NodeO.onlyQ S (Only.set (a:=t) (B:=q) 2 (rC ga (r+1) gc)) (dU q);have M:=d.put aK 2 (rC ga (r+1) gc);go_simp;exact hK undef _ ⟨_,u,b9,O,A,M⟩ (fun h=>absurd rfl h)
   ·rintro f Q aB;have dQ:∃V2 c2,Blk Q q 25 #[rD rF lv,rD rF ow,V2,rC rI 0 0]/\OwnK Q (q+1) 87 11 V2 (r+1) (XS++(rD rF (m:Nat)::c2.toList))/\NodeO Q (q+1) (D m) c2/\CutS wr V q Q:=aB.2.2.2.2.2.2.2.2.2.2.2.2.1;clear aB;simp only[Ao,Av,Ej,dG,dH,dJ,dK,Nat.reduceBEq,Nat.reduceAdd,dM,dO,cond_true,cond_false];obtain⟨V2,c2,a0,O,A,M⟩:=dQ;have aD:=Hd a0;have aX:=Hd O;have bY:=Hd A;have J:=Hd M;clear a0 O A M;go_wp2_with fail;go_roundg (gk-1);case measure=>have:=HR.out;omega
    case rel=>
     refine⟨r+1,V2,fun j=>if j<r then CF j else c2,by have:=HR.out;omega,by go_num,aD.out,?_,fun j hj=> ?_,?_,HB.out.trans J.out.low⟩
     ·rw[Ze0 (g:=fun j (z:Array Value)=> rD rF ((R.getD j 0:Nat):Int)::z.toList),<-bZ.out,<-aW.out];exact aX.out
     ·by_cases hjr:j<r
      ·show NodeO Q (q+1) _ (if j<r then CF j else c2);rw[iP hjr];exact NodeO.cutQ J.out (aE.out j hjr) (dU q) l.out (by decide) (by decide)
      ·obtain rfl:j=r:=(by omega);show NodeO Q (q+1) _ (if j<j then CF j else c2);rw[iN hjr,<-aW.out];exact bY.out
     ·exact CutS.ownK (k:=1) J.out Z.out (dU q) (OwnK.apartK (k:=1) Z.out l.out (by decide))
  ·obtain rfl:no=r:=(by have:=HR.out;omega);have cV:decide (no<no)=false:=dF hlt;clear hlt;have d3:=aQ.out.cell 3;simp only[cR,cS,aP]at d3;go_wp2_with fail;obtain⟨w5,c6⟩:=eX wr;rw[<-c6]at o l HB I aE aQ bD d3|-;clear c6;refine(Ui (some sb) w5).mono ?_;rintro e w6 ⟨rfl,rfl⟩;have bM:=Hd (Og sb n2 w5.heap.size G2 _ (w5.alloc (rJ #[.map (some sb)] 99)) ((aV.out.below I.out lR).alloc _) dB.out (by omega) (by rw[(Blk.new w5 _ _).cell];rfl) (by simp));clear d3;go_wp2_with fail;refine bM.out.mono ?_;rintro e w7 ⟨VS,rfl,cA,cO⟩;obtain⟨a2,c2,rfl,-⟩:=Sm cA.rd;have aK:=o.out.lt;have aA:Below w5.heap.size w5 w7:=(bR.alloc lR (rJ #[.map (some sb)] 99)).trans (cO.mono (by simp));have aZ:=Hd (cA.mono (show q+1<=_ from by simp;omega));have bG:=Hd (o.out.below aA aK);have bJ:=Hd (l.out.below aA lR);have bI:=Hd (show∀j,j<no->NodeO w7 (q+1) (D (R.getD j 0)) (CF j)from fun j hj=>(aE.out j hj).below aA lR);have cC:=Hd (HB.out.trans (aA.mono (eW aK)));rw[<-aO.out]at aZ;have bP:=aO.out;rw[<-bP];clear cA cO aA bP bM o l HB I aE aQ bD Z aK HR;go_wp2_with fail
   go_loopg [40] ns (fun gk iv wr=>∃(r:Nat) (SV:Value) (U:Nat->Value),r+gk=ns/\iv=rD rF (r:Nat)/\Blk wr q 25 #[rD rF lv,rD rF ow,V,SV]/\OwnK wr (q+1) 89 2 SV r ((aN r).flatMap fun j=>[rD rF ((SO.getD j 0:Nat):Int),U j])/\(∀j,j<r->Own wr (q+1) 5 (U j) (bvs (H (SO.getD j 0))))/\OwnK wr (q+1) 87 11 V no ((aN no).flatMap fun j=> rD rF ((R.getD j 0:Nat):Int)::(CF j).toList)/\(∀j,j<no->NodeO wr (q+1) (D (R.getD j 0)) (CF j))/\Own wr (q+1) 3 (rC a2 ns c2) (ivs .i64 (SO.map fun m:Nat=>(m:Int)))/\Below q w2 wr)
   case atStart=>exact⟨0,_,fun _=> rC rI 0 0,by omega,rfl,bG.out,OwnK.nil _ _ _ _,fun j hj=>absurd hj (hQ j),bJ.out,bI.out,aZ.out,cC.out⟩
   case round=>
    obtain⟨r,SV,U,hr,rfl,b,aC,S,c0,a4,P,hb⟩:=hrel;have HR:=Hd hr;have o:=Hd b;have l:=Hd aC;have HU:=Hd S;have bA:=Hd c0;have aE:=Hd a4;have Z:=Hd P;have HB:=Hd hb;clear hr b aC S c0 a4 P hb bG bJ bI aZ cC;have aQ:=Hd (bK.out.below HB.out (by have:=s.out;omega));have bD:=Hd (bL.out.below HB.out s.out);have I:=Hd (a7.out.trans (HB.out.mono (show w.heap.size<=q from by have:=s.out;have:=HN.out;omega)))
    by_cases hlt:r<ns
    ·have cW:decide (r<ns)=true:=dT hlt;have cX:(r:Int)<(ns:Int):=(by omega);obtain⟨b2,o2,rfl,cM,cx⟩:=Sn Z.out.rd (show r<SO.length from by rw[<-aO.out];exact hlt);obtain⟨aH,aT,UV,aG,aJ⟩:=HH.out _ (cF.out SO r (by rw[<-aO.out];exact hlt));obtain⟨m,aI⟩:=eX (SO.getD r 0);rw[<-aI]at cx aH aT aG aJ;have aW:=Hd aI;have bW:=Hd aH;have bV:=Hd aG;have dC:=Hd (aV.out.below I.out lR);have a8:=Hd fun(W:World) (hw:Below w.heap.size w W)=>Cm UV (H m) W (aJ.below hw lR) (by omega);obtain⟨HX,b0⟩:=eX (H m);rw[<-b0]at a8;have dL:=Hd b0;obtain⟨XS,aF⟩:=eX ((aN r).flatMap fun j=>[rD rF ((SO.getD j 0:Nat):Int),U j]);rw[<-aF]at l;have bZ:=Hd aF;have E:=Hd (show∀g,SV.ownBlock=some g->g<wr.heap.size from fun g hg=>(l.out.lt hg).1);have bX:=Hd (show r<=100000 from by omega);clear aI aH aT aG aJ aF cM b0;go_wp2_with fail;refine Aw [eF (rE (some ⟨q,3,rI⟩)),eF SV,eF (rD rF (m:Nat)),eF (rE (some ⟨N,3,rI⟩)),eF (.map (some sb)),eF (rD rF (m:Nat)),eF UV,fun v w'=>Own w' wr.heap.size 5 v (bvs HX),fun v w'=>∃u,v=.agg #[rD rF (m:Nat),u]/\Own w' wr.heap.size 5 u (bvs HX),fun v w'=>∃g u,v=rC (some ⟨g,0,rI⟩) 1 1/\wr.heap.size<=g/\Blk w' g 89 #[rD rF (m:Nat),u]/\Own w' wr.heap.size 5 u (bvs HX),fun v w'=>∃u,OwnK w' (q+1) 89 2 v (r+1) (XS++[rD rF (m:Nat),u])/\Own w' (q+1) 5 u (bvs HX),eF (rE (some ⟨q,3,rI⟩)),fun v w'=>∃V2 u,Blk w' q 25 #[rD rF lv,rD rF ow,V,V2]/\OwnK w' (q+1) 89 2 V2 (r+1) (XS++[rD rF (m:Nat),u])/\Own w' (q+1) 5 u (bvs HX)/\CutS wr SV q w']
      ((eK 13 false).set 12 true) (fun X=>ButO wr SV (q+1) X) (fun X Y=>StepO SV (q+1) X Y) (some 10) 12 (by kernel_rfl) ?_ (ButO.start wr SV (q+1)) (fun X Y hx h=>StepO.of h (eT (iC o.out.lt) hx.low.size)) (fun X Y hx F=>hx.step F) (by kernel_rfl) (by kernel_rfl) (by kernel_rfl) ?_ ?_
     ·exact kE (kE (kE (kE (kE (kE (kE (Cw (fun v x y h hi F=>StepO.own F h E.out) (Cw (fun v x y h hi F=>let⟨u,e,k⟩:=h;⟨u,e,StepO.own F k E.out⟩) (Cw (fun v x y h hi F=>let⟨g,u,e,hg,k,k2⟩:=h;⟨g,u,e,hg,(F.2 g k.lt (fun ee=>absurd (E.out g ee) (by omega))).trans k,StepO.own F k2 E.out⟩) (Cp (fun v x y h hi F=>let⟨u,k,k2⟩:=h;⟨u,OwnK.below k F lR,Own.below k2 F lR⟩) (kE (Ax (fun _ _ _ _ _ _=>trivial) (Ag)))))))))))))
     ·refine gP8 ?_ rfl (Pc (by kernel_rfl) ?_ rfl (gP8 ?_ rfl (gP8 ?_ rfl (gP8 ?_ rfl (gP8 ?_ rfl (gO8 ?_ (Pd (by kernel_rfl) ?_ (gO8 ?_ (Pd (by kernel_rfl) ?_ (Pd (by kernel_rfl) ?_ (gP8 ?_ rfl (gO8 ?_ .nil))))))))))));all_goals
       intro a t d b3 ho hf;have d:ButO wr SV (q+1) t:=d;refine⟨rfl,?_⟩;intro K hK;try have dN:a.tmps[1]?.getD undef=rE (some ⟨N,0,rI⟩):=ho 1 (by kernel_rfl)
       try have dP:a.tmps[3]?.getD undef=rE (some ⟨q,0,rI⟩):=ho 3 (by kernel_rfl)
       try have d0:a.tmps[7]?.getD undef=rD rF (m:Nat):=ho 7 (by kernel_rfl)
       try have bT:=eqn hf.1
       try have c7:=eqn hf.2.1
       try(have bQ:=(d.low.cell (p:=⟨q,3,rI⟩) (dU q)).trans (o.out.cell 3);simp only[cR,cS,aP]at bQ)
       try(have bS:=(d.low.cell (p:=⟨N,3,rI⟩) cH.out).trans (aQ.out.cell 3);simp only[cR,cS,aP]at bS)
       try have aU:=MapF.run_get (T:=99) (dC.out.belowB d.low cJ.out) underlying99 (zeroValue28 t) bW.out
       try(refine Hd ?_;go_simp;exact hK _ rfl)
      ·rw[bV.out]at aU;simp only[Option.getD_some]at aU;go_simp;exact hK _ _ rfl (fun _=>Ai rfl bR)
      ·go_simp;refine(a8.out t (I.out.trans (d.low.mono bE.out))).mono ?_;rintro e w2 ⟨v9,rfl,aR,b5⟩;exact hK _ _ (aR.mono d.low.size) (fun _=>Ai rfl b5)
      ·have C:Own t wr.heap.size 5 (a.tmps[51]?.getD undef) (bvs HX):=hf.2.1;obtain⟨v1,i⟩:=eX (a.tmps[51]?.getD undef);rw[<-i]at C;have e1:=i.symm;clear i;obtain⟨ua,un,uc,rfl⟩:∃a n c,v1=.slice a n c:=(by obtain⟨a,c,e,-⟩:=C.rd;exact⟨_,_,_,e⟩);go_simp;exact hK _ _ ⟨_,rfl,C⟩ (fun _=>Ai rfl bR)
      ·have o0:∃u,(a.tmps[52]?.getD undef)=.agg #[rD rF (m:Nat),u]/\Own t wr.heap.size 5 u (bvs HX):=hf.1;obtain⟨v0,aL⟩:=eX (a.tmps[52]?.getD undef);rw[<-aL]at o0;have e0:=aL.symm;clear aL;obtain⟨u,rfl,S⟩:=o0;go_simp;exact hK _ _ ⟨_,u,rfl,d.low.size,Blk.new _ _ _,S.alloc _⟩ (fun _=>Ai rfl (bR.alloc lR _))
      ·have C:∃g u,(a.tmps[53]?.getD undef)=rC (some ⟨g,0,rI⟩) 1 1/\wr.heap.size<=g/\Blk t g 89 #[rD rF (m:Nat),u]/\Own t wr.heap.size 5 u (bvs HX):=hf.2.1;obtain⟨v1,i⟩:=eX (a.tmps[53]?.getD undef);rw[<-i]at C;have e1:=i.symm;clear i;obtain⟨g,u,hv,hg,b,S⟩:=C;have a5:=l.out.below b3 lR;refine Uz (.tmp 45) (.tmp 53) 23 rfl (q+1) 89 _ 2 32 Zjs SV r XS (evs bT) a5 g [rD rF (m:Nat),u] (evs (e1.trans hv)) rfl (fun j u2 A=>by have:=b.range 0 j u2 A;simpa using this) (fun z hz=>by
        simp only[List.mem_cons,List.not_mem_nil,or_false]at hz;rcases hz with rfl|rfl
        ·rfl
        ·exact S.oneCell) (by have:=bX.out;omega) (by have:=d.low.size;have:=o.out.lt;omega) ?_
       intro v' w' h2 h3;exact hK _ _ ⟨u,h2,(h3.own S E.out).mono (iC o.out.lt)⟩ (fun _=>Bu rfl h3)
      ·have C:∃u,OwnK t (q+1) 89 2 (a.tmps[54]?.getD undef) (r+1) (XS++[rD rF (m:Nat),u])/\Own t (q+1) 5 u (bvs HX):=hf.2.1;obtain⟨v1,i⟩:=eX (a.tmps[54]?.getD undef);rw[<-i]at C;have e1:=i.symm;clear i;obtain⟨u,C,S⟩:=C;have b:=o.out.below d.low (dU q);have d1:t.cell? ⟨q,3,rI⟩=some SV:=b.cell 3;have d2:=b.frozen 3;obtain⟨ga,gc,rfl⟩:=OwnK.sl C;have aK:q<=t.heap.size:=eW b.lt;have b9:=b.set 3 (rC ga (r+1) gc);have O:=OwnK.onlyQ C (Only.set (a:=t) (B:=q) 3 (rC ga (r+1) gc)) (dU q);have A:=OwnK.onlyQ (show OwnK t (q+1) 5 1 u (bvs HX).length (bvs HX)from S) (Only.set (a:=t) (B:=q) 3 (rC ga (r+1) gc)) (dU q);have M:=d.put aK 3 (rC ga (r+1) gc);go_simp;exact hK undef _ ⟨_,u,b9,O,A,M⟩ (fun h=>absurd rfl h)
     ·rintro f Q aB;have dR:∃V2 u,Blk Q q 25 #[rD rF lv,rD rF ow,V,V2]/\OwnK Q (q+1) 89 2 V2 (r+1) (XS++[rD rF (m:Nat),u])/\Own Q (q+1) 5 u (bvs HX)/\CutS wr SV q Q:=aB.2.2.2.2.2.2.2.2.2.2.2.2.1;clear aB;simp only[Ao,Av,Ej,dG,dH,dJ,dK,Nat.reduceBEq,Nat.reduceAdd,dM,dO,cond_true,cond_false];obtain⟨V2,u,a0,O,A,M⟩:=dR;have aD:=Hd a0;have aX:=Hd O;have bY:=Hd A;have J:=Hd M;clear a0 O A M;go_wp2_with fail;go_roundg (gk-1);case measure=>have:=HR.out;omega
      case rel=>
       refine⟨r+1,V2,fun j=>if j<r then U j else u,by have:=HR.out;omega,by go_num,aD.out,?_,fun j hj=> ?_,?_,fun j hj=> ?_,?_,HB.out.trans J.out.low⟩
       ·rw[Zh5 (g:=fun j z=>[rD rF ((SO.getD j 0:Nat):Int),z]),<-bZ.out,<-aW.out];exact aX.out
       ·by_cases hjr:j<r
        ·show Own Q (q+1) 5 (if j<r then U j else u) _;rw[iP hjr];exact CutS.ownK (k:=1) J.out (HU.out j hjr) (dU q) (OwnK.apartK (k:=1) (HU.out j hjr) l.out (by decide))
        ·obtain rfl:j=r:=(by omega);show Own Q (q+1) 5 (if j<j then U j else u) _;rw[iN hjr,<-aW.out,<-dL.out];exact bY.out
       ·exact CutS.ownK J.out bA.out (dU q) (OwnK.apartK bA.out l.out (by decide))
       ·exact NodeO.cutQ J.out (aE.out j hj) (dU q) l.out (by decide) (by decide)
       ·exact CutS.ownK (k:=1) J.out Z.out (dU q) (OwnK.apartK (k:=1) Z.out l.out (by decide))
    ·obtain rfl:r=ns:=(by have:=HR.out;omega);have cW:decide (r<r)=false:=dF hlt;clear hlt;obtain⟨va,vc,rfl⟩:=OwnK.sl bA.out;obtain⟨sa,sc,rfl⟩:=OwnK.sl l.out;go_wp2_with (first|(refine wpList_load_row rfl 25 (.tmp 3) rfl q rfl 25 _ (0,0) _ o.out underlying25 rfl (by kernel_rfl) ?_)|(refine Aa rfl 25 (.tmp 2) (.tmp 57) rfl (N+1) #[rD rF lv,rD rF ow,rC va no vc,rC sa r sc] rfl rfl 25 _ bD.out (by kernel_rfl) rfl rfl ?_));rintro Q a3 b4 cZ dX;have a6:Only (N+1) wr Q:=Only.storeQ b4 cZ;have dW:=s.out;have cP:Below w.heap.size w Q:=I.out.trans (b4 _ (by rw[<-HN.out];exact gI N));have aR:=OwnK.onlyQ bA.out a6 (by omega);have c4:=OwnK.onlyQ l.out a6 (by omega);have bH:=Hd a3;have bO:=fun k hk=>NodeO.onlyQ (aE.out k hk) a6 (by omega);have c5:=fun j hj=>OwnK.onlyQ (k:=1) (HU.out j hj) a6 (by omega);have mk:∀W:World,(∀ {e:TypeId} {k n:Nat} {v:Value} {xs:List Value},OwnK Q (q+1) e k v n xs->OwnK W (q+1) e k v n xs)->SparseR W (.agg #[rD rF lv,rD rF ow,rC va no vc,rC sa r sc]) ⟨lv,ow,R.map fun m:Nat=>((m:Int),D m),SO.map fun m:Nat=>((m:Int),H m)⟩:=fun W hW=>by
      refine⟨_,_,rfl,?_,?_⟩
      ·refine Zbp (B:=q+1) (CF:=CF) (fun k hk=>((bO k (by rw[a9.out];exact hk)).keep2 fun e v xs _ S=>hW (k:=1) S).c) ?_;rw[<-a9.out];exact hW aR
      ·refine Zbq (B:=q+1) (U:=U) (fun j hj=>hW (k:=1) (c5 j (by rw[aO.out];exact hj))) ?_;rw[<-aO.out];exact hW c4
     have cE:=Hd (mk Q fun h=>h);have bU:=Hd fun(g:Nat) (W:World) (hg:g<w.heap.size) (ho:Only g Q W)=>mk W fun h=>OwnK.onlyQ h ho (by have:=HN.out;omega);have bH:=Hd a3;have c8:=Hd cP;clear a3 b4 cZ dX a6 cP aR c4 dW bO c5 mk;go_wp2_with fail;exact bodyPost_ret (v:=.agg #[rD rF lv,rD rF ow,rC va no vc,rC sa r sc]) (Hi results67 _ _ (N+1) _ _ _ rfl bH.out underlying25 rfl (by kernel_rfl)) rfl ⟨_,rfl,cE.out,c8.out,bU.out⟩
theorem Ze1 (v:Value) (t:List NodeD) (Z m d:Nat) (i j:List Nat) (w:World) (h:TreeR w v t) (hs:El t=true) (aA:TreeOk t) (hr:Fy t=true) (A:t.length=2*Z+1) (U:Be t.length=Z+1) (hd:d<=16) (Y:Z+1=2^d) (hi:((m:Nat):Int)∈Pj t (Z+1))
  (eO:(Cv (atT t) m false d (2^d-1) 0 []).1=i.map fun m:Nat=>(m:Int)) (eS:(Cv (atT t) m false d (2^d-1) 0 []).2.1=j.map fun m:Nat=>(m:Int)) (V:i.Pairwise (· < ·)) (X:j.Pairwise (· < ·))
  (hO:∀x∈i,x<t.length) (hS:∀x∈j,x<t.length) (l:i.length<=100000) (p:j.length<=100000) (T:∀x,(Ot (nd t) x).length<=1000000):
  Calls prog 41 #[v,rD rF (m:Nat)] w fun e w'=>∃v',e=rK (.tuple #[v',rD rG 0])/\SparseR w' v' (Zjx t (2^d) m i j)/\Below w.heap.size w w':=by
 have aG:=Fv hs;have P:=Hd fun(W:World) (hw:Below w.heap.size w W)=>Zla v t Z m d false i j W (h.below hw lR) hs aA hr A U hd Y hi eO eS V X hO hS l p;have S:=Hd fun(W:World) (ob sb:Nat) (G K:Int->Option Value) (hm:MapF W ob i.length G) (hk:Dg G (i.map fun m:Nat=>(m:Int))) (hn:∀x∈i,∃c,G ((x:Nat):Int)=some (.agg c)/\NodeC W (nd t x) c) (aJ:MapF W sb j.length K) (aI:Dg K (j.map fun m:Nat=>(m:Int))) (hu:∀x∈j,∃u,K ((x:Nat):Int)=some u/\Rd W u (bvs (Ot (nd t) x)))=>
  Qp ((2^d:Nat):Int) (m:Nat) ob sb i.length j.length G K i j (nd t) (Ot (nd t)) W hm aJ l p hk aI (fun x hx=>⟨by unfold inI;have:=hO x hx;omega,Ed hs x,hn x hx⟩) (fun x hx=>⟨by unfold inI;have:=hS x hx;omega,T x,hu x hx⟩) l p
 obtain⟨M,hM⟩:=eX (2^d);rw[<-hM]at P S|-;obtain⟨RS,F⟩:=eX (Zjx t M m i j);have aE:=Hd F;rw[<-F];obtain⟨a,n,c,rfl⟩:∃a n c,v=.slice a n c:=(by obtain⟨a,c,e,_⟩:=h.sl;exact⟨_,_,_,e⟩);clear h hs aA hr A U hd Y hi eO eS V X hO hS l p T aG hM F;obtain⟨N,hN⟩:=eX w.heap.size;have HN:=Hd hN;go_in;go_wp2_with fail;obtain⟨w2,q⟩:=eX (w.alloc (rJ #[rD rF 0,rD rF 0,rC rI 0 0,rC rI 0 0] 25));have D:=Hd (show Below w.heap.size w w2 from by rw[q];exact bR.alloc lR _);have s:=Hd (show Blk w2 N 25 #[rD rF 0,rD rF 0,rC rI 0 0,rC rI 0 0]from by rw[q,hN];exact Blk.new _ _ _);rw[<-q,<-hN];clear q hN;refine(P.out _ D.out).mono ?_;rintro e w3 ⟨ob,sb,G,K,rfl,m1,m2,m3,m4,m5,m6,H⟩;have L:=Hd (D.out.trans (H.mono D.out.size));have y:=Hd (s.out.below H s.out.lt);obtain⟨w4,r⟩:=eX (w3.alloc (rJ #[rD rF (M:Nat),rD rF (m:Nat),.map (some ob),.map (some sb)] 101));have b:Below w3.heap.size w3 w4:=(by rw[r];exact bR.alloc lR _);have HX:=Hd (S.out w4 ob sb G K (m1.below b lR) m2 (fun x hx=>by obtain⟨c,h1,h2⟩:=m3 x hx;exact⟨c,h1,h2.below b lR⟩) (m4.below b lR) m5 (fun x hx=>by obtain⟨u,h1,h2⟩:=m6 x hx;exact⟨u,h1,h2.below b lR⟩));have E:=Hd (L.out.trans (b.mono L.out.size));have f:=Hd (y.out.below b y.out.lt);have O:=Hd (show Blk w4 w3.heap.size 101 #[rD rF (M:Nat),rD rF (m:Nat),.map (some ob),.map (some sb)]from by rw[r];exact Blk.new _ _ _);rw[r]at HX E f O;clear H m1 m2 m3 m4 m5 m6 b r;go_wp2_with (refine wpList_load_row rfl 101 (.tmp 6) rfl w3.heap.size rfl 101 _ (0,0) _ O.out underlying101 rfl (by kernel_rfl) ?_);refine HX.out.mono ?_;rintro e w5 ⟨vr,rfl,aL,I,C⟩;obtain⟨o,g,rfl,ho,hg⟩:=aL;obtain⟨a1,c1,rfl,aK⟩:=ho;obtain⟨a2,c2,rfl,aH⟩:=hg;have R:=Hd C;have Q:=Hd (f.out.below I f.out.lt);have aB:=Hd (E.out.trans (I.mono E.out.size));have aD:=Hd f.out.lt;clear I C aK aH;simp only[List.length_map]at R|-;go_wp2_with (refine Aa rfl 25 (.tmp 4) (.tmp 19) rfl N #[rD rF (M:Nat),rD rF (m:Nat),.slice a1 i.length c1,.slice a2 j.length c2] rfl rfl 25 #[rD rF 0,rD rF 0,rC rI 0 0,rC rI 0 0] Q.out (by kernel_rfl) rfl rfl ?_);rintro w9 z k B J;have HK:=Hd z;have aC:=Hd (aB.out.trans (k w.heap.size (by rw[<-HN.out];exact eG N)));have aF:=Hd (R.out N w9 aD.out (Only.storeQ k B));clear z k B J;go_wp2_with fail;refine bodyPost_ret (v:=.tuple #[.agg #[rD rF (M:Nat),rD rF (m:Nat),.slice a1 i.length c1,.slice a2 j.length c2],rD rG 0]) (Ac results41 _ _ N _ _ _ rfl HK.out underlying25 rfl (by kernel_rfl)) rfl ⟨_,rfl,?_,aC.out⟩;rw[aE.out];exact aF.out
end Go.Proofs.YtfofaiommeckbaaGreat
namespace Go.Proofs.YtfofaiommeckbaaGreat
open Go.RowKit WalkM WireM
open ShaM
end Go.Proofs.YtfofaiommeckbaaGreat
namespace Go.Proofs.YtfofaiommeckbaaGreat
open Go.RowKit ShaM WireM
open WalkM
theorem Xb (d:NodeD):Ek d d=true:=by simp[Ek,Kb]
end Go.Proofs.YtfofaiommeckbaaGreat
namespace Go.Proofs.YtfofaiommeckbaaGreat
open Go.RowKit WalkM WireM
def Hc (a b:SparseD):Bool:=decide (a.leaves=b.leaves/\a.own=b.own/\a.op.length=b.op.length/\a.sh.length=b.sh.length)&&(aN a.op.length).all (fun i=>decide ((spt a.op i).1=(spt b.op i).1)&&Ek (spt a.op i).2 (spt b.op i).2)&&
 (aN a.sh.length).all fun i=>decide ((stb a.sh i).1=(stb b.sh i).1)&&decide ((stb a.sh i).2=(stb b.sh i).2)
theorem Xc (a:SparseD):Hc a a=true:=by
 unfold Hc;rw[aT,aT,dI,dX,dX];exact⟨⟨⟨rfl,rfl,rfl,rfl⟩,fun i _=>by rw[dT rfl,Xb];rfl⟩,fun i _=>by rw[dT rfl,dT rfl];rfl⟩
theorem Zmd {a b:SparseD}(h:¬(a.leaves=b.leaves/\a.own=b.own/\a.op.length=b.op.length/\a.sh.length=b.sh.length)):Hc a b=false:=by rw[Hc,dF h];rfl
theorem Zme {a b:SparseD} {i:Nat}(c:i<a.op.length)(h:(decide ((spt a.op i).1=(spt b.op i).1)&&Ek (spt a.op i).2 (spt b.op i).2)=false):Hc a b=false:=by
 have:(aN a.op.length).all (fun i=>decide ((spt a.op i).1=(spt b.op i).1)&&Ek (spt a.op i).2 (spt b.op i).2)=false:=List.all_eq_false.2 ⟨i,List.mem_range.2 c,by rw[h];simp⟩;rw[Hc,this];simp
theorem Zmf {a b:SparseD} {i:Nat}(c:i<a.sh.length)(h:(decide ((stb a.sh i).1=(stb b.sh i).1)&&decide ((stb a.sh i).2=(stb b.sh i).2))=false):Hc a b=false:=by
 have:((aN a.sh.length).all fun i=>decide ((stb a.sh i).1=(stb b.sh i).1)&&decide ((stb a.sh i).2=(stb b.sh i).2))=false:=List.all_eq_false.2 ⟨i,List.mem_range.2 c,by rw[h];simp⟩;rw[Hc,this];simp
theorem Zlb {a b:SparseD} (h:a.leaves=b.leaves/\a.own=b.own/\a.op.length=b.op.length/\a.sh.length=b.sh.length) (h1:∀i,i<a.op.length->(decide ((spt a.op i).1=(spt b.op i).1)&&Ek (spt a.op i).2 (spt b.op i).2)=true)
  (h2:∀i,i<a.sh.length->(decide ((stb a.sh i).1=(stb b.sh i).1)&&decide ((stb a.sh i).2=(stb b.sh i).2))=true):Hc a b=true:=by
 unfold Hc;rw[aT,aT,dI,dX,dX];exact⟨⟨h,fun i c=>h1 i (List.mem_range.1 c)⟩,fun i c=>h2 i (List.mem_range.1 c)⟩
theorem Zbr (v v':Value)(s t:SparseD)(w:World)(h:SparseR w v s)(h':SparseR w v' t)(a8:SparseOk s)(aS:SparseOk t)(bZ:s.op.length<=1000000)(b0:s.sh.length<=1000000):
  Calls prog 24 #[v,v'] w fun e w'=>e=rK (.bool (Hc s t))/\Below w.heap.size w w':=by
 obtain⟨o,g,rfl,J,hg⟩:=h;obtain⟨oa,oc,rfl,b3,b6⟩:=J.sl;obtain⟨ga,gc,rfl,bX,b5⟩:=hg.sl;obtain⟨o',g',rfl,a7,a5⟩:=h';obtain⟨bA,Z,rfl,bS,b4⟩:=a7.sl;obtain⟨a4,V,rfl,bP,bY⟩:=a5.sl;have bE:=Hd fun(i:Nat) (R:i<s.op.length)=>J.at R;have bF:=Hd fun(i:Nat) (R:i<s.sh.length)=>hg.at R;have bG:=Hd fun(i:Nat) (R:i<t.op.length)=>a7.at R;have bH:=Hd fun(i:Nat) (R:i<t.sh.length)=>a5.at R;have bK:=Hd fun(i:Nat) (R:i<s.op.length)=>(a8.op _ (Lm R)).2;have bL:=Hd fun(i:Nat) (R:i<t.op.length)=>(aS.op _ (Lm R)).2;have bI:=Hd fun(i:Nat) (R:i<s.sh.length)=>(a8.sh _ (Se R)).2;have bJ:=Hd fun(i:Nat) (R:i<t.sh.length)=>(aS.sh _ (Se R)).2;have aC:=Hd (Zmd (a:=s) (b:=t));have a2:=Hd fun i=>Zme (a:=s) (b:=t) (i:=i);have a1:=Hd fun i=>Zmf (a:=s) (b:=t) (i:=i);have aK:=Hd (Zlb (a:=s) (b:=t));obtain⟨b7,a0⟩:=eX (Hc s t);rw[<-a0]at aC a2 a1 aK|-;obtain⟨lv,a6⟩:=eX s.leaves;obtain⟨ow,how⟩:=eX s.own;obtain⟨n,hn⟩:=eX s.op.length;obtain⟨m,hm⟩:=eX s.sh.length;obtain⟨aV,aR⟩:=eX t.leaves;obtain⟨aW,aT⟩:=eX t.own;obtain⟨n2,M⟩:=eX t.op.length;obtain⟨m2,aX⟩:=eX t.sh.length;rw[<-a6,<-how,<-aR,<-aT,<-hn,<-hm,<-M,<-aX]at aC aK;rw[<-a6,<-how,<-aR,<-aT,<-hn,<-hm,<-M,<-aX];rw[<-hn]at a2 bE bK b3 bZ;rw[<-hm]at a1 bF bI bX b0;rw[<-M]at bG bL bS;rw[<-aX]at bH bJ bP;clear a0 a6 how hn hm aR aT M aX J hg a7 a5 a8 aS;obtain⟨N,hN⟩:=eX w.heap.size;have HH:=Hd hN;obtain⟨w1,aU⟩:=eX ((w.alloc (rJ #[rD rF lv,rD rF ow,rC oa n oc,rC ga m gc] 25)).alloc (rJ #[rD rF aV,rD rF aW,rC bA n2 Z,rC a4 m2 V] 25));have aO:=Hd aU;have aL:=Hd (show Below w.heap.size w w1 by rw[aU];exact(bR.alloc lR _).alloc (by simp) _);have aM:=Hd (show Blk w1 N 25 #[rD rF lv,rD rF ow,rC oa n oc,rC ga m gc] by rw[aU,hN];exact(Blk.new _ _ _).alloc _);have aN:=Hd (show Blk w1 (N+1) 25 #[rD rF aV,rD rF aW,rC bA n2 Z,rC a4 m2 V] by
  rw[aU,hN];have h1:=Blk.new (w.alloc (rJ #[rD rF lv,rD rF ow,rC oa n oc,rC ga m gc] 25)) 25 #[rD rF aV,rD rF aW,rC bA n2 Z,rC a4 m2 V];simpa using h1)
 have c0:=aM.out.cell 0;have c1:=aM.out.cell 1;have c2:=aM.out.cell 2;have c3:=aM.out.cell 3;have e0:=aN.out.cell 0;have e1:=aN.out.cell 1;have e2:=aN.out.cell 2;have e3:=aN.out.cell 3;simp only[cR,cS,aP]at c0 c1 c2 c3 e0 e1 e2 e3;clear aU hN
 by_cases q1:lv=aV
 ·subst q1;have bT:(lv !=lv)=false:=by simp
  by_cases q2:ow=aW
  ·subst q2;have bU:(ow !=ow)=false:=by simp
   by_cases q3:n=n2
   ·subst q3;have bV:((n:Int) !=(n:Int))=false:=by simp
    by_cases q4:m=m2
    ·subst q4;have bW:((m:Int) !=(m:Int))=false:=(by simp);have HY:=Hd (aK.out ⟨rfl,rfl,rfl,rfl⟩);go_in;go_wp2_with fail;rw[<-HH.out,<-aO.out];go_wp2_with fail;clear bT bU bV bW c0 c1 c2 c3 e0 e1 e2 e3 aC aK
     go_loopg [5] n (fun q iv wr=>∃r:Nat,r+q=n/\iv=rD rF (r:Nat)/\(∀i,i<r->(decide ((spt s.op i).1=(spt t.op i).1)&&Ek (spt s.op i).2 (spt t.op i).2)=true)/\Below w1.heap.size w1 wr)
     case atStart=>exact⟨0,by omega,rfl,fun i R=>by omega,bR⟩
     case round=>
      obtain⟨r,hr,rfl,Y,hb⟩:=hrel;have HR:=Hd hr;have S:=Hd Y;have HB:=Hd hb;have I:=Hd (aL.out.trans (hb.mono aL.out.size));have aA:=Hd (aM.out.below hb aM.out.lt);have aB:=Hd (aN.out.below hb aN.out.lt);have c2:=aA.out.cell 2;have c3:=aA.out.cell 3;have e2:=aB.out.cell 2;have e3:=aB.out.cell 3;simp only[cR,cS,aP]at c2 c3 e2 e3;have X:N<wr.heap.size:=aA.out.lt;have H:N+1<wr.heap.size:=aB.out.lt;clear hr Y hb
      by_cases hlt:r<n
      ·have aQ:decide (r<n)=true:=dT hlt;have bQ:(r:Int)<(n:Int):=(by omega);obtain⟨b1,D,y,rfl,G,aE,aF⟩:=bE.out r hlt;obtain⟨B,E,z,rfl,x,M,aG⟩:=bG.out r hlt;have P:=(I.out.cell (p:=⟨b1,D+r*11,rI⟩) G).trans (Bt aF);have Q:=(I.out.cell (p:=⟨B,E+r*11,rI⟩) x).trans (Bt aG);have aY:=Hd (Aj (Dl aF) I.out G);have aZ:=Hd (Aj (Dl aG) I.out x);have aD:=Hd fun(W:World) (hw:Below w.heap.size w W)=>Gq _ _ y z W (aE.below hw lR) (M.below hw lR) (bK.out r hlt) (bL.out r hlt);obtain⟨y0,y1,y2,y3,y4,y5,y6,y7,y8,y9,rfl⟩:=aE.ten;obtain⟨z0,z1,z2,z3,z4,z5,z6,z7,z8,z9,rfl⟩:=M.ten;have G:b1<wr.heap.size:=cH G I.out.size;have x:B<wr.heap.size:=cH x I.out.size;have F:=Hd (fun hp=>a2.out r hlt hp);have u:=Hd (fun(hp:(decide ((spt s.op r).1=(spt t.op r).1)&&Ek (spt s.op r).2 (spt t.op r).2)=true)=>(show∀i,i<r+1->(decide ((spt s.op i).1=(spt t.op i).1)&&Ek (spt s.op i).2 (spt t.op i).2)=true from fun i R=>by
        by_cases e:i=r
        ·rw[e];exact hp
        ·exact S.out i (by omega)))
       obtain⟨x1,aI⟩:=eX ((spt s.op r).1);obtain⟨x2,aJ⟩:=eX ((spt t.op r).1);obtain⟨sb,aH⟩:=eX (Ek (spt s.op r).2 (spt t.op r).2);rw[<-aI]at P;rw[<-aJ]at Q;rw[<-aH]at aD;rw[<-aI,<-aJ,<-aH]at F u;clear aI aJ aH aF aG aE M
       by_cases hx:x1=x2
       ·have a9:(x1 !=x2)=false:=(by simp[hx]);have HX:=Hd hx;clear hx;cases sb with
        |true=>
         have a3:=Hd (u.out (by rw[dT HX.out];rfl));clear u F;go_wp2_with fail;refine Dj [eF (rE (some ⟨N,2,rI⟩)),eF (rC (some ⟨b1,D,rI⟩) n oc),eF (rD rF (r:Nat)),eF (rE (some ⟨b1,D+r*11,rI⟩)),eF (rE (some ⟨b1,D+r*11,rI⟩)),eF (rD rF x1),eF (rE (some ⟨N+1,2,rI⟩)),eF (rC (some ⟨B,E,rI⟩) n Z),eF (rD rF (r:Nat)),eF (rE (some ⟨B,E+r*11,rI⟩)),eF (rE (some ⟨B,E+r*11,rI⟩)),eF (rD rF x2),eF (.bool false),eF (.bool false),eF (rE (some ⟨N,2,rI⟩)),eF (rC (some ⟨b1,D,rI⟩) n oc),eF (rD rF (r:Nat)),eF (rE (some ⟨b1,D+r*11,rI⟩)),eF (rE (some ⟨b1,D+r*11+1,rI⟩)),eF (.agg #[y0,y1,y2,y3,y4,y5,y6,y7,y8,y9]),eF (rE (some ⟨N+1,2,rI⟩)),eF (rC (some ⟨B,E,rI⟩) n Z),eF (rD rF (r:Nat)),eF (rE (some ⟨B,E+r*11,rI⟩)),eF (rE (some ⟨B,E+r*11+1,rI⟩)),eF (.agg #[z0,z1,z2,z3,z4,z5,z6,z7,z8,z9]),eF (.bool true),eF (.bool false),eF (.bool false)] (by kernel_rfl) (by kernel_rfl) (by kernel_rfl) (kE (kE (kE (kE (kE (kE (kE (kE (kE (kE (kE (kE (kE (kE (kE (kE (kE (kE (kE (kE (kE (kE (kE (kE (kE (kE (kE (kE (kE Ag))))))))))))))))))))))))))))) ?_ ?_
         ·refine gQ ?_ (gQ ?_ (gQ ?_ (gQ ?_ (gQ ?_ (gB ?_ (gQ ?_ (gB ?_ (gQ ?_ (gQ ?_ (gQ ?_ (gB ?_ (gQ ?_ (gQ ?_ (gQ ?_ (gQ ?_ (gQ ?_ (gQ ?_ (gQ ?_ (gB ?_ (gQ ?_ (gB ?_ (gQ ?_ (gQ ?_ (gQ ?_ (gB ?_ (gB ?_ (gQ ?_ (gQ ?_ .nil))))))))))))))))))))))))))));all_goals
           intro a wx d J j;refine⟨by first|rfl|exact Bj rfl rfl rfl j.1|exact Bj rfl rfl rfl j.2.1|exact Bj rfl rfl rfl j.2.2.1,?_⟩;intro K C;try have P2:a.tmps[2]?.getD undef=rE (some ⟨N,0,rI⟩):=J 2 (by kernel_rfl)
           try have P3:a.tmps[3]?.getD undef=rE (some ⟨N+1,0,rI⟩):=J 3 (by kernel_rfl)
           try have P5:a.tmps[5]?.getD undef=rD rF (r:Nat):=J 5 (by kernel_rfl)
           try have E0:=eqn j.1
           try have E1:=eqn j.2.1
           try have D0:=(d.cell (p:=⟨N,2,rI⟩) X).trans c2
           try(refine Hd ?_;go_simp;exact C _ rfl)
          ·have d1:=(d.cell (p:=⟨b1,D+r*11,rI⟩) G).trans P;go_simp;exact C _ _ rfl bR
          ·have d1:=(d.cell (p:=⟨N+1,2,rI⟩) H).trans e2;go_simp;exact C _ _ rfl bR
          ·have d1:=(d.cell (p:=⟨B,E+r*11,rI⟩) x).trans Q;go_simp;exact C _ _ rfl bR
          ·exact wp_load_mid 52 (.tmp 62) rfl b1 (D+r*11+1) (evs E0) _ _ (Aj aY.out d G) underlying52 rfl (Bc) (C _ _ rfl bR)
          ·have d1:=(d.cell (p:=⟨N+1,2,rI⟩) H).trans e2;go_simp;exact C _ _ rfl bR
          ·exact wp_load_mid 52 (.tmp 68) rfl B (E+r*11+1) (evs E0) _ _ (Aj aZ.out d x) underlying52 rfl (Bc) (C _ _ rfl bR)
          ·go_simp;refine(aD.out wx (I.out.trans (d.mono I.out.size))).mono ?_;rintro e w2 ⟨rfl,x⟩;exact C _ _ rfl x
         ·rintro f w9 A l;have A:Below wr.heap.size wr w9:=A;have U:f 72=.bool false:=l.2.2.2.2.2.2.2.2.2.2.2.2.2.2.2.2.2.2.2.2.2.2.2.2.2.2.2.2.1;clear l;simp only[Ao,Av,Ej,dG,dH,dJ,dK,Nat.reduceBEq,Nat.reduceAdd,dM,dO,cond_true,cond_false];rw[U];clear U;have O:=Hd (HB.out.trans (A.mono HB.out.size));go_wp2_with fail;go_roundg (gk-1);case measure=>have:=HR.out;omega
          case rel=>exact⟨r+1,by have:=HR.out;omega,by go_num,a3.out,O.out⟩
        |false=>
         have T:=Hd (F.out (by simp));clear u F;go_wp2_with fail;refine Dj [eF (rE (some ⟨N,2,rI⟩)),eF (rC (some ⟨b1,D,rI⟩) n oc),eF (rD rF (r:Nat)),eF (rE (some ⟨b1,D+r*11,rI⟩)),eF (rE (some ⟨b1,D+r*11,rI⟩)),eF (rD rF x1),eF (rE (some ⟨N+1,2,rI⟩)),eF (rC (some ⟨B,E,rI⟩) n Z),eF (rD rF (r:Nat)),eF (rE (some ⟨B,E+r*11,rI⟩)),eF (rE (some ⟨B,E+r*11,rI⟩)),eF (rD rF x2),eF (.bool false),eF (.bool false),eF (rE (some ⟨N,2,rI⟩)),eF (rC (some ⟨b1,D,rI⟩) n oc),eF (rD rF (r:Nat)),eF (rE (some ⟨b1,D+r*11,rI⟩)),eF (rE (some ⟨b1,D+r*11+1,rI⟩)),eF (.agg #[y0,y1,y2,y3,y4,y5,y6,y7,y8,y9]),eF (rE (some ⟨N+1,2,rI⟩)),eF (rC (some ⟨B,E,rI⟩) n Z),eF (rD rF (r:Nat)),eF (rE (some ⟨B,E+r*11,rI⟩)),eF (rE (some ⟨B,E+r*11+1,rI⟩)),eF (.agg #[z0,z1,z2,z3,z4,z5,z6,z7,z8,z9]),eF (.bool false),eF (.bool true),eF (.bool true)] (by kernel_rfl) (by kernel_rfl) (by kernel_rfl) (kE (kE (kE (kE (kE (kE (kE (kE (kE (kE (kE (kE (kE (kE (kE (kE (kE (kE (kE (kE (kE (kE (kE (kE (kE (kE (kE (kE (kE Ag))))))))))))))))))))))))))))) ?_ ?_
         ·refine gQ ?_ (gQ ?_ (gQ ?_ (gQ ?_ (gQ ?_ (gB ?_ (gQ ?_ (gB ?_ (gQ ?_ (gQ ?_ (gQ ?_ (gB ?_ (gQ ?_ (gQ ?_ (gQ ?_ (gQ ?_ (gQ ?_ (gQ ?_ (gQ ?_ (gB ?_ (gQ ?_ (gB ?_ (gQ ?_ (gQ ?_ (gQ ?_ (gB ?_ (gB ?_ (gQ ?_ (gQ ?_ .nil))))))))))))))))))))))))))));all_goals
           intro a wx d J j;refine⟨by first|rfl|exact Bj rfl rfl rfl j.1|exact Bj rfl rfl rfl j.2.1|exact Bj rfl rfl rfl j.2.2.1,?_⟩;intro K C;try have P2:a.tmps[2]?.getD undef=rE (some ⟨N,0,rI⟩):=J 2 (by kernel_rfl)
           try have P3:a.tmps[3]?.getD undef=rE (some ⟨N+1,0,rI⟩):=J 3 (by kernel_rfl)
           try have P5:a.tmps[5]?.getD undef=rD rF (r:Nat):=J 5 (by kernel_rfl)
           try have E0:=eqn j.1
           try have E1:=eqn j.2.1
           try have D0:=(d.cell (p:=⟨N,2,rI⟩) X).trans c2
           try(refine Hd ?_;go_simp;exact C _ rfl)
          ·have d1:=(d.cell (p:=⟨b1,D+r*11,rI⟩) G).trans P;go_simp;exact C _ _ rfl bR
          ·have d1:=(d.cell (p:=⟨N+1,2,rI⟩) H).trans e2;go_simp;exact C _ _ rfl bR
          ·have d1:=(d.cell (p:=⟨B,E+r*11,rI⟩) x).trans Q;go_simp;exact C _ _ rfl bR
          ·exact wp_load_mid 52 (.tmp 62) rfl b1 (D+r*11+1) (evs E0) _ _ (Aj aY.out d G) underlying52 rfl (Bc) (C _ _ rfl bR)
          ·have d1:=(d.cell (p:=⟨N+1,2,rI⟩) H).trans e2;go_simp;exact C _ _ rfl bR
          ·exact wp_load_mid 52 (.tmp 68) rfl B (E+r*11+1) (evs E0) _ _ (Aj aZ.out d x) underlying52 rfl (Bc) (C _ _ rfl bR)
          ·go_simp;refine(aD.out wx (I.out.trans (d.mono I.out.size))).mono ?_;rintro e w2 ⟨rfl,x⟩;exact C _ _ rfl x
         ·rintro f w9 A l;have A:Below wr.heap.size wr w9:=A;have U:f 72=.bool true:=l.2.2.2.2.2.2.2.2.2.2.2.2.2.2.2.2.2.2.2.2.2.2.2.2.2.2.2.2.1;clear l;simp only[Ao,Av,Ej,dG,dH,dJ,dK,Nat.reduceBEq,Nat.reduceAdd,dM,dO,cond_true,cond_false];rw[U];clear U;have O:=Hd (I.out.trans (A.mono I.out.size));go_wp2_with fail;go_ret;exact⟨Do T.out,O.out⟩
       ·have a9:(x1 !=x2)=true:=(by simp[hx]);have T:=Hd (F.out (by rw[dF hx];rfl));clear hx u F;go_wp2_with fail;refine Dj [eF (rE (some ⟨N,2,rI⟩)),eF (rC (some ⟨b1,D,rI⟩) n oc),eF (rD rF (r:Nat)),eF (rE (some ⟨b1,D+r*11,rI⟩)),eF (rE (some ⟨b1,D+r*11,rI⟩)),eF (rD rF x1),eF (rE (some ⟨N+1,2,rI⟩)),eF (rC (some ⟨B,E,rI⟩) n Z),eF (rD rF (r:Nat)),eF (rE (some ⟨B,E+r*11,rI⟩)),eF (rE (some ⟨B,E+r*11,rI⟩)),eF (rD rF x2),eF (.bool true),eF (.bool true),eF undef,eF undef,eF undef,eF undef,eF undef,eF undef,eF undef,eF undef,eF undef,eF undef,eF undef,eF undef,eF undef,eF undef,eF (.bool true)] (by kernel_rfl) (by kernel_rfl) (by kernel_rfl) (kE (kE (kE (kE (kE (kE (kE (kE (kE (kE (kE (kE (kE (kE (kE (kE (kE (kE (kE (kE (kE (kE (kE (kE (kE (kE (kE (kE (kE Ag))))))))))))))))))))))))))))) ?_ ?_
        ·refine gQ ?_ (gQ ?_ (gQ ?_ (gQ ?_ (gQ ?_ (gB ?_ (gQ ?_ (gB ?_ (gQ ?_ (gQ ?_ (gQ ?_ (gB ?_ (gQ ?_ (gQ ?_ (fO rfl rfl rfl rfl rfl rfl (fun _ _ j=>j.1) rfl (fO rfl rfl rfl rfl rfl rfl (fun _ _ j=>j.2.1) rfl (fO rfl rfl rfl rfl rfl rfl (fun _ _ j=>j.1) rfl (fO rfl rfl rfl rfl rfl rfl (fun _ _ j=>j.2.2.1) rfl (fO rfl rfl rfl rfl rfl rfl (fun _ _ j=>j.2.1) rfl (fO rfl rfl rfl rfl rfl rfl (fun _ _ j=>j.2.1) rfl (fO rfl rfl rfl rfl rfl rfl (fun _ _ j=>j.1) rfl (fO rfl rfl rfl rfl rfl rfl (fun _ _ j=>j.2.1) rfl (fO rfl rfl rfl rfl rfl rfl (fun _ _ j=>j.1) rfl (fO rfl rfl rfl rfl rfl rfl (fun _ _ j=>j.2.2.1) rfl (fO rfl rfl rfl rfl rfl rfl (fun _ _ j=>j.2.1) rfl (fO rfl rfl rfl rfl rfl rfl (fun _ _ j=>j.2.1) rfl (fO rfl rfl rfl rfl rfl rfl (fun _ _ j=>j.2.2.1) rfl (fO rfl rfl rfl rfl rfl rfl (fun _ _ j=>j.2.1) rfl (gQ ?_ .nil))))))))))))))))))))))))))));all_goals
          intro a wx d J j;refine⟨rfl,?_⟩;intro K C;try have P2:a.tmps[2]?.getD undef=rE (some ⟨N,0,rI⟩):=J 2 (by kernel_rfl)
          try have P3:a.tmps[3]?.getD undef=rE (some ⟨N+1,0,rI⟩):=J 3 (by kernel_rfl)
          try have P5:a.tmps[5]?.getD undef=rD rF (r:Nat):=J 5 (by kernel_rfl)
          try have E0:=eqn j.1
          try have E1:=eqn j.2.1
          try have D0:=(d.cell (p:=⟨N,2,rI⟩) X).trans c2
          try(refine Hd ?_;go_simp;exact C _ rfl)
         ·have d1:=(d.cell (p:=⟨b1,D+r*11,rI⟩) G).trans P;go_simp;exact C _ _ rfl bR
         ·have d1:=(d.cell (p:=⟨N+1,2,rI⟩) H).trans e2;go_simp;exact C _ _ rfl bR
         ·have d1:=(d.cell (p:=⟨B,E+r*11,rI⟩) x).trans Q;go_simp;exact C _ _ rfl bR
        ·rintro f w9 A l;have A:Below wr.heap.size wr w9:=A;have U:f 72=.bool true:=l.2.2.2.2.2.2.2.2.2.2.2.2.2.2.2.2.2.2.2.2.2.2.2.2.2.2.2.2.1;clear l;simp only[Ao,Av,Ej,dG,dH,dJ,dK,Nat.reduceBEq,Nat.reduceAdd,dM,dO,cond_true,cond_false];rw[U];clear U;have O:=Hd (I.out.trans (A.mono I.out.size));go_wp2_with fail;go_ret;exact⟨Do T.out,O.out⟩
      ·obtain rfl:r=n:=(by have:=HR.out;omega);have aQ:decide (r<r)=false:=dF hlt;obtain⟨wo,rfl⟩:∃wo:World,wo=wr:=⟨_,rfl⟩;have bM:=Hd I.out;have bC:=Hd aA.out;have bD:=Hd aB.out;have bB:=Hd S.out;clear hlt;go_wp2_with fail;clear c2 c3 e2 e3 X H
       go_loopg [6] m (fun q iv wr=>∃k:Nat,k+q=m/\iv=rD rF (k:Nat)/\(∀i,i<k->(decide ((stb s.sh i).1=(stb t.sh i).1)&&decide ((stb s.sh i).2=(stb t.sh i).2))=true)/\Below wo.heap.size wo wr)
       case atStart=>exact⟨0,by omega,rfl,fun i R=>by omega,bR⟩
       case round=>
        obtain⟨k,hr,rfl,Y,hb⟩:=hrel;have HR:=Hd hr;have S:=Hd Y;have HB:=Hd hb;have I:=Hd (bM.out.trans (hb.mono bM.out.size));have aA:=Hd (bC.out.below hb bC.out.lt);have aB:=Hd (bD.out.below hb bD.out.lt);have c3:=aA.out.cell 3;have e3:=aB.out.cell 3;simp only[cR,cS,aP]at c3 e3;have X:N<wr.heap.size:=aA.out.lt;have H:N+1<wr.heap.size:=aB.out.lt;clear hr Y hb
        by_cases hlt:k<m
        ·have aQ:decide (k<m)=true:=dT hlt;have bQ:(k:Int)<(m:Int):=(by omega);obtain⟨b1,D,y,rfl,G,aE,aF⟩:=bF.out k hlt;obtain⟨B,E,z,rfl,x,M,aG⟩:=bH.out k hlt;have P:=(I.out.cell (p:=⟨b1,D+k*2,rI⟩) G).trans (Bt aF);have Q:=(I.out.cell (p:=⟨B,E+k*2,rI⟩) x).trans (Bt aG);have bN:=(I.out.cell (p:=⟨b1,D+k*2+1,rI⟩) G).trans (Bt (Dl aF));have bO:=(I.out.cell (p:=⟨B,E+k*2+1,rI⟩) x).trans (Bt (Dl aG));have aD:=Hd fun(W:World) (hw:Below w.heap.size w W)=>Re y z _ _ W (aE.below hw lR) (M.below hw lR) (bI.out k hlt) (bJ.out k hlt);obtain⟨u1,v1,t1,rfl⟩:∃a n c,y=.slice a n c:=(by obtain⟨a,c,e,_⟩:=aE;exact⟨_,_,_,e⟩);obtain⟨u2,v2,t2,rfl⟩:∃a n c,z=.slice a n c:=(by obtain⟨a,c,e,_⟩:=M;exact⟨_,_,_,e⟩);have G:b1<wr.heap.size:=cH G I.out.size;have x:B<wr.heap.size:=cH x I.out.size;have F:=Hd (fun hp=>a1.out k hlt hp);have u:=Hd (fun(hp:(decide ((stb s.sh k).1=(stb t.sh k).1)&&decide ((stb s.sh k).2=(stb t.sh k).2))=true)=>(show∀i,i<k+1->(decide ((stb s.sh i).1=(stb t.sh i).1)&&decide ((stb s.sh i).2=(stb t.sh i).2))=true from fun i R=>by
          by_cases e:i=k
          ·rw[e];exact hp
          ·exact S.out i (by omega)))
         obtain⟨x1,aI⟩:=eX ((stb s.sh k).1);obtain⟨x2,aJ⟩:=eX ((stb t.sh k).1);obtain⟨sb,aH⟩:=eX (decide ((stb s.sh k).2=(stb t.sh k).2));rw[<-aI]at P;rw[<-aJ]at Q;rw[<-aH]at aD;rw[<-aI,<-aJ,<-aH]at F u;clear aI aJ aH aF aG aE M
         by_cases hx:x1=x2
         ·have a9:(x1 !=x2)=false:=(by simp[hx]);have HX:=Hd hx;clear hx;cases sb with
          |true=>
           have a3:=Hd (u.out (by rw[dT HX.out];rfl));clear u F;go_wp2_with fail;refine Dj [eF (rE (some ⟨N,3,rI⟩)),eF (rC (some ⟨b1,D,rI⟩) m gc),eF (rD rF (k:Nat)),eF (rE (some ⟨b1,D+k*2,rI⟩)),eF (rE (some ⟨b1,D+k*2,rI⟩)),eF (rD rF x1),eF (rE (some ⟨N+1,3,rI⟩)),eF (rC (some ⟨B,E,rI⟩) m V),eF (rD rF (k:Nat)),eF (rE (some ⟨B,E+k*2,rI⟩)),eF (rE (some ⟨B,E+k*2,rI⟩)),eF (rD rF x2),eF (.bool false),eF (.bool false),eF (rE (some ⟨N,3,rI⟩)),eF (rC (some ⟨b1,D,rI⟩) m gc),eF (rD rF (k:Nat)),eF (rE (some ⟨b1,D+k*2,rI⟩)),eF (rE (some ⟨b1,D+k*2+1,rI⟩)),eF (rC u1 v1 t1),eF (rE (some ⟨N+1,3,rI⟩)),eF (rC (some ⟨B,E,rI⟩) m V),eF (rD rF (k:Nat)),eF (rE (some ⟨B,E+k*2,rI⟩)),eF (rE (some ⟨B,E+k*2+1,rI⟩)),eF (rC u2 v2 t2),eF (.bool true),eF (.bool false),eF (.bool false)] (by kernel_rfl) (by kernel_rfl) (by kernel_rfl) (kE (kE (kE (kE (kE (kE (kE (kE (kE (kE (kE (kE (kE (kE (kE (kE (kE (kE (kE (kE (kE (kE (kE (kE (kE (kE (kE (kE (kE Ag))))))))))))))))))))))))))))) ?_ ?_
           ·refine gQ ?_ (gQ ?_ (gQ ?_ (gQ ?_ (gQ ?_ (gB ?_ (gQ ?_ (gB ?_ (gQ ?_ (gQ ?_ (gQ ?_ (gB ?_ (gQ ?_ (gQ ?_ (gQ ?_ (gQ ?_ (gQ ?_ (gQ ?_ (gQ ?_ (gB ?_ (gQ ?_ (gB ?_ (gQ ?_ (gQ ?_ (gQ ?_ (gB ?_ (gB ?_ (gQ ?_ (gQ ?_ .nil))))))))))))))))))))))))))));all_goals
             intro a wx d J j;refine⟨by first|rfl|exact Bj rfl rfl rfl j.1|exact Bj rfl rfl rfl j.2.1|exact Bj rfl rfl rfl j.2.2.1,?_⟩;intro K C;try have P2:a.tmps[2]?.getD undef=rE (some ⟨N,0,rI⟩):=J 2 (by kernel_rfl)
             try have P3:a.tmps[3]?.getD undef=rE (some ⟨N+1,0,rI⟩):=J 3 (by kernel_rfl)
             try have P6:a.tmps[6]?.getD undef=rD rF (k:Nat):=J 6 (by kernel_rfl)
             try have E0:=eqn j.1
             try have E1:=eqn j.2.1
             try have D0:=(d.cell (p:=⟨N,3,rI⟩) X).trans c3
             try(refine Hd ?_;go_simp;exact C _ rfl)
            ·have d1:=(d.cell (p:=⟨b1,D+k*2,rI⟩) G).trans P;go_simp;exact C _ _ rfl bR
            ·have d1:=(d.cell (p:=⟨N+1,3,rI⟩) H).trans e3;go_simp;exact C _ _ rfl bR
            ·have d1:=(d.cell (p:=⟨B,E+k*2,rI⟩) x).trans Q;go_simp;exact C _ _ rfl bR
            ·have d1:=(d.cell (p:=⟨b1,D+k*2+1,rI⟩) G).trans bN;go_simp;exact C _ _ rfl bR
            ·have d1:=(d.cell (p:=⟨N+1,3,rI⟩) H).trans e3;go_simp;exact C _ _ rfl bR
            ·have d1:=(d.cell (p:=⟨B,E+k*2+1,rI⟩) x).trans bO;go_simp;exact C _ _ rfl bR
            ·go_simp;refine(aD.out wx (I.out.trans (d.mono I.out.size))).mono ?_;rintro e w2 ⟨rfl,n9,rfl⟩;exact C _ _ rfl (Ab bR _)
           ·rintro f w9 A l;have A:Below wr.heap.size wr w9:=A;have L:f 108=.bool false:=l.2.2.2.2.2.2.2.2.2.2.2.2.2.2.2.2.2.2.2.2.2.2.2.2.2.2.2.2.1;clear l;simp only[Ao,Av,Ej,dG,dH,dJ,dK,Nat.reduceBEq,Nat.reduceAdd,dM,dO,cond_true,cond_false];rw[L];clear L;have O:=Hd (HB.out.trans (A.mono HB.out.size));go_wp2_with fail;go_roundg (gk-1);case measure=>have:=HR.out;omega
            case rel=>exact⟨k+1,by have:=HR.out;omega,by go_num,a3.out,O.out⟩
          |false=>
           have T:=Hd (F.out (by simp));clear u F;go_wp2_with fail;refine Dj [eF (rE (some ⟨N,3,rI⟩)),eF (rC (some ⟨b1,D,rI⟩) m gc),eF (rD rF (k:Nat)),eF (rE (some ⟨b1,D+k*2,rI⟩)),eF (rE (some ⟨b1,D+k*2,rI⟩)),eF (rD rF x1),eF (rE (some ⟨N+1,3,rI⟩)),eF (rC (some ⟨B,E,rI⟩) m V),eF (rD rF (k:Nat)),eF (rE (some ⟨B,E+k*2,rI⟩)),eF (rE (some ⟨B,E+k*2,rI⟩)),eF (rD rF x2),eF (.bool false),eF (.bool false),eF (rE (some ⟨N,3,rI⟩)),eF (rC (some ⟨b1,D,rI⟩) m gc),eF (rD rF (k:Nat)),eF (rE (some ⟨b1,D+k*2,rI⟩)),eF (rE (some ⟨b1,D+k*2+1,rI⟩)),eF (rC u1 v1 t1),eF (rE (some ⟨N+1,3,rI⟩)),eF (rC (some ⟨B,E,rI⟩) m V),eF (rD rF (k:Nat)),eF (rE (some ⟨B,E+k*2,rI⟩)),eF (rE (some ⟨B,E+k*2+1,rI⟩)),eF (rC u2 v2 t2),eF (.bool false),eF (.bool true),eF (.bool true)] (by kernel_rfl) (by kernel_rfl) (by kernel_rfl) (kE (kE (kE (kE (kE (kE (kE (kE (kE (kE (kE (kE (kE (kE (kE (kE (kE (kE (kE (kE (kE (kE (kE (kE (kE (kE (kE (kE (kE Ag))))))))))))))))))))))))))))) ?_ ?_
           ·refine gQ ?_ (gQ ?_ (gQ ?_ (gQ ?_ (gQ ?_ (gB ?_ (gQ ?_ (gB ?_ (gQ ?_ (gQ ?_ (gQ ?_ (gB ?_ (gQ ?_ (gQ ?_ (gQ ?_ (gQ ?_ (gQ ?_ (gQ ?_ (gQ ?_ (gB ?_ (gQ ?_ (gB ?_ (gQ ?_ (gQ ?_ (gQ ?_ (gB ?_ (gB ?_ (gQ ?_ (gQ ?_ .nil))))))))))))))))))))))))))));all_goals
             intro a wx d J j;refine⟨by first|rfl|exact Bj rfl rfl rfl j.1|exact Bj rfl rfl rfl j.2.1|exact Bj rfl rfl rfl j.2.2.1,?_⟩;intro K C;try have P2:a.tmps[2]?.getD undef=rE (some ⟨N,0,rI⟩):=J 2 (by kernel_rfl)
             try have P3:a.tmps[3]?.getD undef=rE (some ⟨N+1,0,rI⟩):=J 3 (by kernel_rfl)
             try have P6:a.tmps[6]?.getD undef=rD rF (k:Nat):=J 6 (by kernel_rfl)
             try have E0:=eqn j.1
             try have E1:=eqn j.2.1
             try have D0:=(d.cell (p:=⟨N,3,rI⟩) X).trans c3
             try(refine Hd ?_;go_simp;exact C _ rfl)
            ·have d1:=(d.cell (p:=⟨b1,D+k*2,rI⟩) G).trans P;go_simp;exact C _ _ rfl bR
            ·have d1:=(d.cell (p:=⟨N+1,3,rI⟩) H).trans e3;go_simp;exact C _ _ rfl bR
            ·have d1:=(d.cell (p:=⟨B,E+k*2,rI⟩) x).trans Q;go_simp;exact C _ _ rfl bR
            ·have d1:=(d.cell (p:=⟨b1,D+k*2+1,rI⟩) G).trans bN;go_simp;exact C _ _ rfl bR
            ·have d1:=(d.cell (p:=⟨N+1,3,rI⟩) H).trans e3;go_simp;exact C _ _ rfl bR
            ·have d1:=(d.cell (p:=⟨B,E+k*2+1,rI⟩) x).trans bO;go_simp;exact C _ _ rfl bR
            ·go_simp;refine(aD.out wx (I.out.trans (d.mono I.out.size))).mono ?_;rintro e w2 ⟨rfl,n9,rfl⟩;exact C _ _ rfl (Ab bR _)
           ·rintro f w9 A l;have A:Below wr.heap.size wr w9:=A;have L:f 108=.bool true:=l.2.2.2.2.2.2.2.2.2.2.2.2.2.2.2.2.2.2.2.2.2.2.2.2.2.2.2.2.1;clear l;simp only[Ao,Av,Ej,dG,dH,dJ,dK,Nat.reduceBEq,Nat.reduceAdd,dM,dO,cond_true,cond_false];rw[L];clear L;have O:=Hd (I.out.trans (A.mono I.out.size));go_wp2_with fail;go_ret;exact⟨Do T.out,O.out⟩
         ·have a9:(x1 !=x2)=true:=(by simp[hx]);have T:=Hd (F.out (by rw[dF hx];rfl));clear hx u F;go_wp2_with fail;refine Dj [eF (rE (some ⟨N,3,rI⟩)),eF (rC (some ⟨b1,D,rI⟩) m gc),eF (rD rF (k:Nat)),eF (rE (some ⟨b1,D+k*2,rI⟩)),eF (rE (some ⟨b1,D+k*2,rI⟩)),eF (rD rF x1),eF (rE (some ⟨N+1,3,rI⟩)),eF (rC (some ⟨B,E,rI⟩) m V),eF (rD rF (k:Nat)),eF (rE (some ⟨B,E+k*2,rI⟩)),eF (rE (some ⟨B,E+k*2,rI⟩)),eF (rD rF x2),eF (.bool true),eF (.bool true),eF undef,eF undef,eF undef,eF undef,eF undef,eF undef,eF undef,eF undef,eF undef,eF undef,eF undef,eF undef,eF undef,eF undef,eF (.bool true)] (by kernel_rfl) (by kernel_rfl) (by kernel_rfl) (kE (kE (kE (kE (kE (kE (kE (kE (kE (kE (kE (kE (kE (kE (kE (kE (kE (kE (kE (kE (kE (kE (kE (kE (kE (kE (kE (kE (kE Ag))))))))))))))))))))))))))))) ?_ ?_
          ·refine gQ ?_ (gQ ?_ (gQ ?_ (gQ ?_ (gQ ?_ (gB ?_ (gQ ?_ (gB ?_ (gQ ?_ (gQ ?_ (gQ ?_ (gB ?_ (gQ ?_ (gQ ?_ (fO rfl rfl rfl rfl rfl rfl (fun _ _ j=>j.1) rfl (fO rfl rfl rfl rfl rfl rfl (fun _ _ j=>j.2.1) rfl (fO rfl rfl rfl rfl rfl rfl (fun _ _ j=>j.1) rfl (fO rfl rfl rfl rfl rfl rfl (fun _ _ j=>j.2.2.1) rfl (fO rfl rfl rfl rfl rfl rfl (fun _ _ j=>j.2.1) rfl (fO rfl rfl rfl rfl rfl rfl (fun _ _ j=>j.2.1) rfl (fO rfl rfl rfl rfl rfl rfl (fun _ _ j=>j.1) rfl (fO rfl rfl rfl rfl rfl rfl (fun _ _ j=>j.2.1) rfl (fO rfl rfl rfl rfl rfl rfl (fun _ _ j=>j.1) rfl (fO rfl rfl rfl rfl rfl rfl (fun _ _ j=>j.2.2.1) rfl (fO rfl rfl rfl rfl rfl rfl (fun _ _ j=>j.2.1) rfl (fO rfl rfl rfl rfl rfl rfl (fun _ _ j=>j.2.1) rfl (fO rfl rfl rfl rfl rfl rfl (fun _ _ j=>j.2.2.1) rfl (fO rfl rfl rfl rfl rfl rfl (fun _ _ j=>j.2.1) rfl (gQ ?_ .nil))))))))))))))))))))))))))));all_goals
            intro a wx d J j;refine⟨rfl,?_⟩;intro K C;try have P2:a.tmps[2]?.getD undef=rE (some ⟨N,0,rI⟩):=J 2 (by kernel_rfl)
            try have P3:a.tmps[3]?.getD undef=rE (some ⟨N+1,0,rI⟩):=J 3 (by kernel_rfl)
            try have P6:a.tmps[6]?.getD undef=rD rF (k:Nat):=J 6 (by kernel_rfl)
            try have E0:=eqn j.1
            try have E1:=eqn j.2.1
            try have D0:=(d.cell (p:=⟨N,3,rI⟩) X).trans c3
            try(refine Hd ?_;go_simp;exact C _ rfl)
           ·have d1:=(d.cell (p:=⟨b1,D+k*2,rI⟩) G).trans P;go_simp;exact C _ _ rfl bR
           ·have d1:=(d.cell (p:=⟨N+1,3,rI⟩) H).trans e3;go_simp;exact C _ _ rfl bR
           ·have d1:=(d.cell (p:=⟨B,E+k*2,rI⟩) x).trans Q;go_simp;exact C _ _ rfl bR
          ·rintro f w9 A l;have A:Below wr.heap.size wr w9:=A;have L:f 108=.bool true:=l.2.2.2.2.2.2.2.2.2.2.2.2.2.2.2.2.2.2.2.2.2.2.2.2.2.2.2.2.1;clear l;simp only[Ao,Av,Ej,dG,dH,dJ,dK,Nat.reduceBEq,Nat.reduceAdd,dM,dO,cond_true,cond_false];rw[L];clear L;have O:=Hd (I.out.trans (A.mono I.out.size));go_wp2_with fail;go_ret;exact⟨Do T.out,O.out⟩
        ·obtain rfl:k=m:=(by have:=HR.out;omega);have aQ:decide (k<k)=false:=dF hlt;have T:=Hd (HY.out bB.out S.out);clear hlt;go_wp2_with fail;go_ret;exact⟨Do T.out,I.out⟩
    ·have bW:((m:Int) !=(m2:Int))=true:=(by simp;omega);have T:=Hd (aC.out fun h=>q4 h.2.2.2);clear q4;go_in;go_wp2_with fail;rw[<-HH.out,<-aO.out];go_wp2_with fail;go_ret;exact⟨Do T.out,by rw[HH.out];exact aL.out⟩
   ·have bV:((n:Int) !=(n2:Int))=true:=(by simp;omega);have T:=Hd (aC.out fun h=>q3 h.2.2.1);clear q3;go_in;go_wp2_with fail;rw[<-HH.out,<-aO.out];go_wp2_with fail;go_ret;exact⟨Do T.out,by rw[HH.out];exact aL.out⟩
  ·have bU:(ow !=aW)=true:=(by simp[q2]);have T:=Hd (aC.out fun h=>q2 h.2.1);clear q2;go_in;go_wp2_with fail;rw[<-HH.out,<-aO.out];go_wp2_with fail;go_ret;exact⟨Do T.out,by rw[HH.out];exact aL.out⟩
 ·have bT:(lv !=aV)=true:=(by simp[q1]);have T:=Hd (aC.out fun h=>q1 h.1);clear q1;go_in;go_wp2_with fail;rw[<-HH.out,<-aO.out];go_wp2_with fail;go_ret;exact⟨Do T.out,by rw[HH.out];exact aL.out⟩
def Zq:SparseD:=⟨0,0,[],[]⟩
theorem Ze2:SparseOk Zq:=⟨by unfold inI Zq;simp,by unfold inI Zq;simp,fun p hp=>(by cases hp),fun p hp=>(by cases hp)⟩
theorem So (w:World):SparseR w (.agg #[rD rF 0,rD rF 0,rC rI 0 0,rC rI 0 0]) Zq:=⟨_,_,rfl,SpotsR.nil w,StubsR.nil w⟩
