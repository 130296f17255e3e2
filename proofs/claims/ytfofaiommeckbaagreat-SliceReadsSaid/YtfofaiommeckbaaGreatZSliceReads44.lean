/- Walks: slice.cut, when there is nothing to cut; its closure. -/
import Derived.Test.YtfofaiommeckbaaGreatZSliceReadsB
import Derived.Test.YtfofaiommeckbaaGreatZSliceReads32
import Derived.Test.YtfofaiommeckbaaGreatZSliceReads43
import Derived.StillTailTactics
import Derived.Deep.Cut
import Derived.Test.YtfofaiommeckbaaGreatZSliceReads41
import Derived.Test.YtfofaiommeckbaaGreatZSliceReads42
open Bool renaming and_eq_true → bS, or_false → cL, or_true → cM
open List renaming getD_eq_getElem?_getD → aH, range → aF, flatMap_def → fP, map_congr_left → fY, getElem?_eq_getElem → aI, take_length → eT, getElem_mem → aJ, replicate → cS, getElem?_toArray → bK, getElem?_cons_zero → bL, getElem?_cons_succ → bM, filterMap_cons → cH, filterMap_nil → cI, contains_cons → cJ, contains_nil → cK, all_eq_true → fE
open Nat renaming le_trans → dG, le_refl → dP, lt_of_lt_of_le → dH, le_succ → fN, lt_succ_self → fL, not_lt_zero → fZ, succ_le_of_lt → gA, le_of_lt → dL
set_option linter.unusedVariables false
set_option maxRecDepth 100000
set_option maxHeartbeats 40000000
namespace Go.Proofs.YtfofaiommeckbaaGreat
open Go.RowKit Go.Maps WalkM WireM
theorem Zc6 (g:Nat)(b off n cp x:Nat)(x0 x1 x2 x3 x4 x5 x6 x7 x8 x9:Value)(w:World)(hg:w.cell? ⟨g,0,none⟩=some (.slice (some ⟨b,off,none⟩) n cp))(hx:x<n)(hr:w.rangeAt b (off+x*10) [x0,x1,x2,x3,x4,x5,x6,x7,x8,x9])(hone:(#[x0,x1,x2,x3,x4,x5,x6,x7,x8,x9]:Array Value).toList.all (·.oneCell')=true):
  Calls Tryz.prog 134 #[.int .i64 (x:Nat),.pointer (some ⟨g,0,none⟩)] w fun e w'=>e=.returned (.tuple #[.agg #[x0,x1,x2,x3,x4,x5,x6,x7,x8,x9],.bool true])∧Below w.heap.size w w':=by
 have hxI:(x:Int)<(n:Int):=(by omega);have HRA:=Hd hr;have HONE:=Hd hone;have HG:=Hd hg;have hgl:g<w.heap.size:=World.block_lt_of_cell? w _ hg;have hbl:b<w.heap.size:=World.block_lt_of_cell? w _ (hr 0 x0 rfl);obtain⟨w2,hw2⟩:=eX (w.alloc (.cells #[.int .u8 0,.slice none 0 0,.slice none 0 0,.slice none 0 0,.int .u8 0,.slice none 0 0,.slice none 0 0,.slice none 0 0,.slice none 0 0,.slice none 0 0] 52));have HB2:=Hd (show Below w.heap.size w w2 from by rw[hw2];exact bR.alloc lR _);have HK2:=Hd (show Blk w2 w.heap.size 52 #[.int .u8 0,.slice none 0 0,.slice none 0 0,.slice none 0 0,.int .u8 0,.slice none 0 0,.slice none 0 0,.slice none 0 0,.slice none 0 0,.slice none 0 0]from by rw[hw2];exact Blk.new _ _ _);have c0:w2.cell? ⟨g,0,none⟩=some (.slice (some ⟨b,off,none⟩) n cp):=(HB2.out.cell (p:=⟨g,0,none⟩) hgl).trans HG.out;have HRA2:=Hd (An HRA.out HB2.out hbl);rw[hw2]at HK2 HRA2 c0 HB2;clear hr hone hg hw2;go_enter Tryz.func134,Tryz.ntmps134;go_wp2_with (first|(refine wpList_load_mid rfl 52 (.tmp 7) rfl b (off+x*10) rfl [x0,x1,x2,x3,x4,x5,x6,x7,x8,x9] _ HRA2.out Tryz.underlying52 rfl Be ?_)|(refine Aa rfl 52 (.tmp 3) (.tmp 8) rfl w.heap.size #[x0,x1,x2,x3,x4,x5,x6,x7,x8,x9] rfl rfl 52 #[.int .u8 0,.slice none 0 0,.slice none 0 0,.slice none 0 0,.int .u8 0,.slice none 0 0,.slice none 0 0,.slice none 0 0,.slice none 0 0,.slice none 0 0] HK2.out (by kernel_rfl) rfl HONE.out ?_));rintro w9 hblk hbl9 hoth hsize;have HK:=Hd hblk;have HB9:=Hd (HB2.out.trans (hbl9 w.heap.size lR));clear hblk hbl9 hoth hsize;go_wp2_with fail;exact bodyPost_ret (v:=.tuple #[.agg #[x0,x1,x2,x3,x4,x5,x6,x7,x8,x9],.bool true]) (Af Tryz.results134 _ _ w.heap.size _ _ _ rfl HK.out Tryz.underlying52 rfl (by kernel_rfl)) rfl ⟨rfl,HB9.out⟩
end Go.Proofs.YtfofaiommeckbaaGreat
namespace Go.Proofs.YtfofaiommeckbaaGreat
open Go.RowKit ShaM WireM
open WalkM
end Go.Proofs.YtfofaiommeckbaaGreat
namespace Go.Proofs.YtfofaiommeckbaaGreat
open Go.RowKit WalkM WireM ShaM
theorem Zc7 {t:List NodeD}(hr:Fr t=true) {x:Nat}(hx:x<t.length):∀u∈(nd t x).par.late,∃m:Nat,u=(m:Int)∧2*m<t.length:=by
 rw[Fr,bS,bS,bS]at hr;obtain⟨h1,hp,_,hl⟩:=hr;obtain⟨d,hd,hN,hlen⟩:=In (of_decide_eq_true h1);intro u hu;obtain⟨h2,m,rfl,hm⟩:=Mu hp hx hu;have hL:=Ov (Ox hl x hx) _ hu;refine⟨m,rfl,?_⟩;have:=hL.1;rw[hN]at this;omega
theorem Re {w:World} {v:Value} {OL:List Nat}(h:Rd w v (ivs .i64 (OL.map fun m:Nat=>(m:Int)))):∃a c,v=.slice a OL.length c∧∀r,r<OL.length→∃b o,a=some ⟨b,o,none⟩∧b<w.heap.size∧w.cell? ⟨b,o+r,none⟩=some (.int .i64 ((OL.getD r 0:Nat):Int)):=by
 obtain⟨a,n,c,rfl⟩:∃a n c,v=.slice a n c:=(by obtain⟨a,c,e,-⟩:=h;exact⟨_,_,_,e⟩);obtain rfl:n=OL.length:=by
  obtain⟨a',c',e,-⟩:=h;cases e;simp[ivs]
 refine⟨a,c,rfl,fun r hr=>h.at3 ?_⟩;rw[Bv (by simpa using hr)]
 congr 3
 simp[aH,hr]
def Zht (t:List NodeD)(M i:Nat)(OL SL:List Nat):SparseD:=⟨(M:Int),(i:Int),OL.map fun m:Nat=>((m:Int),nd t m),SL.map fun m:Nat=>((m:Int),Np (nd t) m)⟩
end Go.Proofs.YtfofaiommeckbaaGreat
namespace Go.Proofs.YtfofaiommeckbaaGreat
open Go.RowKit WalkM WireM
theorem NodeO.keep2 {w w':World} {B:Nat} {d:NodeD} {c:Array Value}(h:NodeO w B d c)(hk:∀e v xs,e=5∨e=3→Own w B e v xs→Own w' B e v xs):NodeO w' B d c:=by
 obtain⟨x0,x1,x2,x3,x4,u0,u1,u2,rfl,h0,h1,h2,h3,h4,h5,h6,h7⟩:=h;exact⟨x0,x1,x2,x3,x4,u0,u1,u2,rfl,hk _ _ _ (.inl rfl) h0,hk _ _ _ (.inl rfl) h1,hk _ _ _ (.inl rfl) h2,hk _ _ _ (.inl rfl) h3,hk _ _ _ (.inl rfl) h4,hk _ _ _ (.inl rfl) h5,hk _ _ _ (.inl rfl) h6,hk _ _ _ (.inr rfl) h7⟩
theorem NodeO.stepQ {V:Value} {B B':Nat} {X Y:World} {d:NodeD} {c:Array Value}(hs:StepO V B X Y)(k:NodeO X B' d c)(hV:∀g,V.ownBlock=some g→g<B'):NodeO Y B' d c:=k.keep2 fun _ _ _ _ hu=>hs.own hu hV
theorem NodeO.onlyQ {w w':World} {B C:Nat} {d:NodeD} {c:Array Value}(k:NodeO w B d c)(hb:Only C w w')(hC:C<B):NodeO w' B d c:=k.keep2 fun e v xs _ hu=>OwnK.onlyQ (show OwnK w B e 1 v xs.length xs from hu) hb hC
theorem NodeO.cutQ {w X:World} {V:Value} {q B B' k n:Nat} {T:TypeId} {ys:List Value} {d:NodeD} {c:Array Value}(h:CutS w V q X)(o:NodeO w B d c)(hB:q<B)(hV:OwnK w B' T k V n ys)(h1:5≠T)(h2:3≠T):NodeO X B d c:=
 o.keep2 fun e v xs he hu=>CutS.ownK (k:=1) h hu hB (OwnK.apartK (k:=1) hu hV (by rcases he with rfl|rfl<;>assumption))
theorem Rf {w:World} {a:Option Addr} {n c:Nat} {OL:List Nat}(h:Rd w (.slice a n c) (ivs .i64 (OL.map fun m:Nat=>(m:Int)))) {r:Nat}(hr:r<OL.length):∃b o,a=some ⟨b,o,none⟩∧b<w.heap.size∧w.cell? ⟨b,o+r,none⟩=some (.int .i64 ((OL.getD r 0:Nat):Int)):=by
 refine h.at3 ?_;rw[Bv (by simpa using hr)]
 congr 3
 simp[aH,hr]
theorem Zy {W:World} {B:Nat} {V:Value} {D:Nat→NodeD} {OL:List Nat} {CF:Nat→Array Value} (hC:∀k,k<OL.length→NodeC W (D (OL.getD k 0)) (CF k))
  (ho:OwnK W B 87 11 V OL.length ((aF OL.length).flatMap fun k=> .int .i64 ((OL.getD k 0:Nat):Int)::(CF k).toList)):SpotsR W V (OL.map fun m:Nat=>((m:Int),D m)):=by
 have hl:(OL.map fun m:Nat=>((m:Int),D m)).length=OL.length:=(by simp);have hat:∀i,i<OL.length→spt (OL.map fun m:Nat=>((m:Int),D m)) i=(((OL.getD i 0:Nat):Int),D (OL.getD i 0)):=fun i hi=>(by simp[spt,aH,hi]);refine Xt (B:=B) (C:=fun i=>if i<OL.length then CF i else#[.int .u8 0,.slice none 0 0,.slice none 0 0,.slice none 0 0,.int .u8 0,.slice none 0 0,.slice none 0 0,.slice none 0 0,.slice none 0 0,.slice none 0 0]) (fun i=> ?_) (fun i hi=> ?_) ?_
 ·split
  ·rename_i hi;exact(hC _ hi).size
  ·rfl
 ·rw[hl]at hi;rw[hat i hi,if_pos hi];exact hC i hi
 ·rw[hl];have e:(aF OL.length).flatMap (Ev (OL.map fun m:Nat=>((m:Int),D m)) fun i=>if i<OL.length then CF i else#[.int .u8 0,.slice none 0 0,.slice none 0 0,.slice none 0 0,.int .u8 0,.slice none 0 0,.slice none 0 0,.slice none 0 0,.slice none 0 0,.slice none 0 0])=(aF OL.length).flatMap fun k=> .int .i64 ((OL.getD k 0:Nat):Int)::(CF k).toList:=by
   rw[fP,fP]
   congr 1
   refine fY fun i hi=> ?_;have hi:=List.mem_range.1 hi;rw[Ev,hat i hi,if_pos hi]
  rw[e];exact ho
theorem Zz {W:World} {B:Nat} {V:Value} {H:Nat→List Nat} {SL:List Nat} {U:Nat→Value} (hU:∀j,j<SL.length→Own W B 5 (U j) (bvs (H (SL.getD j 0))))
  (ho:OwnK W B 89 2 V SL.length ((aF SL.length).flatMap fun j=>[.int .i64 ((SL.getD j 0:Nat):Int),U j])):StubsR W V (SL.map fun m:Nat=>((m:Int),H m)):=by
 have hl:(SL.map fun m:Nat=>((m:Int),H m)).length=SL.length:=(by simp);have hat:∀i,i<SL.length→stb (SL.map fun m:Nat=>((m:Int),H m)) i=(((SL.getD i 0:Nat):Int),H (SL.getD i 0)):=fun i hi=>(by simp[stb,aH,hi]);refine Xu (B:=B) (U:=U) (fun i hi=> ?_) ?_
 ·rw[hl]at hi;rw[hat i hi];exact(hU i hi).rd
 ·rw[hl];have e:(aF SL.length).flatMap (Hg (SL.map fun m:Nat=>((m:Int),H m)) U)=(aF SL.length).flatMap fun j=>[.int .i64 ((SL.getD j 0:Nat):Int),U j]:=by
   rw[fP,fP]
   congr 1
   refine fY fun i hi=> ?_;have hi:=List.mem_range.1 hi;rw[Hg,hat i hi]
  rw[e];exact ho
open Go.Maps
def atT (t:List NodeD)(x:Nat):Option NodeD:=if x<t.length then some (nd t x)else none
def GF (OL:List Nat)(val:Nat→Value)(r:Nat)(y:Int):Option Value:=if y∈(OL.take r).map (fun m:Nat=>(m:Int))then some (val y.toNat)else none
theorem Zc8 (OL:List Nat)(val:Nat→Value):GF OL val 0=fun _=>none:=by
 funext y;unfold GF;rw[List.take_zero,List.map_nil,if_neg (by simp)]
theorem Zc9 {OL:List Nat} {val:Nat→Value} {r:Nat}(h:r<OL.length):(fun y:Int=>if y=((OL.getD r 0:Nat):Int)then some (val (OL.getD r 0))else GF OL val r y)=GF OL val (r+1):=by
 have e:OL.getD r 0=OL[r]:=by rw[aH,aI h];rfl
 funext y
 unfold GF;rw[List.take_succ_eq_append_getElem h,List.map_append,e]
 by_cases hy:y=((OL[r]:Nat):Int)
 ·rw[if_pos hy,if_pos (by simp[hy]),hy,Int.toNat_natCast]
 ·rw[if_neg hy]
  by_cases h2:y∈(OL.take r).map (fun m:Nat=>(m:Int))
  ·rw[if_pos h2,if_pos (List.mem_append_left _ h2)]
  ·rw[if_neg h2,if_neg (fun h3=>by
    rw[List.mem_append]at h3;rcases h3 with h3|h3
    ·exact h2 h3
    ·exact hy (by simpa using h3))]
theorem Zda {OL:List Nat} {val:Nat→Value}(h:OL.Pairwise (· < ·)):Db (GF OL val OL.length) (OL.map fun m:Nat=>(m:Int)):=by
 refine⟨by rw[List.pairwise_map];exact h.imp fun h=>by omega,fun x=> ?_⟩;unfold GF;rw[eT]
 by_cases hx:x∈OL.map (fun m:Nat=>(m:Int))
 ·rw[if_pos hx];simp[hx]
 ·rw[if_neg hx];simp[hx]
theorem Zj1 {OL:List Nat} {val:Nat→Value} {x:Nat}(h:x∈OL):GF OL val OL.length ((x:Nat):Int)=some (val x):=by
 unfold GF;rw[eT,if_pos (List.mem_map.2 ⟨x,h,rfl⟩),Int.toNat_natCast]
theorem Zgf {w w':World} {g:Nat} {T:TypeId} {cs:Array Value} {u:Value} {L:List Nat}(h:Rd w u (bvs L))(hb:Blk w g T cs)(hcs:∀z∈cs.toList,∀k:Int,z≠ .int .u8 k)(ho:Only g w w'):Rd w' u (bvs L):=by
 obtain⟨a,cap,rfl,h1,h2,h3⟩:=h;refine⟨a,cap,rfl,h1,h2,?_⟩;rcases h3 with h3|⟨b,off,rfl,h4⟩
 ·exact .inl h3
 ·cases L with
  |nil=>exact .inr ⟨b,off,rfl,fun j u hu=>by simp[bvs]at hu⟩
  |cons x L=>
   have c0:=h4 0 (.int .u8 (x:Nat)) (by simp[bvs]);have hl:=World.block_lt_of_cell? w _ c0;have hne:b≠g:=by
    intro e;subst e;rw[hb.cell]at c0;exact hcs _ (Array.mem_toList_iff.2 (Array.mem_of_getElem? c0)) x rfl
   refine .inr ⟨b,off,rfl,fun j u hu=> ?_⟩;have:=h4 j u hu;have e:=ho.block b hl (fun e=>hne (by cases e;rfl));simp only[World.cell?]at this⊢;rw[e];exact this
theorem Zdb (w4:World)(c6:Array Value)(M i:Nat)(h0:Nat)(hh0:h0=w4.heap.size):
  MapF ((((w4.alloc (.cells c6 44)).alloc (.map #[] 0)).alloc (.map #[] 0)).alloc (.cells #[.int .i64 (M:Nat),.int .i64 (i:Nat),.map (some (h0+1)),.map (some (h0+1+1))] 101)) (h0+1) 0 (fun _=>none)∧
  MapF ((((w4.alloc (.cells c6 44)).alloc (.map #[] 0)).alloc (.map #[] 0)).alloc (.cells #[.int .i64 (M:Nat),.int .i64 (i:Nat),.map (some (h0+1)),.map (some (h0+1+1))] 101)) (h0+1+1) 0 (fun _=>none)∧
  Blk ((((w4.alloc (.cells c6 44)).alloc (.map #[] 0)).alloc (.map #[] 0)).alloc (.cells #[.int .i64 (M:Nat),.int .i64 (i:Nat),.map (some (h0+1)),.map (some (h0+1+1))] 101)) (h0+1+1+1) 101 #[.int .i64 (M:Nat),.int .i64 (i:Nat),.map (some (h0+1)),.map (some (h0+1+1))]∧
  Below h0 w4 ((((w4.alloc (.cells c6 44)).alloc (.map #[] 0)).alloc (.map #[] 0)).alloc (.cells #[.int .i64 (M:Nat),.int .i64 (i:Nat),.map (some (h0+1)),.map (some (h0+1+1))] 101))∧
  ((((w4.alloc (.cells c6 44)).alloc (.map #[] 0)).alloc (.map #[] 0)).alloc (.cells #[.int .i64 (M:Nat),.int .i64 (i:Nat),.map (some (h0+1)),.map (some (h0+1+1))] 101)).heap.size=h0+1+1+1+1:=by
 subst hh0;refine⟨?_,?_,?_,?_,by simp⟩
 ·have:=((MapF.made (w4.alloc (.cells c6 44))).alloc (.map #[] 0)).alloc (.cells #[.int .i64 (M:Nat),.int .i64 (i:Nat),.map (some (w4.heap.size+1)),.map (some (w4.heap.size+1+1))] 101);simpa using this
 ·have:=(MapF.made ((w4.alloc (.cells c6 44)).alloc (.map #[] 0))).alloc (.cells #[.int .i64 (M:Nat),.int .i64 (i:Nat),.map (some (w4.heap.size+1)),.map (some (w4.heap.size+1+1))] 101);simpa using this
 ·have:=Blk.new (((w4.alloc (.cells c6 44)).alloc (.map #[] 0)).alloc (.map #[] 0)) 101 #[.int .i64 (M:Nat),.int .i64 (i:Nat),.map (some (w4.heap.size+1)),.map (some (w4.heap.size+1+1))];simpa using this
 ·exact(((bR.alloc lR _).alloc (by simp) _).alloc (by simp;omega) _).alloc (by simp;omega) _
theorem Zi1 (v:Value) (t:List NodeD) (hh m d:Nat) (only:Bool) (OL SL:List Nat) (w:World) (h:TreeR w v t) (hs:Eg t=true) (hok:TreeOk t) (hr:Fr t=true) (hlen:t.length=2*hh+1) (hN1:Bg t.length=hh+1) (hd:d≤16) (hdd:hh+1=2^d) (hi:((m:Nat):Int)∈Og t (hh+1))
  (eO:(Cq (atT t) m only d (2^d-1) 0 []).1=OL.map fun m:Nat=>(m:Int)) (eS:(Cq (atT t) m only d (2^d-1) 0 []).2.1=SL.map fun m:Nat=>(m:Int)) (hOr:OL.Pairwise (· < ·)) (hSr:SL.Pairwise (· < ·))
  (hO:∀x∈OL,x<t.length) (hS:∀x∈SL,x<t.length) (hnO:OL.length≤100000) (hnS:SL.length≤100000):
  Calls Tryz.prog 74 #[v,.int .i64 (m:Nat),.bool only] w fun e w'=>∃ob sb G G2,e=.returned (.tuple #[.agg #[.int .i64 ((2^d:Nat):Int),.int .i64 (m:Nat),.map (some ob),.map (some sb)],.int .u8 0])∧
   MapF w' ob OL.length G∧Db G (OL.map fun m:Nat=>(m:Int))∧(∀x∈OL,∃c,G ((x:Nat):Int)=some (.agg c)∧NodeC w' (nd t x) c)∧MapF w' sb SL.length G2∧Db G2 (SL.map fun m:Nat=>(m:Int))∧(∀x∈SL,∃u,G2 ((x:Nat):Int)=some u∧Rd w' u (bvs (Np (nd t) x)))∧Below w.heap.size w w':=by
 have h40:=Fn hs;have hmh:=((mem_iff t (hh+1) m).1 hi).1;obtain⟨a,cp,rfl,hc,hc2⟩:=h.sl;obtain⟨b,off,-,rfl,hbl,-,-⟩:=h.node (i:=0) (by omega);obtain⟨C0,hC0⟩:=Ib (n:=t.length) (P:=fun i c=>NodeC w (nd t i) c∧w.rangeAt b (off+i*10) c.toList) fun i hi=>by
  obtain⟨b',off',c,h1,h2,h3,h4⟩:=h.node hi;cases h1;exact⟨c,h3,h4⟩
 obtain⟨C,hCd⟩:∃C:Nat→Array Value,C=fun i=>if i<t.length then C0 i else#[.int .u8 0,.slice none 0 0,.slice none 0 0,.slice none 0 0,.int .u8 0,.slice none 0 0,.slice none 0 0,.slice none 0 0,.slice none 0 0,.slice none 0 0]:=⟨_,rfl⟩;have hC:∀i,i<t.length→NodeC w (nd t i) (C i)∧w.rangeAt b (off+i*10) (C i).toList:=fun i hi=>(by rw[hCd];simp only[if_pos hi];exact hC0 i hi);have hten:∀i,∃c0 c1 c2 c3 c4 c5 c6 c7 c8 c9,C i=#[c0,c1,c2,c3,c4,c5,c6,c7,c8,c9]:=fun i=>by
  by_cases hi:i<t.length
  ·exact(hC i hi).1.ten
  ·rw[hCd];simp only[if_neg hi];exact⟨_,_,_,_,_,_,_,_,_,_,rfl⟩
 have hone:∀i,(C i).toList.all (·.oneCell')=true:=fun i=>by
  by_cases hi:i<t.length
  ·exact(hC i hi).1.oneL
  ·rw[hCd];simp only[if_neg hi];rfl
 have hat:∀x d,atT t x=some d→x<t.length∧d=nd t x:=fun x d hx=>by
  unfold atT at hx
  split at hx
  ·rename_i hx2;cases hx;exact⟨hx2,rfl⟩
  ·cases hx
 have HAL:=Hd fun(W:World) (hw:Below w.heap.size w W)=>Zge _ t W (h.below hw lR) hs hok hr;have HTL:=Hd fun(W:World) (hw:Below w.heap.size w W)=>Zb9 _ t hh m W (h.below hw lR) hs hok hr hlen hN1 hi;have HOP:=Hd fun(g:Nat) (W:World) (hw:Below w.heap.size w W) (hg:W.cell? ⟨g,0,none⟩=some (.slice (some ⟨b,off,none⟩) t.length cp))=>
  Sp 134 g (fun _ _=>rfl) (atT t) C W ⟨hten,fun x d hx=>by
   obtain⟨h1,rfl⟩:=hat x d hx;exact(hC x h1).1.below hw lR,hone,fun x d hx=>by
   obtain⟨h1,rfl⟩:=hat x d hx;exact(hok.nd x).kind,fun x d hx=>by
   obtain⟨h1,rfl⟩:=hat x d hx;have:=Dy hs x;unfold Cb at this;have:=of_decide_eq_true this;refine⟨fun u hu=> ?_,by omega⟩;obtain⟨k,rfl,hk⟩:=Zc7 hr h1 u hu
   omega⟩ d m only (by omega) hd fun x hx W' hw'=>by
   have hxt:x<t.length:=(by omega);obtain⟨x0,x1,x2,x3,x4,x5,x6,x7,x8,x9,he⟩:=hten x;have hr2:=(hC x hxt).2;have ho2:=hone x;rw[he]at hr2 ho2⊢;rw[show(atT t x).isSome=true from by unfold atT;rw[if_pos hxt];rfl];have hgl:g<W.heap.size:=World.block_lt_of_cell? W _ hg;exact Zc6 g b off t.length cp x x0 x1 x2 x3 x4 x5 x6 x7 x8 x9 W' ((hw'.cell (p:=⟨g,0,none⟩) hgl).trans hg) hxt (An hr2 (hw.trans (hw'.mono hw.size)) hbl) ho2
 rw[eO,eS]at HOP;obtain⟨OKB,hOKB⟩:=eX ((Cq (atT t) m only d (2^d-1) 0 []).2.2);rw[←hOKB]at HOP;obtain⟨M,hM⟩:=eX (2^d);rw[←hM]at HOP hdd⊢;obtain⟨n,hn⟩:=eX t.length;rw[←hn]at HAL HTL HOP hC hO hS h40 hlen⊢;have hdiv:Int.tdiv ((n:Int)+1) 2=(M:Int):=(by rw[Int.tdiv_eq_ediv_of_nonneg (by omega)];omega);have gw1:IntKind.i64.wrap (M:Int)=(M:Int):=(by rw[IntKind.wrap_i64]<;>omega);have gw0:IntKind.i64.wrap ((n:Int)+1)=(n:Int)+1:=(by rw[IntKind.wrap_i64]<;>omega);have HC:=Hd hC;have HTEN:=Hd hten;have HO:=Hd (show∀k,k<OL.length→OL.getD k 0<n from fun k hk=>hO _ (by rw[aH,aI hk];exact aJ hk));have HS:=Hd (show∀k,k<SL.length→SL.getD k 0<n from fun k hk=>hS _ (by rw[aH,aI hk];exact aJ hk));have HOA:=Hd hO;have HSA:=Hd hS;have HK1:=Hd (Zda (val:=fun x=> .agg (C x)) hOr);have HK2:=Hd hSr;obtain⟨N,hN⟩:=eX w.heap.size;have HN:=Hd hN;clear hC0 hCd hC hten hone hat hO hS hOr hSr eO eS hOKB hn h hs hok hr hN1 hi hlen hc hc2 hM hdd;go_enter Tryz.func74,Tryz.ntmps74;go_wp2_with fail;obtain⟨w2,hw2⟩:=eX ((w.alloc (.cells #[.slice (some ⟨b,off,none⟩) n cp] 55)).alloc (.cells #[.int .i64 0,.int .i64 0,.map none,.map none] 101));have HB2:=Hd (show Below w.heap.size w w2 from by rw[hw2];exact(bR.alloc lR _).alloc (by simp) _);have HKT2:=Hd (show Blk w2 N 55 #[.slice (some ⟨b,off,none⟩) n cp]from by rw[hw2,hN];exact(Blk.new _ _ _).alloc _);have HKR2:=Hd (show Blk w2 (N+1) 101 #[.int .i64 0,.int .i64 0,.map none,.map none]from by
  rw[hw2,hN];have:=Blk.new (w.alloc (.cells #[.slice (some ⟨b,off,none⟩) n cp] 55)) 101 #[.int .i64 0,.int .i64 0,.map none,.map none];simpa using this)
 rw[←hw2,←hN];clear hw2 hN;refine(HAL.out _ HB2.out).mono ?_;rintro e w3 ⟨ga,hga,rfl,hall,hb3⟩;have HB3:=Hd (HB2.out.trans (hb3.mono HB2.out.size));have HKT3:=Hd (HKT2.out.below hb3 HKT2.out.lt);have HKR3:=Hd (HKR2.out.below hb3 HKR2.out.lt);obtain⟨U,hU⟩:=Ib (n:=n) (P:=fun y u=>w3.cell? ⟨ga,y,none⟩=some u∧Rd w3 u (bvs (Np (nd t) y))) fun y hy=>by
  obtain⟨u,h1,h2,-⟩:=hall.row hy rfl;exact⟨u,h1,h2⟩
 have HGA:=Hd (show ga<w3.heap.size from hall.lt);have HU:=Hd hU;have c0:w3.cell? ⟨N,0,none⟩=some (.slice (some ⟨b,off,none⟩) n cp):=HKT3.out.cell 0;clear hb3 hga hall hU HKT2 HKR2;go_wp2_with fail;clear c0;refine(HTL.out _ HB3.out).mono ?_;rintro e w4 ⟨c6,rfl,hlc,hb4⟩;have HB4:=Hd (HB3.out.trans (hb4.mono HB3.out.size));have HB34:=Hd hb4;have HKT4:=Hd (HKT3.out.below hb4 HKT3.out.lt);have HKR4:=Hd (HKR3.out.below hb4 HKR3.out.lt);obtain⟨y1,z1,y2,z2,y3,z3,y4,z4,y5,z5,rfl,-⟩:=hlc;have k1:(w4.alloc (.cells #[.slice y1 (nd t (2*m)).leaf.box.length z1,.slice y2 (nd t (2*m)).leaf.sign.length z2,.slice y3 (nd t (2*m)).leaf.ident.length z3,.int .u8 ((nd t (2*m)).leaf.source:Nat),.slice y4 (nd t (2*m)).leaf.par.length z4,.slice y5 (nd t (2*m)).leaf.sig.length z5] 44)).cell? ⟨N,0,none⟩=some (.slice (some ⟨b,off,none⟩) n cp):=(HKT4.out.alloc _).cell 0;have MM1:∀w,(Instr.makeMap 98 none).run Tryz.prog w=.ok (.map (some w.heap.size)) (w.alloc (.map #[] 0)):=fun w=>rfl;have MM2:∀w,(Instr.makeMap 99 none).run Tryz.prog w=.ok (.map (some w.heap.size)) (w.alloc (.map #[] 0)):=fun w=>rfl;clear hb4;go_wp2_with fail;obtain⟨h0,hh0⟩:=eX w4.heap.size;have hst:=Zdb w4 #[.slice y1 (nd t (2*m)).leaf.box.length z1,.slice y2 (nd t (2*m)).leaf.sign.length z2,.slice y3 (nd t (2*m)).leaf.ident.length z3,.int .u8 ((nd t (2*m)).leaf.source:Nat),.slice y4 (nd t (2*m)).leaf.par.length z4,.slice y5 (nd t (2*m)).leaf.sig.length z5] M m h0 hh0;rw[←hh0];generalize hw7:((((w4.alloc (.cells #[.slice y1 (nd t (2*m)).leaf.box.length z1,.slice y2 (nd t (2*m)).leaf.sign.length z2,.slice y3 (nd t (2*m)).leaf.ident.length z3,.int .u8 ((nd t (2*m)).leaf.source:Nat),.slice y4 (nd t (2*m)).leaf.par.length z4,.slice y5 (nd t (2*m)).leaf.sig.length z5] 44)).alloc (.map #[] 0)).alloc (.map #[] 0)).alloc (.cells #[.int .i64 (M:Nat),.int .i64 (m:Nat),.map (some (h0+1)),.map (some (h0+1+1))] 101))=w7 at hst⊢;obtain⟨m1,m2,m3,m4,m5⟩:=hst;have HH:=Hd hh0;have HB7:=Hd (HB4.out.trans (m4.mono (by rw[hh0];exact HB4.out.size)));have HKT7:=Hd (HKT4.out.below m4 (by rw[hh0];exact HKT4.out.lt));have HKR7:=Hd (HKR4.out.below m4 (by rw[hh0];exact HKR4.out.lt));have HB47:=Hd m4;have HM17:=Hd m1;have HM27:=Hd m2;have HPV7:=Hd m3;have HSZ7:=Hd m5;obtain⟨pv,hpv⟩:=eX (h0+1+1+1);obtain⟨sb,hsb⟩:=eX (h0+1+1);obtain⟨ob,hob⟩:=eX (h0+1);rw[←hpv,←hsb,←hob]at HPV7;rw[←hsb]at HM27;rw[←hob]at HM17;rw[←hpv,←hsb,←hob];have HI:=Hd (And.intro hpv (And.intro hsb hob));have hN4:N+1<w4.heap.size:=HKR4.out.lt;have HN4:=Hd (show N+1<h0 from by rw[hh0];exact hN4);clear hw7 m1 m2 m3 m4 m5 k1 MM1 MM2 hh0 hpv hsb hob hN4;refine(HOP.out N w7 HB7.out (HKT7.out.cell 0)).mono ?_;rintro e w8 ⟨vo,vs,rfl,hvo,hvs,hb8⟩;obtain⟨a1,c1,rfl,-⟩:=Re hvo.rd;obtain⟨a2,c2,rfl,-⟩:=Re hvs.rd;have HVO8:=Hd hvo;have HVS8:=Hd hvs;have HM18:=Hd (HM17.out.below hb8 lR);have HM28:=Hd (HM27.out.below hb8 lR);have HPV8:=Hd (HPV7.out.below hb8 HPV7.out.lt);have HKT8:=Hd (HKT7.out.below hb8 HKT7.out.lt);have HKR8:=Hd (HKR7.out.below hb8 HKR7.out.lt);have HB8:=Hd (HB7.out.trans (hb8.mono HB7.out.size));have HB38:=Hd (show Below w3.heap.size w3 w8 from by
  have h1:=HB34.out.trans (HB47.out.mono (by rw[HH.out];exact HB34.out.size));exact h1.trans (hb8.mono h1.size))
 have HSZ8:=Hd hb8.size;have H3:=Hd (show w3.heap.size≤h0 from by rw[HH.out];exact HB34.out.size);have HW3:=Hd (show w.heap.size≤h0 from dG HB3.out.size H3.out);obtain⟨no,hno⟩:=eX OL.length;obtain⟨ns,hns⟩:=eX SL.length;rw[←hno]at HVO8 HO hnO HK1⊢;rw[←hns]at HVS8 HS hnS⊢;have HNO:=Hd hno;have HNS:=Hd hns;clear hvo hvs hb8 hno hns HPV7 HKT7 HKR7 HM17 HM27 HB7;go_wp2_with fail;obtain⟨val,hval⟩:∃val:Nat→Value,val=fun x=> .agg (C x):=⟨_,rfl⟩;have HVAL:=Hd (show∀x,val x=.agg (C x)from fun x=>by rw[hval]);rw[←hval]at HK1;clear hval
 go_loopg [58] no (fun gk iv wr=>∃(r:Nat),r+gk=no∧iv=.int .i64 (r:Nat)∧MapF wr ob r (GF OL val r)∧Only ob w8 wr)
 case atStart=>exact⟨0,by omega,rfl,by rw[Zc8];exact HM18.out,Only.refl _ _⟩
 case round=>
  obtain⟨r,hr,rfl,hmf,hon⟩:=hrel;have HR:=Hd hr;have HM:=Hd hmf;have HON:=Hd hon;clear hr hmf hon;obtain⟨e1,e2,e3⟩:=HI.out;have h8:=HSZ8.out;rw[HSZ7.out]at h8;have hn4:=HN4.out;have HPV:=Hd (HPV8.out.grownR HON.out (by omega));have HKT:=Hd (HKT8.out.grownR HON.out (by omega));have HVO:=Hd (HVO8.out.grown HON.out (fun g hg e=>by have:=(HVO8.out.blockLt hg).2;rw[HSZ7.out]at this;cases e;omega));have HBR:=Hd (Only.below HON.out (dP ob) (by omega));have HBL:=Hd (show b<wr.heap.size from dH hbl (dG HB8.out.size HBR.out.size));have HBO:=Hd (show b<ob from by have:=HW3.out;omega);clear e1 e2 e3 h8 hn4
  by_cases hlt:r<no
  ·have hlt':decide (r<no)=true:=decide_eq_true hlt;have hltI:(r:Int)<(no:Int):=(by omega);obtain⟨b1,o1,rfl,hb1l,cx⟩:=Rf HVO.out.rd (show r<OL.length from by rw[←HNO.out];exact hlt);have hx:=HO.out r hlt;have HGS:=Hd (Zc9 (val:=val) (show r<OL.length from by rw[←HNO.out];exact hlt));obtain⟨x,hxx⟩:=eX (OL.getD r 0);rw[←hxx]at cx hx HGS;have hxI:(x:Int)<(n:Int):=(by omega);obtain⟨hnc,hra⟩:=HC.out x hx;obtain⟨x0,x1,x2,x3,x4,x5,x6,x7,x8,x9,hcr⟩:=HTEN.out x;rw[HVAL.out,hcr]at HGS;rw[hcr]at hra;have HRA:=Hd (An (An hra HB8.out hbl) HBR.out HBO.out);have HXI:=Hd (show inI (x:Int)from by unfold inI;omega);have HNB:=Hd (show r≤100000 from by omega);clear hxx hnc hra hcr hb1l;go_wp2_with fail;refine Ay [eF (.pointer (some ⟨pv,2,none⟩)),eF (.map (some ob)),eF (.int .i64 (x:Nat)),eF (.slice (some ⟨b,off,none⟩) n cp),eF (.int .i64 (x:Nat)),eF (.pointer (some ⟨b,off+x*10,none⟩)),eF (.agg #[x0,x1,x2,x3,x4,x5,x6,x7,x8,x9]),fun v w'=>MapF w' ob (r+1) (fun y=>if y=((x:Nat):Int)then some (.agg #[x0,x1,x2,x3,x4,x5,x6,x7,x8,x9])else GF OL val r y)∧Only ob wr w']
    ((cS 8 false).set 7 true) (fun x=>Below wr.heap.size wr x) (fun x y=>Below x.heap.size x y) none 7 (by kernel_rfl) ?_ (⟨rfl,rfl,rfl,lR,fun _ _=>rfl⟩) (fun x y _ h=>h) (fun x y hx hs=>hx.trans (hs.mono hx.size)) (by kernel_rfl) (by kernel_rfl) (by kernel_rfl) ?_ ?_
   ·exact kE (kE (kE (kE (kE (kE (kE (Ad (fun _ _ _ _ _ _=>trivial) (Aj))))))))
   ·refine Nz (by kernel_rfl) ?_ rfl (Nz (by kernel_rfl) ?_ rfl (Nz (by kernel_rfl) ?_ rfl (Nz (by kernel_rfl) ?_ rfl (Nz (by kernel_rfl) ?_ rfl (Nz (by kernel_rfl) ?_ rfl (Oc (by kernel_rfl) ?_ (Oc (by kernel_rfl) ?_ .nil)))))));all_goals
     intro a wx hbx hbq ho hf;have hbx:Below wr.heap.size wr wx:=hbx;refine⟨rfl,?_⟩;intro K hK;try have Pf3:a.tmps[3]?.getD undef=.pointer (some ⟨N,0,none⟩):=ho 3 (by kernel_rfl)
     try have Pf12:a.tmps[12]?.getD undef=.pointer (some ⟨pv,0,none⟩):=ho 12 (by kernel_rfl)
     try have Pf17:a.tmps[17]?.getD undef=.int .i64 (x:Nat):=ho 17 (by kernel_rfl)
     try have Ef0:=eqn hf.1
     try have Ef1:=eqn hf.2.1
     try have Ef2:=eqn hf.2.2.1
     try(have Ce0:=(hbx.cell (p:=⟨pv,2,none⟩) HPV.out.lt).trans (HPV.out.cell 2);simp only[bK,bL,bM]at Ce0)
     try(have Ce1:=(hbx.cell (p:=⟨N,0,none⟩) HKT.out.lt).trans (HKT.out.cell 0);simp only[bK,bL]at Ce1)
     try have Ce2:=HM.out.below hbx lR
     try(refine Hd ?_;go_simp;exact hK _ rfl)
    ·exact wp_load_mid 52 (.tmp 67) rfl b (off+x*10) (evs Ef0) _ _ (An HRA.out hbx HBL.out) Tryz.underlying52 rfl (Be) (hK _ _ rfl (fun _=>Ab rfl bR))
    ·obtain⟨w',hrun,hmf,hgr⟩:=Ce2.run_put Tryz.underlying98 HXI.out (by have:=HNB.out;unfold maxLen;omega) (.agg #[x0,x1,x2,x3,x4,x5,x6,x7,x8,x9]);have hon:=(Only.of (B:=ob) hbx).trans hgr;go_simp;exact hK undef _ ⟨hmf,hon⟩ (fun h=>absurd rfl h)
   ·rintro f w9 hfin;have S63:MapF w9 ob (r+1) (fun y=>if y=((x:Nat):Int)then some (.agg #[x0,x1,x2,x3,x4,x5,x6,x7,x8,x9])else GF OL val r y)∧Only ob wr w9:=hfin.2.2.2.2.2.2.2.1;clear hfin;simp only[Aw,Bl,Ga,cH,cI,cJ,cK,Nat.reduceBEq,Nat.reduceAdd,cL,cM,cond_true,cond_false];obtain⟨hmf,hon⟩:=S63;rw[HGS.out]at hmf;have HM2:=Hd hmf;have HON2:=Hd (HON.out.trans hon);clear hmf hon;go_wp2_with fail;go_roundg (gk-1);case measure=>have:=HR.out;omega
    case rel=>exact⟨r+1,by have:=HR.out;omega,by go_num,HM2.out,HON2.out⟩
  ·obtain rfl:no=r:=(by have:=HR.out;omega);have hlt':decide (no<no)=false:=decide_eq_false hlt;clear hlt;go_wp2_with fail;obtain⟨w5,hw5⟩:=eX wr;rw[←hw5]at HM HON HBR⊢;clear HPV HKT HVO HBL HBO;obtain⟨e1,e2,e3⟩:=HI.out;have h8:=HSZ8.out;rw[HSZ7.out]at h8;have hn4:=HN4.out;have h3:=H3.out;have hw3:=HW3.out;have HM5:=Hd HM.out;have HM25:=Hd (HM28.out.grown HON.out (fun e=>by cases e;omega));have HPV5:=Hd (HPV8.out.grownR HON.out (by omega));have HKR5:=Hd (HKR8.out.grownR HON.out (by omega));have HVS5:=Hd (HVS8.out.grown HON.out (fun g hg e=>by have:=(HVS8.out.blockLt hg).2;rw[HSZ7.out]at this;cases e;omega));have HB35:=Hd (HB38.out.trans (HBR.out.mono (by omega)));have HBW5:=Hd (HB8.out.trans (HBR.out.mono (by omega)));have HS5:=Hd (show pv+1≤w5.heap.size from by have:=HBR.out.size;omega);clear hw5 e1 e2 e3 h8 hn4 h3 hw3 HM HON HBR HR HM18 HM28 HPV8 HKT8 HKR8 HVO8;go_wp2_with fail
   go_loopg [72] ns (fun gk iv wr=>∃(r:Nat),r+gk=ns∧iv=.int .i64 (r:Nat)∧MapF wr sb r (GF SL U r)∧Only sb w5 wr)
   case atStart=>exact⟨0,by omega,rfl,by rw[Zc8];exact HM25.out,Only.refl _ _⟩
   case round=>
    obtain⟨r,hr,rfl,hmf,hon⟩:=hrel;have HR:=Hd hr;have HM:=Hd hmf;have HON:=Hd hon;clear hr hmf hon;obtain⟨e1,e2,e3⟩:=HI.out;have h5:=HS5.out;have hn4:=HN4.out;have h3:=H3.out;have hw3:=HW3.out;have h7:w7.heap.size=pv+1:=(by rw[HSZ7.out];omega);have HPV:=Hd (HPV5.out.grownR HON.out (by omega));have HKR:=Hd (HKR5.out.grownR HON.out (by omega));have HVS:=Hd (HVS5.out.grown HON.out (fun g hg e=>by have:=(HVS5.out.blockLt hg).2;cases e;omega));have HBR:=Hd (Only.below HON.out (dP sb) (by omega));have HB3R:=Hd (HB35.out.trans (HBR.out.mono (by omega)));have HBWR:=Hd (HBW5.out.trans (HBR.out.mono (by omega)));have HNE:=Hd (show ob≠sb∧ob≠N+1∧sb≠N+1 from by omega);clear e1 e2 e3 h5 hn4 h3 hw3 h7
    by_cases hlt:r<ns
    ·have hlt2:decide (r<ns)=true:=decide_eq_true hlt;have hltI:(r:Int)<(ns:Int):=(by omega);obtain⟨b2,o2,rfl,hb2l,cx⟩:=Rf HVS.out.rd (show r<SL.length from by rw[←HNS.out];exact hlt);have hx:=HS.out r hlt;have HGS:=Hd (Zc9 (val:=U) (show r<SL.length from by rw[←HNS.out];exact hlt));obtain⟨x,hxx⟩:=eX (SL.getD r 0);rw[←hxx]at cx hx HGS;have hxI:(x:Int)<(n:Int):=(by omega);have HUX:=Hd ((HB3R.out.cell (p:=⟨ga,x,none⟩) HGA.out).trans (HU.out x hx).1);have HGL:=Hd (show ga<wr.heap.size from dH HGA.out HB3R.out.size);have HXI:=Hd (show inI (x:Int)from by unfold inI;omega);have HNB:=Hd (show r≤100000 from by omega);clear hxx hb2l;go_wp2_with fail;refine Ay [eF (.pointer (some ⟨pv,3,none⟩)),eF (.map (some sb)),eF (.int .i64 (x:Nat)),eF (.slice (some ⟨ga,0,none⟩) n n),eF (.int .i64 (x:Nat)),eF (.pointer (some ⟨ga,x,none⟩)),eF (U x),fun v w'=>MapF w' sb (r+1) (fun y=>if y=((x:Nat):Int)then some (U x)else GF SL U r y)∧Only sb wr w']
      ((cS 8 false).set 7 true) (fun x=>Below wr.heap.size wr x) (fun x y=>Below x.heap.size x y) none 7 (by kernel_rfl) ?_ (⟨rfl,rfl,rfl,lR,fun _ _=>rfl⟩) (fun x y _ h=>h) (fun x y hx hs=>hx.trans (hs.mono hx.size)) (by kernel_rfl) (by kernel_rfl) (by kernel_rfl) ?_ ?_
     ·exact kE (kE (kE (kE (kE (kE (kE (Ad (fun _ _ _ _ _ _=>trivial) (Aj))))))))
     ·refine Nz (by kernel_rfl) ?_ rfl (Nz (by kernel_rfl) ?_ rfl (Nz (by kernel_rfl) ?_ rfl (Nz (by kernel_rfl) ?_ rfl (Nz (by kernel_rfl) ?_ rfl (Nz (by kernel_rfl) ?_ rfl (Nz (by kernel_rfl) ?_ rfl (Oc (by kernel_rfl) ?_ .nil)))))));all_goals
       intro a wx hbx hbq ho hf;have hbx:Below wr.heap.size wr wx:=hbx;refine⟨rfl,?_⟩;intro K hK;try have Pf8:a.tmps[8]?.getD undef=.slice (some ⟨ga,0,none⟩) n n:=ho 8 (by kernel_rfl)
       try have Pf12:a.tmps[12]?.getD undef=.pointer (some ⟨pv,0,none⟩):=ho 12 (by kernel_rfl)
       try have Pf19:a.tmps[19]?.getD undef=.int .i64 (x:Nat):=ho 19 (by kernel_rfl)
       try have Ef0:=eqn hf.1
       try have Ef1:=eqn hf.2.1
       try have Ef2:=eqn hf.2.2.1
       try(have Ce0:=(hbx.cell (p:=⟨pv,3,none⟩) HPV.out.lt).trans (HPV.out.cell 3);simp only[bK,bL,bM]at Ce0)
       try have Ce1:=(hbx.cell (p:=⟨ga,x,none⟩) HGL.out).trans HUX.out
       try have Ce2:=HM.out.below hbx lR
       try(refine Hd ?_;go_simp;exact hK _ rfl)
      ·obtain⟨w',hrun,hmf,hgr⟩:=Ce2.run_put Tryz.underlying99 HXI.out (by have:=HNB.out;unfold maxLen;omega) (U x);have hon:=(Only.of (B:=sb) hbx).trans hgr;go_simp;exact hK undef _ ⟨hmf,hon⟩ (fun h=>absurd rfl h)
     ·rintro f w9 hfin;have S77:MapF w9 sb (r+1) (fun y=>if y=((x:Nat):Int)then some (U x)else GF SL U r y)∧Only sb wr w9:=hfin.2.2.2.2.2.2.2.1;clear hfin;simp only[Aw,Bl,Ga,cH,cI,cJ,cK,Nat.reduceBEq,Nat.reduceAdd,cL,cM,cond_true,cond_false];obtain⟨hmf,hon⟩:=S77;rw[HGS.out]at hmf;have HM2:=Hd hmf;have HON2:=Hd (HON.out.trans hon);clear hmf hon;go_wp2_with fail;go_roundg (gk-1);case measure=>have:=HR.out;omega
      case rel=>exact⟨r+1,by have:=HR.out;omega,by go_num,HM2.out,HON2.out⟩
    ·obtain rfl:ns=r:=(by have:=HR.out;omega);have hlt2:decide (ns<ns)=false:=decide_eq_false hlt;clear hlt;go_wp2_with (first|(refine wpList_load_row rfl 101 (.tmp 12) rfl pv rfl 101 _ (0,0) _ HPV.out Tryz.underlying101 rfl (by kernel_rfl) ?_)|(refine Aa rfl 101 (.tmp 6) (.tmp 84) rfl (N+1) #[.int .i64 (M:Nat),.int .i64 (m:Nat),.map (some ob),.map (some sb)] rfl rfl 101 _ HKR.out (by kernel_rfl) rfl rfl ?_));rintro w9 hbk9 hbw hot hsz;have hon:Only (N+1) wr w9:=Only.storeQ hbw hot;obtain⟨n1,n2,n3⟩:=HNE.out;have hb9:Below w.heap.size w w9:=HBWR.out.trans (hbw _ (by rw[←HN.out];exact fN N));have HFIN:=Hd (show MapF w9 ob no (GF OL val no)∧MapF w9 sb ns (GF SL U ns)∧∀x∈SL,∃u,GF SL U ns ((x:Nat):Int)=some u∧Rd w9 u (bvs (Np (nd t) x))from by
      refine⟨(HM5.out.grown HON.out (fun e=>by cases e;omega)).grown hon (fun e=>by cases e;omega),HM.out.grown hon (fun e=>by cases e;omega),fun x hx=>⟨U x,by rw[HNS.out];exact Zj1 hx,?_⟩⟩;refine Zgf ((HU.out x (HSA.out x hx)).2.below HB3R.out lR) HKR.out (fun z hz k e=> ?_) hon;simp at hz;rcases hz with rfl|rfl<;>cases e)
     have HBK9:=Hd hbk9;have HB9:=Hd hb9;have HKS:=Hd (show Db (GF SL U ns) (SL.map fun m:Nat=>(m:Int))from by rw[HNS.out];exact Zda HK2.out);clear hbk9 hbw hot hsz hon hb9 n1 n2 n3;go_wp2_with fail;refine bodyPost_ret (v:=.tuple #[.agg #[.int .i64 (M:Nat),.int .i64 (m:Nat),.map (some ob),.map (some sb)],.int .u8 0]) (Af Tryz.results74 _ _ (N+1) _ _ _ rfl HBK9.out Tryz.underlying101 rfl (by kernel_rfl)) rfl ?_;refine⟨ob,sb,GF OL val no,GF SL U ns,rfl,by rw[←HNO.out];exact HFIN.out.1,HK1.out,fun x hx=>⟨C x,?_,((HC.out x (HOA.out x hx)).1.below HB9.out lR)⟩,by rw[←HNS.out];exact HFIN.out.2.1,HKS.out,HFIN.out.2.2,HB9.out⟩;rw[HNO.out,←HVAL.out];exact Zj1 hx
theorem Zdc {α:Type} {U:Nat→α} {g:Nat→α→List Value}(r:Nat)(u: α):((aF (r+1)).flatMap fun k=>g k (if k<r then U k else u))=((aF r).flatMap fun k=>g k (U k))++g r u:=by
 rw[Nm,if_neg (Nat.lt_irrefl r)]
 congr 1
 rw[fP,fP]
 congr 1
 exact fY fun k hk=>by rw[if_pos (List.mem_range.1 hk)]
theorem Pl (lv ow:Int) (ob sb n1 n2:Nat) (G G2:Int→Option Value) (KO SO:List Nat) (D:Nat→NodeD) (H:Nat→List Nat) (w:World) (hm:MapF w ob n1 G) (hm2:MapF w sb n2 G2) (hn1:n1≤100000) (hn2:n2≤100000)
  (hk1:Db G (KO.map fun m:Nat=>(m:Int))) (hk2:Db G2 (SO.map fun m:Nat=>(m:Int))) (hD:∀m∈KO,inI (m:Int)∧Cb (D m)=true∧∃c,G m=some (.agg c)∧NodeC w (D m) c)
  (hH:∀m∈SO,inI (m:Int)∧(H m).length≤1000000∧∃u,G2 m=some u∧Rd w u (bvs (H m))) (hl1:KO.length≤100000) (hl2:SO.length≤100000):
  Calls Tryz.prog 67 #[.agg #[.int .i64 lv,.int .i64 ow,.map (some ob),.map (some sb)]] w fun e w'=>∃v',e=.returned v'∧SparseR w' v' ⟨lv,ow,KO.map fun m:Nat=>((m:Int),D m),SO.map fun m:Nat=>((m:Int),H m)⟩∧Below w.heap.size w w'∧∀(g:Nat) (W:World),g<w.heap.size→Only g w' W→SparseR W v' ⟨lv,ow,KO.map fun m:Nat=>((m:Int),D m),SO.map fun m:Nat=>((m:Int),H m)⟩:=by
 have hgm:∀ {L:List Nat} {k:Nat},k<L.length→L.getD k 0∈L:=fun {L k} hk=>(by rw[aH,aI hk];exact aJ hk);obtain⟨N,hN⟩:=eX w.heap.size;obtain⟨q,hq⟩:=eX (w.heap.size+2);have HN:=Hd hN;have HQ:=Hd hq;have HOB:=Hd (show ob<w.heap.size from hm.lt);have HSB:=Hd (show sb<w.heap.size from hm2.lt);have HMW:=Hd hm;have HM2W:=Hd hm2;have HK1:=Hd hk1;have HK2:=Hd hk2;have HD:=Hd hD;have HH:=Hd hH;have HGD:=Hd (show∀(L:List Nat) (k:Nat),k<L.length→L.getD k 0∈L from fun L k hk=>hgm hk);clear hm hm2 hk1 hk2 hD hH hgm;go_enter Tryz.func67,Tryz.ntmps67;go_wp2_with fail;obtain⟨w2,hw2⟩:=eX ((((w.alloc (.cells #[.int .i64 lv,.int .i64 ow,.map (some ob),.map (some sb)] 101)).alloc (.cells #[.int .i64 0,.int .i64 0,.slice none 0 0,.slice none 0 0] 25)).alloc (.cells #[.int .i64 lv,.int .i64 ow,.slice none 0 0,.slice none 0 0] 25)));have hq2:q=w.heap.size+1+1:=hq;have HPB2:=Hd (show Blk w2 N 101 #[.int .i64 lv,.int .i64 ow,.map (some ob),.map (some sb)]from by rw[hw2,hN];exact((Blk.new w 101 #[.int .i64 lv,.int .i64 ow,.map (some ob),.map (some sb)]).alloc _).alloc _);have HRB2:=Hd (show Blk w2 (N+1) 25 #[.int .i64 0,.int .i64 0,.slice none 0 0,.slice none 0 0]from by
  rw[hw2,hN];have:=(Blk.new (w.alloc (.cells #[.int .i64 lv,.int .i64 ow,.map (some ob),.map (some sb)] 101)) 25 #[.int .i64 0,.int .i64 0,.slice none 0 0,.slice none 0 0]).alloc (.cells #[.int .i64 lv,.int .i64 ow,.slice none 0 0,.slice none 0 0] 25);simpa using this)
 have HBK2:=Hd (show Blk w2 q 25 #[.int .i64 lv,.int .i64 ow,.slice none 0 0,.slice none 0 0]from by
  rw[hw2,hq];have:=Blk.new ((w.alloc (.cells #[.int .i64 lv,.int .i64 ow,.map (some ob),.map (some sb)] 101)).alloc (.cells #[.int .i64 0,.int .i64 0,.slice none 0 0,.slice none 0 0] 25)) 25 #[.int .i64 lv,.int .i64 ow,.slice none 0 0,.slice none 0 0];simpa using this)
 have HSZ2:=Hd (show w2.heap.size=q+1 from by rw[hw2,hq];simp);have HB2:=Hd (show Below w.heap.size w w2 from by
  rw[hw2];exact((bR.alloc lR _).alloc (by simp) _).alloc (by simp;omega) _)
 rw[←hw2,←hq2,←hN];clear hw2 hq2 hq hN;have HMA:=Hd (HMW.out.below HB2.out lR);have HM2A:=Hd (HM2W.out.below HB2.out lR);have HNQ2:=Hd (show N+1<q from by rw[HQ.out,HN.out];omega);refine(Su (some ob) w2).mono ?_;rintro e w3 ⟨rfl,rfl⟩;have HSO:=Hd (Nc ob n1 w2.heap.size G _ (w2.alloc (.cells #[.map (some ob)] 98)) (HMA.out.alloc _) HK1.out (by omega) (by rw[(Blk.new w2 _ _).cell];rfl) (by simp));go_wp2_with fail;refine HSO.out.mono ?_;rintro e w4 ⟨VK,rfl,hvk,hb4⟩;obtain⟨a1,c1,rfl,-⟩:=Re hvk.rd;have HB4:=Hd (show Below (q+1) w2 w4 from by
  have h1:=(Below.refl (q+1) w2).alloc (by rw[HSZ2.out];exact lR) (.cells #[.map (some ob)] 98);exact h1.trans (hb4.mono (by simp[HSZ2.out])))
 have HVK4:=Hd (hvk.mono (show q+1≤_ from by simp[HSZ2.out]));clear hvk hb4 HSO;obtain⟨no,hno⟩:=eX KO.length;obtain⟨ns,hns⟩:=eX SO.length;rw[←hno]at hl1 HVK4⊢;rw[←hns]at hl2;have HNO:=Hd hno;have HNS:=Hd hns;have HBK4:=Hd (HBK2.out.below HB4.out (fL q));clear hno hns;go_wp2_with fail
 go_loopg [18] no (fun gk iv wr=>∃(r:Nat) (V:Value) (CF:Nat→Array Value),r+gk=no∧iv=.int .i64 (r:Nat)∧Blk wr q 25 #[.int .i64 lv,.int .i64 ow,V,.slice none 0 0]∧OwnK wr (q+1) 87 11 V r ((aF r).flatMap fun j=> .int .i64 ((KO.getD j 0:Nat):Int)::(CF j).toList)∧(∀j,j<r→NodeO wr (q+1) (D (KO.getD j 0)) (CF j))∧Own wr (q+1) 3 (.slice a1 no c1) (ivs .i64 (KO.map fun m:Nat=>(m:Int)))∧Below q w2 wr)
 case atStart=>exact⟨0,_,fun _=>#[],by omega,rfl,HBK4.out,OwnK.nil _ _ _ _,fun j hj=>absurd hj (fZ j),HVK4.out,HB4.out.mono (fN q)⟩
 case round=>
  obtain⟨r,V,CF,hr,rfl,hblk,hown,hcf,hvk,hb⟩:=hrel;have HR:=Hd hr;have HBK:=Hd hblk;have HOK:=Hd hown;have HCF:=Hd hcf;have HVK:=Hd hvk;have HB:=Hd hb;clear hr hblk hown hcf hvk hb HBK4;have HPB:=Hd (HPB2.out.below HB.out (by have:=HNQ2.out;omega));have HRB:=Hd (HRB2.out.below HB.out HNQ2.out);have HBW:=Hd (HB2.out.trans (HB.out.mono (show w.heap.size≤q from by have:=HNQ2.out;have:=HN.out;omega)));have HNQ:=Hd (show N<q+1 from by have:=HNQ2.out;omega);have HWQ:=Hd (show w.heap.size≤q+1 from by have:=HNQ2.out;have:=HN.out;omega);have HOBQ:=Hd (show ob<q+1 from by have:=HOB.out;have:=HWQ.out;omega);have HSBQ:=Hd (show sb<q+1 from by have:=HSB.out;have:=HWQ.out;omega)
  by_cases hlt:r<no
  ·have hlt':decide (r<no)=true:=decide_eq_true hlt;have hltI:(r:Int)<(no:Int):=(by omega);obtain⟨b1,o1,rfl,hb1l,cx⟩:=Rf HVK.out.rd (show r<KO.length from by rw[←HNO.out];exact hlt);obtain⟨hmi,hsm,c,hgc,hnc⟩:=HD.out _ (HGD.out KO r (by rw[←HNO.out];exact hlt));obtain⟨m,hmm⟩:=eX (KO.getD r 0);rw[←hmm]at cx hmi hsm hgc hnc;have HMM:=Hd hmm;have HMI:=Hd hmi;have HGM:=Hd hgc;have HM:=Hd (HMW.out.below HBW.out lR);have HCP:=Hd fun(W:World) (hw:Below w.heap.size w W)=>Kv (D m) c W (hnc.below hw lR) hsm;obtain⟨XS,hXS⟩:=eX ((aF r).flatMap fun j=> .int .i64 ((KO.getD j 0:Nat):Int)::(CF j).toList);rw[←hXS]at HOK;have HXS:=Hd hXS;have HVL:=Hd (show∀g,V.ownBlock=some g→g<wr.heap.size from fun g hg=>(HOK.out.lt hg).1);have HNB:=Hd (show r≤100000 from by omega);clear hmm hmi hsm hgc hnc hXS hb1l;go_wp2_with fail;refine Ay [eF (.pointer (some ⟨q,2,none⟩)),eF V,eF (.int .i64 (m:Nat)),eF (.pointer (some ⟨N,2,none⟩)),eF (.map (some ob)),eF (.int .i64 (m:Nat)),eF (.agg c),fun v w'=>∃c2,v=.agg c2∧NodeO w' wr.heap.size (D m) c2,fun v w'=>∃x0 x1 x2 x3 x4 x5 x6 x7 x8 x9,v=.agg #[.int .i64 (m:Nat),x0,x1,x2,x3,x4,x5,x6,x7,x8,x9]∧NodeO w' wr.heap.size (D m) #[x0,x1,x2,x3,x4,x5,x6,x7,x8,x9],fun v w'=>∃g x0 x1 x2 x3 x4 x5 x6 x7 x8 x9,v=.slice (some ⟨g,0,none⟩) 1 1∧wr.heap.size≤g∧Blk w' g 87 #[.int .i64 (m:Nat),x0,x1,x2,x3,x4,x5,x6,x7,x8,x9]∧NodeO w' wr.heap.size (D m) #[x0,x1,x2,x3,x4,x5,x6,x7,x8,x9],fun v w'=>∃c2,OwnK w' (q+1) 87 11 v (r+1) (XS++(.int .i64 (m:Nat)::c2.toList))∧NodeO w' (q+1) (D m) c2,eF (.pointer (some ⟨q,2,none⟩)),fun v w'=>∃V2 c2,Blk w' q 25 #[.int .i64 lv,.int .i64 ow,V2,.slice none 0 0]∧OwnK w' (q+1) 87 11 V2 (r+1) (XS++(.int .i64 (m:Nat)::c2.toList))∧NodeO w' (q+1) (D m) c2∧CutS wr V q w']
    ((cS 13 false).set 12 true) (fun X=>ButO wr V (q+1) X) (fun X Y=>StepO V (q+1) X Y) (some 10) 12 (by kernel_rfl) ?_ (ButO.start wr V (q+1)) (fun X Y hx h=>StepO.of h (dG (gA HBK.out.lt) hx.low.size)) (fun X Y hx hs=>hx.step hs) (by kernel_rfl) (by kernel_rfl) (by kernel_rfl) ?_ ?_
   ·exact kE (kE (kE (kE (kE (kE (kE (Au (fun v x y h hi hs=>let⟨u,e,k⟩:=h;⟨u,e,NodeO.stepQ hs k HVL.out⟩) (Au (fun v x y h hi hs=>let⟨x0,x1,x2,x3,x4,x5,x6,x7,x8,x9,e,k⟩:=h;⟨x0,x1,x2,x3,x4,x5,x6,x7,x8,x9,e,NodeO.stepQ hs k HVL.out⟩) (Au (fun v x y h hi hs=>let⟨g,x0,x1,x2,x3,x4,x5,x6,x7,x8,x9,e,hg,k,k2⟩:=h;⟨g,x0,x1,x2,x3,x4,x5,x6,x7,x8,x9,e,hg,(hs.2 g k.lt (fun ee=>absurd (HVL.out g ee) (by omega))).trans k,NodeO.stepQ hs k2 HVL.out⟩) (Cs (fun v x y h hi hs=>let⟨u,k,k2⟩:=h;⟨u,OwnK.below k hs lR,NodeO.below k2 hs lR⟩) (kE (Ad (fun _ _ _ _ _ _=>trivial) (Aj)))))))))))))
   ·refine gP8 ?_ rfl (Nz (by kernel_rfl) ?_ rfl (gP8 ?_ rfl (gP8 ?_ rfl (gP8 ?_ rfl (gP8 ?_ rfl (gO8 ?_ (Oc (by kernel_rfl) ?_ (gO8 ?_ (Oc (by kernel_rfl) ?_ (Oc (by kernel_rfl) ?_ (gP8 ?_ rfl (gO8 ?_ .nil))))))))))));all_goals
     intro a wx hbx hbq ho hf;have hbx:ButO wr V (q+1) wx:=hbx;refine⟨rfl,?_⟩;intro K hK;try have Pf1:a.tmps[1]?.getD undef=.pointer (some ⟨N,0,none⟩):=ho 1 (by kernel_rfl)
     try have Pf3:a.tmps[3]?.getD undef=.pointer (some ⟨q,0,none⟩):=ho 3 (by kernel_rfl)
     try have Pf5:a.tmps[5]?.getD undef=.int .i64 (m:Nat):=ho 5 (by kernel_rfl)
     try have Ef0:=eqn hf.1
     try have Ef1:=eqn hf.2.1
     try(have Ce0:=(hbx.low.cell (p:=⟨q,2,none⟩) (fL q)).trans (HBK.out.cell 2);simp only[bK,bL,bM]at Ce0)
     try(have Ce1:=(hbx.low.cell (p:=⟨N,2,none⟩) HNQ.out).trans (HPB.out.cell 2);simp only[bK,bL,bM]at Ce1)
     try have Ce2:=MapF.run_get (T:=98) (HM.out.belowB hbx.low HOBQ.out) Tryz.underlying98 (Nl wx) HMI.out
     try(refine Hd ?_;go_simp;exact hK _ rfl)
    ·rw[HGM.out]at Ce2;simp only[Option.getD_some]at Ce2;go_simp;exact hK _ _ rfl (fun _=>Ab rfl bR)
    ·go_simp;refine(HCP.out wx (HBW.out.trans (hbx.low.mono HWQ.out))).mono ?_;rintro e w2 ⟨c9,rfl,ho9,hg9⟩;exact hK _ _ ⟨_,rfl,ho9.mono hbx.low.size⟩ (fun _=>Ab rfl hg9)
    ·have o1:∃c2,(a.tmps[29]?.getD undef)=.agg c2∧NodeO wx wr.heap.size (D m) c2:=hf.2.1;obtain⟨v1,hv1⟩:=eX (a.tmps[29]?.getD undef);rw[←hv1]at o1;have e1:=hv1.symm;clear hv1;obtain⟨c2,rfl,ho⟩:=o1;obtain⟨x0,x1,x2,x3,x4,x5,x6,x7,x8,x9,rfl⟩:=ho.c.ten;go_simp;exact hK _ _ ⟨x0,x1,x2,x3,x4,x5,x6,x7,x8,x9,rfl,ho⟩ (fun _=>Ab rfl bR)
    ·have o0:∃x0 x1 x2 x3 x4 x5 x6 x7 x8 x9,(a.tmps[30]?.getD undef)=.agg #[.int .i64 (m:Nat),x0,x1,x2,x3,x4,x5,x6,x7,x8,x9]∧NodeO wx wr.heap.size (D m) #[x0,x1,x2,x3,x4,x5,x6,x7,x8,x9]:=hf.1;obtain⟨v0,hv0⟩:=eX (a.tmps[30]?.getD undef);rw[←hv0]at o0;have e0:=hv0.symm;clear hv0;obtain⟨x0,x1,x2,x3,x4,x5,x6,x7,x8,x9,rfl,hu⟩:=o0;go_simp;exact hK _ _ ⟨_,x0,x1,x2,x3,x4,x5,x6,x7,x8,x9,rfl,hbx.low.size,Blk.new _ _ _,hu.below (bR.alloc lR _) lR⟩ (fun _=>Ab rfl (bR.alloc lR _))
    ·have o1:∃g x0 x1 x2 x3 x4 x5 x6 x7 x8 x9,(a.tmps[31]?.getD undef)=.slice (some ⟨g,0,none⟩) 1 1∧wr.heap.size≤g∧Blk wx g 87 #[.int .i64 (m:Nat),x0,x1,x2,x3,x4,x5,x6,x7,x8,x9]∧NodeO wx wr.heap.size (D m) #[x0,x1,x2,x3,x4,x5,x6,x7,x8,x9]:=hf.2.1;obtain⟨v1,hv1⟩:=eX (a.tmps[31]?.getD undef);rw[←hv1]at o1;have e1:=hv1.symm;clear hv1;obtain⟨g,x0,x1,x2,x3,x4,x5,x6,x7,x8,x9,hv,hg,hblk,hu⟩:=o1;have hok2:=HOK.out.below hbq lR;have hone:=hu.c.oneL;refine Tl (.tmp 23) (.tmp 31) 22 rfl (q+1) 87 _ 11 216 Zho V r XS (evs Ef0) hok2 g [.int .i64 (m:Nat),x0,x1,x2,x3,x4,x5,x6,x7,x8,x9] (evs (e1.trans hv)) rfl (fun j u2 hu2=>by have:=hblk.range 0 j u2 hu2;simpa using this) (by rw[List.all_eq_true.symm];exact hone) (by have:=HNB.out;omega) (by have:=hbx.low.size;have:=HBK.out.lt;omega) ?_;intro v' w' h2 h3;exact hK _ _ ⟨#[x0,x1,x2,x3,x4,x5,x6,x7,x8,x9],h2,(NodeO.stepQ h3 hu HVL.out).mono (gA HBK.out.lt)⟩ (fun _=>Cc rfl h3)
    ·have o1:∃c2,OwnK wx (q+1) 87 11 (a.tmps[32]?.getD undef) (r+1) (XS++(.int .i64 (m:Nat)::c2.toList))∧NodeO wx (q+1) (D m) c2:=hf.2.1;obtain⟨v1,hv1⟩:=eX (a.tmps[32]?.getD undef);rw[←hv1]at o1;have e1:=hv1.symm;clear hv1;obtain⟨u,o1,hu⟩:=o1;have hblk:=HBK.out.below hbx.low (fL q);have d1:wx.cell? ⟨q,2,none⟩=some V:=hblk.cell 2;have d2:=hblk.frozen 2;obtain⟨ga,gc,rfl⟩:=OwnK.sl o1;have hql:q≤wx.heap.size:=dL hblk.lt;have hs2:=hblk.set 2 (.slice ga (r+1) gc);have ho2:=OwnK.onlyQ o1 (Only.set (a:=wx) (B:=q) 2 (.slice ga (r+1) gc)) (fL q);have hu2:=NodeO.onlyQ hu (Only.set (a:=wx) (B:=q) 2 (.slice ga (r+1) gc)) (fL q);have hc2:=hbx.put hql 2 (.slice ga (r+1) gc);go_simp;exact hK undef _ ⟨_,u,hs2,ho2,hu2,hc2⟩ (fun h=>absurd rfl h)
   ·rintro f w9 hfin;have S33:∃V2 c2,Blk w9 q 25 #[.int .i64 lv,.int .i64 ow,V2,.slice none 0 0]∧OwnK w9 (q+1) 87 11 V2 (r+1) (XS++(.int .i64 (m:Nat)::c2.toList))∧NodeO w9 (q+1) (D m) c2∧CutS wr V q w9:=hfin.2.2.2.2.2.2.2.2.2.2.2.2.1;clear hfin;simp only[Aw,Bl,Ga,cH,cI,cJ,cK,Nat.reduceBEq,Nat.reduceAdd,cL,cM,cond_true,cond_false];obtain⟨V2,c2,hb2,ho2,hu2,hc2⟩:=S33;have HBK2':=Hd hb2;have HOK2:=Hd ho2;have HU2:=Hd hu2;have HC2:=Hd hc2;clear hb2 ho2 hu2 hc2;go_wp2_with fail;go_roundg (gk-1);case measure=>have:=HR.out;omega
    case rel=>
     refine⟨r+1,V2,fun j=>if j<r then CF j else c2,by have:=HR.out;omega,by go_num,HBK2'.out,?_,fun j hj=> ?_,?_,HB.out.trans HC2.out.low⟩
     ·rw[Zdc (g:=fun j (z:Array Value)=> .int .i64 ((KO.getD j 0:Nat):Int)::z.toList),←HXS.out,←HMM.out];exact HOK2.out
     ·by_cases hjr:j<r
      ·show NodeO w9 (q+1) _ (if j<r then CF j else c2);rw[if_pos hjr];exact NodeO.cutQ HC2.out (HCF.out j hjr) (fL q) HOK.out (by decide) (by decide)
      ·obtain rfl:j=r:=(by omega);show NodeO w9 (q+1) _ (if j<j then CF j else c2);rw[if_neg hjr,←HMM.out];exact HU2.out
     ·exact CutS.ownK (k:=1) HC2.out HVK.out (fL q) (OwnK.apartK (k:=1) HVK.out HOK.out (by decide))
  ·obtain rfl:no=r:=(by have:=HR.out;omega);have hlt':decide (no<no)=false:=decide_eq_false hlt;clear hlt;have d3:=HPB.out.cell 3;simp only[bK,bL,bM]at d3;go_wp2_with fail;obtain⟨w5,hw5⟩:=eX wr;rw[←hw5]at HBK HOK HB HBW HCF HPB HRB d3⊢;clear hw5;refine(Sv (some sb) w5).mono ?_;rintro e w6 ⟨rfl,rfl⟩;have HSO2:=Hd (Nd sb n2 w5.heap.size G2 _ (w5.alloc (.cells #[.map (some sb)] 99)) ((HM2W.out.below HBW.out lR).alloc _) HK2.out (by omega) (by rw[(Blk.new w5 _ _).cell];rfl) (by simp));clear d3;go_wp2_with fail;refine HSO2.out.mono ?_;rintro e w7 ⟨VS,rfl,hvs,hb7⟩;obtain⟨a2,c2,rfl,-⟩:=Re hvs.rd;have hql:=HBK.out.lt;have hb57:Below w5.heap.size w5 w7:=(bR.alloc lR (.cells #[.map (some sb)] 99)).trans (hb7.mono (by simp));have HVS7:=Hd (hvs.mono (show q+1≤_ from by simp;omega));have HBK7:=Hd (HBK.out.below hb57 hql);have HOV7:=Hd (HOK.out.below hb57 lR);have HCF7:=Hd (show∀j,j<no→NodeO w7 (q+1) (D (KO.getD j 0)) (CF j)from fun j hj=>(HCF.out j hj).below hb57 lR);have HB7:=Hd (HB.out.trans (hb57.mono (dL hql)));rw[←HNS.out]at HVS7;have hnsE:=HNS.out;rw[←hnsE];clear hvs hb7 hb57 hnsE HSO2 HBK HOK HB HBW HCF HPB HRB HVK hql HR;go_wp2_with fail
   go_loopg [40] ns (fun gk iv wr=>∃(r:Nat) (SV:Value) (U:Nat→Value),r+gk=ns∧iv=.int .i64 (r:Nat)∧Blk wr q 25 #[.int .i64 lv,.int .i64 ow,V,SV]∧OwnK wr (q+1) 89 2 SV r ((aF r).flatMap fun j=>[.int .i64 ((SO.getD j 0:Nat):Int),U j])∧(∀j,j<r→Own wr (q+1) 5 (U j) (bvs (H (SO.getD j 0))))∧OwnK wr (q+1) 87 11 V no ((aF no).flatMap fun j=> .int .i64 ((KO.getD j 0:Nat):Int)::(CF j).toList)∧(∀j,j<no→NodeO wr (q+1) (D (KO.getD j 0)) (CF j))∧Own wr (q+1) 3 (.slice a2 ns c2) (ivs .i64 (SO.map fun m:Nat=>(m:Int)))∧Below q w2 wr)
   case atStart=>exact⟨0,_,fun _=> .slice none 0 0,by omega,rfl,HBK7.out,OwnK.nil _ _ _ _,fun j hj=>absurd hj (fZ j),HOV7.out,HCF7.out,HVS7.out,HB7.out⟩
   case round=>
    obtain⟨r,SV,U,hr,rfl,hblk,hown,hu,hov,hcf,hvk,hb⟩:=hrel;have HR:=Hd hr;have HBK:=Hd hblk;have HOK:=Hd hown;have HU:=Hd hu;have HOV:=Hd hov;have HCF:=Hd hcf;have HVK:=Hd hvk;have HB:=Hd hb;clear hr hblk hown hu hov hcf hvk hb HBK7 HOV7 HCF7 HVS7 HB7;have HPB:=Hd (HPB2.out.below HB.out (by have:=HNQ2.out;omega));have HRB:=Hd (HRB2.out.below HB.out HNQ2.out);have HBW:=Hd (HB2.out.trans (HB.out.mono (show w.heap.size≤q from by have:=HNQ2.out;have:=HN.out;omega)))
    by_cases hlt:r<ns
    ·have hlt2:decide (r<ns)=true:=decide_eq_true hlt;have hltI:(r:Int)<(ns:Int):=(by omega);obtain⟨b2,o2,rfl,hb2l,cx⟩:=Rf HVK.out.rd (show r<SO.length from by rw[←HNS.out];exact hlt);obtain⟨hmi,hsm,UV,hgc,hnc⟩:=HH.out _ (HGD.out SO r (by rw[←HNS.out];exact hlt));obtain⟨m,hmm⟩:=eX (SO.getD r 0);rw[←hmm]at cx hmi hsm hgc hnc;have HMM:=Hd hmm;have HMI:=Hd hmi;have HGM:=Hd hgc;have HM2:=Hd (HM2W.out.below HBW.out lR);have HCP:=Hd fun(W:World) (hw:Below w.heap.size w W)=>Cr UV (H m) W (hnc.below hw lR) (by omega);obtain⟨HX,hHX⟩:=eX (H m);rw[←hHX]at HCP;have HXX:=Hd hHX;obtain⟨XS,hXS⟩:=eX ((aF r).flatMap fun j=>[.int .i64 ((SO.getD j 0:Nat):Int),U j]);rw[←hXS]at HOK;have HXS:=Hd hXS;have HVL:=Hd (show∀g,SV.ownBlock=some g→g<wr.heap.size from fun g hg=>(HOK.out.lt hg).1);have HNB:=Hd (show r≤100000 from by omega);clear hmm hmi hsm hgc hnc hXS hb2l hHX;go_wp2_with fail;refine Ay [eF (.pointer (some ⟨q,3,none⟩)),eF SV,eF (.int .i64 (m:Nat)),eF (.pointer (some ⟨N,3,none⟩)),eF (.map (some sb)),eF (.int .i64 (m:Nat)),eF UV,fun v w'=>Own w' wr.heap.size 5 v (bvs HX),fun v w'=>∃u,v=.agg #[.int .i64 (m:Nat),u]∧Own w' wr.heap.size 5 u (bvs HX),fun v w'=>∃g u,v=.slice (some ⟨g,0,none⟩) 1 1∧wr.heap.size≤g∧Blk w' g 89 #[.int .i64 (m:Nat),u]∧Own w' wr.heap.size 5 u (bvs HX),fun v w'=>∃u,OwnK w' (q+1) 89 2 v (r+1) (XS++[.int .i64 (m:Nat),u])∧Own w' (q+1) 5 u (bvs HX),eF (.pointer (some ⟨q,3,none⟩)),fun v w'=>∃V2 u,Blk w' q 25 #[.int .i64 lv,.int .i64 ow,V,V2]∧OwnK w' (q+1) 89 2 V2 (r+1) (XS++[.int .i64 (m:Nat),u])∧Own w' (q+1) 5 u (bvs HX)∧CutS wr SV q w']
      ((cS 13 false).set 12 true) (fun X=>ButO wr SV (q+1) X) (fun X Y=>StepO SV (q+1) X Y) (some 10) 12 (by kernel_rfl) ?_ (ButO.start wr SV (q+1)) (fun X Y hx h=>StepO.of h (dG (gA HBK.out.lt) hx.low.size)) (fun X Y hx hs=>hx.step hs) (by kernel_rfl) (by kernel_rfl) (by kernel_rfl) ?_ ?_
     ·exact kE (kE (kE (kE (kE (kE (kE (Au (fun v x y h hi hs=>StepO.own hs h HVL.out) (Au (fun v x y h hi hs=>let⟨u,e,k⟩:=h;⟨u,e,StepO.own hs k HVL.out⟩) (Au (fun v x y h hi hs=>let⟨g,u,e,hg,k,k2⟩:=h;⟨g,u,e,hg,(hs.2 g k.lt (fun ee=>absurd (HVL.out g ee) (by omega))).trans k,StepO.own hs k2 HVL.out⟩) (Cs (fun v x y h hi hs=>let⟨u,k,k2⟩:=h;⟨u,OwnK.below k hs lR,Own.below k2 hs lR⟩) (kE (Ad (fun _ _ _ _ _ _=>trivial) (Aj)))))))))))))
     ·refine gP8 ?_ rfl (Nz (by kernel_rfl) ?_ rfl (gP8 ?_ rfl (gP8 ?_ rfl (gP8 ?_ rfl (gP8 ?_ rfl (gO8 ?_ (Oc (by kernel_rfl) ?_ (gO8 ?_ (Oc (by kernel_rfl) ?_ (Oc (by kernel_rfl) ?_ (gP8 ?_ rfl (gO8 ?_ .nil))))))))))));all_goals
       intro a wx hbx hbq ho hf;have hbx:ButO wr SV (q+1) wx:=hbx;refine⟨rfl,?_⟩;intro K hK;try have Pf1:a.tmps[1]?.getD undef=.pointer (some ⟨N,0,none⟩):=ho 1 (by kernel_rfl)
       try have Pf3:a.tmps[3]?.getD undef=.pointer (some ⟨q,0,none⟩):=ho 3 (by kernel_rfl)
       try have Pf7:a.tmps[7]?.getD undef=.int .i64 (m:Nat):=ho 7 (by kernel_rfl)
       try have Ef0:=eqn hf.1
       try have Ef1:=eqn hf.2.1
       try(have Ce0:=(hbx.low.cell (p:=⟨q,3,none⟩) (fL q)).trans (HBK.out.cell 3);simp only[bK,bL,bM]at Ce0)
       try(have Ce1:=(hbx.low.cell (p:=⟨N,3,none⟩) HNQ.out).trans (HPB.out.cell 3);simp only[bK,bL,bM]at Ce1)
       try have Ce2:=MapF.run_get (T:=99) (HM2.out.belowB hbx.low HSBQ.out) Tryz.underlying99 (Tryz.zeroValue28 wx) HMI.out
       try(refine Hd ?_;go_simp;exact hK _ rfl)
      ·rw[HGM.out]at Ce2;simp only[Option.getD_some]at Ce2;go_simp;exact hK _ _ rfl (fun _=>Ab rfl bR)
      ·go_simp;refine(HCP.out wx (HBW.out.trans (hbx.low.mono HWQ.out))).mono ?_;rintro e w2 ⟨v9,rfl,ho9,hg9⟩;exact hK _ _ (ho9.mono hbx.low.size) (fun _=>Ab rfl hg9)
      ·have o1:Own wx wr.heap.size 5 (a.tmps[51]?.getD undef) (bvs HX):=hf.2.1;obtain⟨v1,hv1⟩:=eX (a.tmps[51]?.getD undef);rw[←hv1]at o1;have e1:=hv1.symm;clear hv1;obtain⟨ua,un,uc,rfl⟩:∃a n c,v1=.slice a n c:=(by obtain⟨a,c,e,-⟩:=o1.rd;exact⟨_,_,_,e⟩);go_simp;exact hK _ _ ⟨_,rfl,o1⟩ (fun _=>Ab rfl bR)
      ·have o0:∃u,(a.tmps[52]?.getD undef)=.agg #[.int .i64 (m:Nat),u]∧Own wx wr.heap.size 5 u (bvs HX):=hf.1;obtain⟨v0,hv0⟩:=eX (a.tmps[52]?.getD undef);rw[←hv0]at o0;have e0:=hv0.symm;clear hv0;obtain⟨u,rfl,hu⟩:=o0;go_simp;exact hK _ _ ⟨_,u,rfl,hbx.low.size,Blk.new _ _ _,hu.alloc _⟩ (fun _=>Ab rfl (bR.alloc lR _))
      ·have o1:∃g u,(a.tmps[53]?.getD undef)=.slice (some ⟨g,0,none⟩) 1 1∧wr.heap.size≤g∧Blk wx g 89 #[.int .i64 (m:Nat),u]∧Own wx wr.heap.size 5 u (bvs HX):=hf.2.1;obtain⟨v1,hv1⟩:=eX (a.tmps[53]?.getD undef);rw[←hv1]at o1;have e1:=hv1.symm;clear hv1;obtain⟨g,u,hv,hg,hblk,hu⟩:=o1;have hok2:=HOK.out.below hbq lR;refine Tl (.tmp 45) (.tmp 53) 23 rfl (q+1) 89 _ 2 32 Zhp SV r XS (evs Ef0) hok2 g [.int .i64 (m:Nat),u] (evs (e1.trans hv)) rfl (fun j u2 hu2=>by have:=hblk.range 0 j u2 hu2;simpa using this) (fun z hz=>by
        simp only[List.mem_cons,List.not_mem_nil,or_false]at hz;rcases hz with rfl|rfl
        ·rfl
        ·exact hu.oneCell) (by have:=HNB.out;omega) (by have:=hbx.low.size;have:=HBK.out.lt;omega) ?_
       intro v' w' h2 h3;exact hK _ _ ⟨u,h2,(h3.own hu HVL.out).mono (gA HBK.out.lt)⟩ (fun _=>Cc rfl h3)
      ·have o1:∃u,OwnK wx (q+1) 89 2 (a.tmps[54]?.getD undef) (r+1) (XS++[.int .i64 (m:Nat),u])∧Own wx (q+1) 5 u (bvs HX):=hf.2.1;obtain⟨v1,hv1⟩:=eX (a.tmps[54]?.getD undef);rw[←hv1]at o1;have e1:=hv1.symm;clear hv1;obtain⟨u,o1,hu⟩:=o1;have hblk:=HBK.out.below hbx.low (fL q);have d1:wx.cell? ⟨q,3,none⟩=some SV:=hblk.cell 3;have d2:=hblk.frozen 3;obtain⟨ga,gc,rfl⟩:=OwnK.sl o1;have hql:q≤wx.heap.size:=dL hblk.lt;have hs2:=hblk.set 3 (.slice ga (r+1) gc);have ho2:=OwnK.onlyQ o1 (Only.set (a:=wx) (B:=q) 3 (.slice ga (r+1) gc)) (fL q);have hu2:=OwnK.onlyQ (show OwnK wx (q+1) 5 1 u (bvs HX).length (bvs HX)from hu) (Only.set (a:=wx) (B:=q) 3 (.slice ga (r+1) gc)) (fL q);have hc2:=hbx.put hql 3 (.slice ga (r+1) gc);go_simp;exact hK undef _ ⟨_,u,hs2,ho2,hu2,hc2⟩ (fun h=>absurd rfl h)
     ·rintro f w9 hfin;have S55:∃V2 u,Blk w9 q 25 #[.int .i64 lv,.int .i64 ow,V,V2]∧OwnK w9 (q+1) 89 2 V2 (r+1) (XS++[.int .i64 (m:Nat),u])∧Own w9 (q+1) 5 u (bvs HX)∧CutS wr SV q w9:=hfin.2.2.2.2.2.2.2.2.2.2.2.2.1;clear hfin;simp only[Aw,Bl,Ga,cH,cI,cJ,cK,Nat.reduceBEq,Nat.reduceAdd,cL,cM,cond_true,cond_false];obtain⟨V2,u,hb2,ho2,hu2,hc2⟩:=S55;have HBK2':=Hd hb2;have HOK2:=Hd ho2;have HU2:=Hd hu2;have HC2:=Hd hc2;clear hb2 ho2 hu2 hc2;go_wp2_with fail;go_roundg (gk-1);case measure=>have:=HR.out;omega
      case rel=>
       refine⟨r+1,V2,fun j=>if j<r then U j else u,by have:=HR.out;omega,by go_num,HBK2'.out,?_,fun j hj=> ?_,?_,fun j hj=> ?_,?_,HB.out.trans HC2.out.low⟩
       ·rw[Zgb (g:=fun j z=>[.int .i64 ((SO.getD j 0:Nat):Int),z]),←HXS.out,←HMM.out];exact HOK2.out
       ·by_cases hjr:j<r
        ·show Own w9 (q+1) 5 (if j<r then U j else u) _;rw[if_pos hjr];exact CutS.ownK (k:=1) HC2.out (HU.out j hjr) (fL q) (OwnK.apartK (k:=1) (HU.out j hjr) HOK.out (by decide))
        ·obtain rfl:j=r:=(by omega);show Own w9 (q+1) 5 (if j<j then U j else u) _;rw[if_neg hjr,←HMM.out,←HXX.out];exact HU2.out
       ·exact CutS.ownK HC2.out HOV.out (fL q) (OwnK.apartK HOV.out HOK.out (by decide))
       ·exact NodeO.cutQ HC2.out (HCF.out j hj) (fL q) HOK.out (by decide) (by decide)
       ·exact CutS.ownK (k:=1) HC2.out HVK.out (fL q) (OwnK.apartK (k:=1) HVK.out HOK.out (by decide))
    ·obtain rfl:r=ns:=(by have:=HR.out;omega);have hlt2:decide (r<r)=false:=decide_eq_false hlt;clear hlt;obtain⟨va,vc,rfl⟩:=OwnK.sl HOV.out;obtain⟨sa,sc,rfl⟩:=OwnK.sl HOK.out;go_wp2_with (first|(refine wpList_load_row rfl 25 (.tmp 3) rfl q rfl 25 _ (0,0) _ HBK.out Tryz.underlying25 rfl (by kernel_rfl) ?_)|(refine Aa rfl 25 (.tmp 2) (.tmp 57) rfl (N+1) #[.int .i64 lv,.int .i64 ow,.slice va no vc,.slice sa r sc] rfl rfl 25 _ HRB.out (by kernel_rfl) rfl rfl ?_));rintro w9 hbk9 hbw hot hsz;have hon:Only (N+1) wr w9:=Only.storeQ hbw hot;have hnq:=HNQ2.out;have hb9:Below w.heap.size w w9:=HBW.out.trans (hbw _ (by rw[←HN.out];exact fN N));have ho9:=OwnK.onlyQ HOV.out hon (by omega);have hs9:=OwnK.onlyQ HOK.out hon (by omega);have HBK9:=Hd hbk9;have hcf9:=fun k hk=>NodeO.onlyQ (HCF.out k hk) hon (by omega);have hu9:=fun j hj=>OwnK.onlyQ (k:=1) (HU.out j hj) hon (by omega);have mk:∀W:World,(∀ {e:TypeId} {k n:Nat} {v:Value} {xs:List Value},OwnK w9 (q+1) e k v n xs→OwnK W (q+1) e k v n xs)→SparseR W (.agg #[.int .i64 lv,.int .i64 ow,.slice va no vc,.slice sa r sc]) ⟨lv,ow,KO.map fun m:Nat=>((m:Int),D m),SO.map fun m:Nat=>((m:Int),H m)⟩:=fun W hW=>by
      refine⟨_,_,rfl,?_,?_⟩
      ·refine Zy (B:=q+1) (CF:=CF) (fun k hk=>((hcf9 k (by rw[HNO.out];exact hk)).keep2 fun e v xs _ hu=>hW (k:=1) hu).c) ?_;rw[←HNO.out];exact hW ho9
      ·refine Zz (B:=q+1) (U:=U) (fun j hj=>hW (k:=1) (hu9 j (by rw[HNS.out];exact hj))) ?_;rw[←HNS.out];exact hW hs9
     have HFIN:=Hd (mk w9 fun h=>h);have HFIN2:=Hd fun(g:Nat) (W:World) (hg:g<w.heap.size) (ho:Only g w9 W)=>mk W fun h=>OwnK.onlyQ h ho (by have:=HN.out;omega);have HBK9:=Hd hbk9;have HB9:=Hd hb9;clear hbk9 hbw hot hsz hon hb9 ho9 hs9 hnq hcf9 hu9 mk;go_wp2_with fail;exact bodyPost_ret (v:=.agg #[.int .i64 lv,.int .i64 ow,.slice va no vc,.slice sa r sc]) (Gv Tryz.results67 _ _ (N+1) _ _ _ rfl HBK9.out Tryz.underlying25 rfl (by kernel_rfl)) rfl ⟨_,rfl,HFIN.out,HB9.out,HFIN2.out⟩
theorem Zdd (v:Value) (t:List NodeD) (hh m d:Nat) (OL SL:List Nat) (w:World) (h:TreeR w v t) (hs:Eg t=true) (hok:TreeOk t) (hr:Fr t=true) (hlen:t.length=2*hh+1) (hN1:Bg t.length=hh+1) (hd:d≤16) (hdd:hh+1=2^d) (hi:((m:Nat):Int)∈Og t (hh+1))
  (eO:(Cq (atT t) m false d (2^d-1) 0 []).1=OL.map fun m:Nat=>(m:Int)) (eS:(Cq (atT t) m false d (2^d-1) 0 []).2.1=SL.map fun m:Nat=>(m:Int)) (hOr:OL.Pairwise (· < ·)) (hSr:SL.Pairwise (· < ·))
  (hO:∀x∈OL,x<t.length) (hS:∀x∈SL,x<t.length) (hnO:OL.length≤100000) (hnS:SL.length≤100000) (hHl:∀x,(Np (nd t) x).length≤1000000):
  Calls Tryz.prog 41 #[v,.int .i64 (m:Nat)] w fun e w'=>∃v',e=.returned (.tuple #[v',.int .u8 0])∧SparseR w' v' (Zht t (2^d) m OL SL)∧Below w.heap.size w w':=by
 have h40:=Fn hs;have HCT:=Hd fun(W:World) (hw:Below w.heap.size w W)=>Zi1 v t hh m d false OL SL W (h.below hw lR) hs hok hr hlen hN1 hd hdd hi eO eS hOr hSr hO hS hnO hnS;have HSP:=Hd fun(W:World) (ob sb:Nat) (G G2:Int→Option Value) (hm:MapF W ob OL.length G) (hk:Db G (OL.map fun m:Nat=>(m:Int))) (hn:∀x∈OL,∃c,G ((x:Nat):Int)=some (.agg c)∧NodeC W (nd t x) c) (hm2:MapF W sb SL.length G2) (hk2:Db G2 (SL.map fun m:Nat=>(m:Int))) (hu:∀x∈SL,∃u,G2 ((x:Nat):Int)=some u∧Rd W u (bvs (Np (nd t) x)))=>
  Pl ((2^d:Nat):Int) (m:Nat) ob sb OL.length SL.length G G2 OL SL (nd t) (Np (nd t)) W hm hm2 hnO hnS hk hk2 (fun x hx=>⟨by unfold inI;have:=hO x hx;omega,Dy hs x,hn x hx⟩) (fun x hx=>⟨by unfold inI;have:=hS x hx;omega,hHl x,hu x hx⟩) hnO hnS
 obtain⟨M,hM⟩:=eX (2^d);rw[←hM]at HCT HSP⊢;obtain⟨RS,hRS⟩:=eX (Zht t M m OL SL);have HRS:=Hd hRS;rw[←hRS];obtain⟨a,n,c,rfl⟩:∃a n c,v=.slice a n c:=(by obtain⟨a,c,e,_⟩:=h.sl;exact⟨_,_,_,e⟩);clear h hs hok hr hlen hN1 hd hdd hi eO eS hOr hSr hO hS hnO hnS hHl h40 hM hRS;obtain⟨N,hN⟩:=eX w.heap.size;have HN:=Hd hN;go_enter Tryz.func41,Tryz.ntmps41;go_wp2_with fail;obtain⟨w2,hw2⟩:=eX (w.alloc (.cells #[.int .i64 0,.int .i64 0,.slice none 0 0,.slice none 0 0] 25));have HB2:=Hd (show Below w.heap.size w w2 from by rw[hw2];exact bR.alloc lR _);have HKR2:=Hd (show Blk w2 N 25 #[.int .i64 0,.int .i64 0,.slice none 0 0,.slice none 0 0]from by rw[hw2,hN];exact Blk.new _ _ _);rw[←hw2,←hN];clear hw2 hN;refine(HCT.out _ HB2.out).mono ?_;rintro e w3 ⟨ob,sb,G,G2,rfl,m1,m2,m3,m4,m5,m6,hb3⟩;have HB3:=Hd (HB2.out.trans (hb3.mono HB2.out.size));have HKR3:=Hd (HKR2.out.below hb3 HKR2.out.lt);obtain⟨w4,hw4⟩:=eX (w3.alloc (.cells #[.int .i64 (M:Nat),.int .i64 (m:Nat),.map (some ob),.map (some sb)] 101));have hb34:Below w3.heap.size w3 w4:=(by rw[hw4];exact bR.alloc lR _);have HX:=Hd (HSP.out w4 ob sb G G2 (m1.below hb34 lR) m2 (fun x hx=>by obtain⟨c,h1,h2⟩:=m3 x hx;exact⟨c,h1,h2.below hb34 lR⟩) (m4.below hb34 lR) m5 (fun x hx=>by obtain⟨u,h1,h2⟩:=m6 x hx;exact⟨u,h1,h2.below hb34 lR⟩));have HB4:=Hd (HB3.out.trans (hb34.mono HB3.out.size));have HKR4:=Hd (HKR3.out.below hb34 HKR3.out.lt);have HBP:=Hd (show Blk w4 w3.heap.size 101 #[.int .i64 (M:Nat),.int .i64 (m:Nat),.map (some ob),.map (some sb)]from by rw[hw4];exact Blk.new _ _ _);rw[hw4]at HX HB4 HKR4 HBP;clear hb3 m1 m2 m3 m4 m5 m6 hb34 hw4;go_wp2_with (refine wpList_load_row rfl 101 (.tmp 6) rfl w3.heap.size rfl 101 _ (0,0) _ HBP.out Tryz.underlying101 rfl (by kernel_rfl) ?_);refine HX.out.mono ?_;rintro e w5 ⟨vr,rfl,hsp,hb5,hsp2⟩;obtain⟨o,g,rfl,ho,hg⟩:=hsp;obtain⟨a1,c1,rfl,ho2⟩:=ho;obtain⟨a2,c2,rfl,hg2⟩:=hg;have HS2:=Hd hsp2;have HKR5:=Hd (HKR4.out.below hb5 HKR4.out.lt);have HB5:=Hd (HB4.out.trans (hb5.mono HB4.out.size));have HKL:=Hd HKR4.out.lt;clear hb5 hsp2 ho2 hg2;simp only[List.length_map]at HS2⊢;go_wp2_with (refine Aa rfl 25 (.tmp 4) (.tmp 19) rfl N #[.int .i64 (M:Nat),.int .i64 (m:Nat),.slice a1 OL.length c1,.slice a2 SL.length c2] rfl rfl 25 #[.int .i64 0,.int .i64 0,.slice none 0 0,.slice none 0 0] HKR5.out (by kernel_rfl) rfl rfl ?_);rintro w9 hblk hbl9 hoth hsize;have HK:=Hd hblk;have HB9:=Hd (HB5.out.trans (hbl9 w.heap.size (by rw[←HN.out];exact dP N)));have HS9:=Hd (HS2.out N w9 HKL.out (Only.storeQ hbl9 hoth));clear hblk hbl9 hoth hsize;go_wp2_with fail;refine bodyPost_ret (v:=.tuple #[.agg #[.int .i64 (M:Nat),.int .i64 (m:Nat),.slice a1 OL.length c1,.slice a2 SL.length c2],.int .u8 0]) (Af Tryz.results41 _ _ N _ _ _ rfl HK.out Tryz.underlying25 rfl (by kernel_rfl)) rfl ⟨_,rfl,?_,HB9.out⟩;rw[HRS.out];exact HS9.out
end Go.Proofs.YtfofaiommeckbaaGreat
namespace Go.Proofs.YtfofaiommeckbaaGreat
open Go.RowKit WalkM WireM
open ShaM
end Go.Proofs.YtfofaiommeckbaaGreat
namespace Go.Proofs.YtfofaiommeckbaaGreat
open Go.RowKit ShaM WireM
open WalkM
theorem Vl (d:NodeD):Ef d d=true:=by simp[Ef,Je]
end Go.Proofs.YtfofaiommeckbaaGreat
namespace Go.Proofs.YtfofaiommeckbaaGreat
open Go.RowKit WalkM WireM
def Gr (a b:SparseD):Bool:=decide (a.leaves=b.leaves∧a.own=b.own∧a.op.length=b.op.length∧a.sh.length=b.sh.length)&&(aF a.op.length).all (fun i=>decide ((spt a.op i).1=(spt b.op i).1)&&Ef (spt a.op i).2 (spt b.op i).2)&&
 (aF a.sh.length).all fun i=>decide ((stb a.sh i).1=(stb b.sh i).1)&&decide ((stb a.sh i).2=(stb b.sh i).2)
theorem Vm (a:SparseD):Gr a a=true:=by
 unfold Gr;rw[bS,bS,decide_eq_true_iff,fE,fE];exact⟨⟨⟨rfl,rfl,rfl,rfl⟩,fun i _=>by rw[decide_eq_true rfl,Vl];rfl⟩,fun i _=>by rw[decide_eq_true rfl,decide_eq_true rfl];rfl⟩
theorem Zj2 {a b:SparseD}(h:¬(a.leaves=b.leaves∧a.own=b.own∧a.op.length=b.op.length∧a.sh.length=b.sh.length)):Gr a b=false:=by rw[Gr,decide_eq_false h];rfl
theorem Zj3 {a b:SparseD} {i:Nat}(hi:i<a.op.length)(h:(decide ((spt a.op i).1=(spt b.op i).1)&&Ef (spt a.op i).2 (spt b.op i).2)=false):Gr a b=false:=by
 have:(aF a.op.length).all (fun i=>decide ((spt a.op i).1=(spt b.op i).1)&&Ef (spt a.op i).2 (spt b.op i).2)=false:=List.all_eq_false.2 ⟨i,List.mem_range.2 hi,by rw[h];simp⟩;rw[Gr,this];simp
theorem Zj4 {a b:SparseD} {i:Nat}(hi:i<a.sh.length)(h:(decide ((stb a.sh i).1=(stb b.sh i).1)&&decide ((stb a.sh i).2=(stb b.sh i).2))=false):Gr a b=false:=by
 have:((aF a.sh.length).all fun i=>decide ((stb a.sh i).1=(stb b.sh i).1)&&decide ((stb a.sh i).2=(stb b.sh i).2))=false:=List.all_eq_false.2 ⟨i,List.mem_range.2 hi,by rw[h];simp⟩;rw[Gr,this];simp
theorem Zi2 {a b:SparseD} (h:a.leaves=b.leaves∧a.own=b.own∧a.op.length=b.op.length∧a.sh.length=b.sh.length) (h1:∀i,i<a.op.length→(decide ((spt a.op i).1=(spt b.op i).1)&&Ef (spt a.op i).2 (spt b.op i).2)=true)
  (h2:∀i,i<a.sh.length→(decide ((stb a.sh i).1=(stb b.sh i).1)&&decide ((stb a.sh i).2=(stb b.sh i).2))=true):Gr a b=true:=by
 unfold Gr;rw[bS,bS,decide_eq_true_iff,fE,fE];exact⟨⟨h,fun i hi=>h1 i (List.mem_range.1 hi)⟩,fun i hi=>h2 i (List.mem_range.1 hi)⟩
theorem Zaa (v v':Value)(s t:SparseD)(w:World)(h:SparseR w v s)(h':SparseR w v' t)(hok:SparseOk s)(hok':SparseOk t)(hl1:s.op.length≤1000000)(hl2:s.sh.length≤1000000):
  Calls Tryz.prog 24 #[v,v'] w fun e w'=>e=.returned (.bool (Gr s t))∧Below w.heap.size w w':=by
 obtain⟨o,g,rfl,ho,hg⟩:=h;obtain⟨oa,oc,rfl,hoc,hoc2⟩:=ho.sl;obtain⟨ga,gc,rfl,hgc,hgc2⟩:=hg.sl;obtain⟨o',g',rfl,ho',hg'⟩:=h';obtain⟨oa2,oc2,rfl,hoc',hoc2'⟩:=ho'.sl;obtain⟨ga2,gc2,rfl,hgc',hgc2'⟩:=hg'.sl;have HG1:=Hd fun(i:Nat) (hi:i<s.op.length)=>ho.at hi;have HG2:=Hd fun(i:Nat) (hi:i<s.sh.length)=>hg.at hi;have HK1:=Hd fun(i:Nat) (hi:i<t.op.length)=>ho'.at hi;have HK2:=Hd fun(i:Nat) (hi:i<t.sh.length)=>hg'.at hi;have HN1:=Hd fun(i:Nat) (hi:i<s.op.length)=>(hok.op _ (Kk hi)).2;have HN2:=Hd fun(i:Nat) (hi:i<t.op.length)=>(hok'.op _ (Kk hi)).2;have HM1:=Hd fun(i:Nat) (hi:i<s.sh.length)=>(hok.sh _ (Qs hi)).2;have HM2:=Hd fun(i:Nat) (hi:i<t.sh.length)=>(hok'.sh _ (Qs hi)).2;have HNO:=Hd (Zj2 (a:=s) (b:=t));have HNP:=Hd fun i=>Zj3 (a:=s) (b:=t) (i:=i);have HNH:=Hd fun i=>Zj4 (a:=s) (b:=t) (i:=i);have HYES:=Hd (Zi2 (a:=s) (b:=t));obtain⟨RES,hRES⟩:=eX (Gr s t);rw[←hRES]at HNO HNP HNH HYES⊢;obtain⟨lv,hlv⟩:=eX s.leaves;obtain⟨ow,how⟩:=eX s.own;obtain⟨n,hn⟩:=eX s.op.length;obtain⟨m,hm⟩:=eX s.sh.length;obtain⟨lv2,hlv2⟩:=eX t.leaves;obtain⟨ow2,how2⟩:=eX t.own;obtain⟨n2,hn2⟩:=eX t.op.length;obtain⟨m2,hm2⟩:=eX t.sh.length;rw[←hlv,←how,←hlv2,←how2,←hn,←hm,←hn2,←hm2]at HNO HYES;rw[←hlv,←how,←hlv2,←how2,←hn,←hm,←hn2,←hm2];rw[←hn]at HNP HG1 HN1 hoc hl1;rw[←hm]at HNH HG2 HM1 hgc hl2;rw[←hn2]at HK1 HN2 hoc';rw[←hm2]at HK2 HM2 hgc';clear hRES hlv how hn hm hlv2 how2 hn2 hm2 ho hg ho' hg' hok hok';obtain⟨N,hN⟩:=eX w.heap.size;have HH:=Hd hN;obtain⟨w1,hw1⟩:=eX ((w.alloc (.cells #[.int .i64 lv,.int .i64 ow,.slice oa n oc,.slice ga m gc] 25)).alloc (.cells #[.int .i64 lv2,.int .i64 ow2,.slice oa2 n2 oc2,.slice ga2 m2 gc2] 25));have HWE:=Hd hw1;have HB1:=Hd (show Below w.heap.size w w1 by rw[hw1];exact(bR.alloc lR _).alloc (by simp) _);have HBA:=Hd (show Blk w1 N 25 #[.int .i64 lv,.int .i64 ow,.slice oa n oc,.slice ga m gc] by rw[hw1,hN];exact(Blk.new _ _ _).alloc _);have HBB:=Hd (show Blk w1 (N+1) 25 #[.int .i64 lv2,.int .i64 ow2,.slice oa2 n2 oc2,.slice ga2 m2 gc2] by
  rw[hw1,hN];have h1:=Blk.new (w.alloc (.cells #[.int .i64 lv,.int .i64 ow,.slice oa n oc,.slice ga m gc] 25)) 25 #[.int .i64 lv2,.int .i64 ow2,.slice oa2 n2 oc2,.slice ga2 m2 gc2];simpa using h1)
 have c0:=HBA.out.cell 0;have c1:=HBA.out.cell 1;have c2:=HBA.out.cell 2;have c3:=HBA.out.cell 3;have e0:=HBB.out.cell 0;have e1:=HBB.out.cell 1;have e2:=HBB.out.cell 2;have e3:=HBB.out.cell 3;simp only[bK,bL,bM]at c0 c1 c2 c3 e0 e1 e2 e3;clear hw1 hN
 by_cases q1:lv=lv2
 ·subst q1;have q1':(lv !=lv)=false:=by simp
  by_cases q2:ow=ow2
  ·subst q2;have q2':(ow !=ow)=false:=by simp
   by_cases q3:n=n2
   ·subst q3;have q3':((n:Int) !=(n:Int))=false:=by simp
    by_cases q4:m=m2
    ·subst q4;have q4':((m:Int) !=(m:Int))=false:=(by simp);have HY:=Hd (HYES.out ⟨rfl,rfl,rfl,rfl⟩);go_enter Tryz.func24,Tryz.ntmps24;go_wp2_with fail;rw[←HH.out,←HWE.out];go_wp2_with fail;clear q1' q2' q3' q4' c0 c1 c2 c3 e0 e1 e2 e3 HNO HYES
     go_loopg [5] n (fun q iv wr=>∃r:Nat,r+q=n∧iv=.int .i64 (r:Nat)∧(∀i,i<r→(decide ((spt s.op i).1=(spt t.op i).1)&&Ef (spt s.op i).2 (spt t.op i).2)=true)∧Below w1.heap.size w1 wr)
     case atStart=>exact⟨0,by omega,rfl,fun i hi=>by omega,bR⟩
     case round=>
      obtain⟨r,hr,rfl,hall,hb⟩:=hrel;have HR:=Hd hr;have HALL:=Hd hall;have HB:=Hd hb;have HW:=Hd (HB1.out.trans (hb.mono HB1.out.size));have HA1:=Hd (HBA.out.below hb HBA.out.lt);have HC1:=Hd (HBB.out.below hb HBB.out.lt);have c2:=HA1.out.cell 2;have c3:=HA1.out.cell 3;have e2:=HC1.out.cell 2;have e3:=HC1.out.cell 3;simp only[bK,bL,bM]at c2 c3 e2 e3;have hNl:N<wr.heap.size:=HA1.out.lt;have hNl2:N+1<wr.heap.size:=HC1.out.lt;clear hr hall hb
      by_cases hlt:r<n
      ·have hlt':decide (r<n)=true:=decide_eq_true hlt;have hltI:(r:Int)<(n:Int):=(by omega);obtain⟨b1,o1,y,rfl,hb1,hn1,hr1⟩:=HG1.out r hlt;obtain⟨b2,o2,z,rfl,hb2,hn2,hr2⟩:=HK1.out r hlt;have cx1:=(HW.out.cell (p:=⟨b1,o1+r*11,none⟩) hb1).trans (Cd hr1);have cx2:=(HW.out.cell (p:=⟨b2,o2+r*11,none⟩) hb2).trans (Cd hr2);have HRA1:=Hd (An (Dq hr1) HW.out hb1);have HRA2:=Hd (An (Dq hr2) HW.out hb2);have HSN:=Hd fun(W:World) (hw:Below w.heap.size w W)=>Gd _ _ y z W (hn1.below hw lR) (hn2.below hw lR) (HN1.out r hlt) (HN2.out r hlt);obtain⟨y0,y1,y2,y3,y4,y5,y6,y7,y8,y9,rfl⟩:=hn1.ten;obtain⟨z0,z1,z2,z3,z4,z5,z6,z7,z8,z9,rfl⟩:=hn2.ten;have hb1:b1<wr.heap.size:=dH hb1 HW.out.size;have hb2:b2<wr.heap.size:=dH hb2 HW.out.size;have HBAD:=Hd (fun hp=>HNP.out r hlt hp);have HGOOD:=Hd (fun(hp:(decide ((spt s.op r).1=(spt t.op r).1)&&Ef (spt s.op r).2 (spt t.op r).2)=true)=>(show∀i,i<r+1→(decide ((spt s.op i).1=(spt t.op i).1)&&Ef (spt s.op i).2 (spt t.op i).2)=true from fun i hi=>by
        by_cases e:i=r
        ·rw[e];exact hp
        ·exact HALL.out i (by omega)))
       obtain⟨x1,hx1⟩:=eX ((spt s.op r).1);obtain⟨x2,hx2⟩:=eX ((spt t.op r).1);obtain⟨sb,hsb⟩:=eX (Ef (spt s.op r).2 (spt t.op r).2);rw[←hx1]at cx1;rw[←hx2]at cx2;rw[←hsb]at HSN;rw[←hx1,←hx2,←hsb]at HBAD HGOOD;clear hx1 hx2 hsb hr1 hr2 hn1 hn2
       by_cases hx:x1=x2
       ·have hx':(x1 !=x2)=false:=(by simp[hx]);have HX:=Hd hx;clear hx;cases sb with
        |true=>
         have HST:=Hd (HGOOD.out (by rw[decide_eq_true HX.out];rfl));clear HGOOD HBAD;go_wp2_with fail;refine Jd [eF (.pointer (some ⟨N,2,none⟩)),eF (.slice (some ⟨b1,o1,none⟩) n oc),eF (.int .i64 (r:Nat)),eF (.pointer (some ⟨b1,o1+r*11,none⟩)),eF (.pointer (some ⟨b1,o1+r*11,none⟩)),eF (.int .i64 x1),eF (.pointer (some ⟨N+1,2,none⟩)),eF (.slice (some ⟨b2,o2,none⟩) n oc2),eF (.int .i64 (r:Nat)),eF (.pointer (some ⟨b2,o2+r*11,none⟩)),eF (.pointer (some ⟨b2,o2+r*11,none⟩)),eF (.int .i64 x2),eF (.bool false),eF (.bool false),eF (.pointer (some ⟨N,2,none⟩)),eF (.slice (some ⟨b1,o1,none⟩) n oc),eF (.int .i64 (r:Nat)),eF (.pointer (some ⟨b1,o1+r*11,none⟩)),eF (.pointer (some ⟨b1,o1+r*11+1,none⟩)),eF (.agg #[y0,y1,y2,y3,y4,y5,y6,y7,y8,y9]),eF (.pointer (some ⟨N+1,2,none⟩)),eF (.slice (some ⟨b2,o2,none⟩) n oc2),eF (.int .i64 (r:Nat)),eF (.pointer (some ⟨b2,o2+r*11,none⟩)),eF (.pointer (some ⟨b2,o2+r*11+1,none⟩)),eF (.agg #[z0,z1,z2,z3,z4,z5,z6,z7,z8,z9]),eF (.bool true),eF (.bool false),eF (.bool false)] (by kernel_rfl) (by kernel_rfl) (by kernel_rfl) (kE (kE (kE (kE (kE (kE (kE (kE (kE (kE (kE (kE (kE (kE (kE (kE (kE (kE (kE (kE (kE (kE (kE (kE (kE (kE (kE (kE (kE Aj))))))))))))))))))))))))))))) ?_ ?_
         ·refine gQ ?_ (gQ ?_ (gQ ?_ (gQ ?_ (gQ ?_ (gB ?_ (gQ ?_ (gB ?_ (gQ ?_ (gQ ?_ (gQ ?_ (gB ?_ (gQ ?_ (gQ ?_ (gQ ?_ (gQ ?_ (gQ ?_ (gQ ?_ (gQ ?_ (gB ?_ (gQ ?_ (gB ?_ (gQ ?_ (gQ ?_ (gQ ?_ (gB ?_ (gB ?_ (gQ ?_ (gQ ?_ .nil))))))))))))))))))))))))))));all_goals
           intro a wx hbx ho hf;refine⟨by first|rfl|exact Bj rfl rfl rfl hf.1|exact Bj rfl rfl rfl hf.2.1|exact Bj rfl rfl rfl hf.2.2.1,?_⟩;intro K hK;try have P2:a.tmps[2]?.getD undef=.pointer (some ⟨N,0,none⟩):=ho 2 (by kernel_rfl)
           try have P3:a.tmps[3]?.getD undef=.pointer (some ⟨N+1,0,none⟩):=ho 3 (by kernel_rfl)
           try have P5:a.tmps[5]?.getD undef=.int .i64 (r:Nat):=ho 5 (by kernel_rfl)
           try have E0:=eqn hf.1
           try have E1:=eqn hf.2.1
           try have D0:=(hbx.cell (p:=⟨N,2,none⟩) hNl).trans c2
           try(refine Hd ?_;go_simp;exact hK _ rfl)
          ·have d1:=(hbx.cell (p:=⟨b1,o1+r*11,none⟩) hb1).trans cx1;go_simp;exact hK _ _ rfl bR
          ·have d1:=(hbx.cell (p:=⟨N+1,2,none⟩) hNl2).trans e2;go_simp;exact hK _ _ rfl bR
          ·have d1:=(hbx.cell (p:=⟨b2,o2+r*11,none⟩) hb2).trans cx2;go_simp;exact hK _ _ rfl bR
          ·exact wp_load_mid 52 (.tmp 62) rfl b1 (o1+r*11+1) (evs E0) _ _ (An HRA1.out hbx hb1) Tryz.underlying52 rfl (Be) (hK _ _ rfl bR)
          ·have d1:=(hbx.cell (p:=⟨N+1,2,none⟩) hNl2).trans e2;go_simp;exact hK _ _ rfl bR
          ·exact wp_load_mid 52 (.tmp 68) rfl b2 (o2+r*11+1) (evs E0) _ _ (An HRA2.out hbx hb2) Tryz.underlying52 rfl (Be) (hK _ _ rfl bR)
          ·go_simp;refine(HSN.out wx (HW.out.trans (hbx.mono HW.out.size))).mono ?_;rintro e w2 ⟨rfl,hb2⟩;exact hK _ _ rfl hb2
         ·rintro f w9 hb9 hfin;have hb9:Below wr.heap.size wr w9:=hb9;have S72:f 72=.bool false:=hfin.2.2.2.2.2.2.2.2.2.2.2.2.2.2.2.2.2.2.2.2.2.2.2.2.2.2.2.2.1;clear hfin;simp only[Aw,Bl,Ga,cH,cI,cJ,cK,Nat.reduceBEq,Nat.reduceAdd,cL,cM,cond_true,cond_false];rw[S72];clear S72;have HBN:=Hd (HB.out.trans (hb9.mono HB.out.size));go_wp2_with fail;go_roundg (gk-1);case measure=>have:=HR.out;omega
          case rel=>exact⟨r+1,by have:=HR.out;omega,by go_num,HST.out,HBN.out⟩
        |false=>
         have HE:=Hd (HBAD.out (by simp));clear HGOOD HBAD;go_wp2_with fail;refine Jd [eF (.pointer (some ⟨N,2,none⟩)),eF (.slice (some ⟨b1,o1,none⟩) n oc),eF (.int .i64 (r:Nat)),eF (.pointer (some ⟨b1,o1+r*11,none⟩)),eF (.pointer (some ⟨b1,o1+r*11,none⟩)),eF (.int .i64 x1),eF (.pointer (some ⟨N+1,2,none⟩)),eF (.slice (some ⟨b2,o2,none⟩) n oc2),eF (.int .i64 (r:Nat)),eF (.pointer (some ⟨b2,o2+r*11,none⟩)),eF (.pointer (some ⟨b2,o2+r*11,none⟩)),eF (.int .i64 x2),eF (.bool false),eF (.bool false),eF (.pointer (some ⟨N,2,none⟩)),eF (.slice (some ⟨b1,o1,none⟩) n oc),eF (.int .i64 (r:Nat)),eF (.pointer (some ⟨b1,o1+r*11,none⟩)),eF (.pointer (some ⟨b1,o1+r*11+1,none⟩)),eF (.agg #[y0,y1,y2,y3,y4,y5,y6,y7,y8,y9]),eF (.pointer (some ⟨N+1,2,none⟩)),eF (.slice (some ⟨b2,o2,none⟩) n oc2),eF (.int .i64 (r:Nat)),eF (.pointer (some ⟨b2,o2+r*11,none⟩)),eF (.pointer (some ⟨b2,o2+r*11+1,none⟩)),eF (.agg #[z0,z1,z2,z3,z4,z5,z6,z7,z8,z9]),eF (.bool false),eF (.bool true),eF (.bool true)] (by kernel_rfl) (by kernel_rfl) (by kernel_rfl) (kE (kE (kE (kE (kE (kE (kE (kE (kE (kE (kE (kE (kE (kE (kE (kE (kE (kE (kE (kE (kE (kE (kE (kE (kE (kE (kE (kE (kE Aj))))))))))))))))))))))))))))) ?_ ?_
         ·refine gQ ?_ (gQ ?_ (gQ ?_ (gQ ?_ (gQ ?_ (gB ?_ (gQ ?_ (gB ?_ (gQ ?_ (gQ ?_ (gQ ?_ (gB ?_ (gQ ?_ (gQ ?_ (gQ ?_ (gQ ?_ (gQ ?_ (gQ ?_ (gQ ?_ (gB ?_ (gQ ?_ (gB ?_ (gQ ?_ (gQ ?_ (gQ ?_ (gB ?_ (gB ?_ (gQ ?_ (gQ ?_ .nil))))))))))))))))))))))))))));all_goals
           intro a wx hbx ho hf;refine⟨by first|rfl|exact Bj rfl rfl rfl hf.1|exact Bj rfl rfl rfl hf.2.1|exact Bj rfl rfl rfl hf.2.2.1,?_⟩;intro K hK;try have P2:a.tmps[2]?.getD undef=.pointer (some ⟨N,0,none⟩):=ho 2 (by kernel_rfl)
           try have P3:a.tmps[3]?.getD undef=.pointer (some ⟨N+1,0,none⟩):=ho 3 (by kernel_rfl)
           try have P5:a.tmps[5]?.getD undef=.int .i64 (r:Nat):=ho 5 (by kernel_rfl)
           try have E0:=eqn hf.1
           try have E1:=eqn hf.2.1
           try have D0:=(hbx.cell (p:=⟨N,2,none⟩) hNl).trans c2
           try(refine Hd ?_;go_simp;exact hK _ rfl)
          ·have d1:=(hbx.cell (p:=⟨b1,o1+r*11,none⟩) hb1).trans cx1;go_simp;exact hK _ _ rfl bR
          ·have d1:=(hbx.cell (p:=⟨N+1,2,none⟩) hNl2).trans e2;go_simp;exact hK _ _ rfl bR
          ·have d1:=(hbx.cell (p:=⟨b2,o2+r*11,none⟩) hb2).trans cx2;go_simp;exact hK _ _ rfl bR
          ·exact wp_load_mid 52 (.tmp 62) rfl b1 (o1+r*11+1) (evs E0) _ _ (An HRA1.out hbx hb1) Tryz.underlying52 rfl (Be) (hK _ _ rfl bR)
          ·have d1:=(hbx.cell (p:=⟨N+1,2,none⟩) hNl2).trans e2;go_simp;exact hK _ _ rfl bR
          ·exact wp_load_mid 52 (.tmp 68) rfl b2 (o2+r*11+1) (evs E0) _ _ (An HRA2.out hbx hb2) Tryz.underlying52 rfl (Be) (hK _ _ rfl bR)
          ·go_simp;refine(HSN.out wx (HW.out.trans (hbx.mono HW.out.size))).mono ?_;rintro e w2 ⟨rfl,hb2⟩;exact hK _ _ rfl hb2
         ·rintro f w9 hb9 hfin;have hb9:Below wr.heap.size wr w9:=hb9;have S72:f 72=.bool true:=hfin.2.2.2.2.2.2.2.2.2.2.2.2.2.2.2.2.2.2.2.2.2.2.2.2.2.2.2.2.1;clear hfin;simp only[Aw,Bl,Ga,cH,cI,cJ,cK,Nat.reduceBEq,Nat.reduceAdd,cL,cM,cond_true,cond_false];rw[S72];clear S72;have HBN:=Hd (HW.out.trans (hb9.mono HW.out.size));go_wp2_with fail;go_ret;exact⟨Dg HE.out,HBN.out⟩
       ·have hx':(x1 !=x2)=true:=(by simp[hx]);have HE:=Hd (HBAD.out (by rw[decide_eq_false hx];rfl));clear hx HGOOD HBAD;go_wp2_with fail;refine Jd [eF (.pointer (some ⟨N,2,none⟩)),eF (.slice (some ⟨b1,o1,none⟩) n oc),eF (.int .i64 (r:Nat)),eF (.pointer (some ⟨b1,o1+r*11,none⟩)),eF (.pointer (some ⟨b1,o1+r*11,none⟩)),eF (.int .i64 x1),eF (.pointer (some ⟨N+1,2,none⟩)),eF (.slice (some ⟨b2,o2,none⟩) n oc2),eF (.int .i64 (r:Nat)),eF (.pointer (some ⟨b2,o2+r*11,none⟩)),eF (.pointer (some ⟨b2,o2+r*11,none⟩)),eF (.int .i64 x2),eF (.bool true),eF (.bool true),eF undef,eF undef,eF undef,eF undef,eF undef,eF undef,eF undef,eF undef,eF undef,eF undef,eF undef,eF undef,eF undef,eF undef,eF (.bool true)] (by kernel_rfl) (by kernel_rfl) (by kernel_rfl) (kE (kE (kE (kE (kE (kE (kE (kE (kE (kE (kE (kE (kE (kE (kE (kE (kE (kE (kE (kE (kE (kE (kE (kE (kE (kE (kE (kE (kE Aj))))))))))))))))))))))))))))) ?_ ?_
        ·refine gQ ?_ (gQ ?_ (gQ ?_ (gQ ?_ (gQ ?_ (gB ?_ (gQ ?_ (gB ?_ (gQ ?_ (gQ ?_ (gQ ?_ (gB ?_ (gQ ?_ (gQ ?_ (fO rfl rfl rfl rfl rfl rfl (fun _ _ hf=>hf.1) rfl (fO rfl rfl rfl rfl rfl rfl (fun _ _ hf=>hf.2.1) rfl (fO rfl rfl rfl rfl rfl rfl (fun _ _ hf=>hf.1) rfl (fO rfl rfl rfl rfl rfl rfl (fun _ _ hf=>hf.2.2.1) rfl (fO rfl rfl rfl rfl rfl rfl (fun _ _ hf=>hf.2.1) rfl (fO rfl rfl rfl rfl rfl rfl (fun _ _ hf=>hf.2.1) rfl (fO rfl rfl rfl rfl rfl rfl (fun _ _ hf=>hf.1) rfl (fO rfl rfl rfl rfl rfl rfl (fun _ _ hf=>hf.2.1) rfl (fO rfl rfl rfl rfl rfl rfl (fun _ _ hf=>hf.1) rfl (fO rfl rfl rfl rfl rfl rfl (fun _ _ hf=>hf.2.2.1) rfl (fO rfl rfl rfl rfl rfl rfl (fun _ _ hf=>hf.2.1) rfl (fO rfl rfl rfl rfl rfl rfl (fun _ _ hf=>hf.2.1) rfl (fO rfl rfl rfl rfl rfl rfl (fun _ _ hf=>hf.2.2.1) rfl (fO rfl rfl rfl rfl rfl rfl (fun _ _ hf=>hf.2.1) rfl (gQ ?_ .nil))))))))))))))))))))))))))));all_goals
          intro a wx hbx ho hf;refine⟨rfl,?_⟩;intro K hK;try have P2:a.tmps[2]?.getD undef=.pointer (some ⟨N,0,none⟩):=ho 2 (by kernel_rfl)
          try have P3:a.tmps[3]?.getD undef=.pointer (some ⟨N+1,0,none⟩):=ho 3 (by kernel_rfl)
          try have P5:a.tmps[5]?.getD undef=.int .i64 (r:Nat):=ho 5 (by kernel_rfl)
          try have E0:=eqn hf.1
          try have E1:=eqn hf.2.1
          try have D0:=(hbx.cell (p:=⟨N,2,none⟩) hNl).trans c2
          try(refine Hd ?_;go_simp;exact hK _ rfl)
         ·have d1:=(hbx.cell (p:=⟨b1,o1+r*11,none⟩) hb1).trans cx1;go_simp;exact hK _ _ rfl bR
         ·have d1:=(hbx.cell (p:=⟨N+1,2,none⟩) hNl2).trans e2;go_simp;exact hK _ _ rfl bR
         ·have d1:=(hbx.cell (p:=⟨b2,o2+r*11,none⟩) hb2).trans cx2;go_simp;exact hK _ _ rfl bR
        ·rintro f w9 hb9 hfin;have hb9:Below wr.heap.size wr w9:=hb9;have S72:f 72=.bool true:=hfin.2.2.2.2.2.2.2.2.2.2.2.2.2.2.2.2.2.2.2.2.2.2.2.2.2.2.2.2.1;clear hfin;simp only[Aw,Bl,Ga,cH,cI,cJ,cK,Nat.reduceBEq,Nat.reduceAdd,cL,cM,cond_true,cond_false];rw[S72];clear S72;have HBN:=Hd (HW.out.trans (hb9.mono HW.out.size));go_wp2_with fail;go_ret;exact⟨Dg HE.out,HBN.out⟩
      ·obtain rfl:r=n:=(by have:=HR.out;omega);have hlt':decide (r<r)=false:=decide_eq_false hlt;obtain⟨wo,rfl⟩:∃wo:World,wo=wr:=⟨_,rfl⟩;have HWO:=Hd HW.out;have HAO:=Hd HA1.out;have HCO:=Hd HC1.out;have HALO:=Hd HALL.out;clear hlt;go_wp2_with fail;clear c2 c3 e2 e3 hNl hNl2
       go_loopg [6] m (fun q iv wr=>∃k:Nat,k+q=m∧iv=.int .i64 (k:Nat)∧(∀i,i<k→(decide ((stb s.sh i).1=(stb t.sh i).1)&&decide ((stb s.sh i).2=(stb t.sh i).2))=true)∧Below wo.heap.size wo wr)
       case atStart=>exact⟨0,by omega,rfl,fun i hi=>by omega,bR⟩
       case round=>
        obtain⟨k,hr,rfl,hall,hb⟩:=hrel;have HR:=Hd hr;have HALL:=Hd hall;have HB:=Hd hb;have HW:=Hd (HWO.out.trans (hb.mono HWO.out.size));have HA1:=Hd (HAO.out.below hb HAO.out.lt);have HC1:=Hd (HCO.out.below hb HCO.out.lt);have c3:=HA1.out.cell 3;have e3:=HC1.out.cell 3;simp only[bK,bL,bM]at c3 e3;have hNl:N<wr.heap.size:=HA1.out.lt;have hNl2:N+1<wr.heap.size:=HC1.out.lt;clear hr hall hb
        by_cases hlt:k<m
        ·have hlt':decide (k<m)=true:=decide_eq_true hlt;have hltI:(k:Int)<(m:Int):=(by omega);obtain⟨b1,o1,y,rfl,hb1,hn1,hr1⟩:=HG2.out k hlt;obtain⟨b2,o2,z,rfl,hb2,hn2,hr2⟩:=HK2.out k hlt;have cx1:=(HW.out.cell (p:=⟨b1,o1+k*2,none⟩) hb1).trans (Cd hr1);have cx2:=(HW.out.cell (p:=⟨b2,o2+k*2,none⟩) hb2).trans (Cd hr2);have cu1:=(HW.out.cell (p:=⟨b1,o1+k*2+1,none⟩) hb1).trans (Cd (Dq hr1));have cu2:=(HW.out.cell (p:=⟨b2,o2+k*2+1,none⟩) hb2).trans (Cd (Dq hr2));have HSN:=Hd fun(W:World) (hw:Below w.heap.size w W)=>We y z _ _ W (hn1.below hw lR) (hn2.below hw lR) (HM1.out k hlt) (HM2.out k hlt);obtain⟨u1,v1,t1,rfl⟩:∃a n c,y=.slice a n c:=(by obtain⟨a,c,e,_⟩:=hn1;exact⟨_,_,_,e⟩);obtain⟨u2,v2,t2,rfl⟩:∃a n c,z=.slice a n c:=(by obtain⟨a,c,e,_⟩:=hn2;exact⟨_,_,_,e⟩);have hb1:b1<wr.heap.size:=dH hb1 HW.out.size;have hb2:b2<wr.heap.size:=dH hb2 HW.out.size;have HBAD:=Hd (fun hp=>HNH.out k hlt hp);have HGOOD:=Hd (fun(hp:(decide ((stb s.sh k).1=(stb t.sh k).1)&&decide ((stb s.sh k).2=(stb t.sh k).2))=true)=>(show∀i,i<k+1→(decide ((stb s.sh i).1=(stb t.sh i).1)&&decide ((stb s.sh i).2=(stb t.sh i).2))=true from fun i hi=>by
          by_cases e:i=k
          ·rw[e];exact hp
          ·exact HALL.out i (by omega)))
         obtain⟨x1,hx1⟩:=eX ((stb s.sh k).1);obtain⟨x2,hx2⟩:=eX ((stb t.sh k).1);obtain⟨sb,hsb⟩:=eX (decide ((stb s.sh k).2=(stb t.sh k).2));rw[←hx1]at cx1;rw[←hx2]at cx2;rw[←hsb]at HSN;rw[←hx1,←hx2,←hsb]at HBAD HGOOD;clear hx1 hx2 hsb hr1 hr2 hn1 hn2
         by_cases hx:x1=x2
         ·have hx':(x1 !=x2)=false:=(by simp[hx]);have HX:=Hd hx;clear hx;cases sb with
          |true=>
           have HST:=Hd (HGOOD.out (by rw[decide_eq_true HX.out];rfl));clear HGOOD HBAD;go_wp2_with fail;refine Jd [eF (.pointer (some ⟨N,3,none⟩)),eF (.slice (some ⟨b1,o1,none⟩) m gc),eF (.int .i64 (k:Nat)),eF (.pointer (some ⟨b1,o1+k*2,none⟩)),eF (.pointer (some ⟨b1,o1+k*2,none⟩)),eF (.int .i64 x1),eF (.pointer (some ⟨N+1,3,none⟩)),eF (.slice (some ⟨b2,o2,none⟩) m gc2),eF (.int .i64 (k:Nat)),eF (.pointer (some ⟨b2,o2+k*2,none⟩)),eF (.pointer (some ⟨b2,o2+k*2,none⟩)),eF (.int .i64 x2),eF (.bool false),eF (.bool false),eF (.pointer (some ⟨N,3,none⟩)),eF (.slice (some ⟨b1,o1,none⟩) m gc),eF (.int .i64 (k:Nat)),eF (.pointer (some ⟨b1,o1+k*2,none⟩)),eF (.pointer (some ⟨b1,o1+k*2+1,none⟩)),eF (.slice u1 v1 t1),eF (.pointer (some ⟨N+1,3,none⟩)),eF (.slice (some ⟨b2,o2,none⟩) m gc2),eF (.int .i64 (k:Nat)),eF (.pointer (some ⟨b2,o2+k*2,none⟩)),eF (.pointer (some ⟨b2,o2+k*2+1,none⟩)),eF (.slice u2 v2 t2),eF (.bool true),eF (.bool false),eF (.bool false)] (by kernel_rfl) (by kernel_rfl) (by kernel_rfl) (kE (kE (kE (kE (kE (kE (kE (kE (kE (kE (kE (kE (kE (kE (kE (kE (kE (kE (kE (kE (kE (kE (kE (kE (kE (kE (kE (kE (kE Aj))))))))))))))))))))))))))))) ?_ ?_
           ·refine gQ ?_ (gQ ?_ (gQ ?_ (gQ ?_ (gQ ?_ (gB ?_ (gQ ?_ (gB ?_ (gQ ?_ (gQ ?_ (gQ ?_ (gB ?_ (gQ ?_ (gQ ?_ (gQ ?_ (gQ ?_ (gQ ?_ (gQ ?_ (gQ ?_ (gB ?_ (gQ ?_ (gB ?_ (gQ ?_ (gQ ?_ (gQ ?_ (gB ?_ (gB ?_ (gQ ?_ (gQ ?_ .nil))))))))))))))))))))))))))));all_goals
             intro a wx hbx ho hf;refine⟨by first|rfl|exact Bj rfl rfl rfl hf.1|exact Bj rfl rfl rfl hf.2.1|exact Bj rfl rfl rfl hf.2.2.1,?_⟩;intro K hK;try have P2:a.tmps[2]?.getD undef=.pointer (some ⟨N,0,none⟩):=ho 2 (by kernel_rfl)
             try have P3:a.tmps[3]?.getD undef=.pointer (some ⟨N+1,0,none⟩):=ho 3 (by kernel_rfl)
             try have P6:a.tmps[6]?.getD undef=.int .i64 (k:Nat):=ho 6 (by kernel_rfl)
             try have E0:=eqn hf.1
             try have E1:=eqn hf.2.1
             try have D0:=(hbx.cell (p:=⟨N,3,none⟩) hNl).trans c3
             try(refine Hd ?_;go_simp;exact hK _ rfl)
            ·have d1:=(hbx.cell (p:=⟨b1,o1+k*2,none⟩) hb1).trans cx1;go_simp;exact hK _ _ rfl bR
            ·have d1:=(hbx.cell (p:=⟨N+1,3,none⟩) hNl2).trans e3;go_simp;exact hK _ _ rfl bR
            ·have d1:=(hbx.cell (p:=⟨b2,o2+k*2,none⟩) hb2).trans cx2;go_simp;exact hK _ _ rfl bR
            ·have d1:=(hbx.cell (p:=⟨b1,o1+k*2+1,none⟩) hb1).trans cu1;go_simp;exact hK _ _ rfl bR
            ·have d1:=(hbx.cell (p:=⟨N+1,3,none⟩) hNl2).trans e3;go_simp;exact hK _ _ rfl bR
            ·have d1:=(hbx.cell (p:=⟨b2,o2+k*2+1,none⟩) hb2).trans cu2;go_simp;exact hK _ _ rfl bR
            ·go_simp;refine(HSN.out wx (HW.out.trans (hbx.mono HW.out.size))).mono ?_;rintro e w2 ⟨rfl,n9,rfl⟩;exact hK _ _ rfl (Ac bR _)
           ·rintro f w9 hb9 hfin;have hb9:Below wr.heap.size wr w9:=hb9;have S108:f 108=.bool false:=hfin.2.2.2.2.2.2.2.2.2.2.2.2.2.2.2.2.2.2.2.2.2.2.2.2.2.2.2.2.1;clear hfin;simp only[Aw,Bl,Ga,cH,cI,cJ,cK,Nat.reduceBEq,Nat.reduceAdd,cL,cM,cond_true,cond_false];rw[S108];clear S108;have HBN:=Hd (HB.out.trans (hb9.mono HB.out.size));go_wp2_with fail;go_roundg (gk-1);case measure=>have:=HR.out;omega
            case rel=>exact⟨k+1,by have:=HR.out;omega,by go_num,HST.out,HBN.out⟩
          |false=>
           have HE:=Hd (HBAD.out (by simp));clear HGOOD HBAD;go_wp2_with fail;refine Jd [eF (.pointer (some ⟨N,3,none⟩)),eF (.slice (some ⟨b1,o1,none⟩) m gc),eF (.int .i64 (k:Nat)),eF (.pointer (some ⟨b1,o1+k*2,none⟩)),eF (.pointer (some ⟨b1,o1+k*2,none⟩)),eF (.int .i64 x1),eF (.pointer (some ⟨N+1,3,none⟩)),eF (.slice (some ⟨b2,o2,none⟩) m gc2),eF (.int .i64 (k:Nat)),eF (.pointer (some ⟨b2,o2+k*2,none⟩)),eF (.pointer (some ⟨b2,o2+k*2,none⟩)),eF (.int .i64 x2),eF (.bool false),eF (.bool false),eF (.pointer (some ⟨N,3,none⟩)),eF (.slice (some ⟨b1,o1,none⟩) m gc),eF (.int .i64 (k:Nat)),eF (.pointer (some ⟨b1,o1+k*2,none⟩)),eF (.pointer (some ⟨b1,o1+k*2+1,none⟩)),eF (.slice u1 v1 t1),eF (.pointer (some ⟨N+1,3,none⟩)),eF (.slice (some ⟨b2,o2,none⟩) m gc2),eF (.int .i64 (k:Nat)),eF (.pointer (some ⟨b2,o2+k*2,none⟩)),eF (.pointer (some ⟨b2,o2+k*2+1,none⟩)),eF (.slice u2 v2 t2),eF (.bool false),eF (.bool true),eF (.bool true)] (by kernel_rfl) (by kernel_rfl) (by kernel_rfl) (kE (kE (kE (kE (kE (kE (kE (kE (kE (kE (kE (kE (kE (kE (kE (kE (kE (kE (kE (kE (kE (kE (kE (kE (kE (kE (kE (kE (kE Aj))))))))))))))))))))))))))))) ?_ ?_
           ·refine gQ ?_ (gQ ?_ (gQ ?_ (gQ ?_ (gQ ?_ (gB ?_ (gQ ?_ (gB ?_ (gQ ?_ (gQ ?_ (gQ ?_ (gB ?_ (gQ ?_ (gQ ?_ (gQ ?_ (gQ ?_ (gQ ?_ (gQ ?_ (gQ ?_ (gB ?_ (gQ ?_ (gB ?_ (gQ ?_ (gQ ?_ (gQ ?_ (gB ?_ (gB ?_ (gQ ?_ (gQ ?_ .nil))))))))))))))))))))))))))));all_goals
             intro a wx hbx ho hf;refine⟨by first|rfl|exact Bj rfl rfl rfl hf.1|exact Bj rfl rfl rfl hf.2.1|exact Bj rfl rfl rfl hf.2.2.1,?_⟩;intro K hK;try have P2:a.tmps[2]?.getD undef=.pointer (some ⟨N,0,none⟩):=ho 2 (by kernel_rfl)
             try have P3:a.tmps[3]?.getD undef=.pointer (some ⟨N+1,0,none⟩):=ho 3 (by kernel_rfl)
             try have P6:a.tmps[6]?.getD undef=.int .i64 (k:Nat):=ho 6 (by kernel_rfl)
             try have E0:=eqn hf.1
             try have E1:=eqn hf.2.1
             try have D0:=(hbx.cell (p:=⟨N,3,none⟩) hNl).trans c3
             try(refine Hd ?_;go_simp;exact hK _ rfl)
            ·have d1:=(hbx.cell (p:=⟨b1,o1+k*2,none⟩) hb1).trans cx1;go_simp;exact hK _ _ rfl bR
            ·have d1:=(hbx.cell (p:=⟨N+1,3,none⟩) hNl2).trans e3;go_simp;exact hK _ _ rfl bR
            ·have d1:=(hbx.cell (p:=⟨b2,o2+k*2,none⟩) hb2).trans cx2;go_simp;exact hK _ _ rfl bR
            ·have d1:=(hbx.cell (p:=⟨b1,o1+k*2+1,none⟩) hb1).trans cu1;go_simp;exact hK _ _ rfl bR
            ·have d1:=(hbx.cell (p:=⟨N+1,3,none⟩) hNl2).trans e3;go_simp;exact hK _ _ rfl bR
            ·have d1:=(hbx.cell (p:=⟨b2,o2+k*2+1,none⟩) hb2).trans cu2;go_simp;exact hK _ _ rfl bR
            ·go_simp;refine(HSN.out wx (HW.out.trans (hbx.mono HW.out.size))).mono ?_;rintro e w2 ⟨rfl,n9,rfl⟩;exact hK _ _ rfl (Ac bR _)
           ·rintro f w9 hb9 hfin;have hb9:Below wr.heap.size wr w9:=hb9;have S108:f 108=.bool true:=hfin.2.2.2.2.2.2.2.2.2.2.2.2.2.2.2.2.2.2.2.2.2.2.2.2.2.2.2.2.1;clear hfin;simp only[Aw,Bl,Ga,cH,cI,cJ,cK,Nat.reduceBEq,Nat.reduceAdd,cL,cM,cond_true,cond_false];rw[S108];clear S108;have HBN:=Hd (HW.out.trans (hb9.mono HW.out.size));go_wp2_with fail;go_ret;exact⟨Dg HE.out,HBN.out⟩
         ·have hx':(x1 !=x2)=true:=(by simp[hx]);have HE:=Hd (HBAD.out (by rw[decide_eq_false hx];rfl));clear hx HGOOD HBAD;go_wp2_with fail;refine Jd [eF (.pointer (some ⟨N,3,none⟩)),eF (.slice (some ⟨b1,o1,none⟩) m gc),eF (.int .i64 (k:Nat)),eF (.pointer (some ⟨b1,o1+k*2,none⟩)),eF (.pointer (some ⟨b1,o1+k*2,none⟩)),eF (.int .i64 x1),eF (.pointer (some ⟨N+1,3,none⟩)),eF (.slice (some ⟨b2,o2,none⟩) m gc2),eF (.int .i64 (k:Nat)),eF (.pointer (some ⟨b2,o2+k*2,none⟩)),eF (.pointer (some ⟨b2,o2+k*2,none⟩)),eF (.int .i64 x2),eF (.bool true),eF (.bool true),eF undef,eF undef,eF undef,eF undef,eF undef,eF undef,eF undef,eF undef,eF undef,eF undef,eF undef,eF undef,eF undef,eF undef,eF (.bool true)] (by kernel_rfl) (by kernel_rfl) (by kernel_rfl) (kE (kE (kE (kE (kE (kE (kE (kE (kE (kE (kE (kE (kE (kE (kE (kE (kE (kE (kE (kE (kE (kE (kE (kE (kE (kE (kE (kE (kE Aj))))))))))))))))))))))))))))) ?_ ?_
          ·refine gQ ?_ (gQ ?_ (gQ ?_ (gQ ?_ (gQ ?_ (gB ?_ (gQ ?_ (gB ?_ (gQ ?_ (gQ ?_ (gQ ?_ (gB ?_ (gQ ?_ (gQ ?_ (fO rfl rfl rfl rfl rfl rfl (fun _ _ hf=>hf.1) rfl (fO rfl rfl rfl rfl rfl rfl (fun _ _ hf=>hf.2.1) rfl (fO rfl rfl rfl rfl rfl rfl (fun _ _ hf=>hf.1) rfl (fO rfl rfl rfl rfl rfl rfl (fun _ _ hf=>hf.2.2.1) rfl (fO rfl rfl rfl rfl rfl rfl (fun _ _ hf=>hf.2.1) rfl (fO rfl rfl rfl rfl rfl rfl (fun _ _ hf=>hf.2.1) rfl (fO rfl rfl rfl rfl rfl rfl (fun _ _ hf=>hf.1) rfl (fO rfl rfl rfl rfl rfl rfl (fun _ _ hf=>hf.2.1) rfl (fO rfl rfl rfl rfl rfl rfl (fun _ _ hf=>hf.1) rfl (fO rfl rfl rfl rfl rfl rfl (fun _ _ hf=>hf.2.2.1) rfl (fO rfl rfl rfl rfl rfl rfl (fun _ _ hf=>hf.2.1) rfl (fO rfl rfl rfl rfl rfl rfl (fun _ _ hf=>hf.2.1) rfl (fO rfl rfl rfl rfl rfl rfl (fun _ _ hf=>hf.2.2.1) rfl (fO rfl rfl rfl rfl rfl rfl (fun _ _ hf=>hf.2.1) rfl (gQ ?_ .nil))))))))))))))))))))))))))));all_goals
            intro a wx hbx ho hf;refine⟨rfl,?_⟩;intro K hK;try have P2:a.tmps[2]?.getD undef=.pointer (some ⟨N,0,none⟩):=ho 2 (by kernel_rfl)
            try have P3:a.tmps[3]?.getD undef=.pointer (some ⟨N+1,0,none⟩):=ho 3 (by kernel_rfl)
            try have P6:a.tmps[6]?.getD undef=.int .i64 (k:Nat):=ho 6 (by kernel_rfl)
            try have E0:=eqn hf.1
            try have E1:=eqn hf.2.1
            try have D0:=(hbx.cell (p:=⟨N,3,none⟩) hNl).trans c3
            try(refine Hd ?_;go_simp;exact hK _ rfl)
           ·have d1:=(hbx.cell (p:=⟨b1,o1+k*2,none⟩) hb1).trans cx1;go_simp;exact hK _ _ rfl bR
           ·have d1:=(hbx.cell (p:=⟨N+1,3,none⟩) hNl2).trans e3;go_simp;exact hK _ _ rfl bR
           ·have d1:=(hbx.cell (p:=⟨b2,o2+k*2,none⟩) hb2).trans cx2;go_simp;exact hK _ _ rfl bR
          ·rintro f w9 hb9 hfin;have hb9:Below wr.heap.size wr w9:=hb9;have S108:f 108=.bool true:=hfin.2.2.2.2.2.2.2.2.2.2.2.2.2.2.2.2.2.2.2.2.2.2.2.2.2.2.2.2.1;clear hfin;simp only[Aw,Bl,Ga,cH,cI,cJ,cK,Nat.reduceBEq,Nat.reduceAdd,cL,cM,cond_true,cond_false];rw[S108];clear S108;have HBN:=Hd (HW.out.trans (hb9.mono HW.out.size));go_wp2_with fail;go_ret;exact⟨Dg HE.out,HBN.out⟩
        ·obtain rfl:k=m:=(by have:=HR.out;omega);have hlt':decide (k<k)=false:=decide_eq_false hlt;have HE:=Hd (HY.out HALO.out HALL.out);clear hlt;go_wp2_with fail;go_ret;exact⟨Dg HE.out,HW.out⟩
    ·have q4':((m:Int) !=(m2:Int))=true:=(by simp;omega);have HE:=Hd (HNO.out fun h=>q4 h.2.2.2);clear q4;go_enter Tryz.func24,Tryz.ntmps24;go_wp2_with fail;rw[←HH.out,←HWE.out];go_wp2_with fail;go_ret;exact⟨Dg HE.out,by rw[HH.out];exact HB1.out⟩
   ·have q3':((n:Int) !=(n2:Int))=true:=(by simp;omega);have HE:=Hd (HNO.out fun h=>q3 h.2.2.1);clear q3;go_enter Tryz.func24,Tryz.ntmps24;go_wp2_with fail;rw[←HH.out,←HWE.out];go_wp2_with fail;go_ret;exact⟨Dg HE.out,by rw[HH.out];exact HB1.out⟩
  ·have q2':(ow !=ow2)=true:=(by simp[q2]);have HE:=Hd (HNO.out fun h=>q2 h.2.1);clear q2;go_enter Tryz.func24,Tryz.ntmps24;go_wp2_with fail;rw[←HH.out,←HWE.out];go_wp2_with fail;go_ret;exact⟨Dg HE.out,by rw[HH.out];exact HB1.out⟩
 ·have q1':(lv !=lv2)=true:=(by simp[q1]);have HE:=Hd (HNO.out fun h=>q1 h.1);clear q1;go_enter Tryz.func24,Tryz.ntmps24;go_wp2_with fail;rw[←HH.out,←HWE.out];go_wp2_with fail;go_ret;exact⟨Dg HE.out,by rw[HH.out];exact HB1.out⟩
end Go.Proofs.YtfofaiommeckbaaGreat
