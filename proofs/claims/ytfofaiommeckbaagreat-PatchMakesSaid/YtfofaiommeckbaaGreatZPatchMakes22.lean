/- Walks: the document's has, Find, sorted, places. -/
import Derived.Test.YtfofaiommeckbaaGreatZPatchMakesB
import Derived.Test.YtfofaiommeckbaaGreatZPatchMakes21
open List renaming getD_eq_getElem?_getD → aH, getElem?_eq_getElem → aI, getElem_of_mem → eB, length_take → eC, take_append_drop → eD, pairwise_append → eE, append_assoc → bQ, singleton_append → eG, map_drop → eH, take_succ_eq_append_getElem → bJ, take_length → eI, map_take → eJ, getElem?_toArray → bN, getElem?_cons_zero → bO, getElem?_cons_succ → bP
set_option linter.unusedVariables false
set_option maxRecDepth 100000
set_option maxHeartbeats 40000000
namespace Go.Proofs.YtfofaiommeckbaaGreat
open Go.RowKit WalkM WireM
theorem Bo (v:Value)(L:List Int)(x:Int)(w:World)(h:Rd w v (ivs .i64 L)):
  Calls Tryz.prog 138 #[v,.int .i64 x] w fun e w'=>e=.returned (.bool (decide (x∈L)))∧w'=w:=by
 have hv:∃a c,v=.slice a L.length c∧c≤maxLen∧L.length≤c:=(by obtain⟨a,c,e,h1,h2,_⟩:=h;exact⟨a,c,by rw[e];simp[ivs],h2,by simpa [ivs]using h1⟩);obtain⟨a,c,rfl,hcm,hlc⟩:=hv;have G:=fun(i:Nat) (hi:i<L.length)=>h.at3 (u:=.int .i64 (L.getD i 0)) (r:=i) (by simp[ivs,aH,hi]);have M1:=fun(i:Nat) (hi:i<L.length) (e:L.getD i 0=x)=>(show decide (x∈L)=true from decide_eq_true (by
  rw[aH,aI hi]at e;have:L[i]=x:=e;rw[←this];exact List.getElem_mem hi))
 have M2:=fun(hno:∀i,i<L.length→L.getD i 0≠x)=>(show decide (x∈L)=false from decide_eq_false (fun hm=>by
  obtain⟨i,hi,e⟩:=eB hm;exact hno i hi (by rw[aH,aI hi];exact e)))
 obtain⟨n,hn⟩:=eX L.length;obtain⟨R,hR⟩:=eX (decide (x∈L));rw[←hn]at G M1 M2 hlc⊢;rw[←hR]at M1 M2⊢;have hnm:n≤9223372036854775807:=(by unfold maxLen at hcm;omega);have HG:=Hd G;have HM1:=Hd M1;have HM2:=Hd M2;clear G M1 M2 h hn hR hcm;go_enter Tryz.func138,Tryz.ntmps138;go_wp2_with fail
 go_loopg [5] n (fun q iv wr=>∃r:Nat,r+q=n∧iv=.int .i64 (r:Nat)∧(∀i,i<r→L.getD i 0≠x)∧wr=w)
 case atStart=>exact⟨0,by omega,rfl,fun k hk=>by omega,rfl⟩
 case round=>
  obtain⟨r,hr,rfl,hno,rfl⟩:=hrel;have HR:=Hd hr;have HNO:=Hd hno;clear hr hno
  by_cases hlt:r<n
  ·have hlt':decide (r<n)=true:=decide_eq_true hlt;obtain⟨b,off,rfl,hbl,hcell⟩:=HG.out r hlt;obtain⟨y,hy⟩:=eX (L.getD r 0);rw[←hy]at hcell;have HY:=Hd hy;clear hy
   by_cases he:y=x
   ·have hq:(y==x)=true:=(by rw[beq_iff_eq];exact he);have HE:=Hd he;clear he;go_wp2_with fail;go_ret;exact⟨Ek (HM1.out r hlt (by rw[←HY.out];exact HE.out)),rfl⟩
   ·have hq:(y==x)=false:=(by rw[beq_eq_false_iff_ne];exact he);have HE:=Hd he;clear he;go_wp2_with fail;go_roundg (gk-1);case measure=>have:=HR.out;omega
    case rel=>
     refine⟨r+1,by have:=HR.out;omega,by go_num,fun i hi=> ?_,rfl⟩
     by_cases e:i=r
     ·rw[e,←HY.out];exact HE.out
     ·exact HNO.out i (by omega)
  ·obtain rfl:r=n:=(by have:=HR.out;omega);have hlt':decide (r<r)=false:=decide_eq_false hlt;go_wp2_with fail;go_ret;exact⟨Ek (HM2.out HNO.out),rfl⟩
def Ah:List (Int×NodeD)→Int→Option NodeD
 |[],_=>none
 |p::l,x=>if p.1=x then some p.2 else Ah l x
theorem Pc {l:List (Int×NodeD)} {x:Int}:∀ {r:Nat},r<l.length→(∀i,i<r→(spt l i).1≠x)→(spt l r).1=x→Ah l x=some (spt l r).2:=by
 induction l with
 |nil=>intro r hr;simp at hr
 |cons p l ih=>
  intro r hr hno he;cases r with
  |zero=>have e:p.1=x:=he;rw[Ah,if_pos e];rfl
  |succ r=>
   have h0:p.1≠x:=hno 0 (by omega);rw[Ah,if_neg h0];exact ih (r:=r) (by simpa using hr) (fun i hi=>hno (i+1) (by omega)) he
theorem Nk {l:List (Int×NodeD)} {x:Int}:(∀i,i<l.length→(spt l i).1≠x)→Ah l x=none:=by
 induction l with
 |nil=>intro _;rfl
 |cons p l ih=>
  intro h;rw[Ah,if_neg (show¬p.1=x from h 0 (by simp))];exact ih fun i hi=>h (i+1) (by simp;omega)
theorem Bu {l:List (Int×NodeD)} {x:Int} {d:NodeD}(h:Ah l x=some d):(x,d)∈l:=by
 induction l with
 |nil=>cases h
 |cons p l ih=>
  rw[Ah]at h
  split at h
  ·rename_i e
   cases h;rw[←e];exact List.mem_cons_self
  ·exact List.mem_cons_of_mem _ (ih h)
theorem Bv {w:World} {b o:Nat} {u:Value} {cs:List Value}(h:w.rangeAt b o (u::cs)):w.rangeAt b (o+1) cs:=by
 intro j v hv;have:=h (j+1) v (by simpa using hv);rw[show o+1+j=o+(j+1) by omega];exact this
theorem Bf {w:World} {b o:Nat} {u:Value} {cs:List Value}(h:w.rangeAt b o (u::cs)):w.cell? ⟨b,o,none⟩=some u:=by
 have:=h 0 u rfl;simpa using this
theorem NodeC.ten {w:World} {d:NodeD} {c:Array Value}(h:NodeC w d c):∃x0 x1 x2 x3 x4 x5 x6 x7 x8 x9,c=#[x0,x1,x2,x3,x4,x5,x6,x7,x8,x9]:=by
 obtain⟨a1,c1,a2,c2,a3,c3,a4,c4,a5,c5,b1,e1,b2,e2,b3,e3,rfl,_⟩:=h;exact⟨_,_,_,_,_,_,_,_,_,_,rfl⟩
theorem NodeC.oneL {w:World} {d:NodeD} {c:Array Value}(h:NodeC w d c):c.toList.all (·.oneCell')=true:=by rw[Array.all_toList];exact h.one
theorem Bx (v:Value)(l:List (Int×NodeD))(x:Int)(w:World)(h:SpotsR w v l):
  Calls Tryz.prog 29 #[v,.int .i64 x] w fun e w'=>∃c,e=.returned (.tuple #[.agg c,.bool (Ah l x).isSome])∧NodeC w' ((Ah l x).getD Ar) c∧Below w.heap.size w w':=by
 obtain⟨a,cp,rfl,hc,hc2⟩:=h.sl;have G:=fun(i:Nat) (hi:i<l.length)=>h.at hi;have F1:=fun(r:Nat) (hr:r<l.length) (hno:∀i,i<r→(spt l i).1≠x) (he:(spt l r).1=x)=>Pc hr hno he;have F2:=Nk (l:=l) (x:=x);obtain⟨n,hn⟩:=eX l.length;obtain⟨R,hR⟩:=eX (Ah l x);obtain⟨S,hS⟩:∃S:Nat→Int×NodeD,S=spt l:=⟨_,rfl⟩;rw[←hn]at G F1 F2 hc⊢;rw[←hR]at F1 F2⊢;rw[←hS]at G F1 F2;have HG:=Hd G;have HF1:=Hd F1;have HF2:=Hd F2;clear G F1 F2 h hn hR hS;go_enter Tryz.func29,Tryz.ntmps29;go_wp2_with fail;have HBK:=Hd (Blk.new w 52 #[.int .u8 0,.slice none 0 0,.slice none 0 0,.slice none 0 0,.int .u8 0,.slice none 0 0,.slice none 0 0,.slice none 0 0,.slice none 0 0,.slice none 0 0]);have HB:=Hd ((Below.refl w.heap.size w).alloc lR (.cells #[.int .u8 0,.slice none 0 0,.slice none 0 0,.slice none 0 0,.int .u8 0,.slice none 0 0,.slice none 0 0,.slice none 0 0,.slice none 0 0,.slice none 0 0] 52));generalize hw1:w.alloc (.cells #[.int .u8 0,.slice none 0 0,.slice none 0 0,.slice none 0 0,.int .u8 0,.slice none 0 0,.slice none 0 0,.slice none 0 0,.slice none 0 0,.slice none 0 0] 52)=w1 at HBK HB⊢;clear hw1
 go_loopg [6] n (fun q iv wr=>∃r:Nat,r+q=n∧iv=.int .i64 (r:Nat)∧(∀i,i<r→(S i).1≠x)∧wr=w1)
 case atStart=>exact⟨0,by omega,rfl,fun k hk=>by omega,rfl⟩
 case round=>
  obtain⟨r,hr,rfl,hno,rfl⟩:=hrel;have HR:=Hd hr;have HNO:=Hd hno;clear hr hno
  by_cases hlt:r<n
  ·have hlt':decide (r<n)=true:=decide_eq_true hlt;have hltI:(r:Int)<(n:Int):=(by omega);obtain⟨b,off,c,rfl,hbl,hnc,hra⟩:=HG.out r hlt;have hcell:=(HB.out.cell (p:=⟨b,off+r*11,none⟩) hbl).trans (Bf hra);have htl:=Af (Bv hra) HB.out hbl;obtain⟨y,hy⟩:=eX ((S r).1);rw[←hy]at hcell;have HY:=Hd hy;have HNC:=Hd hnc;have HONE:=Hd hnc.oneL;obtain⟨x0,x1,x2,x3,x4,x5,x6,x7,x8,x9,rfl⟩:=hnc.ten;have HRA:=Hd htl;clear hy hra hnc htl
   by_cases he:y=x
   ·have hq:(y==x)=true:=(by rw[beq_iff_eq];exact he);have HE:=Hd he;clear he;go_wp2_with (first|(refine wpList_load_mid rfl 52 (.tmp 23) rfl b (off+r*11+1) rfl [x0,x1,x2,x3,x4,x5,x6,x7,x8,x9] _ HRA.out Tryz.underlying52 rfl Ba ?_)|(refine Ab rfl 52 (.tmp 4) (.tmp 24) rfl w.heap.size #[x0,x1,x2,x3,x4,x5,x6,x7,x8,x9] rfl rfl 52 #[.int .u8 0,.slice none 0 0,.slice none 0 0,.slice none 0 0,.int .u8 0,.slice none 0 0,.slice none 0 0,.slice none 0 0,.slice none 0 0,.slice none 0 0] HBK.out (by kernel_rfl) rfl HONE.out ?_));rintro w3 hblk hbl3 hoth hsize;have HK:=Hd hblk;have HB3:=Hd (HB.out.trans (hbl3 w.heap.size lR));have HN3:=Hd (HNC.out.below HB3.out lR);clear hblk hbl3 hoth hsize;go_wp2_with fail;refine bodyPost_ret (v:=.tuple #[.agg #[x0,x1,x2,x3,x4,x5,x6,x7,x8,x9],.bool true]) (Bi Tryz.results29 _ _ w.heap.size _ _ _ rfl HK.out Tryz.underlying52 rfl (by kernel_rfl)) rfl ?_;have e1:=HF1.out r hlt HNO.out (by rw[←HY.out];exact HE.out);rw[e1];exact⟨_,rfl,HN3.out,HB3.out⟩
   ·have hq:(y==x)=false:=(by rw[beq_eq_false_iff_ne];exact he);have HE:=Hd he;clear he;go_wp2_with fail;go_roundg (gk-1);case measure=>have:=HR.out;omega
    case rel=>
     refine⟨r+1,by have:=HR.out;omega,by go_num,fun i hi=> ?_,rfl⟩
     by_cases e:i=r
     ·rw[e,←HY.out];exact HE.out
     ·exact HNO.out i (by omega)
  ·obtain rfl:r=n:=(by have:=HR.out;omega);have hlt':decide (r<r)=false:=decide_eq_false hlt;go_wp2_with (refine Ab rfl 52 (.tmp 4) (.tmp 25) rfl w.heap.size #[.int .u8 0,.slice none 0 0,.slice none 0 0,.slice none 0 0,.int .u8 0,.slice none 0 0,.slice none 0 0,.slice none 0 0,.slice none 0 0,.slice none 0 0] rfl rfl 52 #[.int .u8 0,.slice none 0 0,.slice none 0 0,.slice none 0 0,.int .u8 0,.slice none 0 0,.slice none 0 0,.slice none 0 0,.slice none 0 0,.slice none 0 0] HBK.out (by kernel_rfl) rfl rfl ?_);rintro w3 hblk hbl3 hoth hsize;have HK:=Hd hblk;have HB3:=Hd (HB.out.trans (hbl3 w.heap.size lR));clear hblk hbl3 hoth hsize;go_wp2_with fail;refine bodyPost_ret (v:=.tuple #[.agg #[.int .u8 0,.slice none 0 0,.slice none 0 0,.slice none 0 0,.int .u8 0,.slice none 0 0,.slice none 0 0,.slice none 0 0,.slice none 0 0,.slice none 0 0],.bool false]) (Bi Tryz.results29 _ _ w.heap.size _ _ _ rfl HK.out Tryz.underlying52 rfl (by kernel_rfl)) rfl ?_;rw[HF2.out HNO.out];exact⟨_,rfl,Ha _,HB3.out⟩
structure InsP (O L:List Int):Prop where
 perm:O.Perm L
 rise:O.Pairwise (· ≤ ·)
theorem Zey {O L:List Int} {x:Int} {k:Nat}(h:InsP O L)(hk:k≤O.length)(h1:∀j,j<k→O.getD j 0<x)(h2:k=O.length∨¬O.getD k 0<x):InsP (O.take k++[x]++O.drop k) (L++[x]):=by
 have lo:∀y∈O.take k,y<x:=by
  intro y hy;obtain⟨j,hj,rfl⟩:=eB hy;rw[eC]at hj;have:=h1 j (by omega);rw[List.getElem_take]
  rwa [aH,aI (by omega)]at this
 have hi:∀y∈O.drop k,x≤y:=by
  intro y hy;obtain⟨j,hj,rfl⟩:=eB hy;rw[List.length_drop]at hj;rw[List.getElem_drop];rcases h2 with h2|h2
  ·omega
  ·rw[aH,aI (show k<O.length by omega)]at h2;have h3:¬O[k]<x:=h2
   by_cases e:j=0
   ·subst e;simp only[Nat.add_zero];omega
   ·have:=List.pairwise_iff_getElem.1 h.rise k (k+j) (by omega) (by omega) (by omega);omega
 have hr:=h.rise;rw[←eD k O,eE]at hr;constructor
 ·rw[bQ,eG];refine List.perm_middle.trans ?_;rw[eD];exact(h.perm.cons x).trans (List.perm_append_comm (l₁:=[x]) (l₂:=L))
 ·rw[bQ,eG,eE];refine⟨hr.1,List.pairwise_cons.2 ⟨hi,hr.2.1⟩,fun a ha b hb=> ?_⟩;rw[List.mem_cons]at hb;rcases hb with rfl|hb
  ·have:=lo a ha;omega
  ·exact hr.2.2 a ha b hb
theorem Zr {O L:List Int}(h:InsP O L):Du L=O:=by
 have hp:(Du L).Perm O:=(List.mergeSort_perm L _).trans h.perm.symm;have hs:(Du L).Pairwise fun a b=>decide (a≤b)=true:=List.pairwise_mergeSort (fun a b c h1 h2=>by simp at*;omega) (fun a b=>by simp;omega) L;have hm:O.Pairwise fun a b=>decide (a≤b)=true:=h.rise.imp fun h=>(by simpa using h);refine List.Perm.eq_of_pairwise (le:=fun a b=>decide (a≤b)=true) ?_ hs hm hp;intro a b _ _ h3 h4;simp at h3 h4;omega
theorem Nl {w:World} {v:Value} {xs:List Value}(h:Rd w v xs) {T:TypeId}(ht:Tryz.prog.underlying T=some (.slice (Tryz.prog.elem T)))(hs:∀w,(sizeOf (Tryz.prog.elem T)).run Tryz.prog w=.ok 1 w) {k:Nat}(hk:k≤xs.length):
  ∃a n c,(∀w',(Instr.sliceAt T v (some (.int .i64 (k:Nat))) none none).run Tryz.prog w'=.ok (.slice a n c) w')∧∀w',Rd w' v xs→Rd w' (.slice a n c) (xs.drop k):=by
 obtain⟨a,cap,rfl,h1,h2,_⟩:=h;refine⟨if cap=k then a else a.map (·.add (k*1)),xs.length-k,cap-k,fun w'=> ?_,fun w' hr=> ?_⟩
 ·rw[run_sliceAt_slice (h:=ht),run_slice_l (ht:=ht) (h0:=by omega) (h1:=by omega),hs]
  rfl
 ·obtain⟨a',cap',e,h3,h4,h5⟩:=hr;simp only[Value.slice.injEq]at e;obtain⟨rfl,-,rfl⟩:=e;have el:(xs.drop k).length=xs.length-k:=(by simp);refine⟨_,cap-k,by rw[el],by rw[el];omega,by omega,?_⟩
  by_cases e0:xs.length=k
  ·left
   refine⟨List.drop_eq_nil_of_le (by omega),?_⟩
   split
   ·rename_i hc;intro _;omega
   ·rcases h5 with⟨h6,h7⟩|⟨b,off,rfl,_⟩
    ·intro hn;cases a with
     |none=>have:=h7 rfl;omega
     |some x=>simp at hn
    ·intro hn;simp at hn
  ·right
   rcases h5 with⟨h6,_⟩|⟨b,off,rfl,hc⟩
   ·rw[h6]at hk e0;simp at hk e0;omega
   ·refine⟨b,off+k,?_,fun j u hu=> ?_⟩
    ·rw[if_neg (by omega)];simp[Addr.add_lit]
    ·rw[List.getElem?_drop]at hu;rw[Nat.add_assoc];exact hc _ u hu
theorem Bq {L:List Int} {j:Nat}(hj:j<L.length):(ivs .i64 L)[j]? =some (.int .i64 (L.getD j 0)):=by
 simp[ivs,aH,hj]
theorem Qu (L:List Int)(k:Nat):ivs .i64 (L.drop k)=(ivs .i64 L).drop k:=by simp[ivs,eH]
theorem Ec (L:List Int):∀u∈ivs .i64 L,u.oneCell'=true:=by
 intro u hu;unfold ivs at hu;rw[List.mem_map]at hu;obtain⟨n,_,rfl⟩:=hu;rfl
theorem El {L:List Int} {k:Nat}(hk:k<L.length):L.take k++[L.getD k 0]=L.take (k+1):=by
 rw[bJ hk,aH,aI hk];rfl
theorem Nm {w:World} {B i:Nat} {e:TypeId} {v:Value} {O:List Int}(h:Own w B e v (ivs .i64 O))(hl:O.length=i):∃a c,v=.slice a i c:=by
 obtain⟨a,c,e,_⟩:=h.rd;rw[show(ivs .i64 O).length=i by simp[ivs,hl]]at e;exact⟨a,c,e⟩
theorem Di (v:Value)(L:List Int)(w:World)(h:Rd w v (ivs .i64 L))(hl:L.length≤100000000000):
  Calls Tryz.prog 139 #[v] w fun e w'=>∃v',e=.returned v'∧Own w' w.heap.size 3 v' (ivs .i64 (Du L))∧Below w.heap.size w w':=by
 have hv:∃a c,v=.slice a L.length c:=(by obtain⟨a,c,e,_⟩:=h;exact⟨a,c,by rw[e];simp[ivs]⟩);obtain⟨a,c,rfl⟩:=hv;have G:=fun(W:World) (hw:Below w.heap.size w W) (i:Nat) (hi:i<L.length)=>(h.below hw lR).at3 (Bq hi);have FIN:=fun(O:List Int) (hO:InsP O (L.take L.length))=>(show Du L=O from by rw[eI]at hO;exact Zr hO);have STEP:=fun(i:Nat) (hi:i<L.length) (O:List Int) (hO:InsP O (L.take i)) (k:Nat) (hk:k≤O.length) (h1:∀j,j<k→O.getD j 0<L.getD i 0) (h2:k=O.length∨¬O.getD k 0<L.getD i 0)=>(show InsP (O.take k++[L.getD i 0]++O.drop k) (L.take (i+1))from by
  have:=Zey hO hk h1 h2
  rwa [El hi]at this)
 have LEN:=fun(i:Nat) (hi:i≤L.length) (O:List Int) (hO:InsP O (L.take i))=>(show O.length=i from by rw[hO.perm.length_eq,eC];omega);have I0:InsP [] (L.take 0):=⟨by simp,by simp⟩;obtain⟨n,hn⟩:=eX L.length;obtain⟨A,hA⟩:∃A:Nat→Int,A=fun i=>L.getD i 0:=⟨_,rfl⟩;have hA2:∀i,L.getD i 0=A i:=fun i=>(by rw[hA]);obtain⟨T,hT⟩:∃T:Nat→List Int,T=fun i=>L.take i:=⟨_,rfl⟩;have hT2:∀i,L.take i=T i:=fun i=>(by rw[hT]);obtain⟨SL,hSL⟩:=eX (Du L);rw[←hn]at G FIN STEP LEN hl⊢;simp only[hA2]at G STEP;simp only[hT2]at FIN STEP LEN I0;rw[←hSL]at FIN⊢;have HG:=Hd G;have HFIN:=Hd FIN;have HSTEP:=Hd STEP;have HLEN:=Hd LEN;have HI0:=Hd I0;clear G FIN STEP LEN I0 h hn hA hA2 hT hT2 hSL;go_enter Tryz.func139,Tryz.ntmps139;go_wp2_with fail
 go_loopg [3,4] n (fun q ov iv wr=>∃(i:Nat) (O:List Int),i+q=n∧iv=.int .i64 (i:Nat)∧InsP O (T i)∧Own wr w.heap.size 3 ov (ivs .i64 O)∧Below w.heap.size w wr)
 case atStart=>exact⟨0,[],by omega,rfl,HI0.out,Own.nil _ _ _,bR⟩
 case round=>
  obtain⟨i,O,hi,rfl,hins,hown,hb⟩:=hrel;have HI:=Hd hi;have HO:=Hd hown;have HB:=Hd hb;have HIN:=Hd hins;have HOL:=Hd (show O.length=i from HLEN.out i (by omega) O hins);obtain⟨p1,p2,rfl⟩:=Nm hown HOL.out;clear hi hown hb hins
  by_cases hlt:i<n
  ·have hlt':decide (i<n)=true:=decide_eq_true hlt;have hltI:(i:Int)<(n:Int):=(by omega);obtain⟨g1,rfl⟩:=eX gk;obtain⟨wo,rfl⟩:∃wo:World,wo=wr:=⟨_,rfl⟩;obtain⟨x,hx⟩:=eX (A i);have HX:=Hd hx;clear hx;go_wp2_with fail
   go_loopg [5,6] i (fun q nv kv w2=>∃k:Nat,k+q=i∧kv=.int .i64 (k:Nat)∧Own w2 wo.heap.size 3 nv (ivs .i64 (O.take k))∧(∀j,j<k→O.getD j 0<x)∧Below wo.heap.size wo w2)
   case atStart=>exact⟨0,by omega,rfl,Own.nil _ _ _,fun j hj=>by omega,bR⟩
   case round=>
    obtain⟨k,hk,rfl,hown2,hlo,hb2⟩:=hrel;have HK:=Hd hk;have HO2:=Hd hown2;have HLO:=Hd hlo;have HB2:=Hd hb2;have HBW:=Hd (HB.out.trans (hb2.mono HB.out.size));have HOW:=Hd (HO.out.below hb2 lR);obtain⟨bl,ol,rfl,hbl,cx⟩:=HG.out _ HBW.out i hlt;rw[←HX.out]at cx;clear hk hown2 hlo hb2
    by_cases hki:k<i
    ·have hki':decide (k<i)=true:=decide_eq_true hki;have hkiI:(k:Int)<(i:Int):=(by omega);obtain⟨bo,oo,rfl,hbo,co⟩:=HOW.out.rd.at3 (Bq (show k<O.length by rw[HOL.out];exact hki));obtain⟨y,hy⟩:=eX (O.getD k 0);rw[←hy]at co;have HY:=Hd hy;clear hy
     by_cases hyx:y<x
     ·have hyx':decide (y<x)=true:=decide_eq_true hyx;have HYX:=Hd hyx;go_wp2_with fail
      go_quiet (fail)
      go_wp2_with (at_builtin;refine An rfl (.tmp 28) (.tmp 33) 48 rfl wo.heap.size 3 _ 8 Cl _ _ rfl ((HO2.out.drewN _).alloc _) _ (.int .i64 y) rfl ?c1 rfl ?c2 ?c3 ?_);case c1=>exact Aq rfl
      case c2=>have:=HOL.out;simp[ivs];omega
      case c3=>have:=HB2.out.size;simp;omega
      rintro v' w1 hown1-hb1;have HO3:=Hd hown1;have HB3:=Hd (((Aa HB2.out _).alloc HB2.out.size (.cells #[.int .i64 y] 3)).trans hb1);clear hown1 hb1;go_wp2_with fail;go_roundg (gk-1);case measure=>have:=HK.out;omega
      case rel=>
       refine⟨k+1,by have:=HK.out;omega,by go_num,?_,fun j hj=> ?_,HB3.out⟩
       ·rw[←El (by rw[HOL.out];exact hki),←HY.out];have:=HO3.out;simpa [ivs]using this
       ·by_cases e:j=k
        ·rw[e,←HY.out];exact HYX.out
        ·exact HLO.out j (by omega)
     ·have hyx':decide (y<x)=false:=decide_eq_false hyx;have HS:=Hd (HSTEP.out i hlt O HIN.out k (by rw[HOL.out];omega) (by rw[←HX.out];exact HLO.out) (.inr (by rw[←HX.out,←HY.out];omega)));clear hyx;obtain⟨sa,sn,sc,hsl,hsr⟩:=Nl (T:=48) HOW.out.rd (by kernel_rfl) (fun w=>by kernel_rfl) (k:=k) (by simp[ivs];have:=HOL.out;have:=HK.out;omega);have HSR:=Hd hsr;clear hsr;go_wp2_with fail
      go_quiet (fail)
      go_wp2_with (at_builtin;refine An rfl (.tmp 37) (.tmp 42) 48 rfl wo.heap.size 3 _ 8 Cl _ _ rfl ((HO2.out.drewN _).alloc _) _ (.int .i64 x) rfl ?c1 rfl ?c2 ?c3 ?_);case c1=>exact Aq rfl
      case c2=>have:=HOL.out;simp[ivs];omega
      case c3=>have:=HB2.out.size;simp;omega
      rintro v' w1 hown1-hb1;have HO3:=Hd hown1;have HB3:=Hd (((Aa HB2.out _).alloc HB2.out.size (.cells #[.int .i64 x] 3)).trans hb1);have HBW3:=Hd (HB.out.trans (HB3.out.mono HB.out.size));have HRT:=Hd (HSR.out w1 (HO.out.rd.below HB3.out lR));clear hown1 hb1;obtain⟨u1,u2,u3,rfl⟩:=Dp HO3.out;go_wp2_with (at_builtin;refine Am rfl (.tmp 44) (.tmp 47) 48 rfl wo.heap.size 3 _ 8 Cl _ _ rfl HO3.out _ _ rfl HRT.out ?d1 ?d2 ?d3 ?_);case d1=>rw[←Qu];exact Ec _
      case d2=>have:=HOL.out;simp[ivs];omega
      case d3=>exact HB3.out.size
      rintro v3 w3 hown3-hb3;have HO4:=Hd hown3;have HB4:=Hd (HBW3.out.trans (hb3.mono HB.out.size));clear hown3 hb3;go_wp2_with fail;go_roundg (g1-1);case measure=>have:=HI.out;omega
      case rel=>
       refine⟨i+1,_,by have:=HI.out;omega,by go_num,HS.out,?_,HB4.out⟩;rw[←HX.out];have:=HO4.out.mono HB.out.size;simpa [ivs,eJ,eH]using this
    ·obtain rfl:k=i:=(by have:=HK.out;omega);have hki':decide (k<k)=false:=decide_eq_false hki;have HS:=Hd (HSTEP.out k hlt O HIN.out k (by rw[HOL.out];omega) (by rw[←HX.out];exact HLO.out) (.inl HOL.out.symm));clear hki;obtain⟨sa,sn,sc,hsl,hsr⟩:=Nl (T:=48) HOW.out.rd (by kernel_rfl) (fun w=>by kernel_rfl) (k:=k) (by simp[ivs];have:=HOL.out;have:=HK.out;omega);have HSR:=Hd hsr;clear hsr;go_wp2_with fail
     go_quiet (fail)
     go_wp2_with (at_builtin;refine An rfl (.tmp 37) (.tmp 42) 48 rfl wo.heap.size 3 _ 8 Cl _ _ rfl ((HO2.out.drewN _).alloc _) _ (.int .i64 x) rfl ?c1 rfl ?c2 ?c3 ?_);case c1=>exact Aq rfl
     case c2=>have:=HOL.out;simp[ivs];omega
     case c3=>have:=HB2.out.size;simp;omega
     rintro v' w1 hown1-hb1;have HO3:=Hd hown1;have HB3:=Hd (((Aa HB2.out _).alloc HB2.out.size (.cells #[.int .i64 x] 3)).trans hb1);have HBW3:=Hd (HB.out.trans (HB3.out.mono HB.out.size));have HRT:=Hd (HSR.out w1 (HO.out.rd.below HB3.out lR));clear hown1 hb1;obtain⟨u1,u2,u3,rfl⟩:=Dp HO3.out;go_wp2_with (at_builtin;refine Am rfl (.tmp 44) (.tmp 47) 48 rfl wo.heap.size 3 _ 8 Cl _ _ rfl HO3.out _ _ rfl HRT.out ?d1 ?d2 ?d3 ?_);case d1=>rw[←Qu];exact Ec _
     case d2=>have:=HOL.out;simp[ivs];omega
     case d3=>exact HB3.out.size
     rintro v3 w3 hown3-hb3;have HO4:=Hd hown3;have HB4:=Hd (HBW3.out.trans (hb3.mono HB.out.size));clear hown3 hb3;go_wp2_with fail;go_roundg (g1-1);case measure=>have:=HI.out;omega
     case rel=>
      refine⟨k+1,_,by have:=HI.out;omega,by go_num,HS.out,?_,HB4.out⟩;rw[←HX.out];have:=HO4.out.mono HB.out.size;simpa [ivs,eJ,eH]using this
  ·obtain rfl:i=n:=(by have:=HI.out;omega);have hlt':decide (i<i)=false:=decide_eq_false hlt;have HF:=Hd (HFIN.out O HIN.out);clear hlt;go_wp2_with fail;go_ret;refine⟨_,rfl,?_,HB.out⟩;rw[HF.out];exact HO.out
theorem Hs {l:List (Int×NodeD)} {i:Nat}(h:i<l.length):spt l i=l[i]:=by rw[spt,aH,aI h];rfl
theorem Ht {l:List (Int×List Nat)} {i:Nat}(h:i<l.length):stb l i=l[i]:=by rw[stb,aH,aI h];rfl
theorem Vd {α:Type} {l:List α} {f: α→Int} {r:Nat}(h:r<l.length):ivs .i64 ((l.take (r+1)).map f)=ivs .i64 ((l.take r).map f)++[.int .i64 (f l[r])]:=by
 rw[bJ h,List.map_append];simp[ivs]
theorem Qv (v:Value)(s:SparseD)(w:World)(h:SparseR w v s)(h1:s.op.length≤1000000)(h2:s.sh.length≤1000000):
  Calls Tryz.prog 114 #[v] w fun e w'=>∃vo vs,e=.returned (.tuple #[vo,vs])∧Own w' w.heap.size 3 vo (ivs .i64 (s.op.map (·.1)))∧Own w' w.heap.size 3 vs (ivs .i64 (s.sh.map (·.1)))∧Below w.heap.size w w':=by
 obtain⟨o,g,rfl,ho,hg⟩:=h;obtain⟨oa,oc,rfl,hoc,hoc2⟩:=ho.sl;obtain⟨ga,gc,rfl,hgc,hgc2⟩:=hg.sl;have G1:=fun(i:Nat) (hi:i<s.op.length)=>ho.at hi;have G2:=fun(i:Nat) (hi:i<s.sh.length)=>hg.at hi;have S1:=fun(r:Nat) (hr:r<s.op.length)=>(show ivs .i64 ((s.op.take (r+1)).map (·.1))=ivs .i64 ((s.op.take r).map (·.1))++[.int .i64 (spt s.op r).1]from by rw[Vd hr,Hs hr]);have S2:=fun(r:Nat) (hr:r<s.sh.length)=>(show ivs .i64 ((s.sh.take (r+1)).map (·.1))=ivs .i64 ((s.sh.take r).map (·.1))++[.int .i64 (stb s.sh r).1]from by rw[Vd hr,Ht hr]);have E1:ivs .i64 ((s.op.take s.op.length).map (·.1))=ivs .i64 (s.op.map (·.1)):=(by rw[eI]);have E2:ivs .i64 ((s.sh.take s.sh.length).map (·.1))=ivs .i64 (s.sh.map (·.1)):=(by rw[eI]);obtain⟨A,hA⟩:∃A:Nat→List Value,A=fun r=>ivs .i64 ((s.op.take r).map (·.1)):=⟨_,rfl⟩;have hA2:∀r,ivs .i64 ((s.op.take r).map (·.1))=A r:=fun r=>(by rw[hA]);obtain⟨C,hC⟩:∃C:Nat→List Value,C=fun r=>ivs .i64 ((s.sh.take r).map (·.1)):=⟨_,rfl⟩;have hC2:∀r,ivs .i64 ((s.sh.take r).map (·.1))=C r:=fun r=>(by rw[hC]);have L1:=fun(r:Nat)=>(show(A r).length≤r from by rw[hA];simp[ivs];omega);have L2:=fun(r:Nat)=>(show(C r).length≤r from by rw[hC];simp[ivs];omega);have A0:A 0=[]:=(by rw[hA];simp[ivs]);have C0:C 0=[]:=(by rw[hC];simp[ivs]);simp only[hA2]at S1 E1;simp only[hC2]at S2 E2;rw[←E1,←E2];obtain⟨n,hn⟩:=eX s.op.length;obtain⟨m,hm⟩:=eX s.sh.length;rw[←hn]at G1 S1 h1 hoc⊢;rw[←hm]at G2 S2 h2 hgc⊢;obtain⟨lv,hlv⟩:=eX s.leaves;obtain⟨ow,how⟩:=eX s.own;rw[←hlv,←how];have HG1:=Hd G1;have HG2:=Hd G2;have HS1:=Hd S1;have HS2:=Hd S2;have HL1:=Hd L1;have HL2:=Hd L2;have HA0:=Hd A0;have HC0:=Hd C0;clear G1 G2 S1 S2 E1 E2 L1 L2 A0 C0 hA hA2 hC hC2 hn hm ho hg hlv how;go_enter Tryz.func114,Tryz.ntmps114;go_wp2_with fail;obtain⟨N,hN⟩:=eX w.heap.size;have HBK0:=Hd (show Blk (w.alloc (.cells #[.int .i64 lv,.int .i64 ow,.slice oa n oc,.slice ga m gc] 25)) N 25 #[.int .i64 lv,.int .i64 ow,.slice oa n oc,.slice ga m gc]from by rw[hN];exact Blk.new _ _ _);have HB0:=Hd ((Below.refl w.heap.size w).alloc lR (.cells #[.int .i64 lv,.int .i64 ow,.slice oa n oc,.slice ga m gc] 25));rw[←hN]at HB0⊢;have HNN:=Hd (show N+1≤(w.alloc (.cells #[.int .i64 lv,.int .i64 ow,.slice oa n oc,.slice ga m gc] 25)).heap.size from by simp[hN]);generalize hw1:w.alloc (.cells #[.int .i64 lv,.int .i64 ow,.slice oa n oc,.slice ga m gc] 25)=w1 at HBK0 HB0 HNN⊢;have HN:=Hd hN;clear hw1 hN
 go_loopg [4,6] n (fun q ov iv wr=>∃r:Nat,r+q=n∧iv=.int .i64 (r:Nat)∧Own wr (N+1) 3 ov (A r)∧Below (N+1) w1 wr)
 case atStart=>exact⟨0,by omega,rfl,by rw[HA0.out];exact Own.nil _ _ _,bR⟩
 case round=>
  obtain⟨r,hr,rfl,hown,hb⟩:=hrel;have HR:=Hd hr;have HO:=Hd hown;have HB:=Hd hb;have HBK:=Hd (HBK0.out.below hb (Nat.lt_succ_self _));have c2:=HBK.out.cell 2;have c3:=HBK.out.cell 3;simp only[bN,bO,bP]at c2 c3;clear hr hown hb
  by_cases hlt:r<n
  ·have hlt':decide (r<n)=true:=decide_eq_true hlt;have hltI:(r:Int)<(n:Int):=(by omega);obtain⟨b,off,c,rfl,hbl,-,hra⟩:=HG1.out r hlt;have cx:=((HB0.out.trans (HB.out.mono (by omega))).cell (p:=⟨b,off+r*11,none⟩) (by rw[HN.out];exact hbl)).trans (Bf hra);have HST:=Hd (HS1.out r hlt);obtain⟨x,hx⟩:=eX ((spt s.op r).1);rw[←hx]at cx HST;clear hx hra;go_wp2_with (at_builtin;refine An rfl (.tmp 15) (.tmp 22) 48 rfl (N+1) 3 _ 8 Cl _ _ rfl (HO.out.alloc _) _ (.int .i64 x) rfl ?c1 rfl ?c2 ?c3 ?_);case c1=>exact Aq rfl
   case c2=>have:=HL1.out r;omega
   case c3=>have:=HB.out.size;have:=HNN.out;simp;omega
   rintro v' w2 hown1-hb1;have HO3:=Hd hown1;have HB3:=Hd ((HB.out.alloc (by have:=HB.out.size;have:=HNN.out;omega) (.cells #[.int .i64 x] 3)).trans hb1);clear hown1 hb1;go_wp2_with fail;go_roundg (gk-1);case measure=>have:=HR.out;omega
   case rel=>exact⟨r+1,by have:=HR.out;omega,by go_num,by rw[HST.out];exact HO3.out,HB3.out⟩
  ·obtain rfl:r=n:=(by have:=HR.out;omega);have hlt':decide (r<r)=false:=decide_eq_false hlt;obtain⟨wo,rfl⟩:∃wo:World,wo=wr:=⟨_,rfl⟩;clear hlt;go_wp2_with fail
   go_loopg [5,7] m (fun q ov iv w2=>∃k:Nat,k+q=m∧iv=.int .i64 (k:Nat)∧Own w2 wo.heap.size 3 ov (C k)∧Below wo.heap.size wo w2)
   case atStart=>exact⟨0,by omega,rfl,by rw[HC0.out];exact Own.nil _ _ _,bR⟩
   case round=>
    obtain⟨k,hk,rfl,hown2,hb2⟩:=hrel;have HK:=Hd hk;have HO2:=Hd hown2;have HB2:=Hd hb2;have HBK2:=Hd (HBK.out.below hb2 HBK.out.lt);have d3:=HBK2.out.cell 3;simp only[bN,bO,bP]at d3;clear hk hown2 hb2 c2 c3
    by_cases hlt:k<m
    ·have hlt':decide (k<m)=true:=decide_eq_true hlt;have hltI:(k:Int)<(m:Int):=(by omega);obtain⟨b,off,u,rfl,hbl,-,hra⟩:=HG2.out k hlt;have cx:=((HB0.out.trans ((HB.out.trans (HB2.out.mono (by have:=HBK.out.lt;omega))).mono (by omega))).cell (p:=⟨b,off+k*2,none⟩) (by rw[HN.out];exact hbl)).trans (Bf hra);have HST:=Hd (HS2.out k hlt);obtain⟨x,hx⟩:=eX ((stb s.sh k).1);rw[←hx]at cx HST;clear hx hra;go_wp2_with (at_builtin;refine An rfl (.tmp 31) (.tmp 38) 48 rfl wo.heap.size 3 _ 8 Cl _ _ rfl (HO2.out.alloc _) _ (.int .i64 x) rfl ?c1 rfl ?c2 ?c3 ?_);case c1=>exact Aq rfl
     case c2=>have:=HL2.out k;omega
     case c3=>have:=HB2.out.size;simp;omega
     rintro v' w2 hown1-hb1;have HO3:=Hd hown1;have HB3:=Hd ((HB2.out.alloc HB2.out.size (.cells #[.int .i64 x] 3)).trans hb1);clear hown1 hb1;go_wp2_with fail;go_roundg (gk-1);case measure=>have:=HK.out;omega
     case rel=>exact⟨k+1,by have:=HK.out;omega,by go_num,by rw[HST.out];exact HO3.out,HB3.out⟩
    ·obtain rfl:k=m:=(by have:=HK.out;omega);have hlt':decide (k<k)=false:=decide_eq_false hlt;clear hlt;go_wp2_with fail;go_ret2;have hz:=HBK.out.lt;rw[←HN.out];refine⟨_,_,rfl,(HO.out.below HB2.out lR).mono (by omega),HO2.out.mono (by omega),?_⟩;have h5:=HB.out.trans (HB2.out.mono (show N+1≤wo.heap.size by omega));exact HB0.out.trans (h5.mono (by omega))
end Go.Proofs.YtfofaiommeckbaaGreat
