/- Walks: slices.Clone of numbers, node.copyLeaf. -/
import Derived.Test.YtfofaiommeckbaaGreatZPatchMakesB
import Derived.Test.YtfofaiommeckbaaGreatZPatchMakes14
import Derived.Test.YtfofaiommeckbaaGreatZPatchMakes13
import Derived.Deep.MidRow
open List renaming getD_eq_getElem?_getD → aH, getElem?_eq_getElem → aI, getElem_mem → aJ, getElem?_eq_none → aK, foldl_cons → dF
open Bool renaming and_eq_true → cC
set_option linter.unusedVariables false
set_option maxRecDepth 100000
set_option maxHeartbeats 40000000
namespace Go.Proofs.YtfofaiommeckbaaGreat
open Go.RowKit WireM
theorem Own.ne_blk {w:World} {B g:Nat} {e t:TypeId} {v:Value} {xs:List Value} {cs:Array Value}(h:Own w B e v xs)(hb:Blk w g t cs)(hne:e≠t):v.ownBlock≠some g:=by
 intro hv;rcases h.2 with⟨rfl,_⟩|⟨g',cp,cur,rfl,hg,hh,_⟩
 ·simp[Value.ownBlock]at hv
 ·simp[Value.ownBlock]at hv;subst hv;rw[Blk]at hb;rw[hh]at hb;simp at hb;exact hne hb.2
theorem Il {w:World} {B:Nat} {e:TypeId} {v:Value} {xs:List Value}(h:Own w B e v xs):∃a n c,v=.slice a n c:=by
 obtain⟨a,c,e,_⟩:=h.rd;exact⟨_,_,_,e⟩
end Go.Proofs.YtfofaiommeckbaaGreat
namespace Go.Proofs.YtfofaiommeckbaaGreat
open Go.RowKit
theorem Ek {a b:Bool}(h:a=b):Ending.returned (.bool b)=.returned (.bool a):=by rw[h]
def nd (t:List NodeD)(i:Nat):NodeD:=t.getD i Ar
def TreeR (w:World)(v:Value)(t:List NodeD):Prop:=
 ∃a cap,v=.slice a t.length cap∧t.length≤cap∧cap≤maxLen∧∀i,i<t.length→∃b off c,a=some ⟨b,off,none⟩∧b<w.heap.size∧NodeC w (nd t i) c∧w.rangeAt b (off+i*10) c.toList
theorem Af {w w':World} {B b o:Nat} {cs:List Value}(h:w.rangeAt b o cs)(hb:Below B w w')(hB:b<B):w'.rangeAt b o cs:=by
 intro j u hu;exact(hb.cell (p:=⟨b,o+j,none⟩) hB).trans (h j u hu)
theorem TreeR.below {w w':World} {B:Nat} {v:Value} {t:List NodeD}(h:TreeR w v t)(hb:Below B w w')(hB:w.heap.size≤B):TreeR w' v t:=by
 obtain⟨a,cap,e,h1,h2,h3⟩:=h;refine⟨a,cap,e,h1,h2,fun i hi=> ?_⟩;obtain⟨b,off,c,e,hl,hn,hr⟩:=h3 i hi;exact⟨b,off,c,e,Nat.lt_of_lt_of_le hl hb.size,hn.below hb hB,Af hr hb (by omega)⟩
theorem TreeR.sl {w:World} {v:Value} {t:List NodeD}(h:TreeR w v t):∃a c,v=.slice a t.length c∧t.length≤c∧c≤9223372036854775807:=by
 obtain⟨a,cap,e,h1,h2,_⟩:=h;unfold maxLen at h2;exact⟨a,cap,e,h1,h2⟩
theorem TreeR.node {w:World} {a:Option Addr} {n c:Nat} {t:List NodeD}(h:TreeR w (.slice a n c) t) {i:Nat}(hi:i<n):∃b off cs,a=some ⟨b,off,none⟩∧b<w.heap.size∧NodeC w (nd t i) cs∧w.rangeAt b (off+i*10) cs.toList:=by
 obtain⟨a',cap,e,h1,h2,h3⟩:=h;simp only[Value.slice.injEq]at e;obtain⟨rfl,rfl,rfl⟩:=e;exact h3 i hi
theorem NodeC.size {w:World} {d:NodeD} {c:Array Value}(h:NodeC w d c):c.size=10:=by
 obtain⟨a1,c1,a2,c2,a3,c3,a4,c4,a5,c5,b1,e1,b2,e2,b3,e3,rfl,_⟩:=h;rfl
theorem NodeC.one {w:World} {d:NodeD} {c:Array Value}(h:NodeC w d c):c.all (·.oneCell')=true:=by
 obtain⟨a1,c1,a2,c2,a3,c3,a4,c4,a5,c5,b1,e1,b2,e2,b3,e3,rfl,h1,h2,h3,h4,h5,h6,h7,h8⟩:=h;rw[←Array.all_toList];rfl
def TreeOk (t:List NodeD):Prop:=∀d∈t,NodeOk d
theorem TreeOk.nd {t:List NodeD}(h:TreeOk t)(i:Nat):NodeOk (nd t i):=by
 unfold Go.Proofs.YtfofaiommeckbaaGreat.nd;rw[aH]
 by_cases hi:i<t.length
 ·rw[aI hi];exact h _ (aJ hi)
 ·rw[aK (by omega)];exact Bt
def Ez (t:List NodeD):Bool:=decide (t.length≤40)&&t.all exB
theorem Fn {t:List NodeD}(h:Ez t=true):t.length≤40:=by
 rw[Ez,cC]at h;exact of_decide_eq_true h.1
theorem Lm:Cc Ar=true:=by decide
theorem Zf5:exB Ar=true:=by decide
theorem Qm {t:List NodeD}(h:Ez t=true)(i:Nat):exB (nd t i)=true:=by
 rw[Ez,cC]at h;unfold Go.Proofs.YtfofaiommeckbaaGreat.nd;rw[aH]
 by_cases hi:i<t.length
 ·rw[aI hi];exact List.all_eq_true.1 h.2 _ (aJ hi)
 ·rw[aK (by omega)];exact Zf5
theorem Ln {t:List NodeD}(h:Ez t=true)(i:Nat):Cc (nd t i)=true:=Qc (Qm h i)
theorem Ba:(Tryz.prog.info? 52).map (·.size)=some 10:=by kernel_rfl
theorem St (d:NodeD)(c:Array Value)(w:World)(h:NodeC w d c):
  Calls Tryz.prog 57 #[.agg c] w fun e w'=>e=.returned (.bool (exB d))∧Below w.heap.size w w':=by
 obtain⟨a1,c1,a2,c2,a3,c3,a4,c4,a5,c5,b1,e1,b2,e2,b3,e3,rfl,h1,h2,h3,h4,h5,h6,h7,h8⟩:=h;exact Ym a1 a2 a3 a4 a5 b1 b2 b3 d.kind d.leaf.source _ _ _ _ _ _ _ _ c1 c2 c3 c4 c5 e1 e2 e3 w
open WalkM
theorem Dp {w:World} {B:Nat} {e:TypeId} {v:Value} {xs:List Value}(h:Own w B e v xs):∃a n c,v=.slice a n c:=by
 obtain⟨a,c,e,_⟩:=h.rd;exact⟨a,_,c,e⟩
theorem Rd.at3 {w:World} {a:Option Addr} {n cap r:Nat} {xs:List Value} {u:Value}(h:Rd w (.slice a n cap) xs)(hu:xs[r]? =some u):∃b off,a=some ⟨b,off,none⟩∧b<w.heap.size∧w.cell? ⟨b,off+r,none⟩=some u:=by
 rcases h.lt with h0|⟨b,off,cap',e1,e2⟩
 ·subst h0;simp at hu
 ·obtain⟨a',c',e,_,_,h3⟩:=h;rcases h3 with⟨h0,_⟩|⟨b',off',he,hc⟩
  ·subst h0;simp at hu
  ·simp only[Value.slice.injEq]at e e1;obtain⟨rfl,_,_⟩:=e;obtain⟨rfl,_,_⟩:=e1;simp only[Option.some.injEq,Addr.mk.injEq,and_true]at he;obtain⟨rfl,rfl⟩:=he;exact⟨b,off,rfl,e2,hc r u hu⟩
def Gb (n:Nat):Nat:=if n%2=1∧fits ((n+1)/2)=true then(n+1)/2 else 0
theorem Lo {n:Nat}(h:Gb n≠0):∃d,d≤16∧Gb n=2^d∧n+1=2*2^d:=by
 unfold Gb at h⊢
 by_cases hc:n%2=1∧fits ((n+1)/2)=true
 ·rw[if_pos hc]at h⊢;obtain⟨d,hd,e⟩:=(fits_iff _).1 hc.2;exact⟨d,hd,e,by rw[←e];omega⟩
 ·rw[if_neg hc]at h;exact absurd rfl h
theorem Zfz {v:Value} {a b:Bool}(h:a=b):Ending.returned (.tuple #[v,.bool b])=.returned (.tuple #[v,.bool a]):=by rw[h]
theorem Uq (x:Int)(w:World):Calls Tryz.prog 206 #[.int .i64 x] w fun e w'=>e=.returned (.bool false)∧w'=w:=by
 have h:(x !=x)=false:=(by rw[bne_eq_false_iff_eq]);go_enter Tryz.func206,Tryz.ntmps206;go_wp2_with fail;go_ret;exact⟨rfl,rfl⟩
theorem Su (d:NodeD)(c:Array Value)(w:World)(h:NodeC w d c)(hk:NodeOk d)(hs:Cc d=true)(r:Bool)(hr:Aw d=r):
  Calls Tryz.prog 108 #[.agg c] w fun e w'=>Below w.heap.size w w'∧∃v,e=.returned (.tuple #[v,.int .u8 (if r=true then 0 else 3)])∧Own w' w.heap.size 5 v (bvs (if r=true then Bd d else [])):=by
 subst hr;cases hr:Aw d with
 |true=>
  have:=Qk d c w h hk hs hr;unfold Fi at this;rw[hr]at this;exact this
 |false=>
  have:=Nh d c w h hs hr;unfold Fi at this;rw[hr]at this;exact this
def Lp (x:Nat):Nat:=if x%2=1 then 1 else 2
def Gc (t:List NodeD):Bool:=(List.range t.length).all fun x=>decide ((nd t x).kind≠Lp x)&&Aw (nd t x)
theorem Sv (t:List NodeD):Gc t=true↔∀x,x<t.length→(nd t x).kind≠Lp x∧Aw (nd t x)=true:=by
 unfold Gc;rw[List.all_eq_true];constructor
 ·intro h x hx;have:=h x (List.mem_range.2 hx);rw[cC,decide_eq_true_iff]at this;exact this
 ·intro h x hx;rw[cC,decide_eq_true_iff];exact h x (List.mem_range.1 hx)
theorem Wu {x:Nat}(h:x%2=1):Lp x=1:=by unfold Lp;rw[if_pos h]
theorem Sw {x:Nat}(h:x%2=0):Lp x=2:=by unfold Lp;rw[if_neg (by omega)]
def Zf6 (t:List NodeD):Bool:=t.any fun d=>d.kind==1
def Im (L:List Int)(x:Int):Bool:=L.any fun u=>Bl (2*u) x
theorem Ur {L:List Int} {p:Int→Bool} {i:Nat}(hi:i<L.length)(h:p (L.getD i 0)=true):L.any p=true:=by
 rw[List.any_eq_true];refine⟨L.getD i 0,?_,h⟩;rw[aH,aI hi];exact aJ hi
theorem Ys {L:List Int} {p:Int→Bool}(h:∀i,i<L.length→p (L.getD i 0)=false):L.any p=false:=by
 rw[List.any_eq_false];intro u hu;obtain⟨i,hi,rfl⟩:=List.getElem_of_mem hu;have:=h i hi;rw[aH,aI hi]at this;show¬p L[i]=true;have e:p L[i]=false:=this;rw[e];simp
theorem Zcg (u x:Int)(g:Nat)(w:World)(hx:w.cell? ⟨g,0,none⟩=some (.int .i64 x))(hu:0≤u∧u<1000000):
  Calls Tryz.prog 230 #[.int .i64 u,.pointer (some ⟨g,0,none⟩)] w fun e w'=>e=.returned (.bool (Bl (2*u) x))∧w'=w:=by
 have HU:=Hd (Cs (2*u) x w);obtain⟨b,hb⟩:=eX (Bl (2*u) x);rw[←hb]at HU⊢;clear hb;have hw:wrap64 (2*u)=2*u:=(by unfold wrap64;omega);go_enter Tryz.func230,Tryz.ntmps230;go_wp2_with fail;refine HU.out.mono ?_;rintro e w' ⟨rfl,rfl⟩;go_wp2_with fail;go_ret;exact⟨rfl,rfl⟩
theorem Zch (v:Value)(L:List Int)(x:Int)(g:Nat)(w:World)(h:Rd w v (ivs .i64 L))(hx:w.cell? ⟨g,0,none⟩=some (.int .i64 x))(hL:∀u∈L,0≤u∧u<1000000)(hl:L.length≤1000000):
  Calls Tryz.prog 256 #[v,.func (.func 230) #[] #[.pointer (some ⟨g,0,none⟩)]] w fun e w'=>w'=w∧∃r:Int,e=.returned (.int .i64 r)∧decide (r≥0)=L.any (fun u=>(Bl (2*u) x)):=by
 obtain⟨a,cp,rfl⟩:∃a cp,v=.slice a L.length cp:=(by obtain⟨a,cp,e,_⟩:=h;rw[show(ivs .i64 L).length=L.length by simp[ivs]]at e;exact⟨a,cp,e⟩);have AT:=fun(r:Nat) (hr:r<L.length)=>h.at3 (u:=.int .i64 (L.getD r 0)) (r:=r) (by simp[ivs,aH,hr]);have CC:=fun(r:Nat) (hr:r<L.length)=>Zcg (L.getD r 0) x g w hx (hL _ (by rw[aH,aI hr];exact aJ hr));have YES:=fun(i:Nat) (hi:i<L.length) (h:(fun u=>(Bl (2*u) x)) (L.getD i 0)=true)=>Ur (p:=fun u=>(Bl (2*u) x)) hi h;have NO:=fun(h:∀i,i<L.length→(fun u=>(Bl (2*u) x)) (L.getD i 0)=false)=>Ys (p:=fun u=>(Bl (2*u) x)) h;obtain⟨U,hU⟩:∃U:Nat→Int,U=fun r=>L.getD r 0:=⟨_,rfl⟩;have hU2:∀r,L.getD r 0=U r:=fun r=>(by rw[hU]);simp only[hU2]at AT CC YES NO;obtain⟨PF,hPF⟩:∃f:Int→Bool,f=fun u=>(Bl (2*u) x):=⟨_,rfl⟩;have hPF2:∀u:Int,(Bl (2*u) x)=PF u:=fun u=>(by rw[hPF]);obtain⟨R,hR⟩:=eX (L.any (fun u=>(Bl (2*u) x)));rw[←hR]at YES NO⊢;simp only[hPF2]at CC YES NO;obtain⟨k,hkk⟩:=eX L.length;rw[←hkk]at AT CC hl YES NO⊢;have HAT:=Hd AT;have HCC:=Hd CC;have HYES:=Hd YES;have HNO:=Hd NO;clear AT CC YES NO hkk h hx hU hU2 hL hPF hPF2 hR;go_enter Tryz.func256,Tryz.ntmps256;go_wp2_with fail
 go_loopg [8] k (fun q iv wr=>∃r:Nat,r+q=k∧iv=.int .i64 (r:Nat)∧(∀i,i<r→PF (U i)=false)∧wr=w)
 case atStart=>exact⟨0,by omega,rfl,fun i hi=>by omega,rfl⟩
 case round=>
  obtain⟨r,hr,rfl,hsm,rfl⟩:=hrel;have HR:=Hd hr;have HM:=Hd hsm;clear hr hsm
  by_cases hlt:r<k
  ·have hlt':decide (r<k)=true:=decide_eq_true hlt;obtain⟨b,off,rfl,hbl,cu⟩:=HAT.out r hlt;have C1:=HCC.out r hlt;obtain⟨u,hu⟩:=eX (U r);rw[←hu]at cu C1;obtain⟨bb,hbb⟩:=eX (PF u);rw[←hbb]at C1;have HC1:=Hd C1;have HUB:=Hd (show PF (U r)=bb by rw[hbb,hu]);clear C1 hbb hu;cases bb with
   |true=>
    have HY:=Hd (HYES.out r hlt HUB.out);go_wp2_with fail;refine(HC1.out).mono ?_;rintro e w2 ⟨rfl,rfl⟩;go_wp2_with fail;go_ret;exact⟨rfl,_,rfl,by rw[HY.out];simp⟩
   |false=>
    go_wp2_with fail;refine(HC1.out).mono ?_;rintro e w2 ⟨rfl,rfl⟩;go_wp2_with fail;go_roundg (gk-1);case measure=>have:=HR.out;omega
    case rel=>
     refine⟨r+1,by have:=HR.out;omega,by go_num,fun i hi=> ?_,rfl⟩
     by_cases e:i=r
     ·rw[e];exact HUB.out
     ·exact HM.out i (by omega)
  ·obtain rfl:r=k:=(by have:=HR.out;omega);have hlt':decide (r<r)=false:=decide_eq_false hlt;have HF:=Hd (HNO.out HM.out);go_wp2_with fail;go_ret;exact⟨rfl,_,rfl,by rw[HF.out];simp⟩
theorem Zci (v:Value)(L:List Int)(x:Int)(g:Nat)(w:World)(h:Rd w v (ivs .i64 L))(hx:w.cell? ⟨g,0,none⟩=some (.int .i64 x))(hL:∀u∈L,0≤u∧u<1000000)(hl:L.length≤1000000):
  Calls Tryz.prog 220 #[v,.func (.func 230) #[] #[.pointer (some ⟨g,0,none⟩)]] w fun e w'=>e=.returned (.bool (L.any fun u=>(Bl (2*u) x)))∧w'=w:=by
 have HI:=Hd (Zch v L x g w h hx hL hl);obtain⟨R,hR⟩:=eX (L.any (fun u=>(Bl (2*u) x)));rw[←hR]at HI⊢;obtain⟨a,n,cp,rfl⟩:∃a n cp,v=.slice a n cp:=(by obtain⟨a,cp,e,_⟩:=h;exact⟨_,_,_,e⟩);clear h hx hL hR;go_enter Tryz.func220,Tryz.ntmps220;go_wp2_with fail;refine HI.out.mono ?_;rintro e w' ⟨rfl,r,rfl,hr⟩
 by_cases hp:0≤r
 ·have hd:decide (0≤r)=true:=decide_eq_true hp;have HD:=Hd hr;clear hr;go_wp2_with fail;go_ret;exact⟨by rw[←HD.out];simpa using hp,rfl⟩
 ·have hd:decide (0≤r)=false:=decide_eq_false hp;have HD:=Hd hr;clear hr;go_wp2_with fail;go_ret;exact⟨by rw[←HD.out];simpa using hp,rfl⟩
theorem Yt (u x:Int)(g:Nat)(w:World)(hx:w.cell? ⟨g,0,none⟩=some (.int .i64 x))(hu:0≤u∧u<1000000):
  Calls Tryz.prog 221 #[.int .i64 u,.pointer (some ⟨g,0,none⟩)] w fun e w'=>e=.returned (.bool (!Bl (2*u) x))∧w'=w:=by
 have HU:=Hd (Cs (2*u) x w);obtain⟨b,hb⟩:=eX (Bl (2*u) x);rw[←hb]at HU⊢;clear hb;have hw:wrap64 (2*u)=2*u:=(by unfold wrap64;omega);go_enter Tryz.func221,Tryz.ntmps221;go_wp2_with fail;refine HU.out.mono ?_;rintro e w' ⟨rfl,rfl⟩;go_wp2_with fail;go_ret;exact⟨rfl,rfl⟩
theorem Yu (v:Value)(L:List Int)(x:Int)(g:Nat)(w:World)(h:Rd w v (ivs .i64 L))(hx:w.cell? ⟨g,0,none⟩=some (.int .i64 x))(hL:∀u∈L,0≤u∧u<1000000)(hl:L.length≤1000000):
  Calls Tryz.prog 256 #[v,.func (.func 221) #[] #[.pointer (some ⟨g,0,none⟩)]] w fun e w'=>w'=w∧∃r:Int,e=.returned (.int .i64 r)∧decide (r≥0)=L.any (fun u=>(!Bl (2*u) x)):=by
 obtain⟨a,cp,rfl⟩:∃a cp,v=.slice a L.length cp:=(by obtain⟨a,cp,e,_⟩:=h;rw[show(ivs .i64 L).length=L.length by simp[ivs]]at e;exact⟨a,cp,e⟩);have AT:=fun(r:Nat) (hr:r<L.length)=>h.at3 (u:=.int .i64 (L.getD r 0)) (r:=r) (by simp[ivs,aH,hr]);have CC:=fun(r:Nat) (hr:r<L.length)=>Yt (L.getD r 0) x g w hx (hL _ (by rw[aH,aI hr];exact aJ hr));have YES:=fun(i:Nat) (hi:i<L.length) (h:(fun u=>(!Bl (2*u) x)) (L.getD i 0)=true)=>Ur (p:=fun u=>(!Bl (2*u) x)) hi h;have NO:=fun(h:∀i,i<L.length→(fun u=>(!Bl (2*u) x)) (L.getD i 0)=false)=>Ys (p:=fun u=>(!Bl (2*u) x)) h;obtain⟨U,hU⟩:∃U:Nat→Int,U=fun r=>L.getD r 0:=⟨_,rfl⟩;have hU2:∀r,L.getD r 0=U r:=fun r=>(by rw[hU]);simp only[hU2]at AT CC YES NO;obtain⟨PF,hPF⟩:∃f:Int→Bool,f=fun u=>(!Bl (2*u) x):=⟨_,rfl⟩;have hPF2:∀u:Int,(!Bl (2*u) x)=PF u:=fun u=>(by rw[hPF]);obtain⟨R,hR⟩:=eX (L.any (fun u=>(!Bl (2*u) x)));rw[←hR]at YES NO⊢;simp only[hPF2]at CC YES NO;obtain⟨k,hkk⟩:=eX L.length;rw[←hkk]at AT CC hl YES NO⊢;have HAT:=Hd AT;have HCC:=Hd CC;have HYES:=Hd YES;have HNO:=Hd NO;clear AT CC YES NO hkk h hx hU hU2 hL hPF hPF2 hR;go_enter Tryz.func256,Tryz.ntmps256;go_wp2_with fail
 go_loopg [8] k (fun q iv wr=>∃r:Nat,r+q=k∧iv=.int .i64 (r:Nat)∧(∀i,i<r→PF (U i)=false)∧wr=w)
 case atStart=>exact⟨0,by omega,rfl,fun i hi=>by omega,rfl⟩
 case round=>
  obtain⟨r,hr,rfl,hsm,rfl⟩:=hrel;have HR:=Hd hr;have HM:=Hd hsm;clear hr hsm
  by_cases hlt:r<k
  ·have hlt':decide (r<k)=true:=decide_eq_true hlt;obtain⟨b,off,rfl,hbl,cu⟩:=HAT.out r hlt;have C1:=HCC.out r hlt;obtain⟨u,hu⟩:=eX (U r);rw[←hu]at cu C1;obtain⟨bb,hbb⟩:=eX (PF u);rw[←hbb]at C1;have HC1:=Hd C1;have HUB:=Hd (show PF (U r)=bb by rw[hbb,hu]);clear C1 hbb hu;cases bb with
   |true=>
    have HY:=Hd (HYES.out r hlt HUB.out);go_wp2_with fail;refine(HC1.out).mono ?_;rintro e w2 ⟨rfl,rfl⟩;go_wp2_with fail;go_ret;exact⟨rfl,_,rfl,by rw[HY.out];simp⟩
   |false=>
    go_wp2_with fail;refine(HC1.out).mono ?_;rintro e w2 ⟨rfl,rfl⟩;go_wp2_with fail;go_roundg (gk-1);case measure=>have:=HR.out;omega
    case rel=>
     refine⟨r+1,by have:=HR.out;omega,by go_num,fun i hi=> ?_,rfl⟩
     by_cases e:i=r
     ·rw[e];exact HUB.out
     ·exact HM.out i (by omega)
  ·obtain rfl:r=k:=(by have:=HR.out;omega);have hlt':decide (r<r)=false:=decide_eq_false hlt;have HF:=Hd (HNO.out HM.out);go_wp2_with fail;go_ret;exact⟨rfl,_,rfl,by rw[HF.out];simp⟩
theorem Yv (v:Value)(L:List Int)(x:Int)(g:Nat)(w:World)(h:Rd w v (ivs .i64 L))(hx:w.cell? ⟨g,0,none⟩=some (.int .i64 x))(hL:∀u∈L,0≤u∧u<1000000)(hl:L.length≤1000000):
  Calls Tryz.prog 220 #[v,.func (.func 221) #[] #[.pointer (some ⟨g,0,none⟩)]] w fun e w'=>e=.returned (.bool (L.any fun u=>(!Bl (2*u) x)))∧w'=w:=by
 have HI:=Hd (Yu v L x g w h hx hL hl);obtain⟨R,hR⟩:=eX (L.any (fun u=>(!Bl (2*u) x)));rw[←hR]at HI⊢;obtain⟨a,n,cp,rfl⟩:∃a n cp,v=.slice a n cp:=(by obtain⟨a,cp,e,_⟩:=h;exact⟨_,_,_,e⟩);clear h hx hL hR;go_enter Tryz.func220,Tryz.ntmps220;go_wp2_with fail;refine HI.out.mono ?_;rintro e w' ⟨rfl,r,rfl,hr⟩
 by_cases hp:0≤r
 ·have hd:decide (0≤r)=true:=decide_eq_true hp;have HD:=Hd hr;clear hr;go_wp2_with fail;go_ret;exact⟨by rw[←HD.out];simpa using hp,rfl⟩
 ·have hd:decide (0≤r)=false:=decide_eq_false hp;have HD:=Hd hr;clear hr;go_wp2_with fail;go_ret;exact⟨by rw[←HD.out];simpa using hp,rfl⟩
theorem Gd (v:Value)(L:List Int)(x:Int)(w:World)(h:Rd w v (ivs .i64 L))(hL:∀u∈L,0≤u∧u<1000000)(hl:L.length≤1000000):
  Calls Tryz.prog 193 #[v,.int .i64 x] w fun e w'=>e=.returned (.bool (Im L x))∧Below w.heap.size w w':=by
 have hb:=(Below.refl w.heap.size w).alloc lR (.cells #[.int .i64 x] 3);have HC:=Hd (Zci v L x w.heap.size (w.alloc (.cells #[.int .i64 x] 3)) (h.below hb lR) (Aq rfl) hL hl);have HB:=Hd hb;obtain⟨R,hR⟩:=eX (Im L x);unfold Im at hR;rw[←hR]at HC;show Calls Tryz.prog 193 #[v,.int .i64 x] w fun e w'=>e=.returned (.bool (Im L x))∧Below w.heap.size w w';unfold Im;rw[←hR];obtain⟨a,n,cp,rfl⟩:∃a n cp,v=.slice a n cp:=(by obtain⟨a,cp,e,_⟩:=h;exact⟨_,_,_,e⟩);clear h hL hR hb;go_enter Tryz.func193,Tryz.ntmps193;go_wp2_with fail;refine HC.out.mono ?_;rintro e w' ⟨rfl,rfl⟩;go_wp2_with fail;go_ret;exact⟨rfl,HB.out⟩
end Go.Proofs.YtfofaiommeckbaaGreat
namespace Go.Proofs.YtfofaiommeckbaaGreat
open Go.RowKit WireM
def Zgt (b:Nat)(M:List Nat):Option Nat×List Nat×Nat:=
 if b/64=3 then(none,M,3)
 else if M.length<2^(b/64)-1 then(none,M,4)
 else if lenS (Ul (b%64::M.take (2^(b/64)-1)):Nat)=2^(b/64)then(some (Ul (b%64::M.take (2^(b/64)-1))),M.drop (2^(b/64)-1),0)
 else(none,M.drop (2^(b/64)-1),3)
def Lq (L:List Nat)(er:Nat):Option Nat×List Nat×Nat:=
 if er≠0 then(none,L,er)else match L with
  |[]=>(none,[],4)
  |b::M=>Zgt b M
def Zeq (L:List Nat)(er:Nat)(n:Int):List Nat×List Nat×Nat:=
 if er≠0 then([],L,er)else if n<0 then([],L,1)else if(L.length:Int)<n then([],L,4)else(L.take n.toNat,L.drop n.toNat,0)
def Zg4 (L:List Nat)(er:Nat):List Nat×List Nat×Nat:=
 match Lq L er with
 |(none,M,e)=>([],M,e)
 |(some n,M,e)=>Zeq M e (n:Int)
theorem Yw (c:Nat)(L:List Nat):Ul (c::L)=c*256^L.length+Ul L:=by
 have key:∀(L:List Nat) (a:Nat),L.foldl (fun a c=>a*256+c) a=a*256^L.length+L.foldl (fun a c=>a*256+c) 0:=by
  intro L
  induction L with
  |nil=>intro a;simp
  |cons x L ih=>
   intro a;simp only[dF,List.length_cons];have e:(a*256+x)*256^L.length=a*(256^L.length*256)+x*256^L.length:=(by rw[Nat.add_mul,Nat.mul_assoc,Nat.mul_comm 256]);rw[ih (a*256+x),ih (0*256+x),Nat.pow_succ,e,Nat.zero_mul,Nat.zero_add];omega
 show(c::L).foldl _ 0=_;rw[dF,key];simp[Ul]
theorem Us:∀s n,Ul (beN s n)=n%256^s:=by
 intro s
 induction s with
 |zero=>intro n;simp[beN,Ul,Nat.mod_one]
 |succ s ih=>
  intro n;rw[beN,Yw,beN_len,ih,Nat.mod_pow_succ,Nat.mul_comm];omega
theorem Sx {n:Nat}(hn:n<1073741824)(R:List Nat):Lq (lenB n++R) 0=(some n,R,0):=by
 by_cases h1:n<64
 ·have e:lenB n++R=n::R:=(by rw[lenB,if_pos h1];rfl);rw[e,Lq,if_neg (by simp)];have h0:n/64=0:=(by omega);rw[Zgt,h0,if_neg (by omega)];have e2:Ul (n%64::R.take (2^0-1))=n:=(by simp[Ul];omega);rw[e2,if_neg (by simp),if_pos (by rw[lenS1 h1])];simp
 ·by_cases h2:n<16384
  ·have e:lenB n++R=(64+n/256)::(n%256)::R:=(by rw[lenB,if_neg h1,if_pos h2];rfl);rw[e,Lq,if_neg (by simp)];have h0:(64+n/256)/64=1:=(by omega);rw[Zgt,h0,if_neg (by omega)];have e2:Ul ((64+n/256)%64::(n%256::R).take (2^1-1))=n:=(by simp[Ul];omega);rw[e2,if_neg (by simp),if_pos (by rw[lenS2 (by omega) h2])];simp
  ·have e:lenB n++R=(128+n/16777216)::(n/65536%256)::(n/256%256)::(n%256)::R:=(by rw[lenB,if_neg h1,if_neg h2];rfl);rw[e,Lq,if_neg (by simp)];have h0:(128+n/16777216)/64=2:=(by omega);rw[Zgt,h0,if_neg (by omega)];have e2:Ul ((128+n/16777216)%64::(n/65536%256::n/256%256::n%256::R).take (2^2-1))=n:=(by simp[Ul];omega);rw[e2,if_neg (by simp),if_pos (by rw[lenS4 (by omega) hn])];simp
theorem Yx (v R:List Nat):Zeq (v++R) 0 (v.length:Int)=(v,R,0):=by
 rw[Zeq,if_neg (by simp),if_neg (by omega),if_neg (by rw[List.length_append];omega),Int.toNat_natCast];simp
theorem Ut {v:List Nat}(hv:v.length<1073741824)(R:List Nat):Zg4 (As v++R) 0=(v,R,0):=by
 rw[Zg4,As,List.append_assoc,Sx hv];simp only;exact Yx v R
theorem Zcj (v v':Value)(L:List Nat)(w:World)(h:Rd w v (bvs L))(h':Rd w v' (bvs L))(hL:∀n∈L,n<256):
  Calls Tryz.prog 19 #[v,v'] w fun e w'=>e=.returned (.bool true)∧∃n,w'=w.drewN n:=by
 refine(Kl v v' L L w h h' hL hL).mono ?_;rintro e w' ⟨he,hw⟩;rw[decide_eq_true rfl]at he;exact⟨he,hw⟩
end Go.Proofs.YtfofaiommeckbaaGreat
