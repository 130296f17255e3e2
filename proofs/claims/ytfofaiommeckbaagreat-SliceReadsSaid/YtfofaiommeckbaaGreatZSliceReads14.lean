/- Trees as data: a slice of nodes as it reads; how many leaves; walks of what looks at a tree's size. -/
import Derived.Test.YtfofaiommeckbaaGreatZSliceReadsB
import Derived.Test.YtfofaiommeckbaaGreatZSliceReads11
import Derived.Test.YtfofaiommeckbaaGreatZSliceReads13
import Derived.Deep.MidRow
open List renaming getD_eq_getElem?_getD → aH, getElem?_eq_getElem → aI, getElem_mem → aJ, getElem?_eq_none → aK
open Bool renaming and_eq_true → bS
set_option linter.unusedVariables false
set_option maxRecDepth 100000
set_option maxHeartbeats 40000000
namespace Go.Proofs.YtfofaiommeckbaaGreat
open Go.RowKit
theorem Dg {a b:Bool}(h:a=b):Ending.returned (.bool b)=.returned (.bool a):=by rw[h]
theorem Zkn {k:IntKind} {a b:Int}(h:a=b):Ending.returned (.int k b)=.returned (.int k a):=by rw[h]
def nd (t:List NodeD)(i:Nat):NodeD:=t.getD i Ak
def TreeR (w:World)(v:Value)(t:List NodeD):Prop:=
 ∃a cap,v=.slice a t.length cap∧t.length≤cap∧cap≤maxLen∧∀i,i<t.length→∃b off c,a=some ⟨b,off,none⟩∧b<w.heap.size∧NodeC w (nd t i) c∧w.rangeAt b (off+i*10) c.toList
theorem An {w w':World} {B b o:Nat} {cs:List Value}(h:w.rangeAt b o cs)(hb:Below B w w')(hB:b<B):w'.rangeAt b o cs:=by
 intro j u hu;exact(hb.cell (p:=⟨b,o+j,none⟩) hB).trans (h j u hu)
theorem TreeR.below {w w':World} {B:Nat} {v:Value} {t:List NodeD}(h:TreeR w v t)(hb:Below B w w')(hB:w.heap.size≤B):TreeR w' v t:=by
 obtain⟨a,cap,e,h1,h2,h3⟩:=h;refine⟨a,cap,e,h1,h2,fun i hi=> ?_⟩;obtain⟨b,off,c,e,hl,hn,hr⟩:=h3 i hi;exact⟨b,off,c,e,Nat.lt_of_lt_of_le hl hb.size,hn.below hb hB,An hr hb (by omega)⟩
theorem TreeR.sl {w:World} {v:Value} {t:List NodeD}(h:TreeR w v t):∃a c,v=.slice a t.length c∧t.length≤c∧c≤9223372036854775807:=by
 obtain⟨a,cap,e,h1,h2,_⟩:=h;unfold maxLen at h2;exact⟨a,cap,e,h1,h2⟩
theorem TreeR.node {w:World} {a:Option Addr} {n c:Nat} {t:List NodeD}(h:TreeR w (.slice a n c) t) {i:Nat}(hi:i<n):∃b off cs,a=some ⟨b,off,none⟩∧b<w.heap.size∧NodeC w (nd t i) cs∧w.rangeAt b (off+i*10) cs.toList:=by
 obtain⟨a',cap,e,h1,h2,h3⟩:=h;simp only[Value.slice.injEq]at e;obtain⟨rfl,rfl,rfl⟩:=e;exact h3 i hi
theorem NodeC.size {w:World} {d:NodeD} {c:Array Value}(h:NodeC w d c):c.size=10:=by
 obtain⟨a1,c1,a2,c2,a3,c3,a4,c4,a5,c5,b1,e1,b2,e2,b3,e3,rfl,_⟩:=h;rfl
theorem NodeC.kind {w:World} {d:NodeD} {c:Array Value}(h:NodeC w d c):c.toList[0]? =some (.int .u8 (d.kind:Nat)):=by
 obtain⟨a1,c1,a2,c2,a3,c3,a4,c4,a5,c5,b1,e1,b2,e2,b3,e3,rfl,_⟩:=h;rfl
theorem NodeC.late {w:World} {d:NodeD} {c:Array Value}(h:NodeC w d c):∃b e,c.toList[9]? =some (.slice b d.par.late.length e)∧Rd w (.slice b d.par.late.length e) (ivs .i64 d.par.late):=by
 obtain⟨a1,c1,a2,c2,a3,c3,a4,c4,a5,c5,b1,e1,b2,e2,b3,e3,rfl,h1,h2,h3,h4,h5,h6,h7,h8⟩:=h;exact⟨b3,e3,rfl,h8⟩
theorem NodeC.one {w:World} {d:NodeD} {c:Array Value}(h:NodeC w d c):c.all (·.oneCell')=true:=by
 obtain⟨a1,c1,a2,c2,a3,c3,a4,c4,a5,c5,b1,e1,b2,e2,b3,e3,rfl,h1,h2,h3,h4,h5,h6,h7,h8⟩:=h;rw[←Array.all_toList];rfl
def TreeOk (t:List NodeD):Prop:=∀d∈t,NodeOk d
theorem TreeOk.nd {t:List NodeD}(h:TreeOk t)(i:Nat):NodeOk (nd t i):=by
 unfold Go.Proofs.YtfofaiommeckbaaGreat.nd;rw[aH]
 by_cases hi:i<t.length
 ·rw[aI hi];exact h _ (aJ hi)
 ·rw[aK (by omega)];exact Jf
def Eg (t:List NodeD):Bool:=decide (t.length≤40)&&t.all exB
theorem Fn {t:List NodeD}(h:Eg t=true):t.length≤40:=by
 rw[Eg,bS]at h;exact of_decide_eq_true h.1
theorem Zhc:exB Ak=true:=by decide
theorem Za4 {t:List NodeD}(h:Eg t=true)(i:Nat):exB (nd t i)=true:=by
 rw[Eg,bS]at h;unfold Go.Proofs.YtfofaiommeckbaaGreat.nd;rw[aH]
 by_cases hi:i<t.length
 ·rw[aI hi];exact List.all_eq_true.1 h.2 _ (aJ hi)
 ·rw[aK (by omega)];exact Zhc
theorem Dy {t:List NodeD}(h:Eg t=true)(i:Nat):Cb (nd t i)=true:=Rt (Za4 h i)
def Za5 (t:List NodeD):Bool:=decide (t.length≤63)&&t.all exB
theorem Qg {t:List NodeD}(h:Za5 t=true):t.length≤63:=by
 rw[Za5,bS]at h;exact of_decide_eq_true h.1
theorem Op {t:List NodeD}(h:Eg t=true):Za5 t=true:=by
 rw[Eg,bS]at h;rw[Za5,bS];exact⟨decide_eq_true (by have:=of_decide_eq_true h.1;omega),h.2⟩
theorem Ug {t:List NodeD}(h:Za5 t=true)(i:Nat):exB (nd t i)=true:=by
 rw[Za5,bS]at h;unfold Go.Proofs.YtfofaiommeckbaaGreat.nd;rw[aH]
 by_cases hi:i<t.length
 ·rw[aI hi];exact List.all_eq_true.1 h.2 _ (aJ hi)
 ·rw[aK (by omega)];exact Zhc
theorem Za6 {t:List NodeD}(h:Za5 t=true)(i:Nat):Cb (nd t i)=true:=Rt (Ug h i)
theorem Be:(Tryz.prog.info? 52).map (·.size)=some 10:=by kernel_rfl
open WalkM
theorem Dl {w:World} {B:Nat} {e:TypeId} {v:Value} {xs:List Value}(h:Own w B e v xs):∃a n c,v=.slice a n c:=by
 obtain⟨a,c,e,_⟩:=h.rd;exact⟨a,_,c,e⟩
theorem Rd.at3 {w:World} {a:Option Addr} {n cap r:Nat} {xs:List Value} {u:Value}(h:Rd w (.slice a n cap) xs)(hu:xs[r]? =some u):∃b off,a=some ⟨b,off,none⟩∧b<w.heap.size∧w.cell? ⟨b,off+r,none⟩=some u:=by
 rcases h.lt with h0|⟨b,off,cap',e1,e2⟩
 ·subst h0;simp at hu
 ·obtain⟨a',c',e,_,_,h3⟩:=h;rcases h3 with⟨h0,_⟩|⟨b',off',he,hc⟩
  ·subst h0;simp at hu
  ·simp only[Value.slice.injEq]at e e1;obtain⟨rfl,_,_⟩:=e;obtain⟨rfl,_,_⟩:=e1;simp only[Option.some.injEq,Addr.mk.injEq,and_true]at he;obtain⟨rfl,rfl⟩:=he;exact⟨b,off,rfl,e2,hc r u hu⟩
def Bg (n:Nat):Nat:=if n%2=1∧fits ((n+1)/2)=true then(n+1)/2 else 0
theorem In {n:Nat}(h:Bg n≠0):∃d,d≤16∧Bg n=2^d∧n+1=2*2^d:=by
 unfold Bg at h⊢
 by_cases hc:n%2=1∧fits ((n+1)/2)=true
 ·rw[if_pos hc]at h⊢;obtain⟨d,hd,e⟩:=(fits_iff _).1 hc.2;exact⟨d,hd,e,by rw[←e];omega⟩
 ·rw[if_neg hc]at h;exact absurd rfl h
theorem Mo {n d:Nat}(hd:d≤16)(h:n+1=2*2^d):Bg n=2^d:=by
 have e:(n+1)/2=2^d:=(by omega);unfold Bg;rw[if_pos ⟨by omega,by rw[e];exact(fits_iff _).2 ⟨d,hd,rfl⟩⟩,e]
theorem Io (a:Option Addr)(n c:Nat)(w:World)(hn:n≤1000000):
  Calls Tryz.prog 225 #[.slice a n c] w fun e w'=>e=.returned (.int .i64 (Bg n:Nat))∧w'=w:=by
 obtain⟨m,hm⟩:=eX ((n+1)/2);have F:=Jb (m:Int) w (by omega) (by omega);rw[Int.toNat_natCast]at F;have e1:((n:Int)+1)/2=(m:Int):=(by omega);have e2:Int.tdiv ((n:Int)+1) 2=(m:Int):=(by rw[Int.tdiv_eq_ediv_of_nonneg (by omega)];omega);obtain⟨r,hr⟩:=eX (n%2);have e3:(n:Int)%2=(r:Int):=(by omega);have e4:Int.tmod (n:Int) 2=(r:Int):=(by rw[Int.tmod_eq_emod_of_nonneg (by omega)];omega);have hr2:r=0∨r=1:=(by omega);obtain⟨L,hL⟩:=eX (Bg n);have hLe:L=if r=1∧fits m=true then m else 0:=(by rw[hL,Bg,←hm,←hr]);rw[←hL];have HF:=Hd F;have HL:=Hd hLe;clear F hL hLe hm hr;rcases hr2 with rfl|rfl
 ·go_enter Tryz.func225,Tryz.ntmps225;go_wp2_with fail;go_ret;exact⟨Zkn (by rw[HL.out,if_neg (by omega)];rfl),rfl⟩
 ·cases hf:fits m with
  |true=>
   have HFT:=Hd hf;have HF2:=HF.out;rw[hf]at HF2;have HF3:=Hd HF2;clear hf HF HF2;go_enter Tryz.func225,Tryz.ntmps225;go_wp2_with fail;refine(HF3.out).mono ?_;rintro e w' ⟨rfl,rfl⟩;go_wp2_with fail;go_ret;exact⟨Zkn (by rw[HL.out,if_pos ⟨by trivial,HFT.out⟩]),rfl⟩
  |false=>
   have HFT:=Hd hf;have HF2:=HF.out;rw[hf]at HF2;have HF3:=Hd HF2;clear hf HF HF2;go_enter Tryz.func225,Tryz.ntmps225;go_wp2_with fail;refine(HF3.out).mono ?_;rintro e w' ⟨rfl,rfl⟩;go_wp2_with fail;go_ret;exact⟨Zkn (by rw[HL.out,if_neg (by rw[HFT.out];simp)];rfl),rfl⟩
end Go.Proofs.YtfofaiommeckbaaGreat
