/- Plain: which late leaves a parent of a tree may have. -/
import Derived.Test.YtfofaiommeckbaaGreatZSliceReadsB
import Derived.Test.YtfofaiommeckbaaGreatZSliceReads15
import Derived.Test.YtfofaiommeckbaaGreatZSliceReads21
open Bool renaming and_eq_true → bS
set_option linter.unusedVariables false
set_option maxRecDepth 100000
set_option maxHeartbeats 40000000
namespace Go.Proofs.YtfofaiommeckbaaGreat
open Go.RowKit WalkM
def Lj (t:List NodeD)(x:Nat)(u:Int):Prop:=
 u<(Bg t.length:Int)∧Bt (2*u) (x:Int)=true∧(nd t (2*u).toNat).kind≠0∧∀y,y<t.length→(nd t y).kind=2→Bt (2*u) (y:Int)=true→Bt (y:Int) (x:Int)=true→u∈(nd t y).par.late
def Zbq (t:List NodeD)(x:Nat)(u:Int):Bool:=
 decide (u<(Bg t.length:Int))&&(Bt (2*u) (x:Int)&&(decide ((nd t (2*u).toNat).kind≠0)&&(List.range t.length).all fun y=> !(decide ((nd t y).kind=2)&&(Bt (2*u) (y:Int)&&Bt (y:Int) (x:Int)))||decide (u∈(nd t y).par.late)))
theorem Ou (t:List NodeD)(x:Nat)(u:Int):Zbq t x u=true↔Lj t x u:=by
 unfold Zbq Lj;simp only[bS,decide_eq_true_iff,List.all_eq_true,List.mem_range,Bool.or_eq_true,Bool.not_eq_true',Bool.and_eq_false_imp];constructor
 ·rintro⟨h1,h2,h3,h4⟩;refine⟨h1,h2,h3,fun y hy k1 k2 k3=> ?_⟩;rcases h4 y hy with h|h
  ·have:=h k1 k2;rw[k3]at this;cases this
  ·exact h
 ·rintro⟨h1,h2,h3,h4⟩;refine⟨h1,h2,h3,fun y hy=> ?_⟩
  by_cases hm:u∈(nd t y).par.late
  ·exact .inr hm
  ·refine .inl fun k1 k2=> ?_;cases k3:Bt (y:Int) (x:Int)with
   |false=>rfl
   |true=>exact absurd (h4 y hy k1 k2 k3) hm
def Eh (t:List NodeD)(x:Nat):Bool:=(nd t x).par.late.all (Zbq t x)
theorem Zc {t:List NodeD} {x:Nat}(h:∀u∈(nd t x).par.late,Lj t x u):Eh t x=true:=List.all_eq_true.2 fun u hu=>(Ou t x u).2 (h u hu)
theorem Ov {t:List NodeD} {x:Nat}(h:Eh t x=true):∀u∈(nd t x).par.late,Lj t x u:=fun u hu=>(Ou t x u).1 (List.all_eq_true.1 h u hu)
theorem Zbr {t:List NodeD} {x:Nat} {u:Int}(hu:u∈(nd t x).par.late)(h:¬Lj t x u):Eh t x=false:=by
 cases hb:Eh t x with
 |false=>rfl
 |true=>exact absurd (Ov hb u hu) h
theorem Ht {d:NodeD}(h:Aq d=true):d.kind=0∨d.kind=1∨d.kind=2:=by
 unfold Aq at h
 by_cases h0:d.kind=0
 ·exact .inl h0
 ·by_cases h1:d.kind=1
  ·exact .inr (.inl h1)
  ·by_cases h2:d.kind=2
   ·exact .inr (.inr h2)
   ·simp only[h0,h1,h2,if_false]at h;cases h
theorem Kw {d:NodeD}(h:Aq d=true)(hk:d.kind≠2):d.par.late=[]:=by
 unfold Aq at h;have key:npB d.par.box.length d.par.hash.length d.par.late.length=true→d.par.late=[]:=by
  intro h;have:=of_decide_eq_true h;exact List.eq_nil_of_length_eq_zero (by omega)
 rcases Ht (d:=d) (by unfold Aq;exact h)with h0|h1|h2
 ·simp only[h0,if_true,bS]at h;exact key h.2
 ·simp only[h1,if_true,Nat.one_ne_zero,if_false,bS]at h;exact key h.2
 ·exact absurd h2 hk
theorem Ck {d:NodeD}(h:Aq d=true):Jz d.par.late=true:=by
 by_cases hk:d.kind=2
 ·have h':(nlB d.leaf.box.length d.leaf.sign.length d.leaf.ident.length d.leaf.source d.leaf.par.length d.leaf.sig.length&&rpB d.par.box.length d.par.hash.length d.par.late)=true:=by
   have h2:=h;unfold Aq at h2;rw[hk]at h2;exact h2
  rw[bS]at h';have h2:=h'.2;unfold rpB at h2;rw[bS]at h2;exact h2.1
 ·rw[Kw h hk];rfl
theorem Zd {L:List Int}(h:Jz L=true):Zjl L:=by
 have hp:=(Ha L).1 h;intro i j hij hj
 induction j with
 |zero=>omega
 |succ j ih=>
  have h1:=(hp (j+1) hj).1;unfold Gz at h1;rw[if_neg (by omega),Nat.add_sub_cancel]at h1
  by_cases e:i=j
  ·rw[e];exact h1
  ·have:=ih (by omega) (by omega);omega
theorem Hu {q:Nat}(h:q%2=0)(hq:q≤131070):lev q=0:=lev_eq hq (by unfold IsLev;simp;omega)
theorem Zbs {q:Nat}(h:q%2=1)(hq:q≤131070):1≤lev q:=by
 rcases Nat.eq_zero_or_pos (lev q)with h0|h0
 ·have:=lev_is hq;rw[h0]at this;unfold IsLev at this;simp at this;omega
 ·exact h0
theorem Zh9 (x:Nat) {j:Nat}(h:1≤j):anc x j%2=1:=by
 have h1:2^(j+1)%2=0:=(by rw[Nat.pow_succ];omega);have h2:2^j%2=0:=by
  obtain⟨k,rfl⟩:∃k,j=k+1:=⟨j-1,by omega⟩;rw[Nat.pow_succ];omega
 have h3:=pow_pos' j;unfold anc;rw[Nat.add_mod,Nat.mul_mod,h1,Nat.mul_zero,Nat.zero_mod,Nat.zero_add,Nat.mod_mod];omega
theorem Jm {q x d:Nat}(hd:d≤16)(hq:q+1<2^(d+1))(hx:x+1<2^(d+1))(he:q%2=0):Bt (q:Int) (x:Int)=decide (x=anc q (lev x)):=by
 have h17:=At (show d+1≤17 by omega);have hx2:x≤131070:=(by omega);have hl:=(lev_root hx (lev_is hx2)).1;have e:=Un hd hx hq hl;rw[anc_self (lev_is hx2)]at e;rw[e,Hu he (by omega)]
 congr 1
 simp
theorem Fq {t:List NodeD}(hp:Ch t=true) {x:Nat}(hx:x<t.length):(nd t x).kind≠Fo x∧Aq (nd t x)=true:=(Ip t).1 hp x hx
theorem Ow {t:List NodeD}(hp:Ch t=true) {x:Nat}(hx:x<t.length)(hk:(nd t x).kind=2):x%2=1:=by
 rcases Nat.mod_two_eq_zero_or_one x with h|h
 ·have:=(Fq hp hx).1;rw[Iq h]at this;exact absurd hk this
 ·exact h
theorem Ze {t:List NodeD}(hp:Ch t=true) {x:Nat}(hx:x<t.length)(ho:x%2=1)(hk:(nd t x).kind≠0):(nd t x).kind=2:=by
 obtain⟨h1,h2⟩:=Fq hp hx;rw[Ke ho]at h1;rcases Ht h2 with h|h|h
 ·exact absurd h hk
 ·exact absurd h h1
 ·exact h
theorem Mu {t:List NodeD}(hp:Ch t=true) {x:Nat}(hx:x<t.length) {u:Int}(hu:u∈(nd t x).par.late):(nd t x).kind=2∧∃m:Nat,u=(m:Int)∧m<65536:=by
 obtain⟨_,h2⟩:=Fq hp hx;refine⟨?_,?_⟩
 ·by_cases hk:(nd t x).kind=2
  ·exact hk
  ·rw[Kw h2 hk]at hu;cases hu
 ·obtain⟨h0,h1⟩:=Eo (Ck h2) u hu;exact⟨u.toNat,by omega,by omega⟩
theorem Zia {t:List NodeD} {d m x:Nat}(hd:d≤16)(hl:t.length+1=2*2^d)(hp:Ch t=true)(hx:x<t.length)(hm:2*m<t.length)(hu:(m:Int)∈(nd t x).par.late)(hund:Bt ((2*m:Nat):Int) (x:Int)=true):
  (∀i,1≤i→i<lev x→(nd t (anc (2*m) i)).kind≠0→(m:Int)∈(nd t (anc (2*m) i)).par.late)↔(∀y,y<t.length→(nd t y).kind=2→Bt ((2*m:Nat):Int) (y:Int)=true→Bt (y:Int) (x:Int)=true→(m:Int)∈(nd t y).par.late):=by
 have h17:=At (show d+1≤17 by omega);have e2:2^(d+1)=2*2^d:=(by rw[Nat.pow_succ];omega);have hx1:x+1<2^(d+1):=(by omega);have hm1:2*m+1<2^(d+1):=(by omega);have hx2:x≤131070:=(by omega);have hlx:=(lev_root hx1 (lev_is hx2)).1;rw[Jm hd hm1 hx1 (by omega),decide_eq_true_iff]at hund;constructor
 ·intro h y hy hk k1 k2;have hy1:y+1<2^(d+1):=(by omega);have hy2:y≤131070:=(by omega);have hyo:=Ow hp hy hk;have hly:=Zbs hyo hy2;rw[Jm hd hm1 hy1 (by omega),decide_eq_true_iff]at k1;have e:=Un (x:=2*m) hd hm1 hy1 hlx;rw[←hund]at e;rw[e,decide_eq_true_iff]at k2;obtain⟨q1,q2⟩:=k2
  by_cases hle:lev y=lev x
  ·rw[←hle,anc_self (lev_is hy2)]at q2;rw[←q2];exact hu
  ·have:=h (lev y) hly (by omega) (by rw[←k1,hk];omega);rw[←k1]at this;exact this
 ·intro h i hi1 hi2 hk;have hy1:=anc_le (show 2*m<2^(d+1) by omega) (show i≤d by omega);have hy2:anc (2*m) i≤131070:=(by omega);have hyl:anc (2*m) i<t.length:=(by omega);have hlev:lev (anc (2*m) i)=i:=lev_eq hy2 (anc_lev _ _);refine h _ hyl (Ze hp hyl (Zh9 _ hi1) hk) ?_ ?_
  ·rw[Jm hd hm1 hy1 (by omega),decide_eq_true_iff,hlev]
  ·have e:=Un (x:=2*m) hd hm1 hy1 hlx;rw[←hund]at e;rw[e,decide_eq_true_iff,hlev];refine⟨by omega,?_⟩;rw[anc_anc (by omega),←hund]
theorem Zbt {t:List NodeD} {d m x:Nat}(hd:d≤16)(hl:t.length+1=2*2^d):Lj t x (m:Int)↔m<2^d∧Bt ((2*m:Nat):Int) (x:Int)=true∧(nd t (2*m)).kind≠0∧∀y,y<t.length→(nd t y).kind=2→Bt ((2*m:Nat):Int) (y:Int)=true→Bt (y:Int) (x:Int)=true→(m:Int)∈(nd t y).par.late:=by
 unfold Lj;rw[Mo hd hl,show(2:Int)*(m:Int)=((2*m:Nat):Int) by omega,Int.toNat_natCast,Int.ofNat_lt]
end Go.Proofs.YtfofaiommeckbaaGreat
