/- Walks: walk.Parent, walk.Sibling, walk.Under. -/
import Derived.Test.YtfofaiommeckbaaGreatZPatchMakesB
import Derived.Test.YtfofaiommeckbaaGreatZPatchMakes03
import Derived.Deep.LoopGhost
open Bool renaming and_eq_true → cC, not_eq_true → dA, false_and → dB, true_and → dC
open Int renaming toNat_natCast → dD
open Nat renaming pow_succ → aN, sub_zero → dE
set_option linter.unusedVariables false
set_option maxRecDepth 100000
set_option maxHeartbeats 40000000
namespace Go.Proofs.YtfofaiommeckbaaGreat
open Go.RowKit WalkM
def Ni (x n:Int):Int:=if Lc x n=true∧x≠n-1 then((anc x.toNat (lev x.toNat+1):Nat):Int)else-1
theorem Zen {x n:Int}(h:Lc x n=true):0≤x∧x≤2*n-2∧1≤n∧n≤65536:=by
 unfold Lc at h;rw[cC]at h;have h1:=Gz h.1;have h2:=of_decide_eq_true h.2;omega
theorem Hb {x:Nat}(h:x≤131070):Kg (x:Int)=(lev x:Nat):=by
 rw[Kg,if_pos (by rw[Az,decide_eq_true];omega),dD]
theorem Zeo (x n:Int): -1≤Ni x n∧(0≤Ni x n→Lc x n=true∧x≠n-1):=by
 unfold Ni
 split
 ·rename_i h;exact⟨by omega,fun _=>h⟩
 ·exact⟨by omega,fun h=>absurd h (by omega)⟩
def Zdw (x n:Int):Int:=if Ni x n<0 then-1 else if x<Ni x n then Br (Ni x n)else Do (Ni x n)
def Ql (y:Int):Int:=2^(Kg y).toNat-1
def Bl (x y:Int):Bool:=Az x&&Az y&&decide (y-Ql y≤x∧x≤y+Ql y)
theorem Cs (x y:Int)(w:World):
  Calls Tryz.prog 192 #[.int .i64 x,.int .i64 y] w fun e w'=>e=.returned (.bool (Bl x y))∧w=w':=by
 have N:=Kk x
 by_cases hx:Az x=true
 ·rw[hx]at N;have HN:=Hd N;have M:=Kk y;clear N
  by_cases hy:Az y=true
  ·rw[hy]at M;have HM:=Hd M;have e:Bl x y=decide (y-Ql y≤x∧x≤y+Ql y):=(by rw[Bl,hx,hy];rfl);rw[e];have x':=of_decide_eq_true hx;have y':=of_decide_eq_true hy;clear hx hy e M;obtain⟨m,rfl⟩:∃m:Nat,y=(m:Int):=⟨y.toNat,by omega⟩;have hm:m≤131070:=(by omega);have L:=Px (m:Int);have ew:Ql (m:Int)=2^(lev m)-1:=(by rw[Ql,Hb hm,dD]);rw[ew];rw[Hb hm]at L;have hl:=lev_le hm;obtain⟨l,hl'⟩:∃l,l=lev m:=⟨_,rfl⟩;rw[←hl']at L hl⊢;have HL:=Hd L;have q1:=Bb (show l≤16 by omega);have q2:=two_pow_pos l;have ep:(2:Int)^l=((2^l:Nat):Int):=(by simp);rw[ep];have W1:=Ue (show l≤17 by omega);rw[ep]at W1;obtain⟨p,hp⟩:=eX (2^l);rw[←hp]at q1 q2 W1 ep⊢;have HW:=Hd W1;have HP:=Hd ep;clear hl' L ew hp
   by_cases ha:(m:Int)-((p:Int)-1)≤x
   ·have e:decide ((m:Int)-((p:Int)-1)≤x∧x≤(m:Int)+((p:Int)-1))=decide (x≤(m:Int)+((p:Int)-1)):=by
     by_cases hb:x≤(m:Int)+((p:Int)-1)
     ·rw[decide_eq_true ⟨ha,hb⟩,decide_eq_true hb]
     ·rw[decide_eq_false (fun h=>hb h.2),decide_eq_false hb]
    rw[e];clear e;obtain⟨b,hb⟩:=eX (decide (x≤(m:Int)+((p:Int)-1)));rw[←hb];have HB:=Hd hb;clear hb;go_enter Tryz.func192,Tryz.ntmps192;go_wp2_with fail;refine(HN.out _).mono ?_;rintro e w' ⟨rfl,rfl⟩;go_wp2_with fail;refine(HM.out _).mono ?_;rintro e w' ⟨rfl,rfl⟩;go_wp2_with fail;refine(HL.out _).mono ?_;rintro e w' ⟨rfl,rfl⟩;go_wp2_with fail;go_ret;exact⟨Ad HB.out.symm,rfl⟩
   ·rw[decide_eq_false (fun h=>ha h.1)];go_enter Tryz.func192,Tryz.ntmps192;go_wp2_with fail;refine(HN.out _).mono ?_;rintro e w' ⟨rfl,rfl⟩;go_wp2_with fail;refine(HM.out _).mono ?_;rintro e w' ⟨rfl,rfl⟩;go_wp2_with fail;refine(HL.out _).mono ?_;rintro e w' ⟨rfl,rfl⟩;go_wp2_with fail;go_ret;exact⟨rfl,rfl⟩
  ·have hy':Az y=false:=(by rw[←dA];exact hy);rw[hy']at M;have HM:=Hd M;have e:Bl x y=false:=(by rw[Bl,hy',Bool.and_false,dB]);rw[e];clear hx hy hy' e M;go_enter Tryz.func192,Tryz.ntmps192;go_wp2_with fail;refine(HN.out _).mono ?_;rintro e w' ⟨rfl,rfl⟩;go_wp2_with fail;refine(HM.out _).mono ?_;rintro e w' ⟨rfl,rfl⟩;go_wp2_with fail;go_ret;exact⟨rfl,rfl⟩
 ·have hx':Az x=false:=(by rw[←dA];exact hx);rw[hx']at N;have HN:=Hd N;have e:Bl x y=false:=(by rw[Bl,hx',dB,dB]);rw[e];clear hx hx' e N;go_enter Tryz.func192,Tryz.ntmps192;go_wp2_with fail;refine(HN.out _).mono ?_;rintro e w' ⟨rfl,rfl⟩;go_wp2_with fail;go_ret;exact⟨rfl,rfl⟩
theorem Oq {x d:Nat}(hd:d≤16):Lc (x:Int) ((2^d:Nat):Int)=decide (x+1<2^(d+1)):=by
 have hf:fits (2^d)=true:=(fits_iff _).2 ⟨d,hd,rfl⟩;have hp:=pow_pos' d;rw[Lc,dD,hf,dC,aN];generalize 2^d=p at*
 by_cases h:x+1<p*2
 ·rw[decide_eq_true h,decide_eq_true];omega
 ·rw[decide_eq_false h,decide_eq_false];omega
def nxt (x d j:Nat):Int:=if j<d then((anc x (j+1):Nat):Int)else-1
theorem Ot {x d:Nat}(hd:d≤16)(hx:x+1<2^(d+1)):Ni (x:Int) ((2^d:Nat):Int)=nxt x d (lev x):=by
 have h17:=Bb (show d+1≤17 by omega);have hl:=lev_root hx (lev_is (by omega));have hp:=pow_pos' d;unfold Ni nxt;rw[Oq hd,decide_eq_true hx,dD]
 by_cases h:lev x<d
 ·rw[if_pos h,if_pos];refine⟨rfl,fun e=> ?_⟩;have:x=2^d-1:=(by omega);have:=hl.2.2 this;omega
 ·rw[if_neg h,if_neg];rintro⟨_,e⟩;apply e;have:=hl.2.1 (by omega);omega
theorem Zcc {x d j:Nat}(hd:d≤16)(hx:x+1<2^(d+1))(hj:j≤d):Ni ((anc x j:Nat):Int) ((2^d:Nat):Int)=nxt x d j:=by
 have h17:=Bb (show d+1≤17 by omega);have hle:=anc_le (show x<2^(d+1) by omega) hj;rw[Ot hd hle,lev_eq (by omega) (anc_lev x j)];unfold nxt;rw[anc_anc (by omega)]
def ups (x:Nat):Nat→Nat→List Nat
 |_,0=>[]
 |j,k+1=>anc x (j+1)::ups x (j+1) k
theorem Yp (x:Nat):∀k j,(ups x j k).length=k:=by
 intro k
 induction k with
 |zero=>intro j;rfl
 |succ k ih=>intro j;simp[ups,ih]
theorem Zcd (x:Nat):∀k j,ups x j (k+1)=ups x j k++[anc x (j+k+1)]:=by
 intro k
 induction k with
 |zero=>intro j;rfl
 |succ k ih=>
  intro j;rw[ups,ih,ups];simp only[List.cons_append];rw[show j+1+k+1=j+(k+1)+1 by omega]
def nvs (L:List Nat):List Value:=ivs .i64 (L.map fun(n:Nat)=>(n:Int))
theorem Ou (L:List Nat):(nvs L).length=L.length:=by simp[nvs,ivs]
theorem Zce (L:List Nat)(x:Nat):nvs (L++[x])=nvs L++[.int .i64 (x:Int)]:=by simp[nvs,ivs]
theorem Cl:Elem Tryz.prog 48 3 (.int .i64 0) 8:=⟨Tryz.underlying48,by kernel_rfl,rfl,by omega⟩
theorem Kp {x n:Int}(h:Lc x n=true):∃m d:Nat,x=(m:Int)∧n=((2^d:Nat):Int)∧d≤16∧m+1<2^(d+1):=by
 have hb:=Zen h;unfold Lc at h;rw[cC]at h;obtain⟨d,hd,e⟩:=(fits_iff _).1 h.1;refine⟨x.toNat,d,by omega,by omega,hd,?_⟩;rw[aN];omega
def My (x n:Int):List Nat:=if Lc x n=true then ups x.toNat (lev x.toNat) (Nat.log2 n.toNat-lev x.toNat)else []
theorem Ov {x d:Nat}(hd:d≤16)(hx:x+1<2^(d+1)):My (x:Int) ((2^d:Nat):Int)=ups x (lev x) (d-lev x):=by
 rw[My,if_pos (by rw[Oq hd,decide_eq_true hx]),dD,dD,Nat.log2_two_pow]
theorem Yq {x n:Int}(h:Lc x n=false):My x n=[]:=by rw[My,if_neg (by rw[h];simp)]
theorem Ll (n:Int)(w:World):
  Calls Tryz.prog 69 #[.int .i64 n] w fun e w'=>e=.returned (.bool (fits n.toNat))∧w=w':=by
 go_enter Tryz.func69,Tryz.ntmps69;go_wp2_with fail
 go_loopg [3] 17 (fun k i wr=>∃d:Nat,d+k=17∧i=.int .i64 ((2^d:Nat):Int)∧(∀e,e<d→n≠((2^e:Nat):Int))∧wr=w)
 case atStart=>exact⟨0,rfl,rfl,fun e h=>absurd h (by omega),rfl⟩
 case round=>
  obtain⟨d,hd,rfl,hno,rfl⟩:=hrel;have HNO:=Hd hno;clear hno
  by_cases h17:d=17
  ·subst h17;have hf:fits n.toNat=false:=by
    rw[←dA];intro h;obtain⟨e,he,h⟩:=(fits_iff _).1 h;have hp:=pow_pos' e;exact HNO.out e (by omega) (by omega)
   have HF:=Hd hf;clear hf;have e17:((2^17:Nat):Int)=131072:=(by decide);rw[e17];go_wp2_with fail;go_ret;exact⟨Ad HF.out.symm,rfl⟩
  ·have hd16:d≤16:=(by omega);have hle:=Bb hd16;have he2:2^(d+1)=2*2^d:=(by rw[aN];omega);obtain⟨p,hp⟩:=eX (2^d);have HE:=Hd he2;have HP:=Hd hp;rw[←hp]at hle⊢;clear he2 hp h17
   by_cases hn:n=(p:Int)
   ·subst hn;have hf:fits (p:Int).toNat=true:=(by rw[dD,HP.out];exact(fits_iff _).2 ⟨d,hd16,rfl⟩);have HF:=Hd hf;clear hf;go_wp2_with fail;go_ret;exact⟨Ad HF.out.symm,rfl⟩
   ·have hc:((p:Int)==n)=false:=(by rw[beq_eq_false_iff_ne];omega);have HNE:=Hd hn;clear hn;go_wp2_with fail;go_roundg (gk-1);case measure=>omega
    case rel=>
     refine⟨d+1,by omega,by rw[HE.out,←HP.out];go_num,?_,rfl⟩;intro e he
     by_cases h:e=d
     ·subst h;rw[←HP.out];exact HNE.out
     ·exact HNO.out e (by omega)
def Wt (x j:Nat):List Value:=[.int .i64 (anc x j:Nat),.int .i64 (plo x j:Nat),.int .i64 (phi x j:Nat)]
def Hq (x d:Nat):Nat→List Value
 |0=>[]
 |k+1=>Hq x d k++Wt x (d-k)
theorem Jh (x d:Nat):∀k,(Hq x d k).length=k*3:=by
 intro k
 induction k with
 |zero=>rfl
 |succ k ih=>rw[Hq,List.length_append,ih];simp[Wt];omega
theorem Hc (x d:Nat):∀k i c,i<k→c<3→(Hq x d k)[i*3+c]? =(Wt x (d-i))[c]? :=by
 intro k
 induction k with
 |zero=>intro i c h;omega
 |succ k ih=>
  intro i c hi hc;rw[Hq]
  by_cases h:i<k
  ·rw[List.getElem?_append_left (by rw[Jh];omega)];exact ih i c h hc
  ·obtain rfl:i=k:=(by omega);rw[List.getElem?_append_right (by rw[Jh];omega),Jh]
   congr 1
   omega
theorem Zdx:ElemK Tryz.prog 131 134 (.agg #[.int .i64 0,.int .i64 0,.int .i64 0]) 3 24:=⟨Tryz.underlying131,by kernel_rfl,rfl,by omega,by omega⟩
theorem Ow (x d:Nat)(hd:d≤16)(hx:x+1<2^(d+1))(w:World):
  Calls Tryz.prog 97 #[.int .i64 x,.int .i64 ((2^d:Nat):Int)] w fun e w'=>∃v,e=.returned v∧OwnK w' w.heap.size 134 3 v (d-lev x+1) (Hq x d (d-lev x+1))∧Below w.heap.size w w':=by
 have h17:=Bb (show d+1≤17 by omega);have h16:=Bb hd;have hlev:=lev_is (x:=x) (by omega);have hl:=(lev_root hx hlev).1;have F:=fun w=>Ll ((2^d:Nat):Int) w;rw[dD,(fits_iff _).2 ⟨d,hd,rfl⟩]at F;have HF:=Hd F;have hself:=anc_self hlev;have hne:∀j,j≠lev x→anc x j≠x:=fun j hj=>anc_ne fun h=>hj (lev_unique h hlev);have he:2^(d+1)=2*2^d:=(by rw[aN];omega);have r1:=plo_root (show x<2^(d+1) by omega);have r2:=phi_root (show x<2^(d+1) by omega);have hpl:∀j,j≤d→phi x j+2≤2^(d+1):=fun j hj=>phi_le (by omega) hj;obtain⟨l,hl'⟩:∃l,l=lev x:=⟨_,rfl⟩;rw[←hl']at hl hself hne⊢;obtain⟨n,hn⟩:=eX (2^d);rw[he]at hx r2 hpl h17;rw[←hn]at HF h16 hx r2 hpl h17⊢;have HSELF:=Hd hself;have HNE:=Hd hne;have R1:=Hd r1;have R2:=Hd r2;have HPL:=Hd hpl;have hr2:phi x d≤131070:=(by omega);clear F hself hne r1 r2 hpl he hlev hl' hn;go_enter Tryz.func97,Tryz.ntmps97;go_wp2_with fail;refine(HF.out _).mono ?_;rintro e w' ⟨rfl,rfl⟩;go_wp2_with fail
 go_loopg [5,6,7] (d-l) (fun k lo hi v wr=>∃i:Nat,i+k=d-l∧lo=.int .i64 (plo x (d-i):Nat)∧hi=.int .i64 (phi x (d-i):Nat)∧OwnK wr w.heap.size 134 3 v i (Hq x d i)∧Below w.heap.size w wr)
 case atStart=>
  refine⟨0,by omega,?_,?_,OwnK.nil _ _ _ _,bR⟩
  ·rw[dE,R1.out];rfl
  ·rw[dE,R2.out];exact Gm (by omega)
 case round=>
  obtain⟨i,hi,rfl,rfl,hown,hbel⟩:=hrel;have HO:=Hd hown;have HB:=Hd hbel;have hsz:=hbel.size;clear hown hbel;have hph:=HPL.out (d-i) (by omega);have hm:=mid_eq x (d-i);have hlt:plo x (d-i)≤phi x (d-i):=(by unfold phi;omega);obtain⟨lo,hlo⟩:=eX (plo x (d-i));obtain⟨hi',hhi⟩:∃a,a=phi x (d-i):=⟨_,rfl⟩;obtain⟨a,ha⟩:=eX (anc x (d-i));rw[←hlo,←hhi]at hlt;rw[←hhi]at hph;rw[←hlo,←hhi,←ha]at hm;rw[←hlo,←hhi];have hm':((lo:Int)+(hi':Int))/2=(a:Int):=(by rw[←hm];omega);have ha1:a≤131070:=(by omega);have HLO:=Hd hlo;have HHI:=Hd hhi;have HA:=Hd ha;clear hm hlo hhi ha
  by_cases hxa:x=a
  ·subst hxa;have hil:d-i=l:=by
    rcases Nat.decEq (d-i) l with h|h
    ·exact absurd HA.out.symm (HNE.out _ h)
    ·exact h
   have HIL:=Hd hil;clear hil;go_wp2_with (at_builtin;refine Jv rfl (.tmp 30) (.tmp 35) 131 rfl w.heap.size 134 _ 3 24 Zdx _ i _ rfl (HO.out.alloc _) wr.heap.size [.int .i64 (x:Nat),.int .i64 (lo:Nat),.int .i64 (hi':Nat)] rfl rfl ?c1 ?c2 ?c3 ?c4 ?_);case c1=>exact Pw rfl
   case c2=>intro u hu;simp at hu;rcases hu with rfl|rfl|rfl<;>rfl
   case c3=>omega
   case c4=>simp;omega
   rintro v' w1 hown1 hb1;have hb2:=(HB.out.alloc hsz _).trans hb1;have HO1:=Hd hown1;have HB1:=Hd hb2;clear hown1 hb1 hb2;go_wp2_with fail;go_ret;refine⟨_,rfl,?_,HB1.out⟩;have e1:i=d-l:=(by have:=HIL.out;omega);have h:=HO1.out;rw[e1]at h;rw[Hq];have e2:d-(d-l)=d-i:=(by rw[e1]);rw[e2,Wt,←HA.out,←HLO.out,←HHI.out];exact h
  ·have hlt':i<d-l:=by
    rcases Nat.lt_or_ge i (d-l)with h|h
    ·exact h
    ·exfalso;have e1:d-i=l:=(by omega);apply hxa;rw[HA.out,e1];exact HSELF.out.symm
   have HXA:=Hd hxa;have hc:((a:Int)==(x:Int))=false:=(by rw[beq_eq_false_iff_ne];omega);have hh:=halves x (d-(i+1));rw[show d-(i+1)+1=d-i by omega,←HA.out,←HHI.out,←HLO.out]at hh;have HH:=Hd hh;clear hxa hh
   by_cases hxl:x<a
   all_goals
    go_wp2_with (at_builtin;refine Jv rfl (.tmp 30) (.tmp 35) 131 rfl w.heap.size 134 _ 3 24 Zdx _ i _ rfl (HO.out.alloc _) wr.heap.size [.int .i64 (a:Nat),.int .i64 (lo:Nat),.int .i64 (hi':Nat)] rfl rfl ?c1 ?c2 ?c3 ?c4 ?_);case c1=>exact Pw rfl
    case c2=>intro u hu;simp at hu;rcases hu with rfl|rfl|rfl<;>rfl
    case c3=>omega
    case c4=>simp;omega
    rintro v' w1 hown1 hb1;have hb2:=(HB.out.alloc hsz _).trans hb1;have HO1:=Hd hown1;have HB1:=Hd hb2;clear hown1 hb1 hb2;go_wp2_with fail;go_roundg (gk-1);case measure=>omega
    case rel=>
     refine⟨i+1,by omega,?_,?_,?_,HB1.out⟩
     ·refine Gm ?_;have hx':=HXA.out;rcases HH.out with⟨h1,h2,h3⟩|⟨h1,h2,h3⟩<;>omega
     ·refine Gm ?_;have hx':=HXA.out;rcases HH.out with⟨h1,h2,h3⟩|⟨h1,h2,h3⟩<;>omega
     ·rw[Hq,Wt,←HA.out,←HLO.out,←HHI.out];exact HO1.out
theorem Kq (x n:Int)(w:World)(h1: -9223372036854775808≤n)(h2:n≤9223372036854775807)(ho:Lc x n=false):
  Calls Tryz.prog 97 #[.int .i64 x,.int .i64 n] w fun e w'=>e=.returned (.slice none 0 0)∧w=w':=by
 have F:=fun w=>Ll n w
 by_cases hf:fits n.toNat=true
 ·have hs:=Gz hf;rw[hf]at F;have HF:=Hd F;rw[Lc,hf,dC]at ho;have ho':=of_decide_eq_false ho;have hn1:1≤n:=(by omega);have hn2:n≤65536:=(by omega);have hd:x<0∨(0≤x∧2*n-2<x):=(by omega);clear F hf hs h1 h2 ho ho';rcases hd with h|⟨h,h'⟩
  all_goals
   go_enter Tryz.func97,Tryz.ntmps97;go_wp2_with fail;refine(HF.out _).mono ?_;rintro e w' ⟨rfl,rfl⟩;go_wp2_with fail;go_ret;exact⟨rfl,rfl⟩
 ·have hf':fits n.toNat=false:=(by rw[←dA];exact hf);rw[hf']at F;have HF:=Hd F;clear F hf hf' h1 h2 ho;go_enter Tryz.func97,Tryz.ntmps97;go_wp2_with fail;refine(HF.out _).mono ?_;rintro e w' ⟨rfl,rfl⟩;go_wp2_with fail;go_ret;exact⟨rfl,rfl⟩
theorem Ss {w w':World} {cs:Array Value} {e:TypeId}(hb:Below (w.alloc (.cells cs e)).heap.size (w.alloc (.cells cs e)) w'):w'.heap[w.heap.size]? =some (.cells cs e (0,0)):=
 (hb.block _ (by simp)).trans (heap_alloc_new w _)
theorem Zep (x d:Nat)(hd:d≤16)(hx:x+1<2^(d+1))(w:World):
  Calls Tryz.prog 142 #[.int .i64 x,.int .i64 ((2^d:Nat):Int)] w fun e w'=>e=.returned (.tuple #[.agg #[.int .i64 x,.int .i64 (plo x (lev x):Nat),.int .i64 (phi x (lev x):Nat)],.bool true])∧Below w.heap.size w w':=by
 have D:=fun w=>Ow x d hd hx w;have h17:=Bb (show d+1≤17 by omega);have hlev:=lev_is (x:=x) (by omega);have hself:=anc_self hlev;have hl:=(lev_root hx hlev).1;have g0:=Hc x d (d-lev x+1) (d-lev x) 0 (by omega) (by omega);have g1:=Hc x d (d-lev x+1) (d-lev x) 1 (by omega) (by omega);have g2:=Hc x d (d-lev x+1) (d-lev x) 2 (by omega) (by omega);have e1:d-(d-lev x)=lev x:=(by omega);rw[e1,Wt,hself]at g0 g1 g2;obtain⟨m,hm⟩:=eX (d-lev x);have hm16:m≤16:=(by omega);rw[←hm]at D g0 g1 g2;obtain⟨lo,hlo⟩:=eX (plo x (lev x));obtain⟨hi,hhi⟩:=eX (phi x (lev x));rw[←hlo,←hhi]at g0 g1 g2⊢;have G0:=Hd g0;have G1:=Hd g1;have G2:=Hd g2;have HD:=Hd D;clear D g0 g1 g2 hm hlo hhi e1 hl hself hlev h17 hx;go_enter Tryz.func142,Tryz.ntmps142;go_wp2_with fail;refine(HD.out _).mono ?_;rintro e w' ⟨v,rfl,hown,hbel⟩;obtain⟨g,cap,rfl,hg,hgl,hn,hmx,hc,-⟩:=hown.out (by omega);have c0:=hc _ _ G0.out;have c1:=hc _ _ G1.out;have c2:=hc _ _ G2.out;rw[Nat.add_zero]at c0;have hb:=Ss hbel;have HK:Hid (Blk w' w.heap.size 134 _):=Hd hb;have HB:=Hd hbel;clear hc hown hbel hb;go_wp2_with (refine Ab rfl 134 (.tmp 4) (.tmp 19) rfl w.heap.size #[.int .i64 x,.int .i64 lo,.int .i64 hi] rfl rfl _ _ HK.out (by kernel_rfl) rfl rfl ?_);rintro w2 hk2 hb2- -;have HK2:=Hd hk2;have HB2:=Hd (hb2 _ lR);clear hk2 hb2;go_wp2_with fail;refine bodyPost_ret (v:=.tuple #[.agg #[.int .i64 x,.int .i64 lo,.int .i64 hi],.bool true]) (Bi Tryz.results142 _ _ w.heap.size _ _ _ rfl HK2.out Tryz.underlying134 rfl (by kernel_rfl)) rfl ⟨rfl,?_⟩;exact((bR.alloc lR _).trans (HB.out.mono (by simp))).trans HB2.out
theorem Zcf (x n:Int)(w:World)(h1: -9223372036854775808≤n)(h2:n≤9223372036854775807)(ho:Lc x n=false):
  Calls Tryz.prog 142 #[.int .i64 x,.int .i64 n] w fun e w'=>e=.returned (.tuple #[.agg #[.int .i64 0,.int .i64 0,.int .i64 0],.bool false])∧Below w.heap.size w w':=by
 have D:=fun w=>Kq x n w h1 h2 ho;have HD:=Hd D;clear D h1 h2 ho;go_enter Tryz.func142,Tryz.ntmps142;go_wp2_with fail;refine(HD.out _).mono ?_;rintro e w' ⟨rfl,rfl⟩;go_wp2_with fail;refine bodyPost_ret (v:=.tuple #[.agg #[.int .i64 0,.int .i64 0,.int .i64 0],.bool false]) (Bi Tryz.results142 _ _ w.heap.size _ _ _ rfl (Blk.new _ _ _) Tryz.underlying134 rfl (by kernel_rfl)) rfl ⟨rfl,?_⟩;exact bR.alloc lR _
theorem Yr (x:Int):Lc x 65536=Az x:=by
 have h:fits (65536:Int).toNat=true:=(by decide);unfold Lc Az;rw[h,dC]
 rfl
theorem Ij (x:Nat)(hx:x≤131070)(w:World):
  Calls Tryz.prog 142 #[.int .i64 x,.int .i64 65536] w fun e w'=>e=.returned (.tuple #[.agg #[.int .i64 x,.int .i64 (plo x (lev x):Nat),.int .i64 (phi x (lev x):Nat)],.bool true])∧Below w.heap.size w w':=by
 have h:=Zep x 16 (by omega) (by omega) w;have e:((2^16:Nat):Int)=65536:=(by decide);rw[e]at h;exact h
theorem Ik (x:Int)(hx:Az x=false)(w:World):
  Calls Tryz.prog 142 #[.int .i64 x,.int .i64 65536] w fun e w'=>e=.returned (.tuple #[.agg #[.int .i64 0,.int .i64 0,.int .i64 0],.bool false])∧Below w.heap.size w w':=
 Zcf x 65536 w (by omega) (by omega) (by rw[Yr];exact hx)
end Go.Proofs.YtfofaiommeckbaaGreat
