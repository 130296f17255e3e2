/- Walks: the reference's Down. -/
import Derived.Test.YtfofaiommeckbaaGreatZSliceReadsB
import Derived.Test.YtfofaiommeckbaaGreatZSliceReads13
set_option linter.unusedVariables false
set_option maxRecDepth 100000
set_option maxHeartbeats 40000000
namespace Go.Proofs.YtfofaiommeckbaaGreat
open Go.RowKit WalkM
def Zb (x j:Nat):List Value:=[.int .i64 (anc x j:Nat),.int .i64 (plo x j:Nat),.int .i64 (phi x j:Nat)]
def Ii (x d:Nat):Nat→List Value
 |0=>[]
 |k+1=>Ii x d k++Zb x (d-k)
theorem Kh (x d:Nat):∀k,(Ii x d k).length=k*3:=by
 intro k
 induction k with
 |zero=>rfl
 |succ k ih=>rw[Ii,List.length_append,ih];simp[Zb];omega
theorem Hq (x d:Nat):∀k i c,i<k→c<3→(Ii x d k)[i*3+c]? =(Zb x (d-i))[c]? :=by
 intro k
 induction k with
 |zero=>intro i c h;omega
 |succ k ih=>
  intro i c hi hc;rw[Ii]
  by_cases h:i<k
  ·rw[List.getElem?_append_left (by rw[Kh];omega)];exact ih i c h hc
  ·obtain rfl:i=k:=(by omega);rw[List.getElem?_append_right (by rw[Kh];omega),Kh]
   congr 1
   omega
theorem Zhe:ElemK Tryz.prog 131 134 (.agg #[.int .i64 0,.int .i64 0,.int .i64 0]) 3 24:=⟨Tryz.underlying131,by kernel_rfl,rfl,by omega,by omega⟩
theorem Qj (x d:Nat)(hd:d≤16)(hx:x+1<2^(d+1))(w:World):
  Calls Tryz.prog 97 #[.int .i64 x,.int .i64 ((2^d:Nat):Int)] w fun e w'=>∃v,e=.returned v∧OwnK w' w.heap.size 134 3 v (d-lev x+1) (Ii x d (d-lev x+1))∧Below w.heap.size w w':=by
 have h17:=At (show d+1≤17 by omega);have h16:=At hd;have hlev:=lev_is (x:=x) (by omega);have hl:=(lev_root hx hlev).1;have F:=fun w=>Jg ((2^d:Nat):Int) w;rw[Int.toNat_natCast,(fits_iff _).2 ⟨d,hd,rfl⟩]at F;have HF:=Hd F;have hself:=anc_self hlev;have hne:∀j,j≠lev x→anc x j≠x:=fun j hj=>anc_ne fun h=>hj (lev_unique h hlev);have he:2^(d+1)=2*2^d:=(by rw[Nat.pow_succ];omega);have r1:=plo_root (show x<2^(d+1) by omega);have r2:=phi_root (show x<2^(d+1) by omega);have hpl:∀j,j≤d→phi x j+2≤2^(d+1):=fun j hj=>phi_le (by omega) hj;obtain⟨l,hl'⟩:∃l,l=lev x:=⟨_,rfl⟩;rw[←hl']at hl hself hne⊢;obtain⟨n,hn⟩:=eX (2^d);rw[he]at hx r2 hpl h17;rw[←hn]at HF h16 hx r2 hpl h17⊢;have HSELF:=Hd hself;have HNE:=Hd hne;have R1:=Hd r1;have R2:=Hd r2;have HPL:=Hd hpl;have hr2:phi x d≤131070:=(by omega);clear F hself hne r1 r2 hpl he hlev hl' hn;go_enter Tryz.func97,Tryz.ntmps97;go_wp2_with fail;refine(HF.out _).mono ?_;rintro e w' ⟨rfl,rfl⟩;go_wp2_with fail
 go_loopg [5,6,7] (d-l) (fun k lo hi v wr=>∃i:Nat,i+k=d-l∧lo=.int .i64 (plo x (d-i):Nat)∧hi=.int .i64 (phi x (d-i):Nat)∧OwnK wr w.heap.size 134 3 v i (Ii x d i)∧Below w.heap.size w wr)
 case atStart=>
  refine⟨0,by omega,?_,?_,OwnK.nil _ _ _ _,bR⟩
  ·rw[Nat.sub_zero,R1.out];rfl
  ·rw[Nat.sub_zero,R2.out];exact Gw (by omega)
 case round=>
  obtain⟨i,hi,rfl,rfl,hown,hbel⟩:=hrel;have HO:=Hd hown;have HB:=Hd hbel;have hsz:=hbel.size;clear hown hbel;have hph:=HPL.out (d-i) (by omega);have hm:=mid_eq x (d-i);have hlt:plo x (d-i)≤phi x (d-i):=(by unfold phi;omega);obtain⟨lo,hlo⟩:=eX (plo x (d-i));obtain⟨hi',hhi⟩:∃a,a=phi x (d-i):=⟨_,rfl⟩;obtain⟨a,ha⟩:=eX (anc x (d-i));rw[←hlo,←hhi]at hlt;rw[←hhi]at hph;rw[←hlo,←hhi,←ha]at hm;rw[←hlo,←hhi];have hm':((lo:Int)+(hi':Int))/2=(a:Int):=(by rw[←hm];omega);have ha1:a≤131070:=(by omega);have HLO:=Hd hlo;have HHI:=Hd hhi;have HA:=Hd ha;clear hm hlo hhi ha
  by_cases hxa:x=a
  ·subst hxa;have hil:d-i=l:=by
    rcases Nat.decEq (d-i) l with h|h
    ·exact absurd HA.out.symm (HNE.out _ h)
    ·exact h
   have HIL:=Hd hil;clear hil;go_wp2_with (at_builtin;refine Kt rfl (.tmp 30) (.tmp 35) 131 rfl w.heap.size 134 _ 3 24 Zhe _ i _ rfl (HO.out.alloc _) wr.heap.size [.int .i64 (x:Nat),.int .i64 (lo:Nat),.int .i64 (hi':Nat)] rfl rfl ?c1 ?c2 ?c3 ?c4 ?_);case c1=>exact Ro rfl
   case c2=>intro u hu;simp at hu;rcases hu with rfl|rfl|rfl<;>rfl
   case c3=>omega
   case c4=>simp;omega
   rintro v' w1 hown1 hb1;have hb2:=(HB.out.alloc hsz _).trans hb1;have HO1:=Hd hown1;have HB1:=Hd hb2;clear hown1 hb1 hb2;go_wp2_with fail;go_ret;refine⟨_,rfl,?_,HB1.out⟩;have e1:i=d-l:=(by have:=HIL.out;omega);have h:=HO1.out;rw[e1]at h;rw[Ii];have e2:d-(d-l)=d-i:=(by rw[e1]);rw[e2,Zb,←HA.out,←HLO.out,←HHI.out];exact h
  ·have hlt':i<d-l:=by
    rcases Nat.lt_or_ge i (d-l)with h|h
    ·exact h
    ·exfalso;have e1:d-i=l:=(by omega);apply hxa;rw[HA.out,e1];exact HSELF.out.symm
   have HXA:=Hd hxa;have hc:((a:Int)==(x:Int))=false:=(by rw[beq_eq_false_iff_ne];omega);have hh:=halves x (d-(i+1));rw[show d-(i+1)+1=d-i by omega,←HA.out,←HHI.out,←HLO.out]at hh;have HH:=Hd hh;clear hxa hh
   by_cases hxl:x<a
   all_goals
    go_wp2_with (at_builtin;refine Kt rfl (.tmp 30) (.tmp 35) 131 rfl w.heap.size 134 _ 3 24 Zhe _ i _ rfl (HO.out.alloc _) wr.heap.size [.int .i64 (a:Nat),.int .i64 (lo:Nat),.int .i64 (hi':Nat)] rfl rfl ?c1 ?c2 ?c3 ?c4 ?_);case c1=>exact Ro rfl
    case c2=>intro u hu;simp at hu;rcases hu with rfl|rfl|rfl<;>rfl
    case c3=>omega
    case c4=>simp;omega
    rintro v' w1 hown1 hb1;have hb2:=(HB.out.alloc hsz _).trans hb1;have HO1:=Hd hown1;have HB1:=Hd hb2;clear hown1 hb1 hb2;go_wp2_with fail;go_roundg (gk-1);case measure=>omega
    case rel=>
     refine⟨i+1,by omega,?_,?_,?_,HB1.out⟩
     ·refine Gw ?_;have hx':=HXA.out;rcases HH.out with⟨h1,h2,h3⟩|⟨h1,h2,h3⟩<;>omega
     ·refine Gw ?_;have hx':=HXA.out;rcases HH.out with⟨h1,h2,h3⟩|⟨h1,h2,h3⟩<;>omega
     ·rw[Ii,Zb,←HA.out,←HLO.out,←HHI.out];exact HO1.out
theorem Lw (x n:Int)(w:World)(h1: -9223372036854775808≤n)(h2:n≤9223372036854775807)(ho:Jw x n=false):
  Calls Tryz.prog 97 #[.int .i64 x,.int .i64 n] w fun e w'=>e=.returned (.slice none 0 0)∧w=w':=by
 have F:=fun w=>Jg n w
 by_cases hf:fits n.toNat=true
 ·have hs:=Fj hf;rw[hf]at F;have HF:=Hd F;rw[Jw,hf,Bool.true_and]at ho;have ho':=of_decide_eq_false ho;have hn1:1≤n:=(by omega);have hn2:n≤65536:=(by omega);have hd:x<0∨(0≤x∧2*n-2<x):=(by omega);clear F hf hs h1 h2 ho ho';rcases hd with h|⟨h,h'⟩
  all_goals
   go_enter Tryz.func97,Tryz.ntmps97;go_wp2_with fail;refine(HF.out _).mono ?_;rintro e w' ⟨rfl,rfl⟩;go_wp2_with fail;go_ret;exact⟨rfl,rfl⟩
 ·have hf':fits n.toNat=false:=(by rw[←Bool.not_eq_true];exact hf);rw[hf']at F;have HF:=Hd F;clear F hf hf' h1 h2 ho;go_enter Tryz.func97,Tryz.ntmps97;go_wp2_with fail;refine(HF.out _).mono ?_;rintro e w' ⟨rfl,rfl⟩;go_wp2_with fail;go_ret;exact⟨rfl,rfl⟩
theorem Uk {w w':World} {cs:Array Value} {e:TypeId}(hb:Below (w.alloc (.cells cs e)).heap.size (w.alloc (.cells cs e)) w'):w'.heap[w.heap.size]? =some (.cells cs e (0,0)):=
 (hb.block _ (by simp)).trans (heap_alloc_new w _)
theorem Zh7 (x d:Nat)(hd:d≤16)(hx:x+1<2^(d+1))(w:World):
  Calls Tryz.prog 142 #[.int .i64 x,.int .i64 ((2^d:Nat):Int)] w fun e w'=>e=.returned (.tuple #[.agg #[.int .i64 x,.int .i64 (plo x (lev x):Nat),.int .i64 (phi x (lev x):Nat)],.bool true])∧Below w.heap.size w w':=by
 have D:=fun w=>Qj x d hd hx w;have h17:=At (show d+1≤17 by omega);have hlev:=lev_is (x:=x) (by omega);have hself:=anc_self hlev;have hl:=(lev_root hx hlev).1;have g0:=Hq x d (d-lev x+1) (d-lev x) 0 (by omega) (by omega);have g1:=Hq x d (d-lev x+1) (d-lev x) 1 (by omega) (by omega);have g2:=Hq x d (d-lev x+1) (d-lev x) 2 (by omega) (by omega);have e1:d-(d-lev x)=lev x:=(by omega);rw[e1,Zb,hself]at g0 g1 g2;obtain⟨m,hm⟩:=eX (d-lev x);have hm16:m≤16:=(by omega);rw[←hm]at D g0 g1 g2;obtain⟨lo,hlo⟩:=eX (plo x (lev x));obtain⟨hi,hhi⟩:=eX (phi x (lev x));rw[←hlo,←hhi]at g0 g1 g2⊢;have G0:=Hd g0;have G1:=Hd g1;have G2:=Hd g2;have HD:=Hd D;clear D g0 g1 g2 hm hlo hhi e1 hl hself hlev h17 hx;go_enter Tryz.func142,Tryz.ntmps142;go_wp2_with fail;refine(HD.out _).mono ?_;rintro e w' ⟨v,rfl,hown,hbel⟩;obtain⟨g,cap,rfl,hg,hgl,hn,hmx,hc,-⟩:=hown.out (by omega);have c0:=hc _ _ G0.out;have c1:=hc _ _ G1.out;have c2:=hc _ _ G2.out;rw[Nat.add_zero]at c0;have hb:=Uk hbel;have HK:Hid (Blk w' w.heap.size 134 _):=Hd hb;have HB:=Hd hbel;clear hc hown hbel hb;go_wp2_with (refine Aa rfl 134 (.tmp 4) (.tmp 19) rfl w.heap.size #[.int .i64 x,.int .i64 lo,.int .i64 hi] rfl rfl _ _ HK.out (by kernel_rfl) rfl rfl ?_);rintro w2 hk2 hb2- -;have HK2:=Hd hk2;have HB2:=Hd (hb2 _ lR);clear hk2 hb2;go_wp2_with fail;refine bodyPost_ret (v:=.tuple #[.agg #[.int .i64 x,.int .i64 lo,.int .i64 hi],.bool true]) (Af Tryz.results142 _ _ w.heap.size _ _ _ rfl HK2.out Tryz.underlying134 rfl (by kernel_rfl)) rfl ⟨rfl,?_⟩;exact((bR.alloc lR _).trans (HB.out.mono (by simp))).trans HB2.out
theorem Zfh (x n:Int)(w:World)(h1: -9223372036854775808≤n)(h2:n≤9223372036854775807)(ho:Jw x n=false):
  Calls Tryz.prog 142 #[.int .i64 x,.int .i64 n] w fun e w'=>e=.returned (.tuple #[.agg #[.int .i64 0,.int .i64 0,.int .i64 0],.bool false])∧Below w.heap.size w w':=by
 have D:=fun w=>Lw x n w h1 h2 ho;have HD:=Hd D;clear D h1 h2 ho;go_enter Tryz.func142,Tryz.ntmps142;go_wp2_with fail;refine(HD.out _).mono ?_;rintro e w' ⟨rfl,rfl⟩;go_wp2_with fail;refine bodyPost_ret (v:=.tuple #[.agg #[.int .i64 0,.int .i64 0,.int .i64 0],.bool false]) (Af Tryz.results142 _ _ w.heap.size _ _ _ rfl (Blk.new _ _ _) Tryz.underlying134 rfl (by kernel_rfl)) rfl ⟨rfl,?_⟩;exact bR.alloc lR _
theorem Zbp (x:Int):Jw x 65536=Bk x:=by
 have h:fits (65536:Int).toNat=true:=(by decide);unfold Jw Bk;rw[h,Bool.true_and]
 rfl
theorem Jk (x:Nat)(hx:x≤131070)(w:World):
  Calls Tryz.prog 142 #[.int .i64 x,.int .i64 65536] w fun e w'=>e=.returned (.tuple #[.agg #[.int .i64 x,.int .i64 (plo x (lev x):Nat),.int .i64 (phi x (lev x):Nat)],.bool true])∧Below w.heap.size w w':=by
 have h:=Zh7 x 16 (by omega) (by omega) w;have e:((2^16:Nat):Int)=65536:=(by decide);rw[e]at h;exact h
theorem Jl (x:Int)(hx:Bk x=false)(w:World):
  Calls Tryz.prog 142 #[.int .i64 x,.int .i64 65536] w fun e w'=>e=.returned (.tuple #[.agg #[.int .i64 0,.int .i64 0,.int .i64 0],.bool false])∧Below w.heap.size w w':=
 Zfh x 65536 w (by omega) (by omega) (by rw[Zbp];exact hx)
end Go.Proofs.YtfofaiommeckbaaGreat
