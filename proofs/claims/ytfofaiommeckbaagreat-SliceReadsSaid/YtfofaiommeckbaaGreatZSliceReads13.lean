/- Walks: walk.Under, walk.Span. -/
import Derived.Test.YtfofaiommeckbaaGreatZSliceReadsB
import Derived.Test.YtfofaiommeckbaaGreatZSliceReads12
import Derived.Test.YtfofaiommeckbaaGreatZSliceReads03
import Derived.Deep.LoopGhost
open Int renaming toNat_natCast → cO
open Bool renaming not_eq_true → bF, false_and → cP
set_option linter.unusedVariables false
set_option maxRecDepth 100000
set_option maxHeartbeats 40000000
namespace Go.Proofs.YtfofaiommeckbaaGreat
open Go.RowKit WalkM
def Sf (y:Int):Int:=2^(Lh y).toNat-1
def Bt (x y:Int):Bool:=Bk x&&Bk y&&decide (y-Sf y≤x∧x≤y+Sf y)
theorem Cm (x y:Int)(w:World):
  Calls Tryz.prog 192 #[.int .i64 x,.int .i64 y] w fun e w'=>e=.returned (.bool (Bt x y))∧w=w':=by
 have N:=Lm x
 by_cases hx:Bk x=true
 ·rw[hx]at N;have HN:=Hd N;have M:=Lm y;clear N
  by_cases hy:Bk y=true
  ·rw[hy]at M;have HM:=Hd M;have e:Bt x y=decide (y-Sf y≤x∧x≤y+Sf y):=(by rw[Bt,hx,hy];rfl);rw[e];have x':=of_decide_eq_true hx;have y':=of_decide_eq_true hy;clear hx hy e M;obtain⟨m,rfl⟩:∃m:Nat,y=(m:Int):=⟨y.toNat,by omega⟩;have hm:m≤131070:=(by omega);have L:=Mf (m:Int);have ew:Sf (m:Int)=2^(lev m)-1:=(by rw[Sf,Ge hm,cO]);rw[ew];rw[Ge hm]at L;have hl:=lev_le hm;obtain⟨l,hl'⟩:∃l,l=lev m:=⟨_,rfl⟩;rw[←hl']at L hl⊢;have HL:=Hd L;have q1:=At (show l≤16 by omega);have q2:=two_pow_pos l;have ep:(2:Int)^l=((2^l:Nat):Int):=(by simp);rw[ep];have W1:=Ln (show l≤17 by omega);rw[ep]at W1;obtain⟨p,hp⟩:=eX (2^l);rw[←hp]at q1 q2 W1 ep⊢;have HW:=Hd W1;have HP:=Hd ep;clear hl' L ew hp
   by_cases ha:(m:Int)-((p:Int)-1)≤x
   ·have e:decide ((m:Int)-((p:Int)-1)≤x∧x≤(m:Int)+((p:Int)-1))=decide (x≤(m:Int)+((p:Int)-1)):=by
     by_cases hb:x≤(m:Int)+((p:Int)-1)
     ·rw[decide_eq_true ⟨ha,hb⟩,decide_eq_true hb]
     ·rw[decide_eq_false (fun h=>hb h.2),decide_eq_false hb]
    rw[e];clear e;obtain⟨b,hb⟩:=eX (decide (x≤(m:Int)+((p:Int)-1)));rw[←hb];have HB:=Hd hb;clear hb;go_enter Tryz.func192,Tryz.ntmps192;go_wp2_with fail;refine(HN.out _).mono ?_;rintro e w' ⟨rfl,rfl⟩;go_wp2_with fail;refine(HM.out _).mono ?_;rintro e w' ⟨rfl,rfl⟩;go_wp2_with fail;refine(HL.out _).mono ?_;rintro e w' ⟨rfl,rfl⟩;go_wp2_with fail;go_ret;exact⟨Ah HB.out.symm,rfl⟩
   ·rw[decide_eq_false (fun h=>ha h.1)];go_enter Tryz.func192,Tryz.ntmps192;go_wp2_with fail;refine(HN.out _).mono ?_;rintro e w' ⟨rfl,rfl⟩;go_wp2_with fail;refine(HM.out _).mono ?_;rintro e w' ⟨rfl,rfl⟩;go_wp2_with fail;refine(HL.out _).mono ?_;rintro e w' ⟨rfl,rfl⟩;go_wp2_with fail;go_ret;exact⟨rfl,rfl⟩
  ·have hy':Bk y=false:=(by rw[←bF];exact hy);rw[hy']at M;have HM:=Hd M;have e:Bt x y=false:=(by rw[Bt,hy',Bool.and_false,cP]);rw[e];clear hx hy hy' e M;go_enter Tryz.func192,Tryz.ntmps192;go_wp2_with fail;refine(HN.out _).mono ?_;rintro e w' ⟨rfl,rfl⟩;go_wp2_with fail;refine(HM.out _).mono ?_;rintro e w' ⟨rfl,rfl⟩;go_wp2_with fail;go_ret;exact⟨rfl,rfl⟩
 ·have hx':Bk x=false:=(by rw[←bF];exact hx);rw[hx']at N;have HN:=Hd N;have e:Bt x y=false:=(by rw[Bt,hx',cP,cP]);rw[e];clear hx hx' e N;go_enter Tryz.func192,Tryz.ntmps192;go_wp2_with fail;refine(HN.out _).mono ?_;rintro e w' ⟨rfl,rfl⟩;go_wp2_with fail;go_ret;exact⟨rfl,rfl⟩
theorem Qd {x d:Nat}(hd:d≤16):Jw (x:Int) ((2^d:Nat):Int)=decide (x+1<2^(d+1)):=by
 have hf:fits (2^d)=true:=(fits_iff _).2 ⟨d,hd,rfl⟩;have hp:=pow_pos' d;rw[Jw,cO,hf,Bool.true_and,Nat.pow_succ];generalize 2^d=p at*
 by_cases h:x+1<p*2
 ·rw[decide_eq_true h,decide_eq_true];omega
 ·rw[decide_eq_false h,decide_eq_false];omega
def nxt (x d j:Nat):Int:=if j<d then((anc x (j+1):Nat):Int)else-1
theorem Ls {x d:Nat}(hd:d≤16)(hx:x+1<2^(d+1)):Kc (x:Int) ((2^d:Nat):Int)=nxt x d (lev x):=by
 have h17:=At (show d+1≤17 by omega);have hl:=lev_root hx (lev_is (by omega));have hp:=pow_pos' d;unfold Kc nxt;rw[Qd hd,decide_eq_true hx,cO]
 by_cases h:lev x<d
 ·rw[if_pos h,if_pos];refine⟨rfl,fun e=> ?_⟩;have:x=2^d-1:=(by omega);have:=hl.2.2 this;omega
 ·rw[if_neg h,if_neg];rintro⟨_,e⟩;apply e;have:=hl.2.1 (by omega);omega
theorem Wp {x d j:Nat}(hd:d≤16)(hx:x+1<2^(d+1))(hj:j≤d):Kc ((anc x j:Nat):Int) ((2^d:Nat):Int)=nxt x d j:=by
 have h17:=At (show d+1≤17 by omega);have hle:=anc_le (show x<2^(d+1) by omega) hj;rw[Ls hd hle,lev_eq (by omega) (anc_lev x j)];unfold nxt;rw[anc_anc (by omega)]
def ups (x:Nat):Nat→Nat→List Nat
 |_,0=>[]
 |j,k+1=>anc x (j+1)::ups x (j+1) k
theorem Qe (x:Nat):∀k j,(ups x j k).length=k:=by
 intro k
 induction k with
 |zero=>intro j;rfl
 |succ k ih=>intro j;simp[ups,ih]
theorem Wq (x:Nat):∀k j,ups x j (k+1)=ups x j k++[anc x (j+k+1)]:=by
 intro k
 induction k with
 |zero=>intro j;rfl
 |succ k ih=>
  intro j;rw[ups,ih,ups];simp only[List.cons_append];rw[show j+1+k+1=j+(k+1)+1 by omega]
def nvs (L:List Nat):List Value:=ivs .i64 (L.map fun(n:Nat)=>(n:Int))
theorem Kd (L:List Nat):(nvs L).length=L.length:=by simp[nvs,ivs]
theorem Wr (L:List Nat)(x:Nat):nvs (L++[x])=nvs L++[.int .i64 (x:Int)]:=by simp[nvs,ivs]
theorem Cg:Elem Tryz.prog 48 3 (.int .i64 0) 8:=⟨Tryz.underlying48,by kernel_rfl,rfl,by omega⟩
theorem Zez (x d:Nat)(hd:d≤16)(hx:x+1<2^(d+1))(w:World):
  Calls Tryz.prog 269 #[.int .i64 x,.int .i64 ((2^d:Nat):Int)] w fun e w'=>∃v,e=.returned v∧Own w' w.heap.size 3 v (nvs (ups x (lev x) (d-lev x)))∧Below w.heap.size w w':=by
 have h17:=At (show d+1≤17 by omega);have h16:=At hd;have hl:=(lev_root hx (lev_is (by omega))).1;have P0:=fun w=>Oo x ((2^d:Nat):Int) w (by omega) (by omega);rw[Ls hd hx]at P0;have P1:∀j,j≤d→∀w,Calls Tryz.prog 288 #[.int .i64 (anc x j:Nat),.int .i64 ((2^d:Nat):Int)] w fun e w'=>e=.returned (.int .i64 (nxt x d j))∧∃k,w'=w.drewN k:=by
  intro j hj w;have:=Oo (anc x j:Nat) ((2^d:Nat):Int) w (by omega) (by omega);rw[Wp hd hx hj]at this;exact this
 have HP0:=Hd P0;have HP1:=Hd P1;obtain⟨l,hl'⟩:∃l,l=lev x:=⟨_,rfl⟩;rw[←hl']at HP0 hl⊢;obtain⟨n,hn⟩:=eX (2^d);have HX:=Hd hx;have HN:=Hd hn;have hn16:n≤65536:=(by rw[hn];exact h16);rw[←hn]at HP0 HP1⊢;clear P0 P1 hl' hx hn h17 h16;go_enter Tryz.func269,Tryz.ntmps269;go_wp2_with fail;refine(HP0.out _).mono ?_;rintro e w' ⟨rfl,k,rfl⟩;go_wp2_with fail
 go_loopg [0,5] (d-l) (fun k y r wr=>∃i:Nat,i+k=d-l∧y=.int .i64 (nxt x d (l+i))∧Own wr w.heap.size 3 r (nvs (ups x l i))∧Below w.heap.size w wr)
 case atStart=>exact⟨0,by omega,rfl,Own.nil _ _ _,Ac bR _⟩
 case round=>
  obtain⟨i,hi,rfl,hown,hbel⟩:=hrel;have HO:=Hd hown;have HB:=Hd hbel;have hsz:=hbel.size;clear hown hbel
  by_cases hlt:l+i<d
  ·rw[nxt,if_pos hlt];have hP:=HP1.out (l+i+1) (by omega);obtain⟨a,ha⟩:=eX (anc x (l+i+1));rw[←ha]at hP⊢;have HA:=Hd ha;have HP:=Hd hP;clear ha hP;go_wp2_with (at_builtin;refine Ao rfl (.tmp 14) (.tmp 16) 48 rfl w.heap.size 3 _ 8 Cg _ _ rfl (HO.out.alloc _) ⟨wr.heap.size,0,none⟩ (.int .i64 (a:Int)) rfl ?c1 rfl ?c2 ?c3 ?_);case c1=>exact Ar rfl
   case c2=>rw[Kd,Qe];omega
   case c3=>simp;omega
   rintro v' w1 hown1 hg1 hb1;clear hg1;have HO1:=Hd hown1;have HB1:=Hd hb1;clear hown1 hb1;go_wp2_with fail;refine(HP.out _).mono ?_;rintro e w' ⟨rfl,k2,rfl⟩;go_wp2_with fail;go_roundg (gk-1);case measure=>omega
   case rel=>
    refine⟨i+1,by omega,by rw[Nat.add_assoc],?_,?_⟩
    ·rw[Wq,Wr,←HA.out];exact HO1.out.drewN _
    ·exact Ac ((HB.out.alloc hsz _).trans HB1.out) _
  ·rw[nxt,if_neg hlt];obtain rfl:i=d-l:=(by omega);go_wp2_with fail;go_ret;exact⟨_,rfl,HO.out,HB.out⟩
theorem Lt {x n:Int}(h:Jw x n=true):∃m d:Nat,x=(m:Int)∧n=((2^d:Nat):Int)∧d≤16∧m+1<2^(d+1):=by
 have hb:=Za2 h;unfold Jw at h;rw[Bool.and_eq_true]at h;obtain⟨d,hd,e⟩:=(fits_iff _).1 h.1;refine⟨x.toNat,d,by omega,by omega,hd,?_⟩;rw[Nat.pow_succ];omega
def Oe (x n:Int):List Nat:=if Jw x n=true then ups x.toNat (lev x.toNat) (Nat.log2 n.toNat-lev x.toNat)else []
theorem Qf {x d:Nat}(hd:d≤16)(hx:x+1<2^(d+1)):Oe (x:Int) ((2^d:Nat):Int)=ups x (lev x) (d-lev x):=by
 rw[Oe,if_pos (by rw[Qd hd,decide_eq_true hx]),cO,cO,Nat.log2_two_pow]
theorem Za3 {x n:Int}(h:Jw x n=false):Oe x n=[]:=by rw[Oe,if_neg (by rw[h];simp)]
theorem Jg (n:Int)(w:World):
  Calls Tryz.prog 69 #[.int .i64 n] w fun e w'=>e=.returned (.bool (fits n.toNat))∧w=w':=by
 go_enter Tryz.func69,Tryz.ntmps69;go_wp2_with fail
 go_loopg [3] 17 (fun k i wr=>∃d:Nat,d+k=17∧i=.int .i64 ((2^d:Nat):Int)∧(∀e,e<d→n≠((2^e:Nat):Int))∧wr=w)
 case atStart=>exact⟨0,rfl,rfl,fun e h=>absurd h (by omega),rfl⟩
 case round=>
  obtain⟨d,hd,rfl,hno,rfl⟩:=hrel;have HNO:=Hd hno;clear hno
  by_cases h17:d=17
  ·subst h17;have hf:fits n.toNat=false:=by
    rw[←bF];intro h;obtain⟨e,he,h⟩:=(fits_iff _).1 h;have hp:=pow_pos' e;exact HNO.out e (by omega) (by omega)
   have HF:=Hd hf;clear hf;have e17:((2^17:Nat):Int)=131072:=(by decide);rw[e17];go_wp2_with fail;go_ret;exact⟨Ah HF.out.symm,rfl⟩
  ·have hd16:d≤16:=(by omega);have hle:=At hd16;have he2:2^(d+1)=2*2^d:=(by rw[Nat.pow_succ];omega);obtain⟨p,hp⟩:=eX (2^d);have HE:=Hd he2;have HP:=Hd hp;rw[←hp]at hle⊢;clear he2 hp h17
   by_cases hn:n=(p:Int)
   ·subst hn;have hf:fits (p:Int).toNat=true:=(by rw[cO,HP.out];exact(fits_iff _).2 ⟨d,hd16,rfl⟩);have HF:=Hd hf;clear hf;go_wp2_with fail;go_ret;exact⟨Ah HF.out.symm,rfl⟩
   ·have hc:((p:Int)==n)=false:=(by rw[beq_eq_false_iff_ne];omega);have HNE:=Hd hn;clear hn;go_wp2_with fail;go_roundg (gk-1);case measure=>omega
    case rel=>
     refine⟨d+1,by omega,by rw[HE.out,←HP.out];go_num,?_,rfl⟩;intro e he
     by_cases h:e=d
     ·subst h;rw[←HP.out];exact HNE.out
     ·exact HNO.out e (by omega)
end Go.Proofs.YtfofaiommeckbaaGreat
