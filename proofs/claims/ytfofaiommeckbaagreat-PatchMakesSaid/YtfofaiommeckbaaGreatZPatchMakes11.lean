/- Walks: the reference's RightParent. -/
import Derived.Test.YtfofaiommeckbaaGreatZPatchMakesB
import Derived.Test.YtfofaiommeckbaaGreatZPatchMakes10
set_option linter.unusedVariables false
set_option maxRecDepth 100000
set_option maxHeartbeats 40000000
namespace Go.Proofs.YtfofaiommeckbaaGreat
open Go.RowKit WireM
theorem Wp {L:List Int} {r:Nat}(h:Le L r):∀i,i<r→0≤L.getD i 0:=by
 intro i
 induction i with
 |zero=>intro hi;have:=h 0 hi;unfold Hn at this;rw[if_pos rfl]at this;omega
 |succ i ih=>
  intro hi;have h1:=ih (by omega);have:=h (i+1) hi;unfold Hn at this;rw[if_neg (by omega),Nat.add_sub_cancel]at this;omega
theorem Ki (a1 a2 a3:Option Addr)(n1 n2 c1 c2 c3:Nat)(L:List Int)(w:World)(hr:Rd w (.slice a3 L.length c3) (ivs .i64 L)):
  Calls Tryz.prog 141 #[.agg #[.slice a1 n1 c1,.slice a2 n2 c2,.slice a3 L.length c3]] w fun e w'=>e=.returned (.bool (rpB n1 n2 L))∧Below w.heap.size w w':=by
 have hlen:=Fk hr;have hget:=fun r (h:r<L.length)=>hr.get (r:=r) (show(ivs .i64 L)[r]? =some (.int .i64 (L.getD r 0)) by simp[ivs,h]);obtain⟨k,hk⟩:=eX L.length;rw[←hk]at hlen hget⊢;have hbk:=Blk.new w 50 #[.slice a1 n1 c1,.slice a2 n2 c2,.slice a3 k c3];have hw0:=(Below.refl w.heap.size w).alloc lR (.cells #[.slice a1 n1 c1,.slice a2 n2 c2,.slice a3 k c3] 50);obtain⟨W1,hW1⟩:=eX (w.alloc (.cells #[.slice a1 n1 c1,.slice a2 n2 c2,.slice a3 k c3] 50));rw[←hW1]at hbk hw0;have y0:=hbk.cell 0;have y1:=hbk.cell 1;have y2:=hbk.cell 2;simp only[List.getElem?_toArray,List.getElem?_cons_zero,List.getElem?_cons_succ]at y0 y1 y2;have HG:=Hd hget;have HK:=Hd hk;have HW0:=Hd hw0;have HW1:=Hd hW1;have HY0:=Hd y0;have HY1:=Hd y1;have HY2:=Hd y2;clear hget hk hr hbk hw0 hW1 y0 y1 y2;go_enter Tryz.func141,Tryz.ntmps141;go_wp2_with fail;rw[←HW1.out]
 go_loopg [3] k (fun q i wr=>∃r:Nat,r+q=k∧i=.int .i64 (r:Int)∧Le L r∧∃m,wr=W1.drewN m)
 case atStart=>exact⟨0,by omega,rfl,fun i h=>absurd h (by omega),0,rfl⟩
 case round=>
  obtain⟨r,hr,rfl,hok,m,hm⟩:=hrel;have HOK:=Hd hok;have HM:=Hd hm;have z0:wr.cell? ⟨w.heap.size,0,none⟩=some (.slice a1 n1 c1):=(by rw[HM.out];exact HY0.out);have z1:wr.cell? ⟨w.heap.size,1,none⟩=some (.slice a2 n2 c2):=(by rw[HM.out];exact HY1.out);have z2:wr.cell? ⟨w.heap.size,2,none⟩=some (.slice a3 k c3):=(by rw[HM.out];exact HY2.out);have HBW:Hid (Below w.heap.size w wr):=Hd (by rw[HM.out];exact Aa HW0.out m);clear hok hm
  by_cases hrk:r<k
  ·obtain⟨b,o,rfl,hb,c0⟩:=HG.out r hrk;have e0:wr.cell? ⟨b,o+r,none⟩=some (.int .i64 (L.getD r 0)):=(HBW.out.cell (p:=⟨b,o+r,none⟩) hb).trans c0;have hF:= @Lf L r (by have:=HK.out;omega);have hpos:=Wp HOK.out;have hrk':decide ((r:Int)<(k:Int))=true:=(by rw[decide_eq_true_iff];omega);have hdec:decide (r<k)=true:=(by rw[decide_eq_true_iff];omega);have HF:=Hd hF;have HPOS:=Hd hpos;clear hF hpos c0
   by_cases k1:L.getD r 0<0
   ·have HE:Hid (Kh L=false):=Hd (HF.out (by
     intro h;rcases Nat.eq_zero_or_pos r with h0|h0
     ·subst h0;unfold Hn at h;rw[if_pos rfl]at h;omega
     ·have:=HPOS.out (r-1) (by omega);unfold Hn at h;rw[if_neg (by omega)]at h;omega))
    obtain⟨x,hx⟩:=eX (L.getD r 0);rw[←hx]at e0 k1;have t1:decide (x<0)=true:=decide_eq_true k1;clear hx k1;go_wp2_with fail
    go_quiet (fail)
    go_wp2_with fail;go_ret;exact⟨by rw[rpB,HE.out];rfl,Aa HBW.out _⟩
   ·by_cases k2:65535<L.getD r 0
    ·have HE:Hid (Kh L=false):=Hd (HF.out (by intro h;omega));obtain⟨x,hx⟩:=eX (L.getD r 0);rw[←hx]at e0 k1 k2;have t1:decide (x<0)=false:=decide_eq_false k1;have t2:decide (65535<x)=true:=decide_eq_true k2;clear hx k1 k2;go_wp2_with fail
     go_quiet (fail)
     go_wp2_with fail;go_ret;exact⟨by rw[rpB,HE.out];rfl,Aa HBW.out _⟩
    ·cases r with
     |zero=>
      have HN:Hid (Le L 1):=Hd (by
       intro i hi;obtain rfl:i=0:=(by omega);unfold Hn;rw[if_pos rfl];omega)
      obtain⟨x,hx⟩:=eX (L.getD 0 0);rw[←hx]at e0 k1 k2;have t1:decide (x<0)=false:=decide_eq_false k1;have t2:decide (65535<x)=false:=decide_eq_false k2;have ec:((0:Nat):Int)=0:=rfl;rw[Nat.add_zero]at e0;simp only[ec]at hrk'⊢;clear hx k1 k2 ec;go_wp2_with fail
      go_quiet (fail)
      go_wp2_with fail;go_roundg (gk-1);case measure=>omega
      case rel=>exact⟨1,by omega,rfl,HN.out,_,by rw[HM.out,World.drewN_drewN]⟩
     |succ t=>
      obtain⟨b',o',he',hb',c1'⟩:=HG.out t (by omega);simp only[Option.some.injEq,Addr.mk.injEq,and_true]at he';obtain⟨rfl,rfl⟩:=he';have e1:wr.cell? ⟨b,o+t,none⟩=some (.int .i64 (L.getD t 0)):=(HBW.out.cell (p:=⟨b,o+t,none⟩) hb').trans c1';have hp:Hn L (t+1)=L.getD t 0:=(by unfold Hn;rw[if_neg (by omega),Nat.add_sub_cancel]);have ec:((t+1:Nat):Int)=(t:Int)+1:=rfl
      by_cases k3:L.getD (t+1) 0≤L.getD t 0
      ·have HE:Hid (Kh L=false):=Hd (HF.out (by rw[hp];intro h;omega));obtain⟨x,hx⟩:=eX (L.getD (t+1) 0);obtain⟨y,hy⟩:=eX (L.getD t 0);rw[←hx]at e0 k1 k2 k3;rw[←hy]at e1 k3;have t1:decide (x<0)=false:=decide_eq_false k1;have t2:decide (65535<x)=false:=decide_eq_false k2;have t3:decide (x≤y)=true:=decide_eq_true k3;have t4:decide (0<(t:Int)+1)=true:=(by rw[decide_eq_true_iff];omega);simp only[ec]at hrk'⊢;clear hx hy k1 k2 k3 hp c1' ec;go_wp2_with fail
       go_quiet (fail)
       go_wp2_with fail;go_ret;exact⟨by rw[rpB,HE.out];rfl,Aa HBW.out _⟩
      ·have HN:Hid (Le L (t+1+1)):=Hd (by
        intro i hi;rcases Nat.lt_or_ge i (t+1)with h|h
        ·exact HOK.out i h
        ·obtain rfl:i=t+1:=(by omega);rw[hp];omega)
       obtain⟨x,hx⟩:=eX (L.getD (t+1) 0);obtain⟨y,hy⟩:=eX (L.getD t 0);rw[←hx]at e0 k1 k2 k3;rw[←hy]at e1 k3;have t1:decide (x<0)=false:=decide_eq_false k1;have t2:decide (65535<x)=false:=decide_eq_false k2;have t3:decide (x≤y)=false:=decide_eq_false k3;have t4:decide (0<(t:Int)+1)=true:=(by rw[decide_eq_true_iff];omega);simp only[ec]at hrk'⊢;clear hx hy k1 k2 k3 hp c1' ec;go_wp2_with fail
       go_quiet (fail)
       go_wp2_with fail;go_roundg (gk-1);case measure=>omega
       case rel=>exact⟨t+1+1,by omega,by go_num,HN.out,_,by rw[HM.out,World.drewN_drewN]⟩
  ·obtain rfl:r=k:=(by omega);have hrk':decide ((r:Int)<(r:Int))=false:=(by rw[decide_eq_false_iff_not];omega);have hl:Kh L=true:=(by rw[Ih,←HK.out];exact HOK.out);have hB:rpB n1 n2 L=decide (n1=32∧(n2=0∨n2=32)):=(by rw[rpB,hl,Bool.true_and]);have HB:=Hd hB;clear hl hB
   by_cases k1:n1=32
   ·have t1:((n1:Int)==32)=true:=by rw[beq_iff_eq];omega
    by_cases k2:n2=0
    ·have t2:((n2:Int)==0)=true:=(by rw[beq_iff_eq];omega);have HE:=Hd (decide_eq_true (show n1=32∧(n2=0∨n2=32)from⟨k1,.inl k2⟩));clear k1 k2;go_wp2_with fail;go_ret;exact⟨Ad (HB.out.trans HE.out).symm,HBW.out⟩
    ·have t2:((n2:Int)==0)=false:=by rw[beq_eq_false_iff_ne];omega
     by_cases k3:n2=32
     ·have t3:((n2:Int)==32)=true:=(by rw[beq_iff_eq];omega);have HE:=Hd (decide_eq_true (show n1=32∧(n2=0∨n2=32)from⟨k1,.inr k3⟩));clear k1 k2 k3;go_wp2_with fail;go_ret;exact⟨Ad (HB.out.trans HE.out).symm,HBW.out⟩
     ·have t3:((n2:Int)==32)=false:=(by rw[beq_eq_false_iff_ne];omega);have HE:=Hd (decide_eq_false (show¬(n1=32∧(n2=0∨n2=32)) by omega));clear k1 k2 k3;go_wp2_with fail;go_ret;exact⟨Ad (HB.out.trans HE.out).symm,HBW.out⟩
   ·have t1:((n1:Int)==32)=false:=(by rw[beq_eq_false_iff_ne];omega);have HE:=Hd (decide_eq_false (show¬(n1=32∧(n2=0∨n2=32)) by omega));clear k1;go_wp2_with fail;go_ret;exact⟨Ad (HB.out.trans HE.out).symm,HBW.out⟩
end Go.Proofs.YtfofaiommeckbaaGreat
