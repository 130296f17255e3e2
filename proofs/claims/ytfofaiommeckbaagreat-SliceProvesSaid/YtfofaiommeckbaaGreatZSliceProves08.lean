import Derived.Test.YtfofaiommeckbaaGreatZSliceProves07
open Go.Value renaming slice → q9, int → rA
open Option renaming none → rF
set_option linter.unusedVariables false
set_option maxRecDepth 100000
set_option maxHeartbeats 40000000
namespace Go.Proofs.YtfofaiommeckbaaGreat
open Go.RowKit WireM
theorem Zbd {L:List Int} {r:Nat}(h:Nw L r):∀i,i<r→0≤L.getD i 0:=by
 intro i
 induction i with
 |zero=>intro a;have:=h 0 a;unfold Hi at this;rw[if_pos rfl]at this;omega
 |succ i ih=>
  intro a;have h1:=ih (by omega);have:=h (i+1) a;unfold Hi at this;rw[if_neg (by omega),Nat.add_sub_cancel]at this;omega
theorem Mr (K F C:Option Addr)(d a c1 c2 c3:Nat)(L:List Int)(w:World)(O:Rd w (.slice C L.length c3) (ivs .i64 L)):
  Calls Tryz.prog 141 #[.agg #[q9 K d c1,q9 F a c2,.slice C L.length c3]] w fun e w'=>e=.returned (.bool (rpB d a L))∧Below w.heap.size w w':=by
 have M:=Gn O;have l:=fun r (h:r<L.length)=>O.get (r:=r) (show(ivs .i64 L)[r]? =some (rA .i64 (L.getD r 0)) by simp[ivs,h]);obtain⟨k,hk⟩:=eX L.length;rw[←hk]at M l⊢;have j:=Blk.new w 50 #[q9 K d c1,q9 F a c2,q9 C k c3];have v:=(Below.refl w.heap.size w).alloc lR (.cells #[q9 K d c1,q9 F a c2,q9 C k c3] 50);obtain⟨W1,s⟩:=eX (w.alloc (.cells #[q9 K d c1,q9 F a c2,q9 C k c3] 50));rw[←s]at j v;have y0:=j.cell 0;have Z:=j.cell 1;have y2:=j.cell 2;simp only[List.getElem?_toArray,List.getElem?_cons_zero,List.getElem?_cons_succ]at y0 Z y2;have HG:=Hd l;have HK:=Hd hk;have V:=Hd v;have X:=Hd s;have W:=Hd y0;have S:=Hd Z;have T:=Hd y2;clear l hk O j v s y0 Z y2;go_enter Tryz.func141,Tryz.ntmps141;go_wp2_with fail;rw[←X.out]
 go_loopg [3] k (fun q i wr=>∃r:Nat,r+q=k∧i=rA .i64 (r:Int)∧Nw L r∧∃m,wr=W1.drewN m)
 case atStart=>exact⟨0,by omega,rfl,fun i h=>absurd h (by omega),0,rfl⟩
 case round=>
  obtain⟨r,O,rfl,J,m,hm⟩:=hrel;have u:=Hd J;have B:=Hd hm;have z0:wr.cell? ⟨w.heap.size,0,rF⟩=some (q9 K d c1):=(by rw[B.out];exact W.out);have z1:wr.cell? ⟨w.heap.size,1,rF⟩=some (q9 F a c2):=(by rw[B.out];exact S.out);have z2:wr.cell? ⟨w.heap.size,2,rF⟩=some (q9 C k c3):=(by rw[B.out];exact T.out);have c:Hid (Below w.heap.size w wr):=Hd (by rw[B.out];exact Ab V.out m);clear J hm
  by_cases hrk:r<k
  ·obtain⟨b,o,rfl,hb,c0⟩:=HG.out r hrk;have D:wr.cell? ⟨b,o+r,rF⟩=some (rA .i64 (L.getD r 0)):=(c.out.cell (p:=⟨b,o+r,rF⟩) hb).trans c0;have hF:= @Nx L r (by have:=HK.out;omega);have n:=Zbd u.out;have f:decide ((r:Int)<(k:Int))=true:=(by rw[decide_eq_true_iff];omega);have aA:decide (r<k)=true:=(by rw[decide_eq_true_iff];omega);have U:=Hd hF;have H:=Hd n;clear hF n c0
   by_cases k1:L.getD r 0<0
   ·have g:Hid (Ki L=false):=Hd (U.out (by
     intro h;rcases Nat.eq_zero_or_pos r with h0|h0
     ·subst h0;unfold Hi at h;rw[if_pos rfl]at h;omega
     ·have:=H.out (r-1) (by omega);unfold Hi at h;rw[if_neg (by omega)]at h;omega))
    obtain⟨x,hx⟩:=eX (L.getD r 0);rw[←hx]at D k1;have E:decide (x<0)=true:=decide_eq_true k1;clear hx k1;go_wp2_with fail
    go_quiet (fail)
    go_wp2_with fail;go_ret;exact⟨by rw[rpB,g.out];rfl,Ab c.out _⟩
   ·by_cases k2:65535<L.getD r 0
    ·have g:Hid (Ki L=false):=Hd (U.out (by intro h;omega));obtain⟨x,hx⟩:=eX (L.getD r 0);rw[←hx]at D k1 k2;have E:decide (x<0)=false:=decide_eq_false k1;have N:decide (65535<x)=true:=decide_eq_true k2;clear hx k1 k2;go_wp2_with fail
     go_quiet (fail)
     go_wp2_with fail;go_ret;exact⟨by rw[rpB,g.out];rfl,Ab c.out _⟩
    ·cases r with
     |zero=>
      have HN:Hid (Nw L 1):=Hd (by
       intro i hi;obtain rfl:i=0:=(by omega);unfold Hi;rw[if_pos rfl];omega)
      obtain⟨x,hx⟩:=eX (L.getD 0 0);rw[←hx]at D k1 k2;have E:decide (x<0)=false:=decide_eq_false k1;have N:decide (65535<x)=false:=decide_eq_false k2;have z:((0:Nat):Int)=0:=rfl;rw[Nat.add_zero]at D;simp only[z]at f⊢;clear hx k1 k2 z;go_wp2_with fail
      go_quiet (fail)
      go_wp2_with fail;go_roundg (gk-1);case measure=>omega
      case rel=>exact⟨1,by omega,rfl,HN.out,_,by rw[B.out,World.drewN_drewN]⟩
     |succ t=>
      obtain⟨b',o',G,R,A⟩:=HG.out t (by omega);simp only[Option.some.injEq,Addr.mk.injEq,and_true]at G;obtain⟨rfl,rfl⟩:=G;have e1:wr.cell? ⟨b,o+t,rF⟩=some (rA .i64 (L.getD t 0)):=(c.out.cell (p:=⟨b,o+t,rF⟩) R).trans A;have Q:Hi L (t+1)=L.getD t 0:=(by unfold Hi;rw[if_neg (by omega),Nat.add_sub_cancel]);have z:((t+1:Nat):Int)=(t:Int)+1:=rfl
      by_cases k3:L.getD (t+1) 0≤L.getD t 0
      ·have g:Hid (Ki L=false):=Hd (U.out (by rw[Q];intro h;omega));obtain⟨x,hx⟩:=eX (L.getD (t+1) 0);obtain⟨y,I⟩:=eX (L.getD t 0);rw[←hx]at D k1 k2 k3;rw[←I]at e1 k3;have E:decide (x<0)=false:=decide_eq_false k1;have N:decide (65535<x)=false:=decide_eq_false k2;have Y:decide (x≤y)=true:=decide_eq_true k3;have t4:decide (0<(t:Int)+1)=true:=(by rw[decide_eq_true_iff];omega);simp only[z]at f⊢;clear hx I k1 k2 k3 Q A z;go_wp2_with fail
       go_quiet (fail)
       go_wp2_with fail;go_ret;exact⟨by rw[rpB,g.out];rfl,Ab c.out _⟩
      ·have HN:Hid (Nw L (t+1+1)):=Hd (by
        intro i hi;rcases Nat.lt_or_ge i (t+1)with h|h
        ·exact u.out i h
        ·obtain rfl:i=t+1:=(by omega);rw[Q];omega)
       obtain⟨x,hx⟩:=eX (L.getD (t+1) 0);obtain⟨y,I⟩:=eX (L.getD t 0);rw[←hx]at D k1 k2 k3;rw[←I]at e1 k3;have E:decide (x<0)=false:=decide_eq_false k1;have N:decide (65535<x)=false:=decide_eq_false k2;have Y:decide (x≤y)=false:=decide_eq_false k3;have t4:decide (0<(t:Int)+1)=true:=(by rw[decide_eq_true_iff];omega);simp only[z]at f⊢;clear hx I k1 k2 k3 Q A z;go_wp2_with fail
       go_quiet (fail)
       go_wp2_with fail;go_roundg (gk-1);case measure=>omega
       case rel=>exact⟨t+1+1,by omega,by go_num,HN.out,_,by rw[B.out,World.drewN_drewN]⟩
  ·obtain rfl:r=k:=(by omega);have f:decide ((r:Int)<(r:Int))=false:=(by rw[decide_eq_false_iff_not];omega);have hl:Ki L=true:=(by rw[Fm,←HK.out];exact u.out);have hB:rpB d a L=decide (d=32∧(a=0∨a=32)):=(by rw[rpB,hl,Bool.true_and]);have P:=Hd hB;clear hl hB
   by_cases k1:d=32
   ·have E:((d:Int)==32)=true:=by rw[beq_iff_eq];omega
    by_cases k2:a=0
    ·have N:((a:Int)==0)=true:=(by rw[beq_iff_eq];omega);have g:=Hd (decide_eq_true (show d=32∧(a=0∨a=32)from⟨k1,.inl k2⟩));clear k1 k2;go_wp2_with fail;go_ret;exact⟨Ae (P.out.trans g.out).symm,c.out⟩
    ·have N:((a:Int)==0)=false:=by rw[beq_eq_false_iff_ne];omega
     by_cases k3:a=32
     ·have Y:((a:Int)==32)=true:=(by rw[beq_iff_eq];omega);have g:=Hd (decide_eq_true (show d=32∧(a=0∨a=32)from⟨k1,.inr k3⟩));clear k1 k2 k3;go_wp2_with fail;go_ret;exact⟨Ae (P.out.trans g.out).symm,c.out⟩
     ·have Y:((a:Int)==32)=false:=(by rw[beq_eq_false_iff_ne];omega);have g:=Hd (decide_eq_false (show¬(d=32∧(a=0∨a=32)) by omega));clear k1 k2 k3;go_wp2_with fail;go_ret;exact⟨Ae (P.out.trans g.out).symm,c.out⟩
   ·have E:((d:Int)==32)=false:=(by rw[beq_eq_false_iff_ne];omega);have g:=Hd (decide_eq_false (show¬(d=32∧(a=0∨a=32)) by omega));clear k1;go_wp2_with fail;go_ret;exact⟨Ae (P.out.trans g.out).symm,c.out⟩
end Go.Proofs.YtfofaiommeckbaaGreat
