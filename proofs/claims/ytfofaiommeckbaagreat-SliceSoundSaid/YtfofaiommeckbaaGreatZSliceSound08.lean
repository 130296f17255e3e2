/- Walks: the reference's RightParent. -/
import Derived.Test.YtfofaiommeckbaaGreatZSliceSoundB
import Derived.Test.YtfofaiommeckbaaGreatZSliceSound07
set_option linter.unusedVariables false
set_option maxRecDepth 100000
set_option maxHeartbeats 40000000
namespace Go.Proofs.YtfofaiommeckbaaGreat
open Go.RowKit WireM
theorem Zar {L:List Int} {r:Nat}(h:Mq L r):∀i,i<r→0≤L.getD i 0:=by
 intro i
 induction i with
 |zero=>intro a;have:=h 0 a;unfold Ht at this;rw[if_pos rfl]at this;omega
 |succ i ih=>
  intro a;have b:=ih (by omega);have:=h (i+1) a;unfold Ht at this;rw[if_neg (by omega),Nat.add_sub_cancel]at this;omega
theorem Lr (G N D:Option Addr)(d a c1 c2 c3:Nat)(L:List Int)(w:World)(P:Rd w (.slice D L.length c3) (ivs .i64 L)):
  Calls Tryz.prog 141 #[.agg #[.slice G d c1,.slice N a c2,.slice D L.length c3]] w fun e w'=>e=.returned (.bool (rpB d a L))∧Below w.heap.size w w':=by
 have H:=Gi P;have j:=fun r (h:r<L.length)=>P.get (r:=r) (show(ivs .i64 L)[r]? =some (.int .i64 (L.getD r 0)) by simp[ivs,h]);obtain⟨k,hk⟩:=eX L.length;rw[←hk]at H j⊢;have l:=Blk.new w 50 #[.slice G d c1,.slice N a c2,.slice D k c3];have z:=(Below.refl w.heap.size w).alloc lR (.cells #[.slice G d c1,.slice N a c2,.slice D k c3] 50);obtain⟨W1,v⟩:=eX (w.alloc (.cells #[.slice G d c1,.slice N a c2,.slice D k c3] 50));rw[←v]at l z;have U:=l.cell 0;have T:=l.cell 1;have X:=l.cell 2;simp only[List.getElem?_toArray,List.getElem?_cons_zero,List.getElem?_cons_succ]at U T X;have HG:=Hd j;have HK:=Hd hk;have aB:=Hd z;have S:=Hd v;have aC:=Hd U;have R:=Hd T;have aA:=Hd X;clear j hk P l z v U T X;go_enter Tryz.func141,Tryz.ntmps141;go_wp2_with fail;rw[←S.out]
 go_loopg [3] k (fun q i wr=>∃r:Nat,r+q=k∧i=.int .i64 (r:Int)∧Mq L r∧∃m,wr=W1.drewN m)
 case atStart=>exact⟨0,by omega,rfl,fun i h=>absurd h (by omega),0,rfl⟩
 case round=>
  obtain⟨r,P,rfl,I,m,hm⟩:=hrel;have A:=Hd I;have C:=Hd hm;have z0:wr.cell? ⟨w.heap.size,0,none⟩=some (.slice G d c1):=(by rw[C.out];exact aC.out);have z1:wr.cell? ⟨w.heap.size,1,none⟩=some (.slice N a c2):=(by rw[C.out];exact R.out);have z2:wr.cell? ⟨w.heap.size,2,none⟩=some (.slice D k c3):=(by rw[C.out];exact aA.out);have c:Hid (Below w.heap.size w wr):=Hd (by rw[C.out];exact Ab aB.out m);clear I hm
  by_cases hrk:r<k
  ·obtain⟨b,o,rfl,hb,c0⟩:=HG.out r hrk;have E:wr.cell? ⟨b,o+r,none⟩=some (.int .i64 (L.getD r 0)):=(c.out.cell (p:=⟨b,o+r,none⟩) hb).trans c0;have hF:= @Mr L r (by have:=HK.out;omega);have n:=Zar A.out;have f:decide ((r:Int)<(k:Int))=true:=(by rw[decide_eq_true_iff];omega);have aD:decide (r<k)=true:=(by rw[decide_eq_true_iff];omega);have Z:=Hd hF;have J:=Hd n;clear hF n c0
   by_cases k1:L.getD r 0<0
   ·have g:Hid (Km L=false):=Hd (Z.out (by
     intro h;rcases Nat.eq_zero_or_pos r with h0|h0
     ·subst h0;unfold Ht at h;rw[if_pos rfl]at h;omega
     ·have:=J.out (r-1) (by omega);unfold Ht at h;rw[if_neg (by omega)]at h;omega))
    obtain⟨x,hx⟩:=eX (L.getD r 0);rw[←hx]at E k1;have B:decide (x<0)=true:=decide_eq_true k1;clear hx k1;go_wp2_with fail
    go_quiet (fail)
    go_wp2_with fail;go_ret;exact⟨by rw[rpB,g.out];rfl,Ab c.out _⟩
   ·by_cases k2:65535<L.getD r 0
    ·have g:Hid (Km L=false):=Hd (Z.out (by intro h;omega));obtain⟨x,hx⟩:=eX (L.getD r 0);rw[←hx]at E k1 k2;have B:decide (x<0)=false:=decide_eq_false k1;have F:decide (65535<x)=true:=decide_eq_true k2;clear hx k1 k2;go_wp2_with fail
     go_quiet (fail)
     go_wp2_with fail;go_ret;exact⟨by rw[rpB,g.out];rfl,Ab c.out _⟩
    ·cases r with
     |zero=>
      have V:Hid (Mq L 1):=Hd (by
       intro i hi;obtain rfl:i=0:=(by omega);unfold Ht;rw[if_pos rfl];omega)
      obtain⟨x,hx⟩:=eX (L.getD 0 0);rw[←hx]at E k1 k2;have B:decide (x<0)=false:=decide_eq_false k1;have F:decide (65535<x)=false:=decide_eq_false k2;have u:((0:Nat):Int)=0:=rfl;rw[Nat.add_zero]at E;simp only[u]at f⊢;clear hx k1 k2 u;go_wp2_with fail
      go_quiet (fail)
      go_wp2_with fail;go_roundg (gk-1);case measure=>omega
      case rel=>exact⟨1,by omega,rfl,V.out,_,by rw[C.out,World.drewN_drewN]⟩
     |succ t=>
      obtain⟨b',o',K,Y,s⟩:=HG.out t (by omega);simp only[Option.some.injEq,Addr.mk.injEq,and_true]at K;obtain⟨rfl,rfl⟩:=K;have e1:wr.cell? ⟨b,o+t,none⟩=some (.int .i64 (L.getD t 0)):=(c.out.cell (p:=⟨b,o+t,none⟩) Y).trans s;have Q:Ht L (t+1)=L.getD t 0:=(by unfold Ht;rw[if_neg (by omega),Nat.add_sub_cancel]);have u:((t+1:Nat):Int)=(t:Int)+1:=rfl
      by_cases k3:L.getD (t+1) 0≤L.getD t 0
      ·have g:Hid (Km L=false):=Hd (Z.out (by rw[Q];intro h;omega));obtain⟨x,hx⟩:=eX (L.getD (t+1) 0);obtain⟨y,M⟩:=eX (L.getD t 0);rw[←hx]at E k1 k2 k3;rw[←M]at e1 k3;have B:decide (x<0)=false:=decide_eq_false k1;have F:decide (65535<x)=false:=decide_eq_false k2;have W:decide (x≤y)=true:=decide_eq_true k3;have t4:decide (0<(t:Int)+1)=true:=(by rw[decide_eq_true_iff];omega);simp only[u]at f⊢;clear hx M k1 k2 k3 Q s u;go_wp2_with fail
       go_quiet (fail)
       go_wp2_with fail;go_ret;exact⟨by rw[rpB,g.out];rfl,Ab c.out _⟩
      ·have V:Hid (Mq L (t+1+1)):=Hd (by
        intro i hi;rcases Nat.lt_or_ge i (t+1)with h|h
        ·exact A.out i h
        ·obtain rfl:i=t+1:=(by omega);rw[Q];omega)
       obtain⟨x,hx⟩:=eX (L.getD (t+1) 0);obtain⟨y,M⟩:=eX (L.getD t 0);rw[←hx]at E k1 k2 k3;rw[←M]at e1 k3;have B:decide (x<0)=false:=decide_eq_false k1;have F:decide (65535<x)=false:=decide_eq_false k2;have W:decide (x≤y)=false:=decide_eq_false k3;have t4:decide (0<(t:Int)+1)=true:=(by rw[decide_eq_true_iff];omega);simp only[u]at f⊢;clear hx M k1 k2 k3 Q s u;go_wp2_with fail
       go_quiet (fail)
       go_wp2_with fail;go_roundg (gk-1);case measure=>omega
       case rel=>exact⟨t+1+1,by omega,by go_num,V.out,_,by rw[C.out,World.drewN_drewN]⟩
  ·obtain rfl:r=k:=(by omega);have f:decide ((r:Int)<(r:Int))=false:=(by rw[decide_eq_false_iff_not];omega);have hl:Km L=true:=(by rw[Hu,←HK.out];exact A.out);have hB:rpB d a L=decide (d=32∧(a=0∨a=32)):=(by rw[rpB,hl,Bool.true_and]);have O:=Hd hB;clear hl hB
   by_cases k1:d=32
   ·have B:((d:Int)==32)=true:=by rw[beq_iff_eq];omega
    by_cases k2:a=0
    ·have F:((a:Int)==0)=true:=(by rw[beq_iff_eq];omega);have g:=Hd (decide_eq_true (show d=32∧(a=0∨a=32)from⟨k1,.inl k2⟩));clear k1 k2;go_wp2_with fail;go_ret;exact⟨Ac (O.out.trans g.out).symm,c.out⟩
    ·have F:((a:Int)==0)=false:=by rw[beq_eq_false_iff_ne];omega
     by_cases k3:a=32
     ·have W:((a:Int)==32)=true:=(by rw[beq_iff_eq];omega);have g:=Hd (decide_eq_true (show d=32∧(a=0∨a=32)from⟨k1,.inr k3⟩));clear k1 k2 k3;go_wp2_with fail;go_ret;exact⟨Ac (O.out.trans g.out).symm,c.out⟩
     ·have W:((a:Int)==32)=false:=(by rw[beq_eq_false_iff_ne];omega);have g:=Hd (decide_eq_false (show¬(d=32∧(a=0∨a=32)) by omega));clear k1 k2 k3;go_wp2_with fail;go_ret;exact⟨Ac (O.out.trans g.out).symm,c.out⟩
   ·have B:((d:Int)==32)=false:=(by rw[beq_eq_false_iff_ne];omega);have g:=Hd (decide_eq_false (show¬(d=32∧(a=0∨a=32)) by omega));clear k1;go_wp2_with fail;go_ret;exact⟨Ac (O.out.trans g.out).symm,c.out⟩
end Go.Proofs.YtfofaiommeckbaaGreat
