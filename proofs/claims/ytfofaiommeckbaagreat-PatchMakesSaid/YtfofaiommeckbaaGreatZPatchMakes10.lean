/- Walks: the reference's RightLeaf, Small of nodes. -/
import Derived.Test.YtfofaiommeckbaaGreatZPatchMakesB
import Derived.Test.YtfofaiommeckbaaGreatZPatchMakes09
set_option linter.unusedVariables false
set_option maxRecDepth 100000
set_option maxHeartbeats 40000000
namespace Go.Proofs.YtfofaiommeckbaaGreat
open Go.RowKit WireM
theorem Mw (a1 a2 a3 a4 a5:Option Addr)(n1 n2 n3 n4 n5 c1 c2 c3 c4 c5 s:Nat)(w:World):
  Calls Tryz.prog 140 #[.agg #[.slice a1 n1 c1,.slice a2 n2 c2,.slice a3 n3 c3,.int .u8 (s:Nat),.slice a4 n4 c4,.slice a5 n5 c5]] w fun e w'=>e=.returned (.bool (rlB n1 n2 n3 s n4 n5))∧Below w.heap.size w w':=by
 by_cases k7:n4=0
 ·have t7:((n4:Int)==0)=true:=by rw[beq_iff_eq];omega
  by_cases q0:n1=32
  ·have u0:((n1:Int)==32)=true:=by rw[beq_iff_eq];omega
   by_cases q1:n2=32
   ·have u1:((n2:Int)==32)=true:=by rw[beq_iff_eq];omega
    by_cases q2:0<n3
    ·have u2:decide (0<n3)=true:=(by rw[decide_eq_true_iff];omega);have vn3:decide (0<(n3:Int))=true:=by rw[decide_eq_true_iff];omega
     by_cases q3:n3≤64
     ·have u3:decide ((n3:Int)≤64)=true:=by rw[decide_eq_true_iff];omega
      by_cases q4:0<s
      ·have u4:decide (0<s)=true:=(by rw[decide_eq_true_iff];omega);have vs:decide (0<(s:Int))=true:=by rw[decide_eq_true_iff];omega
       by_cases q5:s<4
       ·have u5:decide ((s:Int)<4)=true:=by rw[decide_eq_true_iff];omega
        by_cases q7:n5=64
        ·have u7:((n5:Int)==64)=true:=(by rw[beq_iff_eq];omega);have HE:Hid (rlB n1 n2 n3 s n4 n5=true):=Hd (by rw[rlB,decide_eq_true_iff];omega);clear k7 q0 q1 q2 q3 q4 q5 q7;go_enter Tryz.func140,Tryz.ntmps140;go_wp2_with fail;go_ret;exact⟨Ad HE.out.symm,bR.alloc lR _⟩
        ·have HE:Hid (rlB n1 n2 n3 s n4 n5=false):=Hd (by rw[rlB,decide_eq_false_iff_not];omega);have u7:((n5:Int)==64)=false:=(by rw[beq_eq_false_iff_ne];omega);clear k7 q0 q1 q2 q3 q4 q5 q7;go_enter Tryz.func140,Tryz.ntmps140;go_wp2_with fail;go_ret;exact⟨Ad HE.out.symm,bR.alloc lR _⟩
       ·have HE:Hid (rlB n1 n2 n3 s n4 n5=false):=Hd (by rw[rlB,decide_eq_false_iff_not];omega);have u5:decide ((s:Int)<4)=false:=(by rw[decide_eq_false_iff_not];omega);clear k7 q0 q1 q2 q3 q4 q5;go_enter Tryz.func140,Tryz.ntmps140;go_wp2_with fail;go_ret;exact⟨Ad HE.out.symm,bR.alloc lR _⟩
      ·have HE:Hid (rlB n1 n2 n3 s n4 n5=false):=Hd (by rw[rlB,decide_eq_false_iff_not];omega);have u4:decide (0<s)=false:=(by rw[decide_eq_false_iff_not];omega);have vs:decide (0<(s:Int))=false:=(by rw[decide_eq_false_iff_not];omega);clear k7 q0 q1 q2 q3 q4;go_enter Tryz.func140,Tryz.ntmps140;go_wp2_with fail;go_ret;exact⟨Ad HE.out.symm,bR.alloc lR _⟩
     ·have HE:Hid (rlB n1 n2 n3 s n4 n5=false):=Hd (by rw[rlB,decide_eq_false_iff_not];omega);have u3:decide ((n3:Int)≤64)=false:=(by rw[decide_eq_false_iff_not];omega);clear k7 q0 q1 q2 q3;go_enter Tryz.func140,Tryz.ntmps140;go_wp2_with fail;go_ret;exact⟨Ad HE.out.symm,bR.alloc lR _⟩
    ·have HE:Hid (rlB n1 n2 n3 s n4 n5=false):=Hd (by rw[rlB,decide_eq_false_iff_not];omega);have u2:decide (0<n3)=false:=(by rw[decide_eq_false_iff_not];omega);have vn3:decide (0<(n3:Int))=false:=(by rw[decide_eq_false_iff_not];omega);clear k7 q0 q1 q2;go_enter Tryz.func140,Tryz.ntmps140;go_wp2_with fail;go_ret;exact⟨Ad HE.out.symm,bR.alloc lR _⟩
   ·have HE:Hid (rlB n1 n2 n3 s n4 n5=false):=Hd (by rw[rlB,decide_eq_false_iff_not];omega);have u1:((n2:Int)==32)=false:=(by rw[beq_eq_false_iff_ne];omega);clear k7 q0 q1;go_enter Tryz.func140,Tryz.ntmps140;go_wp2_with fail;go_ret;exact⟨Ad HE.out.symm,bR.alloc lR _⟩
  ·have HE:Hid (rlB n1 n2 n3 s n4 n5=false):=Hd (by rw[rlB,decide_eq_false_iff_not];omega);have u0:((n1:Int)==32)=false:=(by rw[beq_eq_false_iff_ne];omega);clear k7 q0;go_enter Tryz.func140,Tryz.ntmps140;go_wp2_with fail;go_ret;exact⟨Ad HE.out.symm,bR.alloc lR _⟩
 ·have t7:((n4:Int)==0)=false:=by rw[beq_eq_false_iff_ne];omega
  by_cases k8:s=3
  ·have t8:((s:Int)==3)=true:=by rw[beq_iff_eq];omega
   by_cases k9:n4=32
   ·have t9:((n4:Int)==32)=true:=by rw[beq_iff_eq];omega
    by_cases q0:n1=32
    ·have u0:((n1:Int)==32)=true:=by rw[beq_iff_eq];omega
     by_cases q1:n2=32
     ·have u1:((n2:Int)==32)=true:=by rw[beq_iff_eq];omega
      by_cases q2:0<n3
      ·have u2:decide (0<n3)=true:=(by rw[decide_eq_true_iff];omega);have vn3:decide (0<(n3:Int))=true:=by rw[decide_eq_true_iff];omega
       by_cases q3:n3≤64
       ·have u3:decide ((n3:Int)≤64)=true:=by rw[decide_eq_true_iff];omega
        by_cases q4:0<s
        ·have u4:decide (0<s)=true:=(by rw[decide_eq_true_iff];omega);have vs:decide (0<(s:Int))=true:=by rw[decide_eq_true_iff];omega
         by_cases q5:s<4
         ·have u5:decide ((s:Int)<4)=true:=by rw[decide_eq_true_iff];omega
          by_cases q7:n5=64
          ·have u7:((n5:Int)==64)=true:=(by rw[beq_iff_eq];omega);have HE:Hid (rlB n1 n2 n3 s n4 n5=true):=Hd (by rw[rlB,decide_eq_true_iff];omega);clear k7 k8 k9 q0 q1 q2 q3 q4 q5 q7;go_enter Tryz.func140,Tryz.ntmps140;go_wp2_with fail;go_ret;exact⟨Ad HE.out.symm,bR.alloc lR _⟩
          ·have HE:Hid (rlB n1 n2 n3 s n4 n5=false):=Hd (by rw[rlB,decide_eq_false_iff_not];omega);have u7:((n5:Int)==64)=false:=(by rw[beq_eq_false_iff_ne];omega);clear k7 k8 k9 q0 q1 q2 q3 q4 q5 q7;go_enter Tryz.func140,Tryz.ntmps140;go_wp2_with fail;go_ret;exact⟨Ad HE.out.symm,bR.alloc lR _⟩
         ·have HE:Hid (rlB n1 n2 n3 s n4 n5=false):=Hd (by rw[rlB,decide_eq_false_iff_not];omega);have u5:decide ((s:Int)<4)=false:=(by rw[decide_eq_false_iff_not];omega);clear k7 k8 k9 q0 q1 q2 q3 q4 q5;go_enter Tryz.func140,Tryz.ntmps140;go_wp2_with fail;go_ret;exact⟨Ad HE.out.symm,bR.alloc lR _⟩
        ·have HE:Hid (rlB n1 n2 n3 s n4 n5=false):=Hd (by rw[rlB,decide_eq_false_iff_not];omega);have u4:decide (0<s)=false:=(by rw[decide_eq_false_iff_not];omega);have vs:decide (0<(s:Int))=false:=(by rw[decide_eq_false_iff_not];omega);clear k7 k8 k9 q0 q1 q2 q3 q4;go_enter Tryz.func140,Tryz.ntmps140;go_wp2_with fail;go_ret;exact⟨Ad HE.out.symm,bR.alloc lR _⟩
       ·have HE:Hid (rlB n1 n2 n3 s n4 n5=false):=Hd (by rw[rlB,decide_eq_false_iff_not];omega);have u3:decide ((n3:Int)≤64)=false:=(by rw[decide_eq_false_iff_not];omega);clear k7 k8 k9 q0 q1 q2 q3;go_enter Tryz.func140,Tryz.ntmps140;go_wp2_with fail;go_ret;exact⟨Ad HE.out.symm,bR.alloc lR _⟩
      ·have HE:Hid (rlB n1 n2 n3 s n4 n5=false):=Hd (by rw[rlB,decide_eq_false_iff_not];omega);have u2:decide (0<n3)=false:=(by rw[decide_eq_false_iff_not];omega);have vn3:decide (0<(n3:Int))=false:=(by rw[decide_eq_false_iff_not];omega);clear k7 k8 k9 q0 q1 q2;go_enter Tryz.func140,Tryz.ntmps140;go_wp2_with fail;go_ret;exact⟨Ad HE.out.symm,bR.alloc lR _⟩
     ·have HE:Hid (rlB n1 n2 n3 s n4 n5=false):=Hd (by rw[rlB,decide_eq_false_iff_not];omega);have u1:((n2:Int)==32)=false:=(by rw[beq_eq_false_iff_ne];omega);clear k7 k8 k9 q0 q1;go_enter Tryz.func140,Tryz.ntmps140;go_wp2_with fail;go_ret;exact⟨Ad HE.out.symm,bR.alloc lR _⟩
    ·have HE:Hid (rlB n1 n2 n3 s n4 n5=false):=Hd (by rw[rlB,decide_eq_false_iff_not];omega);have u0:((n1:Int)==32)=false:=(by rw[beq_eq_false_iff_ne];omega);clear k7 k8 k9 q0;go_enter Tryz.func140,Tryz.ntmps140;go_wp2_with fail;go_ret;exact⟨Ad HE.out.symm,bR.alloc lR _⟩
   ·have t9:((n4:Int)==32)=false:=by rw[beq_eq_false_iff_ne];omega
    by_cases q0:n1=32
    ·have u0:((n1:Int)==32)=true:=by rw[beq_iff_eq];omega
     by_cases q1:n2=32
     ·have u1:((n2:Int)==32)=true:=by rw[beq_iff_eq];omega
      by_cases q2:0<n3
      ·have u2:decide (0<n3)=true:=(by rw[decide_eq_true_iff];omega);have vn3:decide (0<(n3:Int))=true:=by rw[decide_eq_true_iff];omega
       by_cases q3:n3≤64
       ·have u3:decide ((n3:Int)≤64)=true:=by rw[decide_eq_true_iff];omega
        by_cases q4:0<s
        ·have u4:decide (0<s)=true:=(by rw[decide_eq_true_iff];omega);have vs:decide (0<(s:Int))=true:=by rw[decide_eq_true_iff];omega
         by_cases q5:s<4
         ·have u5:decide ((s:Int)<4)=true:=(by rw[decide_eq_true_iff];omega);have HE:Hid (rlB n1 n2 n3 s n4 n5=false):=Hd (by rw[rlB,decide_eq_false_iff_not];omega);clear k7 k8 k9 q0 q1 q2 q3 q4 q5;go_enter Tryz.func140,Tryz.ntmps140;go_wp2_with fail;go_ret;exact⟨Ad HE.out.symm,bR.alloc lR _⟩
         ·have HE:Hid (rlB n1 n2 n3 s n4 n5=false):=Hd (by rw[rlB,decide_eq_false_iff_not];omega);have u5:decide ((s:Int)<4)=false:=(by rw[decide_eq_false_iff_not];omega);clear k7 k8 k9 q0 q1 q2 q3 q4 q5;go_enter Tryz.func140,Tryz.ntmps140;go_wp2_with fail;go_ret;exact⟨Ad HE.out.symm,bR.alloc lR _⟩
        ·have HE:Hid (rlB n1 n2 n3 s n4 n5=false):=Hd (by rw[rlB,decide_eq_false_iff_not];omega);have u4:decide (0<s)=false:=(by rw[decide_eq_false_iff_not];omega);have vs:decide (0<(s:Int))=false:=(by rw[decide_eq_false_iff_not];omega);clear k7 k8 k9 q0 q1 q2 q3 q4;go_enter Tryz.func140,Tryz.ntmps140;go_wp2_with fail;go_ret;exact⟨Ad HE.out.symm,bR.alloc lR _⟩
       ·have HE:Hid (rlB n1 n2 n3 s n4 n5=false):=Hd (by rw[rlB,decide_eq_false_iff_not];omega);have u3:decide ((n3:Int)≤64)=false:=(by rw[decide_eq_false_iff_not];omega);clear k7 k8 k9 q0 q1 q2 q3;go_enter Tryz.func140,Tryz.ntmps140;go_wp2_with fail;go_ret;exact⟨Ad HE.out.symm,bR.alloc lR _⟩
      ·have HE:Hid (rlB n1 n2 n3 s n4 n5=false):=Hd (by rw[rlB,decide_eq_false_iff_not];omega);have u2:decide (0<n3)=false:=(by rw[decide_eq_false_iff_not];omega);have vn3:decide (0<(n3:Int))=false:=(by rw[decide_eq_false_iff_not];omega);clear k7 k8 k9 q0 q1 q2;go_enter Tryz.func140,Tryz.ntmps140;go_wp2_with fail;go_ret;exact⟨Ad HE.out.symm,bR.alloc lR _⟩
     ·have HE:Hid (rlB n1 n2 n3 s n4 n5=false):=Hd (by rw[rlB,decide_eq_false_iff_not];omega);have u1:((n2:Int)==32)=false:=(by rw[beq_eq_false_iff_ne];omega);clear k7 k8 k9 q0 q1;go_enter Tryz.func140,Tryz.ntmps140;go_wp2_with fail;go_ret;exact⟨Ad HE.out.symm,bR.alloc lR _⟩
    ·have HE:Hid (rlB n1 n2 n3 s n4 n5=false):=Hd (by rw[rlB,decide_eq_false_iff_not];omega);have u0:((n1:Int)==32)=false:=(by rw[beq_eq_false_iff_ne];omega);clear k7 k8 k9 q0;go_enter Tryz.func140,Tryz.ntmps140;go_wp2_with fail;go_ret;exact⟨Ad HE.out.symm,bR.alloc lR _⟩
  ·have t8:((s:Int)==3)=false:=by rw[beq_eq_false_iff_ne];omega
   by_cases q0:n1=32
   ·have u0:((n1:Int)==32)=true:=by rw[beq_iff_eq];omega
    by_cases q1:n2=32
    ·have u1:((n2:Int)==32)=true:=by rw[beq_iff_eq];omega
     by_cases q2:0<n3
     ·have u2:decide (0<n3)=true:=(by rw[decide_eq_true_iff];omega);have vn3:decide (0<(n3:Int))=true:=by rw[decide_eq_true_iff];omega
      by_cases q3:n3≤64
      ·have u3:decide ((n3:Int)≤64)=true:=by rw[decide_eq_true_iff];omega
       by_cases q4:0<s
       ·have u4:decide (0<s)=true:=(by rw[decide_eq_true_iff];omega);have vs:decide (0<(s:Int))=true:=by rw[decide_eq_true_iff];omega
        by_cases q5:s<4
        ·have u5:decide ((s:Int)<4)=true:=(by rw[decide_eq_true_iff];omega);have HE:Hid (rlB n1 n2 n3 s n4 n5=false):=Hd (by rw[rlB,decide_eq_false_iff_not];omega);clear k7 k8 q0 q1 q2 q3 q4 q5;go_enter Tryz.func140,Tryz.ntmps140;go_wp2_with fail;go_ret;exact⟨Ad HE.out.symm,bR.alloc lR _⟩
        ·have HE:Hid (rlB n1 n2 n3 s n4 n5=false):=Hd (by rw[rlB,decide_eq_false_iff_not];omega);have u5:decide ((s:Int)<4)=false:=(by rw[decide_eq_false_iff_not];omega);clear k7 k8 q0 q1 q2 q3 q4 q5;go_enter Tryz.func140,Tryz.ntmps140;go_wp2_with fail;go_ret;exact⟨Ad HE.out.symm,bR.alloc lR _⟩
       ·have HE:Hid (rlB n1 n2 n3 s n4 n5=false):=Hd (by rw[rlB,decide_eq_false_iff_not];omega);have u4:decide (0<s)=false:=(by rw[decide_eq_false_iff_not];omega);have vs:decide (0<(s:Int))=false:=(by rw[decide_eq_false_iff_not];omega);clear k7 k8 q0 q1 q2 q3 q4;go_enter Tryz.func140,Tryz.ntmps140;go_wp2_with fail;go_ret;exact⟨Ad HE.out.symm,bR.alloc lR _⟩
      ·have HE:Hid (rlB n1 n2 n3 s n4 n5=false):=Hd (by rw[rlB,decide_eq_false_iff_not];omega);have u3:decide ((n3:Int)≤64)=false:=(by rw[decide_eq_false_iff_not];omega);clear k7 k8 q0 q1 q2 q3;go_enter Tryz.func140,Tryz.ntmps140;go_wp2_with fail;go_ret;exact⟨Ad HE.out.symm,bR.alloc lR _⟩
     ·have HE:Hid (rlB n1 n2 n3 s n4 n5=false):=Hd (by rw[rlB,decide_eq_false_iff_not];omega);have u2:decide (0<n3)=false:=(by rw[decide_eq_false_iff_not];omega);have vn3:decide (0<(n3:Int))=false:=(by rw[decide_eq_false_iff_not];omega);clear k7 k8 q0 q1 q2;go_enter Tryz.func140,Tryz.ntmps140;go_wp2_with fail;go_ret;exact⟨Ad HE.out.symm,bR.alloc lR _⟩
    ·have HE:Hid (rlB n1 n2 n3 s n4 n5=false):=Hd (by rw[rlB,decide_eq_false_iff_not];omega);have u1:((n2:Int)==32)=false:=(by rw[beq_eq_false_iff_ne];omega);clear k7 k8 q0 q1;go_enter Tryz.func140,Tryz.ntmps140;go_wp2_with fail;go_ret;exact⟨Ad HE.out.symm,bR.alloc lR _⟩
   ·have HE:Hid (rlB n1 n2 n3 s n4 n5=false):=Hd (by rw[rlB,decide_eq_false_iff_not];omega);have u0:((n1:Int)==32)=false:=(by rw[beq_eq_false_iff_ne];omega);clear k7 k8 q0;go_enter Tryz.func140,Tryz.ntmps140;go_wp2_with fail;go_ret;exact⟨Ad HE.out.symm,bR.alloc lR _⟩
end Go.Proofs.YtfofaiommeckbaaGreat
