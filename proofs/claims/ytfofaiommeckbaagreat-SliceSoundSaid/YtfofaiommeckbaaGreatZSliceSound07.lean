/- Walks: the reference's RightLeaf, Small of nodes. -/
import Derived.Test.YtfofaiommeckbaaGreatZSliceSoundB
import Derived.Test.YtfofaiommeckbaaGreatZSliceSound06
set_option linter.unusedVariables false
set_option maxRecDepth 100000
set_option maxHeartbeats 40000000
namespace Go.Proofs.YtfofaiommeckbaaGreat
open Go.RowKit WireM
theorem Oi (l q p o m:Option Addr)(c d a g f c1 c2 c3 c4 c5 s:Nat)(w:World):
  Calls Tryz.prog 140 #[.agg #[.slice l c c1,.slice q d c2,.slice p a c3,.int .u8 (s:Nat),.slice o g c4,.slice m f c5]] w fun e w'=>e=.returned (.bool (rlB c d a s g f))∧Below w.heap.size w w':=by
 by_cases k7:g=0
 ·have k:((g:Int)==0)=true:=by rw[beq_iff_eq];omega
  by_cases q0:c=32
  ·have u0:((c:Int)==32)=true:=by rw[beq_iff_eq];omega
   by_cases q1:d=32
   ·have u1:((d:Int)==32)=true:=by rw[beq_iff_eq];omega
    by_cases q2:0<a
    ·have u2:decide (0<a)=true:=(by rw[decide_eq_true_iff];omega);have h:decide (0<(a:Int))=true:=by rw[decide_eq_true_iff];omega
     by_cases q3:a≤64
     ·have u3:decide ((a:Int)≤64)=true:=by rw[decide_eq_true_iff];omega
      by_cases q4:0<s
      ·have u4:decide (0<s)=true:=(by rw[decide_eq_true_iff];omega);have i:decide (0<(s:Int))=true:=by rw[decide_eq_true_iff];omega
       by_cases q5:s<4
       ·have u5:decide ((s:Int)<4)=true:=by rw[decide_eq_true_iff];omega
        by_cases q7:f=64
        ·have u7:((f:Int)==64)=true:=(by rw[beq_iff_eq];omega);have b:Hid (rlB c d a s g f=true):=Hd (by rw[rlB,decide_eq_true_iff];omega);clear k7 q0 q1 q2 q3 q4 q5 q7;go_enter Tryz.func140,Tryz.ntmps140;go_wp2_with fail;go_ret;exact⟨Ac b.out.symm,bR.alloc lR _⟩
        ·have b:Hid (rlB c d a s g f=false):=Hd (by rw[rlB,decide_eq_false_iff_not];omega);have u7:((f:Int)==64)=false:=(by rw[beq_eq_false_iff_ne];omega);clear k7 q0 q1 q2 q3 q4 q5 q7;go_enter Tryz.func140,Tryz.ntmps140;go_wp2_with fail;go_ret;exact⟨Ac b.out.symm,bR.alloc lR _⟩
       ·have b:Hid (rlB c d a s g f=false):=Hd (by rw[rlB,decide_eq_false_iff_not];omega);have u5:decide ((s:Int)<4)=false:=(by rw[decide_eq_false_iff_not];omega);clear k7 q0 q1 q2 q3 q4 q5;go_enter Tryz.func140,Tryz.ntmps140;go_wp2_with fail;go_ret;exact⟨Ac b.out.symm,bR.alloc lR _⟩
      ·have b:Hid (rlB c d a s g f=false):=Hd (by rw[rlB,decide_eq_false_iff_not];omega);have u4:decide (0<s)=false:=(by rw[decide_eq_false_iff_not];omega);have i:decide (0<(s:Int))=false:=(by rw[decide_eq_false_iff_not];omega);clear k7 q0 q1 q2 q3 q4;go_enter Tryz.func140,Tryz.ntmps140;go_wp2_with fail;go_ret;exact⟨Ac b.out.symm,bR.alloc lR _⟩
     ·have b:Hid (rlB c d a s g f=false):=Hd (by rw[rlB,decide_eq_false_iff_not];omega);have u3:decide ((a:Int)≤64)=false:=(by rw[decide_eq_false_iff_not];omega);clear k7 q0 q1 q2 q3;go_enter Tryz.func140,Tryz.ntmps140;go_wp2_with fail;go_ret;exact⟨Ac b.out.symm,bR.alloc lR _⟩
    ·have b:Hid (rlB c d a s g f=false):=Hd (by rw[rlB,decide_eq_false_iff_not];omega);have u2:decide (0<a)=false:=(by rw[decide_eq_false_iff_not];omega);have h:decide (0<(a:Int))=false:=(by rw[decide_eq_false_iff_not];omega);clear k7 q0 q1 q2;go_enter Tryz.func140,Tryz.ntmps140;go_wp2_with fail;go_ret;exact⟨Ac b.out.symm,bR.alloc lR _⟩
   ·have b:Hid (rlB c d a s g f=false):=Hd (by rw[rlB,decide_eq_false_iff_not];omega);have u1:((d:Int)==32)=false:=(by rw[beq_eq_false_iff_ne];omega);clear k7 q0 q1;go_enter Tryz.func140,Tryz.ntmps140;go_wp2_with fail;go_ret;exact⟨Ac b.out.symm,bR.alloc lR _⟩
  ·have b:Hid (rlB c d a s g f=false):=Hd (by rw[rlB,decide_eq_false_iff_not];omega);have u0:((c:Int)==32)=false:=(by rw[beq_eq_false_iff_ne];omega);clear k7 q0;go_enter Tryz.func140,Tryz.ntmps140;go_wp2_with fail;go_ret;exact⟨Ac b.out.symm,bR.alloc lR _⟩
 ·have k:((g:Int)==0)=false:=by rw[beq_eq_false_iff_ne];omega
  by_cases k8:s=3
  ·have j:((s:Int)==3)=true:=by rw[beq_iff_eq];omega
   by_cases k9:g=32
   ·have n:((g:Int)==32)=true:=by rw[beq_iff_eq];omega
    by_cases q0:c=32
    ·have u0:((c:Int)==32)=true:=by rw[beq_iff_eq];omega
     by_cases q1:d=32
     ·have u1:((d:Int)==32)=true:=by rw[beq_iff_eq];omega
      by_cases q2:0<a
      ·have u2:decide (0<a)=true:=(by rw[decide_eq_true_iff];omega);have h:decide (0<(a:Int))=true:=by rw[decide_eq_true_iff];omega
       by_cases q3:a≤64
       ·have u3:decide ((a:Int)≤64)=true:=by rw[decide_eq_true_iff];omega
        by_cases q4:0<s
        ·have u4:decide (0<s)=true:=(by rw[decide_eq_true_iff];omega);have i:decide (0<(s:Int))=true:=by rw[decide_eq_true_iff];omega
         by_cases q5:s<4
         ·have u5:decide ((s:Int)<4)=true:=by rw[decide_eq_true_iff];omega
          by_cases q7:f=64
          ·have u7:((f:Int)==64)=true:=(by rw[beq_iff_eq];omega);have b:Hid (rlB c d a s g f=true):=Hd (by rw[rlB,decide_eq_true_iff];omega);clear k7 k8 k9 q0 q1 q2 q3 q4 q5 q7;go_enter Tryz.func140,Tryz.ntmps140;go_wp2_with fail;go_ret;exact⟨Ac b.out.symm,bR.alloc lR _⟩
          ·have b:Hid (rlB c d a s g f=false):=Hd (by rw[rlB,decide_eq_false_iff_not];omega);have u7:((f:Int)==64)=false:=(by rw[beq_eq_false_iff_ne];omega);clear k7 k8 k9 q0 q1 q2 q3 q4 q5 q7;go_enter Tryz.func140,Tryz.ntmps140;go_wp2_with fail;go_ret;exact⟨Ac b.out.symm,bR.alloc lR _⟩
         ·have b:Hid (rlB c d a s g f=false):=Hd (by rw[rlB,decide_eq_false_iff_not];omega);have u5:decide ((s:Int)<4)=false:=(by rw[decide_eq_false_iff_not];omega);clear k7 k8 k9 q0 q1 q2 q3 q4 q5;go_enter Tryz.func140,Tryz.ntmps140;go_wp2_with fail;go_ret;exact⟨Ac b.out.symm,bR.alloc lR _⟩
        ·have b:Hid (rlB c d a s g f=false):=Hd (by rw[rlB,decide_eq_false_iff_not];omega);have u4:decide (0<s)=false:=(by rw[decide_eq_false_iff_not];omega);have i:decide (0<(s:Int))=false:=(by rw[decide_eq_false_iff_not];omega);clear k7 k8 k9 q0 q1 q2 q3 q4;go_enter Tryz.func140,Tryz.ntmps140;go_wp2_with fail;go_ret;exact⟨Ac b.out.symm,bR.alloc lR _⟩
       ·have b:Hid (rlB c d a s g f=false):=Hd (by rw[rlB,decide_eq_false_iff_not];omega);have u3:decide ((a:Int)≤64)=false:=(by rw[decide_eq_false_iff_not];omega);clear k7 k8 k9 q0 q1 q2 q3;go_enter Tryz.func140,Tryz.ntmps140;go_wp2_with fail;go_ret;exact⟨Ac b.out.symm,bR.alloc lR _⟩
      ·have b:Hid (rlB c d a s g f=false):=Hd (by rw[rlB,decide_eq_false_iff_not];omega);have u2:decide (0<a)=false:=(by rw[decide_eq_false_iff_not];omega);have h:decide (0<(a:Int))=false:=(by rw[decide_eq_false_iff_not];omega);clear k7 k8 k9 q0 q1 q2;go_enter Tryz.func140,Tryz.ntmps140;go_wp2_with fail;go_ret;exact⟨Ac b.out.symm,bR.alloc lR _⟩
     ·have b:Hid (rlB c d a s g f=false):=Hd (by rw[rlB,decide_eq_false_iff_not];omega);have u1:((d:Int)==32)=false:=(by rw[beq_eq_false_iff_ne];omega);clear k7 k8 k9 q0 q1;go_enter Tryz.func140,Tryz.ntmps140;go_wp2_with fail;go_ret;exact⟨Ac b.out.symm,bR.alloc lR _⟩
    ·have b:Hid (rlB c d a s g f=false):=Hd (by rw[rlB,decide_eq_false_iff_not];omega);have u0:((c:Int)==32)=false:=(by rw[beq_eq_false_iff_ne];omega);clear k7 k8 k9 q0;go_enter Tryz.func140,Tryz.ntmps140;go_wp2_with fail;go_ret;exact⟨Ac b.out.symm,bR.alloc lR _⟩
   ·have n:((g:Int)==32)=false:=by rw[beq_eq_false_iff_ne];omega
    by_cases q0:c=32
    ·have u0:((c:Int)==32)=true:=by rw[beq_iff_eq];omega
     by_cases q1:d=32
     ·have u1:((d:Int)==32)=true:=by rw[beq_iff_eq];omega
      by_cases q2:0<a
      ·have u2:decide (0<a)=true:=(by rw[decide_eq_true_iff];omega);have h:decide (0<(a:Int))=true:=by rw[decide_eq_true_iff];omega
       by_cases q3:a≤64
       ·have u3:decide ((a:Int)≤64)=true:=by rw[decide_eq_true_iff];omega
        by_cases q4:0<s
        ·have u4:decide (0<s)=true:=(by rw[decide_eq_true_iff];omega);have i:decide (0<(s:Int))=true:=by rw[decide_eq_true_iff];omega
         by_cases q5:s<4
         ·have u5:decide ((s:Int)<4)=true:=(by rw[decide_eq_true_iff];omega);have b:Hid (rlB c d a s g f=false):=Hd (by rw[rlB,decide_eq_false_iff_not];omega);clear k7 k8 k9 q0 q1 q2 q3 q4 q5;go_enter Tryz.func140,Tryz.ntmps140;go_wp2_with fail;go_ret;exact⟨Ac b.out.symm,bR.alloc lR _⟩
         ·have b:Hid (rlB c d a s g f=false):=Hd (by rw[rlB,decide_eq_false_iff_not];omega);have u5:decide ((s:Int)<4)=false:=(by rw[decide_eq_false_iff_not];omega);clear k7 k8 k9 q0 q1 q2 q3 q4 q5;go_enter Tryz.func140,Tryz.ntmps140;go_wp2_with fail;go_ret;exact⟨Ac b.out.symm,bR.alloc lR _⟩
        ·have b:Hid (rlB c d a s g f=false):=Hd (by rw[rlB,decide_eq_false_iff_not];omega);have u4:decide (0<s)=false:=(by rw[decide_eq_false_iff_not];omega);have i:decide (0<(s:Int))=false:=(by rw[decide_eq_false_iff_not];omega);clear k7 k8 k9 q0 q1 q2 q3 q4;go_enter Tryz.func140,Tryz.ntmps140;go_wp2_with fail;go_ret;exact⟨Ac b.out.symm,bR.alloc lR _⟩
       ·have b:Hid (rlB c d a s g f=false):=Hd (by rw[rlB,decide_eq_false_iff_not];omega);have u3:decide ((a:Int)≤64)=false:=(by rw[decide_eq_false_iff_not];omega);clear k7 k8 k9 q0 q1 q2 q3;go_enter Tryz.func140,Tryz.ntmps140;go_wp2_with fail;go_ret;exact⟨Ac b.out.symm,bR.alloc lR _⟩
      ·have b:Hid (rlB c d a s g f=false):=Hd (by rw[rlB,decide_eq_false_iff_not];omega);have u2:decide (0<a)=false:=(by rw[decide_eq_false_iff_not];omega);have h:decide (0<(a:Int))=false:=(by rw[decide_eq_false_iff_not];omega);clear k7 k8 k9 q0 q1 q2;go_enter Tryz.func140,Tryz.ntmps140;go_wp2_with fail;go_ret;exact⟨Ac b.out.symm,bR.alloc lR _⟩
     ·have b:Hid (rlB c d a s g f=false):=Hd (by rw[rlB,decide_eq_false_iff_not];omega);have u1:((d:Int)==32)=false:=(by rw[beq_eq_false_iff_ne];omega);clear k7 k8 k9 q0 q1;go_enter Tryz.func140,Tryz.ntmps140;go_wp2_with fail;go_ret;exact⟨Ac b.out.symm,bR.alloc lR _⟩
    ·have b:Hid (rlB c d a s g f=false):=Hd (by rw[rlB,decide_eq_false_iff_not];omega);have u0:((c:Int)==32)=false:=(by rw[beq_eq_false_iff_ne];omega);clear k7 k8 k9 q0;go_enter Tryz.func140,Tryz.ntmps140;go_wp2_with fail;go_ret;exact⟨Ac b.out.symm,bR.alloc lR _⟩
  ·have j:((s:Int)==3)=false:=by rw[beq_eq_false_iff_ne];omega
   by_cases q0:c=32
   ·have u0:((c:Int)==32)=true:=by rw[beq_iff_eq];omega
    by_cases q1:d=32
    ·have u1:((d:Int)==32)=true:=by rw[beq_iff_eq];omega
     by_cases q2:0<a
     ·have u2:decide (0<a)=true:=(by rw[decide_eq_true_iff];omega);have h:decide (0<(a:Int))=true:=by rw[decide_eq_true_iff];omega
      by_cases q3:a≤64
      ·have u3:decide ((a:Int)≤64)=true:=by rw[decide_eq_true_iff];omega
       by_cases q4:0<s
       ·have u4:decide (0<s)=true:=(by rw[decide_eq_true_iff];omega);have i:decide (0<(s:Int))=true:=by rw[decide_eq_true_iff];omega
        by_cases q5:s<4
        ·have u5:decide ((s:Int)<4)=true:=(by rw[decide_eq_true_iff];omega);have b:Hid (rlB c d a s g f=false):=Hd (by rw[rlB,decide_eq_false_iff_not];omega);clear k7 k8 q0 q1 q2 q3 q4 q5;go_enter Tryz.func140,Tryz.ntmps140;go_wp2_with fail;go_ret;exact⟨Ac b.out.symm,bR.alloc lR _⟩
        ·have b:Hid (rlB c d a s g f=false):=Hd (by rw[rlB,decide_eq_false_iff_not];omega);have u5:decide ((s:Int)<4)=false:=(by rw[decide_eq_false_iff_not];omega);clear k7 k8 q0 q1 q2 q3 q4 q5;go_enter Tryz.func140,Tryz.ntmps140;go_wp2_with fail;go_ret;exact⟨Ac b.out.symm,bR.alloc lR _⟩
       ·have b:Hid (rlB c d a s g f=false):=Hd (by rw[rlB,decide_eq_false_iff_not];omega);have u4:decide (0<s)=false:=(by rw[decide_eq_false_iff_not];omega);have i:decide (0<(s:Int))=false:=(by rw[decide_eq_false_iff_not];omega);clear k7 k8 q0 q1 q2 q3 q4;go_enter Tryz.func140,Tryz.ntmps140;go_wp2_with fail;go_ret;exact⟨Ac b.out.symm,bR.alloc lR _⟩
      ·have b:Hid (rlB c d a s g f=false):=Hd (by rw[rlB,decide_eq_false_iff_not];omega);have u3:decide ((a:Int)≤64)=false:=(by rw[decide_eq_false_iff_not];omega);clear k7 k8 q0 q1 q2 q3;go_enter Tryz.func140,Tryz.ntmps140;go_wp2_with fail;go_ret;exact⟨Ac b.out.symm,bR.alloc lR _⟩
     ·have b:Hid (rlB c d a s g f=false):=Hd (by rw[rlB,decide_eq_false_iff_not];omega);have u2:decide (0<a)=false:=(by rw[decide_eq_false_iff_not];omega);have h:decide (0<(a:Int))=false:=(by rw[decide_eq_false_iff_not];omega);clear k7 k8 q0 q1 q2;go_enter Tryz.func140,Tryz.ntmps140;go_wp2_with fail;go_ret;exact⟨Ac b.out.symm,bR.alloc lR _⟩
    ·have b:Hid (rlB c d a s g f=false):=Hd (by rw[rlB,decide_eq_false_iff_not];omega);have u1:((d:Int)==32)=false:=(by rw[beq_eq_false_iff_ne];omega);clear k7 k8 q0 q1;go_enter Tryz.func140,Tryz.ntmps140;go_wp2_with fail;go_ret;exact⟨Ac b.out.symm,bR.alloc lR _⟩
   ·have b:Hid (rlB c d a s g f=false):=Hd (by rw[rlB,decide_eq_false_iff_not];omega);have u0:((c:Int)==32)=false:=(by rw[beq_eq_false_iff_ne];omega);clear k7 k8 q0;go_enter Tryz.func140,Tryz.ntmps140;go_wp2_with fail;go_ret;exact⟨Ac b.out.symm,bR.alloc lR _⟩
end Go.Proofs.YtfofaiommeckbaaGreat
