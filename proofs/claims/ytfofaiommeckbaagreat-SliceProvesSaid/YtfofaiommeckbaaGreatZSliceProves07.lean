import Derived.Test.YtfofaiommeckbaaGreatZSliceProves06
open Go.Value renaming slice → q9, int → rA
open Go.Proofs.Tryz
set_option linter.unusedVariables false
set_option maxRecDepth 100000
set_option maxHeartbeats 40000000
namespace Go.Proofs.YtfofaiommeckbaaGreat
open Go.RowKit WireM
theorem Pg (p j m n q:Option Addr)(d c a g f c1 c2 c3 c4 c5 s:Nat)(w:World):
  Calls prog 140 #[.agg #[q9 p d c1,q9 j c c2,q9 m a c3,rA .u8 (s:Nat),q9 n g c4,q9 q f c5]] w fun e w'=>e=.returned (.bool (rlB d c a s g f))∧Below w.heap.size w w':=by
 by_cases k7:g=0
 ·have k:((g:Int)==0)=true:=by rw[beq_iff_eq];omega
  by_cases q0:d=32
  ·have u0:((d:Int)==32)=true:=by rw[beq_iff_eq];omega
   by_cases q1:c=32
   ·have u1:((c:Int)==32)=true:=by rw[beq_iff_eq];omega
    by_cases q2:0<a
    ·have u2:decide (0<a)=true:=(by rw[decide_eq_true_iff];omega);have h:decide (0<(a:Int))=true:=by rw[decide_eq_true_iff];omega
     by_cases q3:a≤64
     ·have u3:decide ((a:Int)≤64)=true:=by rw[decide_eq_true_iff];omega
      by_cases q4:0<s
      ·have u4:decide (0<s)=true:=(by rw[decide_eq_true_iff];omega);have i:decide (0<(s:Int))=true:=by rw[decide_eq_true_iff];omega
       by_cases q5:s<4
       ·have u5:decide ((s:Int)<4)=true:=by rw[decide_eq_true_iff];omega
        by_cases q7:f=64
        ·have u7:((f:Int)==64)=true:=(by rw[beq_iff_eq];omega);have b:Hid (rlB d c a s g f=true):=Hd (by rw[rlB,decide_eq_true_iff];omega);clear k7 q0 q1 q2 q3 q4 q5 q7;go_enter func140,ntmps140;go_wp2_with fail;go_ret;exact⟨Ae b.out.symm,bR.alloc lR _⟩
        ·have b:Hid (rlB d c a s g f=false):=Hd (by rw[rlB,decide_eq_false_iff_not];omega);have u7:((f:Int)==64)=false:=(by rw[beq_eq_false_iff_ne];omega);clear k7 q0 q1 q2 q3 q4 q5 q7;go_enter func140,ntmps140;go_wp2_with fail;go_ret;exact⟨Ae b.out.symm,bR.alloc lR _⟩
       ·have b:Hid (rlB d c a s g f=false):=Hd (by rw[rlB,decide_eq_false_iff_not];omega);have u5:decide ((s:Int)<4)=false:=(by rw[decide_eq_false_iff_not];omega);clear k7 q0 q1 q2 q3 q4 q5;go_enter func140,ntmps140;go_wp2_with fail;go_ret;exact⟨Ae b.out.symm,bR.alloc lR _⟩
      ·have b:Hid (rlB d c a s g f=false):=Hd (by rw[rlB,decide_eq_false_iff_not];omega);have u4:decide (0<s)=false:=(by rw[decide_eq_false_iff_not];omega);have i:decide (0<(s:Int))=false:=(by rw[decide_eq_false_iff_not];omega);clear k7 q0 q1 q2 q3 q4;go_enter func140,ntmps140;go_wp2_with fail;go_ret;exact⟨Ae b.out.symm,bR.alloc lR _⟩
     ·have b:Hid (rlB d c a s g f=false):=Hd (by rw[rlB,decide_eq_false_iff_not];omega);have u3:decide ((a:Int)≤64)=false:=(by rw[decide_eq_false_iff_not];omega);clear k7 q0 q1 q2 q3;go_enter func140,ntmps140;go_wp2_with fail;go_ret;exact⟨Ae b.out.symm,bR.alloc lR _⟩
    ·have b:Hid (rlB d c a s g f=false):=Hd (by rw[rlB,decide_eq_false_iff_not];omega);have u2:decide (0<a)=false:=(by rw[decide_eq_false_iff_not];omega);have h:decide (0<(a:Int))=false:=(by rw[decide_eq_false_iff_not];omega);clear k7 q0 q1 q2;go_enter func140,ntmps140;go_wp2_with fail;go_ret;exact⟨Ae b.out.symm,bR.alloc lR _⟩
   ·have b:Hid (rlB d c a s g f=false):=Hd (by rw[rlB,decide_eq_false_iff_not];omega);have u1:((c:Int)==32)=false:=(by rw[beq_eq_false_iff_ne];omega);clear k7 q0 q1;go_enter func140,ntmps140;go_wp2_with fail;go_ret;exact⟨Ae b.out.symm,bR.alloc lR _⟩
  ·have b:Hid (rlB d c a s g f=false):=Hd (by rw[rlB,decide_eq_false_iff_not];omega);have u0:((d:Int)==32)=false:=(by rw[beq_eq_false_iff_ne];omega);clear k7 q0;go_enter func140,ntmps140;go_wp2_with fail;go_ret;exact⟨Ae b.out.symm,bR.alloc lR _⟩
 ·have k:((g:Int)==0)=false:=by rw[beq_eq_false_iff_ne];omega
  by_cases k8:s=3
  ·have l:((s:Int)==3)=true:=by rw[beq_iff_eq];omega
   by_cases k9:g=32
   ·have o:((g:Int)==32)=true:=by rw[beq_iff_eq];omega
    by_cases q0:d=32
    ·have u0:((d:Int)==32)=true:=by rw[beq_iff_eq];omega
     by_cases q1:c=32
     ·have u1:((c:Int)==32)=true:=by rw[beq_iff_eq];omega
      by_cases q2:0<a
      ·have u2:decide (0<a)=true:=(by rw[decide_eq_true_iff];omega);have h:decide (0<(a:Int))=true:=by rw[decide_eq_true_iff];omega
       by_cases q3:a≤64
       ·have u3:decide ((a:Int)≤64)=true:=by rw[decide_eq_true_iff];omega
        by_cases q4:0<s
        ·have u4:decide (0<s)=true:=(by rw[decide_eq_true_iff];omega);have i:decide (0<(s:Int))=true:=by rw[decide_eq_true_iff];omega
         by_cases q5:s<4
         ·have u5:decide ((s:Int)<4)=true:=by rw[decide_eq_true_iff];omega
          by_cases q7:f=64
          ·have u7:((f:Int)==64)=true:=(by rw[beq_iff_eq];omega);have b:Hid (rlB d c a s g f=true):=Hd (by rw[rlB,decide_eq_true_iff];omega);clear k7 k8 k9 q0 q1 q2 q3 q4 q5 q7;go_enter func140,ntmps140;go_wp2_with fail;go_ret;exact⟨Ae b.out.symm,bR.alloc lR _⟩
          ·have b:Hid (rlB d c a s g f=false):=Hd (by rw[rlB,decide_eq_false_iff_not];omega);have u7:((f:Int)==64)=false:=(by rw[beq_eq_false_iff_ne];omega);clear k7 k8 k9 q0 q1 q2 q3 q4 q5 q7;go_enter func140,ntmps140;go_wp2_with fail;go_ret;exact⟨Ae b.out.symm,bR.alloc lR _⟩
         ·have b:Hid (rlB d c a s g f=false):=Hd (by rw[rlB,decide_eq_false_iff_not];omega);have u5:decide ((s:Int)<4)=false:=(by rw[decide_eq_false_iff_not];omega);clear k7 k8 k9 q0 q1 q2 q3 q4 q5;go_enter func140,ntmps140;go_wp2_with fail;go_ret;exact⟨Ae b.out.symm,bR.alloc lR _⟩
        ·have b:Hid (rlB d c a s g f=false):=Hd (by rw[rlB,decide_eq_false_iff_not];omega);have u4:decide (0<s)=false:=(by rw[decide_eq_false_iff_not];omega);have i:decide (0<(s:Int))=false:=(by rw[decide_eq_false_iff_not];omega);clear k7 k8 k9 q0 q1 q2 q3 q4;go_enter func140,ntmps140;go_wp2_with fail;go_ret;exact⟨Ae b.out.symm,bR.alloc lR _⟩
       ·have b:Hid (rlB d c a s g f=false):=Hd (by rw[rlB,decide_eq_false_iff_not];omega);have u3:decide ((a:Int)≤64)=false:=(by rw[decide_eq_false_iff_not];omega);clear k7 k8 k9 q0 q1 q2 q3;go_enter func140,ntmps140;go_wp2_with fail;go_ret;exact⟨Ae b.out.symm,bR.alloc lR _⟩
      ·have b:Hid (rlB d c a s g f=false):=Hd (by rw[rlB,decide_eq_false_iff_not];omega);have u2:decide (0<a)=false:=(by rw[decide_eq_false_iff_not];omega);have h:decide (0<(a:Int))=false:=(by rw[decide_eq_false_iff_not];omega);clear k7 k8 k9 q0 q1 q2;go_enter func140,ntmps140;go_wp2_with fail;go_ret;exact⟨Ae b.out.symm,bR.alloc lR _⟩
     ·have b:Hid (rlB d c a s g f=false):=Hd (by rw[rlB,decide_eq_false_iff_not];omega);have u1:((c:Int)==32)=false:=(by rw[beq_eq_false_iff_ne];omega);clear k7 k8 k9 q0 q1;go_enter func140,ntmps140;go_wp2_with fail;go_ret;exact⟨Ae b.out.symm,bR.alloc lR _⟩
    ·have b:Hid (rlB d c a s g f=false):=Hd (by rw[rlB,decide_eq_false_iff_not];omega);have u0:((d:Int)==32)=false:=(by rw[beq_eq_false_iff_ne];omega);clear k7 k8 k9 q0;go_enter func140,ntmps140;go_wp2_with fail;go_ret;exact⟨Ae b.out.symm,bR.alloc lR _⟩
   ·have o:((g:Int)==32)=false:=by rw[beq_eq_false_iff_ne];omega
    by_cases q0:d=32
    ·have u0:((d:Int)==32)=true:=by rw[beq_iff_eq];omega
     by_cases q1:c=32
     ·have u1:((c:Int)==32)=true:=by rw[beq_iff_eq];omega
      by_cases q2:0<a
      ·have u2:decide (0<a)=true:=(by rw[decide_eq_true_iff];omega);have h:decide (0<(a:Int))=true:=by rw[decide_eq_true_iff];omega
       by_cases q3:a≤64
       ·have u3:decide ((a:Int)≤64)=true:=by rw[decide_eq_true_iff];omega
        by_cases q4:0<s
        ·have u4:decide (0<s)=true:=(by rw[decide_eq_true_iff];omega);have i:decide (0<(s:Int))=true:=by rw[decide_eq_true_iff];omega
         by_cases q5:s<4
         ·have u5:decide ((s:Int)<4)=true:=(by rw[decide_eq_true_iff];omega);have b:Hid (rlB d c a s g f=false):=Hd (by rw[rlB,decide_eq_false_iff_not];omega);clear k7 k8 k9 q0 q1 q2 q3 q4 q5;go_enter func140,ntmps140;go_wp2_with fail;go_ret;exact⟨Ae b.out.symm,bR.alloc lR _⟩
         ·have b:Hid (rlB d c a s g f=false):=Hd (by rw[rlB,decide_eq_false_iff_not];omega);have u5:decide ((s:Int)<4)=false:=(by rw[decide_eq_false_iff_not];omega);clear k7 k8 k9 q0 q1 q2 q3 q4 q5;go_enter func140,ntmps140;go_wp2_with fail;go_ret;exact⟨Ae b.out.symm,bR.alloc lR _⟩
        ·have b:Hid (rlB d c a s g f=false):=Hd (by rw[rlB,decide_eq_false_iff_not];omega);have u4:decide (0<s)=false:=(by rw[decide_eq_false_iff_not];omega);have i:decide (0<(s:Int))=false:=(by rw[decide_eq_false_iff_not];omega);clear k7 k8 k9 q0 q1 q2 q3 q4;go_enter func140,ntmps140;go_wp2_with fail;go_ret;exact⟨Ae b.out.symm,bR.alloc lR _⟩
       ·have b:Hid (rlB d c a s g f=false):=Hd (by rw[rlB,decide_eq_false_iff_not];omega);have u3:decide ((a:Int)≤64)=false:=(by rw[decide_eq_false_iff_not];omega);clear k7 k8 k9 q0 q1 q2 q3;go_enter func140,ntmps140;go_wp2_with fail;go_ret;exact⟨Ae b.out.symm,bR.alloc lR _⟩
      ·have b:Hid (rlB d c a s g f=false):=Hd (by rw[rlB,decide_eq_false_iff_not];omega);have u2:decide (0<a)=false:=(by rw[decide_eq_false_iff_not];omega);have h:decide (0<(a:Int))=false:=(by rw[decide_eq_false_iff_not];omega);clear k7 k8 k9 q0 q1 q2;go_enter func140,ntmps140;go_wp2_with fail;go_ret;exact⟨Ae b.out.symm,bR.alloc lR _⟩
     ·have b:Hid (rlB d c a s g f=false):=Hd (by rw[rlB,decide_eq_false_iff_not];omega);have u1:((c:Int)==32)=false:=(by rw[beq_eq_false_iff_ne];omega);clear k7 k8 k9 q0 q1;go_enter func140,ntmps140;go_wp2_with fail;go_ret;exact⟨Ae b.out.symm,bR.alloc lR _⟩
    ·have b:Hid (rlB d c a s g f=false):=Hd (by rw[rlB,decide_eq_false_iff_not];omega);have u0:((d:Int)==32)=false:=(by rw[beq_eq_false_iff_ne];omega);clear k7 k8 k9 q0;go_enter func140,ntmps140;go_wp2_with fail;go_ret;exact⟨Ae b.out.symm,bR.alloc lR _⟩
  ·have l:((s:Int)==3)=false:=by rw[beq_eq_false_iff_ne];omega
   by_cases q0:d=32
   ·have u0:((d:Int)==32)=true:=by rw[beq_iff_eq];omega
    by_cases q1:c=32
    ·have u1:((c:Int)==32)=true:=by rw[beq_iff_eq];omega
     by_cases q2:0<a
     ·have u2:decide (0<a)=true:=(by rw[decide_eq_true_iff];omega);have h:decide (0<(a:Int))=true:=by rw[decide_eq_true_iff];omega
      by_cases q3:a≤64
      ·have u3:decide ((a:Int)≤64)=true:=by rw[decide_eq_true_iff];omega
       by_cases q4:0<s
       ·have u4:decide (0<s)=true:=(by rw[decide_eq_true_iff];omega);have i:decide (0<(s:Int))=true:=by rw[decide_eq_true_iff];omega
        by_cases q5:s<4
        ·have u5:decide ((s:Int)<4)=true:=(by rw[decide_eq_true_iff];omega);have b:Hid (rlB d c a s g f=false):=Hd (by rw[rlB,decide_eq_false_iff_not];omega);clear k7 k8 q0 q1 q2 q3 q4 q5;go_enter func140,ntmps140;go_wp2_with fail;go_ret;exact⟨Ae b.out.symm,bR.alloc lR _⟩
        ·have b:Hid (rlB d c a s g f=false):=Hd (by rw[rlB,decide_eq_false_iff_not];omega);have u5:decide ((s:Int)<4)=false:=(by rw[decide_eq_false_iff_not];omega);clear k7 k8 q0 q1 q2 q3 q4 q5;go_enter func140,ntmps140;go_wp2_with fail;go_ret;exact⟨Ae b.out.symm,bR.alloc lR _⟩
       ·have b:Hid (rlB d c a s g f=false):=Hd (by rw[rlB,decide_eq_false_iff_not];omega);have u4:decide (0<s)=false:=(by rw[decide_eq_false_iff_not];omega);have i:decide (0<(s:Int))=false:=(by rw[decide_eq_false_iff_not];omega);clear k7 k8 q0 q1 q2 q3 q4;go_enter func140,ntmps140;go_wp2_with fail;go_ret;exact⟨Ae b.out.symm,bR.alloc lR _⟩
      ·have b:Hid (rlB d c a s g f=false):=Hd (by rw[rlB,decide_eq_false_iff_not];omega);have u3:decide ((a:Int)≤64)=false:=(by rw[decide_eq_false_iff_not];omega);clear k7 k8 q0 q1 q2 q3;go_enter func140,ntmps140;go_wp2_with fail;go_ret;exact⟨Ae b.out.symm,bR.alloc lR _⟩
     ·have b:Hid (rlB d c a s g f=false):=Hd (by rw[rlB,decide_eq_false_iff_not];omega);have u2:decide (0<a)=false:=(by rw[decide_eq_false_iff_not];omega);have h:decide (0<(a:Int))=false:=(by rw[decide_eq_false_iff_not];omega);clear k7 k8 q0 q1 q2;go_enter func140,ntmps140;go_wp2_with fail;go_ret;exact⟨Ae b.out.symm,bR.alloc lR _⟩
    ·have b:Hid (rlB d c a s g f=false):=Hd (by rw[rlB,decide_eq_false_iff_not];omega);have u1:((c:Int)==32)=false:=(by rw[beq_eq_false_iff_ne];omega);clear k7 k8 q0 q1;go_enter func140,ntmps140;go_wp2_with fail;go_ret;exact⟨Ae b.out.symm,bR.alloc lR _⟩
   ·have b:Hid (rlB d c a s g f=false):=Hd (by rw[rlB,decide_eq_false_iff_not];omega);have u0:((d:Int)==32)=false:=(by rw[beq_eq_false_iff_ne];omega);clear k7 k8 q0;go_enter func140,ntmps140;go_wp2_with fail;go_ret;exact⟨Ae b.out.symm,bR.alloc lR _⟩
end Go.Proofs.YtfofaiommeckbaaGreat
