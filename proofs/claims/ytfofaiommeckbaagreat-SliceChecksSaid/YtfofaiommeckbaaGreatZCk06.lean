import Derived.Test.YtfofaiommeckbaaGreatZCk05
open Go.Ending renaming returned -> rK
open Go.Value renaming slice -> rC, int -> rD
open Go.Proofs.Tryz
set_option linter.unusedVariables false
set_option maxRecDepth 100000
set_option maxHeartbeats 40000000
namespace Go.Proofs.YtfofaiommeckbaaGreat
open Go.RowKit WireM
theorem Iy (i j k l m:Option Addr)(n1 c a d f c1 c2 c3 c4 c5 s:Nat)(w:World):
  Calls prog 140 #[.agg #[rC i n1 c1,rC j c c2,rC k a c3,rD .u8 (s:Nat),rC l d c4,rC m f c5]] w fun e w'=>e=rK (.bool (rlB n1 c a s d f))/\Below w.heap.size w w':=by
 by_cases k7:d=0
 ·have n:((d:Int)==0)=true:=by rw[beq_iff_eq];omega
  by_cases q0:n1=32
  ·have u0:((n1:Int)==32)=true:=by rw[beq_iff_eq];omega
   by_cases q1:c=32
   ·have u1:((c:Int)==32)=true:=by rw[beq_iff_eq];omega
    by_cases q2:0<a
    ·have u2:decide (0<a)=true:=(by rw[dI];omega);have g:decide (0<(a:Int))=true:=by rw[dI];omega
     by_cases q3:a<=64
     ·have u3:decide ((a:Int)<=64)=true:=by rw[dI];omega
      by_cases q4:0<s
      ·have u4:decide (0<s)=true:=(by rw[dI];omega);have h:decide (0<(s:Int))=true:=by rw[dI];omega
       by_cases q5:s<4
       ·have u5:decide ((s:Int)<4)=true:=by rw[dI];omega
        by_cases q7:f=64
        ·have u7:((f:Int)==64)=true:=(by rw[beq_iff_eq];omega);have b:Hid (rlB n1 c a s d f=true):=Hd (by rw[rlB,dI];omega);clear k7 q0 q1 q2 q3 q4 q5 q7;go_in;go_wp2_with fail;go_ret;exact⟨Ae b.out.symm,bR.alloc lR _⟩
        ·have b:Hid (rlB n1 c a s d f=false):=Hd (by rw[rlB,dN];omega);have u7:((f:Int)==64)=false:=(by rw[qN];omega);clear k7 q0 q1 q2 q3 q4 q5 q7;go_in;go_wp2_with fail;go_ret;exact⟨Ae b.out.symm,bR.alloc lR _⟩
       ·have b:Hid (rlB n1 c a s d f=false):=Hd (by rw[rlB,dN];omega);have u5:decide ((s:Int)<4)=false:=(by rw[dN];omega);clear k7 q0 q1 q2 q3 q4 q5;go_in;go_wp2_with fail;go_ret;exact⟨Ae b.out.symm,bR.alloc lR _⟩
      ·have b:Hid (rlB n1 c a s d f=false):=Hd (by rw[rlB,dN];omega);have u4:decide (0<s)=false:=(by rw[dN];omega);have h:decide (0<(s:Int))=false:=(by rw[dN];omega);clear k7 q0 q1 q2 q3 q4;go_in;go_wp2_with fail;go_ret;exact⟨Ae b.out.symm,bR.alloc lR _⟩
     ·have b:Hid (rlB n1 c a s d f=false):=Hd (by rw[rlB,dN];omega);have u3:decide ((a:Int)<=64)=false:=(by rw[dN];omega);clear k7 q0 q1 q2 q3;go_in;go_wp2_with fail;go_ret;exact⟨Ae b.out.symm,bR.alloc lR _⟩
    ·have b:Hid (rlB n1 c a s d f=false):=Hd (by rw[rlB,dN];omega);have u2:decide (0<a)=false:=(by rw[dN];omega);have g:decide (0<(a:Int))=false:=(by rw[dN];omega);clear k7 q0 q1 q2;go_in;go_wp2_with fail;go_ret;exact⟨Ae b.out.symm,bR.alloc lR _⟩
   ·have b:Hid (rlB n1 c a s d f=false):=Hd (by rw[rlB,dN];omega);have u1:((c:Int)==32)=false:=(by rw[qN];omega);clear k7 q0 q1;go_in;go_wp2_with fail;go_ret;exact⟨Ae b.out.symm,bR.alloc lR _⟩
  ·have b:Hid (rlB n1 c a s d f=false):=Hd (by rw[rlB,dN];omega);have u0:((n1:Int)==32)=false:=(by rw[qN];omega);clear k7 q0;go_in;go_wp2_with fail;go_ret;exact⟨Ae b.out.symm,bR.alloc lR _⟩
 ·have n:((d:Int)==0)=false:=by rw[qN];omega
  by_cases k8:s=3
  ·have o:((s:Int)==3)=true:=by rw[beq_iff_eq];omega
   by_cases k9:d=32
   ·have p:((d:Int)==32)=true:=by rw[beq_iff_eq];omega
    by_cases q0:n1=32
    ·have u0:((n1:Int)==32)=true:=by rw[beq_iff_eq];omega
     by_cases q1:c=32
     ·have u1:((c:Int)==32)=true:=by rw[beq_iff_eq];omega
      by_cases q2:0<a
      ·have u2:decide (0<a)=true:=(by rw[dI];omega);have g:decide (0<(a:Int))=true:=by rw[dI];omega
       by_cases q3:a<=64
       ·have u3:decide ((a:Int)<=64)=true:=by rw[dI];omega
        by_cases q4:0<s
        ·have u4:decide (0<s)=true:=(by rw[dI];omega);have h:decide (0<(s:Int))=true:=by rw[dI];omega
         by_cases q5:s<4
         ·have u5:decide ((s:Int)<4)=true:=by rw[dI];omega
          by_cases q7:f=64
          ·have u7:((f:Int)==64)=true:=(by rw[beq_iff_eq];omega);have b:Hid (rlB n1 c a s d f=true):=Hd (by rw[rlB,dI];omega);clear k7 k8 k9 q0 q1 q2 q3 q4 q5 q7;go_in;go_wp2_with fail;go_ret;exact⟨Ae b.out.symm,bR.alloc lR _⟩
          ·have b:Hid (rlB n1 c a s d f=false):=Hd (by rw[rlB,dN];omega);have u7:((f:Int)==64)=false:=(by rw[qN];omega);clear k7 k8 k9 q0 q1 q2 q3 q4 q5 q7;go_in;go_wp2_with fail;go_ret;exact⟨Ae b.out.symm,bR.alloc lR _⟩
         ·have b:Hid (rlB n1 c a s d f=false):=Hd (by rw[rlB,dN];omega);have u5:decide ((s:Int)<4)=false:=(by rw[dN];omega);clear k7 k8 k9 q0 q1 q2 q3 q4 q5;go_in;go_wp2_with fail;go_ret;exact⟨Ae b.out.symm,bR.alloc lR _⟩
        ·have b:Hid (rlB n1 c a s d f=false):=Hd (by rw[rlB,dN];omega);have u4:decide (0<s)=false:=(by rw[dN];omega);have h:decide (0<(s:Int))=false:=(by rw[dN];omega);clear k7 k8 k9 q0 q1 q2 q3 q4;go_in;go_wp2_with fail;go_ret;exact⟨Ae b.out.symm,bR.alloc lR _⟩
       ·have b:Hid (rlB n1 c a s d f=false):=Hd (by rw[rlB,dN];omega);have u3:decide ((a:Int)<=64)=false:=(by rw[dN];omega);clear k7 k8 k9 q0 q1 q2 q3;go_in;go_wp2_with fail;go_ret;exact⟨Ae b.out.symm,bR.alloc lR _⟩
      ·have b:Hid (rlB n1 c a s d f=false):=Hd (by rw[rlB,dN];omega);have u2:decide (0<a)=false:=(by rw[dN];omega);have g:decide (0<(a:Int))=false:=(by rw[dN];omega);clear k7 k8 k9 q0 q1 q2;go_in;go_wp2_with fail;go_ret;exact⟨Ae b.out.symm,bR.alloc lR _⟩
     ·have b:Hid (rlB n1 c a s d f=false):=Hd (by rw[rlB,dN];omega);have u1:((c:Int)==32)=false:=(by rw[qN];omega);clear k7 k8 k9 q0 q1;go_in;go_wp2_with fail;go_ret;exact⟨Ae b.out.symm,bR.alloc lR _⟩
    ·have b:Hid (rlB n1 c a s d f=false):=Hd (by rw[rlB,dN];omega);have u0:((n1:Int)==32)=false:=(by rw[qN];omega);clear k7 k8 k9 q0;go_in;go_wp2_with fail;go_ret;exact⟨Ae b.out.symm,bR.alloc lR _⟩
   ·have p:((d:Int)==32)=false:=by rw[qN];omega
    by_cases q0:n1=32
    ·have u0:((n1:Int)==32)=true:=by rw[beq_iff_eq];omega
     by_cases q1:c=32
     ·have u1:((c:Int)==32)=true:=by rw[beq_iff_eq];omega
      by_cases q2:0<a
      ·have u2:decide (0<a)=true:=(by rw[dI];omega);have g:decide (0<(a:Int))=true:=by rw[dI];omega
       by_cases q3:a<=64
       ·have u3:decide ((a:Int)<=64)=true:=by rw[dI];omega
        by_cases q4:0<s
        ·have u4:decide (0<s)=true:=(by rw[dI];omega);have h:decide (0<(s:Int))=true:=by rw[dI];omega
         by_cases q5:s<4
         ·have u5:decide ((s:Int)<4)=true:=(by rw[dI];omega);have b:Hid (rlB n1 c a s d f=false):=Hd (by rw[rlB,dN];omega);clear k7 k8 k9 q0 q1 q2 q3 q4 q5;go_in;go_wp2_with fail;go_ret;exact⟨Ae b.out.symm,bR.alloc lR _⟩
         ·have b:Hid (rlB n1 c a s d f=false):=Hd (by rw[rlB,dN];omega);have u5:decide ((s:Int)<4)=false:=(by rw[dN];omega);clear k7 k8 k9 q0 q1 q2 q3 q4 q5;go_in;go_wp2_with fail;go_ret;exact⟨Ae b.out.symm,bR.alloc lR _⟩
        ·have b:Hid (rlB n1 c a s d f=false):=Hd (by rw[rlB,dN];omega);have u4:decide (0<s)=false:=(by rw[dN];omega);have h:decide (0<(s:Int))=false:=(by rw[dN];omega);clear k7 k8 k9 q0 q1 q2 q3 q4;go_in;go_wp2_with fail;go_ret;exact⟨Ae b.out.symm,bR.alloc lR _⟩
       ·have b:Hid (rlB n1 c a s d f=false):=Hd (by rw[rlB,dN];omega);have u3:decide ((a:Int)<=64)=false:=(by rw[dN];omega);clear k7 k8 k9 q0 q1 q2 q3;go_in;go_wp2_with fail;go_ret;exact⟨Ae b.out.symm,bR.alloc lR _⟩
      ·have b:Hid (rlB n1 c a s d f=false):=Hd (by rw[rlB,dN];omega);have u2:decide (0<a)=false:=(by rw[dN];omega);have g:decide (0<(a:Int))=false:=(by rw[dN];omega);clear k7 k8 k9 q0 q1 q2;go_in;go_wp2_with fail;go_ret;exact⟨Ae b.out.symm,bR.alloc lR _⟩
     ·have b:Hid (rlB n1 c a s d f=false):=Hd (by rw[rlB,dN];omega);have u1:((c:Int)==32)=false:=(by rw[qN];omega);clear k7 k8 k9 q0 q1;go_in;go_wp2_with fail;go_ret;exact⟨Ae b.out.symm,bR.alloc lR _⟩
    ·have b:Hid (rlB n1 c a s d f=false):=Hd (by rw[rlB,dN];omega);have u0:((n1:Int)==32)=false:=(by rw[qN];omega);clear k7 k8 k9 q0;go_in;go_wp2_with fail;go_ret;exact⟨Ae b.out.symm,bR.alloc lR _⟩
  ·have o:((s:Int)==3)=false:=by rw[qN];omega
   by_cases q0:n1=32
   ·have u0:((n1:Int)==32)=true:=by rw[beq_iff_eq];omega
    by_cases q1:c=32
    ·have u1:((c:Int)==32)=true:=by rw[beq_iff_eq];omega
     by_cases q2:0<a
     ·have u2:decide (0<a)=true:=(by rw[dI];omega);have g:decide (0<(a:Int))=true:=by rw[dI];omega
      by_cases q3:a<=64
      ·have u3:decide ((a:Int)<=64)=true:=by rw[dI];omega
       by_cases q4:0<s
       ·have u4:decide (0<s)=true:=(by rw[dI];omega);have h:decide (0<(s:Int))=true:=by rw[dI];omega
        by_cases q5:s<4
        ·have u5:decide ((s:Int)<4)=true:=(by rw[dI];omega);have b:Hid (rlB n1 c a s d f=false):=Hd (by rw[rlB,dN];omega);clear k7 k8 q0 q1 q2 q3 q4 q5;go_in;go_wp2_with fail;go_ret;exact⟨Ae b.out.symm,bR.alloc lR _⟩
        ·have b:Hid (rlB n1 c a s d f=false):=Hd (by rw[rlB,dN];omega);have u5:decide ((s:Int)<4)=false:=(by rw[dN];omega);clear k7 k8 q0 q1 q2 q3 q4 q5;go_in;go_wp2_with fail;go_ret;exact⟨Ae b.out.symm,bR.alloc lR _⟩
       ·have b:Hid (rlB n1 c a s d f=false):=Hd (by rw[rlB,dN];omega);have u4:decide (0<s)=false:=(by rw[dN];omega);have h:decide (0<(s:Int))=false:=(by rw[dN];omega);clear k7 k8 q0 q1 q2 q3 q4;go_in;go_wp2_with fail;go_ret;exact⟨Ae b.out.symm,bR.alloc lR _⟩
      ·have b:Hid (rlB n1 c a s d f=false):=Hd (by rw[rlB,dN];omega);have u3:decide ((a:Int)<=64)=false:=(by rw[dN];omega);clear k7 k8 q0 q1 q2 q3;go_in;go_wp2_with fail;go_ret;exact⟨Ae b.out.symm,bR.alloc lR _⟩
     ·have b:Hid (rlB n1 c a s d f=false):=Hd (by rw[rlB,dN];omega);have u2:decide (0<a)=false:=(by rw[dN];omega);have g:decide (0<(a:Int))=false:=(by rw[dN];omega);clear k7 k8 q0 q1 q2;go_in;go_wp2_with fail;go_ret;exact⟨Ae b.out.symm,bR.alloc lR _⟩
    ·have b:Hid (rlB n1 c a s d f=false):=Hd (by rw[rlB,dN];omega);have u1:((c:Int)==32)=false:=(by rw[qN];omega);clear k7 k8 q0 q1;go_in;go_wp2_with fail;go_ret;exact⟨Ae b.out.symm,bR.alloc lR _⟩
   ·have b:Hid (rlB n1 c a s d f=false):=Hd (by rw[rlB,dN];omega);have u0:((n1:Int)==32)=false:=(by rw[qN];omega);clear k7 k8 q0;go_in;go_wp2_with fail;go_ret;exact⟨Ae b.out.symm,bR.alloc lR _⟩
