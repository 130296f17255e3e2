import Derived.Test.YtfofaiommeckbaaGreatZTr05
open Go.Ending renaming returned -> rM
open Go.Value renaming slice -> rD, int -> rE
open Go.Proofs.Tryz
set_option linter.unusedVariables false
set_option maxRecDepth 100000
set_option maxHeartbeats 40000000
namespace Go.Proofs.YtfofaiommeckbaaGreat
open Go.RowKit WireM
theorem Ou (j k l m n:Option Addr)(c d a f g c1 c2 c3 c4 c5 s:Nat)(w:World):
  Calls prog 140 #[.agg #[rD j c c1,rD k d c2,rD l a c3,rE .u8 (s:Nat),rD m f c4,rD n g c5]] w fun e w'=>e=rM (.bool (rlB c d a s f g))/\Below w.heap.size w w':=by
 by_cases k7:f=0
 ·have o:((f:Int)==0)=true:=by rw[beq_iff_eq];omega
  by_cases q0:c=32
  ·have u0:((c:Int)==32)=true:=by rw[beq_iff_eq];omega
   by_cases q1:d=32
   ·have u1:((d:Int)==32)=true:=by rw[beq_iff_eq];omega
    by_cases q2:0<a
    ·have u2:decide (0<a)=true:=(by rw[dI];omega);have h:decide (0<(a:Int))=true:=by rw[dI];omega
     by_cases q3:a<=64
     ·have u3:decide ((a:Int)<=64)=true:=by rw[dI];omega
      by_cases q4:0<s
      ·have u4:decide (0<s)=true:=(by rw[dI];omega);have i:decide (0<(s:Int))=true:=by rw[dI];omega
       by_cases q5:s<4
       ·have u5:decide ((s:Int)<4)=true:=by rw[dI];omega
        by_cases q7:g=64
        ·have u7:((g:Int)==64)=true:=(by rw[beq_iff_eq];omega);have b:Hid (rlB c d a s f g=true):=Hd (by rw[rlB,dI];omega);clear k7 q0 q1 q2 q3 q4 q5 q7;go_in;go_wp2_with fail;go_ret;exact⟨Ac b.out.symm,bR.alloc lR _⟩
        ·have b:Hid (rlB c d a s f g=false):=Hd (by rw[rlB,dN];omega);have u7:((g:Int)==64)=false:=(by rw[qN];omega);clear k7 q0 q1 q2 q3 q4 q5 q7;go_in;go_wp2_with fail;go_ret;exact⟨Ac b.out.symm,bR.alloc lR _⟩
       ·have b:Hid (rlB c d a s f g=false):=Hd (by rw[rlB,dN];omega);have u5:decide ((s:Int)<4)=false:=(by rw[dN];omega);clear k7 q0 q1 q2 q3 q4 q5;go_in;go_wp2_with fail;go_ret;exact⟨Ac b.out.symm,bR.alloc lR _⟩
      ·have b:Hid (rlB c d a s f g=false):=Hd (by rw[rlB,dN];omega);have u4:decide (0<s)=false:=(by rw[dN];omega);have i:decide (0<(s:Int))=false:=(by rw[dN];omega);clear k7 q0 q1 q2 q3 q4;go_in;go_wp2_with fail;go_ret;exact⟨Ac b.out.symm,bR.alloc lR _⟩
     ·have b:Hid (rlB c d a s f g=false):=Hd (by rw[rlB,dN];omega);have u3:decide ((a:Int)<=64)=false:=(by rw[dN];omega);clear k7 q0 q1 q2 q3;go_in;go_wp2_with fail;go_ret;exact⟨Ac b.out.symm,bR.alloc lR _⟩
    ·have b:Hid (rlB c d a s f g=false):=Hd (by rw[rlB,dN];omega);have u2:decide (0<a)=false:=(by rw[dN];omega);have h:decide (0<(a:Int))=false:=(by rw[dN];omega);clear k7 q0 q1 q2;go_in;go_wp2_with fail;go_ret;exact⟨Ac b.out.symm,bR.alloc lR _⟩
   ·have b:Hid (rlB c d a s f g=false):=Hd (by rw[rlB,dN];omega);have u1:((d:Int)==32)=false:=(by rw[qN];omega);clear k7 q0 q1;go_in;go_wp2_with fail;go_ret;exact⟨Ac b.out.symm,bR.alloc lR _⟩
  ·have b:Hid (rlB c d a s f g=false):=Hd (by rw[rlB,dN];omega);have u0:((c:Int)==32)=false:=(by rw[qN];omega);clear k7 q0;go_in;go_wp2_with fail;go_ret;exact⟨Ac b.out.symm,bR.alloc lR _⟩
 ·have o:((f:Int)==0)=false:=by rw[qN];omega
  by_cases k8:s=3
  ·have p:((s:Int)==3)=true:=by rw[beq_iff_eq];omega
   by_cases k9:f=32
   ·have q:((f:Int)==32)=true:=by rw[beq_iff_eq];omega
    by_cases q0:c=32
    ·have u0:((c:Int)==32)=true:=by rw[beq_iff_eq];omega
     by_cases q1:d=32
     ·have u1:((d:Int)==32)=true:=by rw[beq_iff_eq];omega
      by_cases q2:0<a
      ·have u2:decide (0<a)=true:=(by rw[dI];omega);have h:decide (0<(a:Int))=true:=by rw[dI];omega
       by_cases q3:a<=64
       ·have u3:decide ((a:Int)<=64)=true:=by rw[dI];omega
        by_cases q4:0<s
        ·have u4:decide (0<s)=true:=(by rw[dI];omega);have i:decide (0<(s:Int))=true:=by rw[dI];omega
         by_cases q5:s<4
         ·have u5:decide ((s:Int)<4)=true:=by rw[dI];omega
          by_cases q7:g=64
          ·have u7:((g:Int)==64)=true:=(by rw[beq_iff_eq];omega);have b:Hid (rlB c d a s f g=true):=Hd (by rw[rlB,dI];omega);clear k7 k8 k9 q0 q1 q2 q3 q4 q5 q7;go_in;go_wp2_with fail;go_ret;exact⟨Ac b.out.symm,bR.alloc lR _⟩
          ·have b:Hid (rlB c d a s f g=false):=Hd (by rw[rlB,dN];omega);have u7:((g:Int)==64)=false:=(by rw[qN];omega);clear k7 k8 k9 q0 q1 q2 q3 q4 q5 q7;go_in;go_wp2_with fail;go_ret;exact⟨Ac b.out.symm,bR.alloc lR _⟩
         ·have b:Hid (rlB c d a s f g=false):=Hd (by rw[rlB,dN];omega);have u5:decide ((s:Int)<4)=false:=(by rw[dN];omega);clear k7 k8 k9 q0 q1 q2 q3 q4 q5;go_in;go_wp2_with fail;go_ret;exact⟨Ac b.out.symm,bR.alloc lR _⟩
        ·have b:Hid (rlB c d a s f g=false):=Hd (by rw[rlB,dN];omega);have u4:decide (0<s)=false:=(by rw[dN];omega);have i:decide (0<(s:Int))=false:=(by rw[dN];omega);clear k7 k8 k9 q0 q1 q2 q3 q4;go_in;go_wp2_with fail;go_ret;exact⟨Ac b.out.symm,bR.alloc lR _⟩
       ·have b:Hid (rlB c d a s f g=false):=Hd (by rw[rlB,dN];omega);have u3:decide ((a:Int)<=64)=false:=(by rw[dN];omega);clear k7 k8 k9 q0 q1 q2 q3;go_in;go_wp2_with fail;go_ret;exact⟨Ac b.out.symm,bR.alloc lR _⟩
      ·have b:Hid (rlB c d a s f g=false):=Hd (by rw[rlB,dN];omega);have u2:decide (0<a)=false:=(by rw[dN];omega);have h:decide (0<(a:Int))=false:=(by rw[dN];omega);clear k7 k8 k9 q0 q1 q2;go_in;go_wp2_with fail;go_ret;exact⟨Ac b.out.symm,bR.alloc lR _⟩
     ·have b:Hid (rlB c d a s f g=false):=Hd (by rw[rlB,dN];omega);have u1:((d:Int)==32)=false:=(by rw[qN];omega);clear k7 k8 k9 q0 q1;go_in;go_wp2_with fail;go_ret;exact⟨Ac b.out.symm,bR.alloc lR _⟩
    ·have b:Hid (rlB c d a s f g=false):=Hd (by rw[rlB,dN];omega);have u0:((c:Int)==32)=false:=(by rw[qN];omega);clear k7 k8 k9 q0;go_in;go_wp2_with fail;go_ret;exact⟨Ac b.out.symm,bR.alloc lR _⟩
   ·have q:((f:Int)==32)=false:=by rw[qN];omega
    by_cases q0:c=32
    ·have u0:((c:Int)==32)=true:=by rw[beq_iff_eq];omega
     by_cases q1:d=32
     ·have u1:((d:Int)==32)=true:=by rw[beq_iff_eq];omega
      by_cases q2:0<a
      ·have u2:decide (0<a)=true:=(by rw[dI];omega);have h:decide (0<(a:Int))=true:=by rw[dI];omega
       by_cases q3:a<=64
       ·have u3:decide ((a:Int)<=64)=true:=by rw[dI];omega
        by_cases q4:0<s
        ·have u4:decide (0<s)=true:=(by rw[dI];omega);have i:decide (0<(s:Int))=true:=by rw[dI];omega
         by_cases q5:s<4
         ·have u5:decide ((s:Int)<4)=true:=(by rw[dI];omega);have b:Hid (rlB c d a s f g=false):=Hd (by rw[rlB,dN];omega);clear k7 k8 k9 q0 q1 q2 q3 q4 q5;go_in;go_wp2_with fail;go_ret;exact⟨Ac b.out.symm,bR.alloc lR _⟩
         ·have b:Hid (rlB c d a s f g=false):=Hd (by rw[rlB,dN];omega);have u5:decide ((s:Int)<4)=false:=(by rw[dN];omega);clear k7 k8 k9 q0 q1 q2 q3 q4 q5;go_in;go_wp2_with fail;go_ret;exact⟨Ac b.out.symm,bR.alloc lR _⟩
        ·have b:Hid (rlB c d a s f g=false):=Hd (by rw[rlB,dN];omega);have u4:decide (0<s)=false:=(by rw[dN];omega);have i:decide (0<(s:Int))=false:=(by rw[dN];omega);clear k7 k8 k9 q0 q1 q2 q3 q4;go_in;go_wp2_with fail;go_ret;exact⟨Ac b.out.symm,bR.alloc lR _⟩
       ·have b:Hid (rlB c d a s f g=false):=Hd (by rw[rlB,dN];omega);have u3:decide ((a:Int)<=64)=false:=(by rw[dN];omega);clear k7 k8 k9 q0 q1 q2 q3;go_in;go_wp2_with fail;go_ret;exact⟨Ac b.out.symm,bR.alloc lR _⟩
      ·have b:Hid (rlB c d a s f g=false):=Hd (by rw[rlB,dN];omega);have u2:decide (0<a)=false:=(by rw[dN];omega);have h:decide (0<(a:Int))=false:=(by rw[dN];omega);clear k7 k8 k9 q0 q1 q2;go_in;go_wp2_with fail;go_ret;exact⟨Ac b.out.symm,bR.alloc lR _⟩
     ·have b:Hid (rlB c d a s f g=false):=Hd (by rw[rlB,dN];omega);have u1:((d:Int)==32)=false:=(by rw[qN];omega);clear k7 k8 k9 q0 q1;go_in;go_wp2_with fail;go_ret;exact⟨Ac b.out.symm,bR.alloc lR _⟩
    ·have b:Hid (rlB c d a s f g=false):=Hd (by rw[rlB,dN];omega);have u0:((c:Int)==32)=false:=(by rw[qN];omega);clear k7 k8 k9 q0;go_in;go_wp2_with fail;go_ret;exact⟨Ac b.out.symm,bR.alloc lR _⟩
  ·have p:((s:Int)==3)=false:=by rw[qN];omega
   by_cases q0:c=32
   ·have u0:((c:Int)==32)=true:=by rw[beq_iff_eq];omega
    by_cases q1:d=32
    ·have u1:((d:Int)==32)=true:=by rw[beq_iff_eq];omega
     by_cases q2:0<a
     ·have u2:decide (0<a)=true:=(by rw[dI];omega);have h:decide (0<(a:Int))=true:=by rw[dI];omega
      by_cases q3:a<=64
      ·have u3:decide ((a:Int)<=64)=true:=by rw[dI];omega
       by_cases q4:0<s
       ·have u4:decide (0<s)=true:=(by rw[dI];omega);have i:decide (0<(s:Int))=true:=by rw[dI];omega
        by_cases q5:s<4
        ·have u5:decide ((s:Int)<4)=true:=(by rw[dI];omega);have b:Hid (rlB c d a s f g=false):=Hd (by rw[rlB,dN];omega);clear k7 k8 q0 q1 q2 q3 q4 q5;go_in;go_wp2_with fail;go_ret;exact⟨Ac b.out.symm,bR.alloc lR _⟩
        ·have b:Hid (rlB c d a s f g=false):=Hd (by rw[rlB,dN];omega);have u5:decide ((s:Int)<4)=false:=(by rw[dN];omega);clear k7 k8 q0 q1 q2 q3 q4 q5;go_in;go_wp2_with fail;go_ret;exact⟨Ac b.out.symm,bR.alloc lR _⟩
       ·have b:Hid (rlB c d a s f g=false):=Hd (by rw[rlB,dN];omega);have u4:decide (0<s)=false:=(by rw[dN];omega);have i:decide (0<(s:Int))=false:=(by rw[dN];omega);clear k7 k8 q0 q1 q2 q3 q4;go_in;go_wp2_with fail;go_ret;exact⟨Ac b.out.symm,bR.alloc lR _⟩
      ·have b:Hid (rlB c d a s f g=false):=Hd (by rw[rlB,dN];omega);have u3:decide ((a:Int)<=64)=false:=(by rw[dN];omega);clear k7 k8 q0 q1 q2 q3;go_in;go_wp2_with fail;go_ret;exact⟨Ac b.out.symm,bR.alloc lR _⟩
     ·have b:Hid (rlB c d a s f g=false):=Hd (by rw[rlB,dN];omega);have u2:decide (0<a)=false:=(by rw[dN];omega);have h:decide (0<(a:Int))=false:=(by rw[dN];omega);clear k7 k8 q0 q1 q2;go_in;go_wp2_with fail;go_ret;exact⟨Ac b.out.symm,bR.alloc lR _⟩
    ·have b:Hid (rlB c d a s f g=false):=Hd (by rw[rlB,dN];omega);have u1:((d:Int)==32)=false:=(by rw[qN];omega);clear k7 k8 q0 q1;go_in;go_wp2_with fail;go_ret;exact⟨Ac b.out.symm,bR.alloc lR _⟩
   ·have b:Hid (rlB c d a s f g=false):=Hd (by rw[rlB,dN];omega);have u0:((c:Int)==32)=false:=(by rw[qN];omega);clear k7 k8 q0;go_in;go_wp2_with fail;go_ret;exact⟨Ac b.out.symm,bR.alloc lR _⟩
