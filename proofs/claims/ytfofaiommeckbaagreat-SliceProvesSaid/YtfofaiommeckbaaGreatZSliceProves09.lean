import Derived.Test.YtfofaiommeckbaaGreatZSliceProves08
open Go.Value renaming slice → q9, int → rA
open Go.Proofs.Tryz
set_option linter.unusedVariables false
set_option maxRecDepth 100000
set_option maxHeartbeats 40000000
namespace Go.Proofs.YtfofaiommeckbaaGreat
open Go.RowKit WireM
theorem Below.draw1 {B:Nat} {a w:World}(h:Below B a w):Below B a w.drew:=Ab h 1
def smB (n1 n2 n3 n4 n5 n6 n7 n8:Nat):Bool:=decide (n1≤200∧n2≤200∧n3≤200∧n4≤200∧n5≤200∧n6≤200∧n7≤200∧n8≤60)
theorem Zdc (z n r u C p B y:Option Addr)(t s h f j g b d i c c1 c2 c3 c4 c5 v l D:Nat)(w:World):
  Calls prog 57 #[.agg #[rA .u8 (t:Nat),q9 z h c1,q9 n f c2,q9 r j c3,rA .u8 (s:Nat),q9 u g c4,q9 C b c5,q9 p d v,q9 B i l,q9 y c D]] w
   fun e w'=>e=.returned (.bool (smB h f j g b d i c))∧Below w.heap.size w w':=by
 by_cases k0:h≤200
 ·have m:decide ((h:Int)≤200)=true:=by rw[decide_eq_true_iff];omega
  by_cases k1:f≤200
  ·have q:decide ((f:Int)≤200)=true:=by rw[decide_eq_true_iff];omega
   by_cases k2:j≤200
   ·have F:decide ((j:Int)≤200)=true:=by rw[decide_eq_true_iff];omega
    by_cases k3:g≤200
    ·have x:decide ((g:Int)≤200)=true:=by rw[decide_eq_true_iff];omega
     by_cases k4:b≤200
     ·have E:decide ((b:Int)≤200)=true:=by rw[decide_eq_true_iff];omega
      by_cases k5:d≤200
      ·have k:decide ((d:Int)≤200)=true:=by rw[decide_eq_true_iff];omega
       by_cases k6:i≤200
       ·have A:decide ((i:Int)≤200)=true:=by rw[decide_eq_true_iff];omega
        by_cases k7:c≤60
        ·have o:decide ((c:Int)≤60)=true:=(by rw[decide_eq_true_iff];omega);have a:Hid (smB h f j g b d i c=true):=Hd (by rw[smB,decide_eq_true_iff];omega);clear k0 k1 k2 k3 k4 k5 k6 k7;go_enter func57,ntmps57;go_wp2_with fail
         go_region
         all_goals
          go_wp2_with fail;go_ret;refine⟨Ae a.out.symm,?_⟩;repeat any_goals(first|exact bR|exact lR|refine Below.alloc ?_ ?_ _|refine Below.draw1 ?_|refine Below.setCell ?_ ?_ _|(simp;done)|(simp;omega))
        ·have a:Hid (smB h f j g b d i c=false):=Hd (by rw[smB,decide_eq_false_iff_not];omega);have o:decide ((c:Int)≤60)=false:=(by rw[decide_eq_false_iff_not];omega);clear k0 k1 k2 k3 k4 k5 k6 k7;go_enter func57,ntmps57;go_wp2_with fail
         go_region
         all_goals
          go_wp2_with fail;go_ret;refine⟨Ae a.out.symm,?_⟩;repeat any_goals(first|exact bR|exact lR|refine Below.alloc ?_ ?_ _|refine Below.draw1 ?_|refine Below.setCell ?_ ?_ _|(simp;done)|(simp;omega))
       ·have a:Hid (smB h f j g b d i c=false):=Hd (by rw[smB,decide_eq_false_iff_not];omega);have A:decide ((i:Int)≤200)=false:=(by rw[decide_eq_false_iff_not];omega);clear k0 k1 k2 k3 k4 k5 k6;go_enter func57,ntmps57;go_wp2_with fail
        go_region
        all_goals
         go_wp2_with fail;go_ret;refine⟨Ae a.out.symm,?_⟩;repeat any_goals(first|exact bR|exact lR|refine Below.alloc ?_ ?_ _|refine Below.draw1 ?_|refine Below.setCell ?_ ?_ _|(simp;done)|(simp;omega))
      ·have a:Hid (smB h f j g b d i c=false):=Hd (by rw[smB,decide_eq_false_iff_not];omega);have k:decide ((d:Int)≤200)=false:=(by rw[decide_eq_false_iff_not];omega);clear k0 k1 k2 k3 k4 k5;go_enter func57,ntmps57;go_wp2_with fail
       go_region
       all_goals
        go_wp2_with fail;go_ret;refine⟨Ae a.out.symm,?_⟩;repeat any_goals(first|exact bR|exact lR|refine Below.alloc ?_ ?_ _|refine Below.draw1 ?_|refine Below.setCell ?_ ?_ _|(simp;done)|(simp;omega))
     ·have a:Hid (smB h f j g b d i c=false):=Hd (by rw[smB,decide_eq_false_iff_not];omega);have E:decide ((b:Int)≤200)=false:=(by rw[decide_eq_false_iff_not];omega);clear k0 k1 k2 k3 k4;go_enter func57,ntmps57;go_wp2_with fail
      go_region
      all_goals
       go_wp2_with fail;go_ret;refine⟨Ae a.out.symm,?_⟩;repeat any_goals(first|exact bR|exact lR|refine Below.alloc ?_ ?_ _|refine Below.draw1 ?_|refine Below.setCell ?_ ?_ _|(simp;done)|(simp;omega))
    ·have a:Hid (smB h f j g b d i c=false):=Hd (by rw[smB,decide_eq_false_iff_not];omega);have x:decide ((g:Int)≤200)=false:=(by rw[decide_eq_false_iff_not];omega);clear k0 k1 k2 k3;go_enter func57,ntmps57;go_wp2_with fail
     go_region
     all_goals
      go_wp2_with fail;go_ret;refine⟨Ae a.out.symm,?_⟩;repeat any_goals(first|exact bR|exact lR|refine Below.alloc ?_ ?_ _|refine Below.draw1 ?_|refine Below.setCell ?_ ?_ _|(simp;done)|(simp;omega))
   ·have a:Hid (smB h f j g b d i c=false):=Hd (by rw[smB,decide_eq_false_iff_not];omega);have F:decide ((j:Int)≤200)=false:=(by rw[decide_eq_false_iff_not];omega);clear k0 k1 k2;go_enter func57,ntmps57;go_wp2_with fail
    go_region
    all_goals
     go_wp2_with fail;go_ret;refine⟨Ae a.out.symm,?_⟩;repeat any_goals(first|exact bR|exact lR|refine Below.alloc ?_ ?_ _|refine Below.draw1 ?_|refine Below.setCell ?_ ?_ _|(simp;done)|(simp;omega))
  ·have a:Hid (smB h f j g b d i c=false):=Hd (by rw[smB,decide_eq_false_iff_not];omega);have q:decide ((f:Int)≤200)=false:=(by rw[decide_eq_false_iff_not];omega);clear k0 k1;go_enter func57,ntmps57;go_wp2_with fail
   go_region
   all_goals
    go_wp2_with fail;go_ret;refine⟨Ae a.out.symm,?_⟩;repeat any_goals(first|exact bR|exact lR|refine Below.alloc ?_ ?_ _|refine Below.draw1 ?_|refine Below.setCell ?_ ?_ _|(simp;done)|(simp;omega))
 ·have a:Hid (smB h f j g b d i c=false):=Hd (by rw[smB,decide_eq_false_iff_not];omega);have m:decide ((h:Int)≤200)=false:=(by rw[decide_eq_false_iff_not];omega);clear k0;go_enter func57,ntmps57;go_wp2_with fail
  go_region
  all_goals
   go_wp2_with fail;go_ret;refine⟨Ae a.out.symm,?_⟩;repeat any_goals(first|exact bR|exact lR|refine Below.alloc ?_ ?_ _|refine Below.draw1 ?_|refine Below.setCell ?_ ?_ _|(simp;done)|(simp;omega))
end Go.Proofs.YtfofaiommeckbaaGreat
