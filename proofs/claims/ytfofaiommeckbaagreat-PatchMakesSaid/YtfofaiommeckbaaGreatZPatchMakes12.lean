/- Walks: the reference's Small of nodes. -/
import Derived.Test.YtfofaiommeckbaaGreatZPatchMakesB
import Derived.Test.YtfofaiommeckbaaGreatZPatchMakes11
set_option linter.unusedVariables false
set_option maxRecDepth 100000
set_option maxHeartbeats 40000000
namespace Go.Proofs.YtfofaiommeckbaaGreat
open Go.RowKit WireM
theorem Below.draw1 {B:Nat} {a w:World}(h:Below B a w):Below B a w.drew:=Aa h 1
def smB (n1 n2 n3 n4 n5 n6 n7 n8:Nat):Bool:=decide (n1≤200∧n2≤200∧n3≤200∧n4≤200∧n5≤200∧n6≤200∧n7≤200∧n8≤60)
theorem Ym (a1 a2 a3 a4 a5 a6 a7 a8:Option Addr)(kd s n1 n2 n3 n4 n5 n6 n7 n8 c1 c2 c3 c4 c5 c6 c7 c8:Nat)(w:World):
  Calls Tryz.prog 57 #[.agg #[.int .u8 (kd:Nat),.slice a1 n1 c1,.slice a2 n2 c2,.slice a3 n3 c3,.int .u8 (s:Nat),.slice a4 n4 c4,.slice a5 n5 c5,.slice a6 n6 c6,.slice a7 n7 c7,.slice a8 n8 c8]] w
   fun e w'=>e=.returned (.bool (smB n1 n2 n3 n4 n5 n6 n7 n8))∧Below w.heap.size w w':=by
 by_cases k0:n1≤200
 ·have t0:decide ((n1:Int)≤200)=true:=by rw[decide_eq_true_iff];omega
  by_cases k1:n2≤200
  ·have t1:decide ((n2:Int)≤200)=true:=by rw[decide_eq_true_iff];omega
   by_cases k2:n3≤200
   ·have t2:decide ((n3:Int)≤200)=true:=by rw[decide_eq_true_iff];omega
    by_cases k3:n4≤200
    ·have t3:decide ((n4:Int)≤200)=true:=by rw[decide_eq_true_iff];omega
     by_cases k4:n5≤200
     ·have t4:decide ((n5:Int)≤200)=true:=by rw[decide_eq_true_iff];omega
      by_cases k5:n6≤200
      ·have t5:decide ((n6:Int)≤200)=true:=by rw[decide_eq_true_iff];omega
       by_cases k6:n7≤200
       ·have t6:decide ((n7:Int)≤200)=true:=by rw[decide_eq_true_iff];omega
        by_cases k7:n8≤60
        ·have t7:decide ((n8:Int)≤60)=true:=(by rw[decide_eq_true_iff];omega);have HE:Hid (smB n1 n2 n3 n4 n5 n6 n7 n8=true):=Hd (by rw[smB,decide_eq_true_iff];omega);clear k0 k1 k2 k3 k4 k5 k6 k7;go_enter Tryz.func57,Tryz.ntmps57;go_wp2_with fail
         go_region
         all_goals
          go_wp2_with fail;go_ret;refine⟨Ad HE.out.symm,?_⟩;repeat any_goals(first|exact bR|exact lR|refine Below.alloc ?_ ?_ _|refine Below.draw1 ?_|refine Below.setCell ?_ ?_ _|(simp;done)|(simp;omega))
        ·have HE:Hid (smB n1 n2 n3 n4 n5 n6 n7 n8=false):=Hd (by rw[smB,decide_eq_false_iff_not];omega);have t7:decide ((n8:Int)≤60)=false:=(by rw[decide_eq_false_iff_not];omega);clear k0 k1 k2 k3 k4 k5 k6 k7;go_enter Tryz.func57,Tryz.ntmps57;go_wp2_with fail
         go_region
         all_goals
          go_wp2_with fail;go_ret;refine⟨Ad HE.out.symm,?_⟩;repeat any_goals(first|exact bR|exact lR|refine Below.alloc ?_ ?_ _|refine Below.draw1 ?_|refine Below.setCell ?_ ?_ _|(simp;done)|(simp;omega))
       ·have HE:Hid (smB n1 n2 n3 n4 n5 n6 n7 n8=false):=Hd (by rw[smB,decide_eq_false_iff_not];omega);have t6:decide ((n7:Int)≤200)=false:=(by rw[decide_eq_false_iff_not];omega);clear k0 k1 k2 k3 k4 k5 k6;go_enter Tryz.func57,Tryz.ntmps57;go_wp2_with fail
        go_region
        all_goals
         go_wp2_with fail;go_ret;refine⟨Ad HE.out.symm,?_⟩;repeat any_goals(first|exact bR|exact lR|refine Below.alloc ?_ ?_ _|refine Below.draw1 ?_|refine Below.setCell ?_ ?_ _|(simp;done)|(simp;omega))
      ·have HE:Hid (smB n1 n2 n3 n4 n5 n6 n7 n8=false):=Hd (by rw[smB,decide_eq_false_iff_not];omega);have t5:decide ((n6:Int)≤200)=false:=(by rw[decide_eq_false_iff_not];omega);clear k0 k1 k2 k3 k4 k5;go_enter Tryz.func57,Tryz.ntmps57;go_wp2_with fail
       go_region
       all_goals
        go_wp2_with fail;go_ret;refine⟨Ad HE.out.symm,?_⟩;repeat any_goals(first|exact bR|exact lR|refine Below.alloc ?_ ?_ _|refine Below.draw1 ?_|refine Below.setCell ?_ ?_ _|(simp;done)|(simp;omega))
     ·have HE:Hid (smB n1 n2 n3 n4 n5 n6 n7 n8=false):=Hd (by rw[smB,decide_eq_false_iff_not];omega);have t4:decide ((n5:Int)≤200)=false:=(by rw[decide_eq_false_iff_not];omega);clear k0 k1 k2 k3 k4;go_enter Tryz.func57,Tryz.ntmps57;go_wp2_with fail
      go_region
      all_goals
       go_wp2_with fail;go_ret;refine⟨Ad HE.out.symm,?_⟩;repeat any_goals(first|exact bR|exact lR|refine Below.alloc ?_ ?_ _|refine Below.draw1 ?_|refine Below.setCell ?_ ?_ _|(simp;done)|(simp;omega))
    ·have HE:Hid (smB n1 n2 n3 n4 n5 n6 n7 n8=false):=Hd (by rw[smB,decide_eq_false_iff_not];omega);have t3:decide ((n4:Int)≤200)=false:=(by rw[decide_eq_false_iff_not];omega);clear k0 k1 k2 k3;go_enter Tryz.func57,Tryz.ntmps57;go_wp2_with fail
     go_region
     all_goals
      go_wp2_with fail;go_ret;refine⟨Ad HE.out.symm,?_⟩;repeat any_goals(first|exact bR|exact lR|refine Below.alloc ?_ ?_ _|refine Below.draw1 ?_|refine Below.setCell ?_ ?_ _|(simp;done)|(simp;omega))
   ·have HE:Hid (smB n1 n2 n3 n4 n5 n6 n7 n8=false):=Hd (by rw[smB,decide_eq_false_iff_not];omega);have t2:decide ((n3:Int)≤200)=false:=(by rw[decide_eq_false_iff_not];omega);clear k0 k1 k2;go_enter Tryz.func57,Tryz.ntmps57;go_wp2_with fail
    go_region
    all_goals
     go_wp2_with fail;go_ret;refine⟨Ad HE.out.symm,?_⟩;repeat any_goals(first|exact bR|exact lR|refine Below.alloc ?_ ?_ _|refine Below.draw1 ?_|refine Below.setCell ?_ ?_ _|(simp;done)|(simp;omega))
  ·have HE:Hid (smB n1 n2 n3 n4 n5 n6 n7 n8=false):=Hd (by rw[smB,decide_eq_false_iff_not];omega);have t1:decide ((n2:Int)≤200)=false:=(by rw[decide_eq_false_iff_not];omega);clear k0 k1;go_enter Tryz.func57,Tryz.ntmps57;go_wp2_with fail
   go_region
   all_goals
    go_wp2_with fail;go_ret;refine⟨Ad HE.out.symm,?_⟩;repeat any_goals(first|exact bR|exact lR|refine Below.alloc ?_ ?_ _|refine Below.draw1 ?_|refine Below.setCell ?_ ?_ _|(simp;done)|(simp;omega))
 ·have HE:Hid (smB n1 n2 n3 n4 n5 n6 n7 n8=false):=Hd (by rw[smB,decide_eq_false_iff_not];omega);have t0:decide ((n1:Int)≤200)=false:=(by rw[decide_eq_false_iff_not];omega);clear k0;go_enter Tryz.func57,Tryz.ntmps57;go_wp2_with fail
  go_region
  all_goals
   go_wp2_with fail;go_ret;refine⟨Ad HE.out.symm,?_⟩;repeat any_goals(first|exact bR|exact lR|refine Below.alloc ?_ ?_ _|refine Below.draw1 ?_|refine Below.setCell ?_ ?_ _|(simp;done)|(simp;omega))
end Go.Proofs.YtfofaiommeckbaaGreat
