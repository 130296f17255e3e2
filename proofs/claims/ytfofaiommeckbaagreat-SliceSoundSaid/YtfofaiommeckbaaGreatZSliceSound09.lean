/- Walks: the reference's Small of nodes. -/
import Derived.Test.YtfofaiommeckbaaGreatZSliceSoundB
import Derived.Test.YtfofaiommeckbaaGreatZSliceSound08
set_option linter.unusedVariables false
set_option maxRecDepth 100000
set_option maxHeartbeats 40000000
namespace Go.Proofs.YtfofaiommeckbaaGreat
open Go.RowKit WireM
theorem Below.draw1 {B:Nat} {a w:World}(h:Below B a w):Below B a w.drew:=Ab h 1
def smB (n1 n2 n3 n4 n5 n6 n7 n8:Nat):Bool:=decide (n1≤200∧n2≤200∧n3≤200∧n4≤200∧n5≤200∧n6≤200∧n7≤200∧n8≤60)
theorem Zcp (u F E B x p z y:Option Addr)(C s g j h i d b f c c1 c2 c3 c4 c5 D m r:Nat)(w:World):
  Calls Tryz.prog 57 #[.agg #[.int .u8 (C:Nat),.slice u g c1,.slice F j c2,.slice E h c3,.int .u8 (s:Nat),.slice B i c4,.slice x d c5,.slice p b D,.slice z f m,.slice y c r]] w
   fun e w'=>e=.returned (.bool (smB g j h i d b f c))∧Below w.heap.size w w':=by
 by_cases k0:g≤200
 ·have o:decide ((g:Int)≤200)=true:=by rw[decide_eq_true_iff];omega
  by_cases k1:j≤200
  ·have t:decide ((j:Int)≤200)=true:=by rw[decide_eq_true_iff];omega
   by_cases k2:h≤200
   ·have k:decide ((h:Int)≤200)=true:=by rw[decide_eq_true_iff];omega
    by_cases k3:i≤200
    ·have A:decide ((i:Int)≤200)=true:=by rw[decide_eq_true_iff];omega
     by_cases k4:d≤200
     ·have l:decide ((d:Int)≤200)=true:=by rw[decide_eq_true_iff];omega
      by_cases k5:b≤200
      ·have v:decide ((b:Int)≤200)=true:=by rw[decide_eq_true_iff];omega
       by_cases k6:f≤200
       ·have n:decide ((f:Int)≤200)=true:=by rw[decide_eq_true_iff];omega
        by_cases k7:c≤60
        ·have q:decide ((c:Int)≤60)=true:=(by rw[decide_eq_true_iff];omega);have a:Hid (smB g j h i d b f c=true):=Hd (by rw[smB,decide_eq_true_iff];omega);clear k0 k1 k2 k3 k4 k5 k6 k7;go_enter Tryz.func57,Tryz.ntmps57;go_wp2_with fail
         go_region
         all_goals
          go_wp2_with fail;go_ret;refine⟨Ac a.out.symm,?_⟩;repeat any_goals(first|exact bR|exact lR|refine Below.alloc ?_ ?_ _|refine Below.draw1 ?_|refine Below.setCell ?_ ?_ _|(simp;done)|(simp;omega))
        ·have a:Hid (smB g j h i d b f c=false):=Hd (by rw[smB,decide_eq_false_iff_not];omega);have q:decide ((c:Int)≤60)=false:=(by rw[decide_eq_false_iff_not];omega);clear k0 k1 k2 k3 k4 k5 k6 k7;go_enter Tryz.func57,Tryz.ntmps57;go_wp2_with fail
         go_region
         all_goals
          go_wp2_with fail;go_ret;refine⟨Ac a.out.symm,?_⟩;repeat any_goals(first|exact bR|exact lR|refine Below.alloc ?_ ?_ _|refine Below.draw1 ?_|refine Below.setCell ?_ ?_ _|(simp;done)|(simp;omega))
       ·have a:Hid (smB g j h i d b f c=false):=Hd (by rw[smB,decide_eq_false_iff_not];omega);have n:decide ((f:Int)≤200)=false:=(by rw[decide_eq_false_iff_not];omega);clear k0 k1 k2 k3 k4 k5 k6;go_enter Tryz.func57,Tryz.ntmps57;go_wp2_with fail
        go_region
        all_goals
         go_wp2_with fail;go_ret;refine⟨Ac a.out.symm,?_⟩;repeat any_goals(first|exact bR|exact lR|refine Below.alloc ?_ ?_ _|refine Below.draw1 ?_|refine Below.setCell ?_ ?_ _|(simp;done)|(simp;omega))
      ·have a:Hid (smB g j h i d b f c=false):=Hd (by rw[smB,decide_eq_false_iff_not];omega);have v:decide ((b:Int)≤200)=false:=(by rw[decide_eq_false_iff_not];omega);clear k0 k1 k2 k3 k4 k5;go_enter Tryz.func57,Tryz.ntmps57;go_wp2_with fail
       go_region
       all_goals
        go_wp2_with fail;go_ret;refine⟨Ac a.out.symm,?_⟩;repeat any_goals(first|exact bR|exact lR|refine Below.alloc ?_ ?_ _|refine Below.draw1 ?_|refine Below.setCell ?_ ?_ _|(simp;done)|(simp;omega))
     ·have a:Hid (smB g j h i d b f c=false):=Hd (by rw[smB,decide_eq_false_iff_not];omega);have l:decide ((d:Int)≤200)=false:=(by rw[decide_eq_false_iff_not];omega);clear k0 k1 k2 k3 k4;go_enter Tryz.func57,Tryz.ntmps57;go_wp2_with fail
      go_region
      all_goals
       go_wp2_with fail;go_ret;refine⟨Ac a.out.symm,?_⟩;repeat any_goals(first|exact bR|exact lR|refine Below.alloc ?_ ?_ _|refine Below.draw1 ?_|refine Below.setCell ?_ ?_ _|(simp;done)|(simp;omega))
    ·have a:Hid (smB g j h i d b f c=false):=Hd (by rw[smB,decide_eq_false_iff_not];omega);have A:decide ((i:Int)≤200)=false:=(by rw[decide_eq_false_iff_not];omega);clear k0 k1 k2 k3;go_enter Tryz.func57,Tryz.ntmps57;go_wp2_with fail
     go_region
     all_goals
      go_wp2_with fail;go_ret;refine⟨Ac a.out.symm,?_⟩;repeat any_goals(first|exact bR|exact lR|refine Below.alloc ?_ ?_ _|refine Below.draw1 ?_|refine Below.setCell ?_ ?_ _|(simp;done)|(simp;omega))
   ·have a:Hid (smB g j h i d b f c=false):=Hd (by rw[smB,decide_eq_false_iff_not];omega);have k:decide ((h:Int)≤200)=false:=(by rw[decide_eq_false_iff_not];omega);clear k0 k1 k2;go_enter Tryz.func57,Tryz.ntmps57;go_wp2_with fail
    go_region
    all_goals
     go_wp2_with fail;go_ret;refine⟨Ac a.out.symm,?_⟩;repeat any_goals(first|exact bR|exact lR|refine Below.alloc ?_ ?_ _|refine Below.draw1 ?_|refine Below.setCell ?_ ?_ _|(simp;done)|(simp;omega))
  ·have a:Hid (smB g j h i d b f c=false):=Hd (by rw[smB,decide_eq_false_iff_not];omega);have t:decide ((j:Int)≤200)=false:=(by rw[decide_eq_false_iff_not];omega);clear k0 k1;go_enter Tryz.func57,Tryz.ntmps57;go_wp2_with fail
   go_region
   all_goals
    go_wp2_with fail;go_ret;refine⟨Ac a.out.symm,?_⟩;repeat any_goals(first|exact bR|exact lR|refine Below.alloc ?_ ?_ _|refine Below.draw1 ?_|refine Below.setCell ?_ ?_ _|(simp;done)|(simp;omega))
 ·have a:Hid (smB g j h i d b f c=false):=Hd (by rw[smB,decide_eq_false_iff_not];omega);have o:decide ((g:Int)≤200)=false:=(by rw[decide_eq_false_iff_not];omega);clear k0;go_enter Tryz.func57,Tryz.ntmps57;go_wp2_with fail
  go_region
  all_goals
   go_wp2_with fail;go_ret;refine⟨Ac a.out.symm,?_⟩;repeat any_goals(first|exact bR|exact lR|refine Below.alloc ?_ ?_ _|refine Below.draw1 ?_|refine Below.setCell ?_ ?_ _|(simp;done)|(simp;omega))
end Go.Proofs.YtfofaiommeckbaaGreat
