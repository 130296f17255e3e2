import Derived.Test.YtfofaiommeckbaaGreatZTr07
open Go.Ending renaming returned -> rM
open Go.Value renaming slice -> rD, int -> rE
open Go.Proofs.Tryz
set_option linter.unusedVariables false
set_option maxRecDepth 100000
set_option maxHeartbeats 40000000
namespace Go.Proofs.YtfofaiommeckbaaGreat
open Go.RowKit WireM
theorem Below.draw1 {B:Nat} {a w:World}(h:Below B a w):Below B a w.drew:=Ab h 1
def smB (n1 n2 n3 n4 n5 n6 n7 n8:Nat):Bool:=decide (n1<=200/\n2<=200/\n3<=200/\n4<=200/\n5<=200/\n6<=200/\n7<=200/\n8<=60)
theorem Zdj (k l m n o p q r:Option Addr)(x s b c d f g h i j c1 c2 c3 c4 c5 t u v:Nat)(w:World):
  Calls prog 57 #[.agg #[rE .u8 (x:Nat),rD k b c1,rD l c c2,rD m d c3,rE .u8 (s:Nat),rD n f c4,rD o g c5,rD p h t,rD q i u,rD r j v]] w
   fun e w'=>e=rM (.bool (smB b c d f g h i j))/\Below w.heap.size w w':=by
 by_cases k0:b<=200
 ·have y:decide ((b:Int)<=200)=true:=by rw[dI];omega
  by_cases k1:c<=200
  ·have z:decide ((c:Int)<=200)=true:=by rw[dI];omega
   by_cases k2:d<=200
   ·have A:decide ((d:Int)<=200)=true:=by rw[dI];omega
    by_cases k3:f<=200
    ·have B:decide ((f:Int)<=200)=true:=by rw[dI];omega
     by_cases k4:g<=200
     ·have C:decide ((g:Int)<=200)=true:=by rw[dI];omega
      by_cases k5:h<=200
      ·have D:decide ((h:Int)<=200)=true:=by rw[dI];omega
       by_cases k6:i<=200
       ·have E:decide ((i:Int)<=200)=true:=by rw[dI];omega
        by_cases k7:j<=60
        ·have F:decide ((j:Int)<=60)=true:=(by rw[dI];omega);have a:Hid (smB b c d f g h i j=true):=Hd (by rw[smB,dI];omega);clear k0 k1 k2 k3 k4 k5 k6 k7;go_in;go_wp2_with fail
         go_region
         all_goals
          go_wp2_with fail;go_ret;refine⟨Ac a.out.symm,?_⟩;repeat any_goals(first|exact bR|exact lR|refine Below.alloc ?_ ?_ _|refine Below.draw1 ?_|refine Below.setCell ?_ ?_ _|(simp;done)|(simp;omega))
        ·have a:Hid (smB b c d f g h i j=false):=Hd (by rw[smB,dN];omega);have F:decide ((j:Int)<=60)=false:=(by rw[dN];omega);clear k0 k1 k2 k3 k4 k5 k6 k7;go_in;go_wp2_with fail
         go_region
         all_goals
          go_wp2_with fail;go_ret;refine⟨Ac a.out.symm,?_⟩;repeat any_goals(first|exact bR|exact lR|refine Below.alloc ?_ ?_ _|refine Below.draw1 ?_|refine Below.setCell ?_ ?_ _|(simp;done)|(simp;omega))
       ·have a:Hid (smB b c d f g h i j=false):=Hd (by rw[smB,dN];omega);have E:decide ((i:Int)<=200)=false:=(by rw[dN];omega);clear k0 k1 k2 k3 k4 k5 k6;go_in;go_wp2_with fail
        go_region
        all_goals
         go_wp2_with fail;go_ret;refine⟨Ac a.out.symm,?_⟩;repeat any_goals(first|exact bR|exact lR|refine Below.alloc ?_ ?_ _|refine Below.draw1 ?_|refine Below.setCell ?_ ?_ _|(simp;done)|(simp;omega))
      ·have a:Hid (smB b c d f g h i j=false):=Hd (by rw[smB,dN];omega);have D:decide ((h:Int)<=200)=false:=(by rw[dN];omega);clear k0 k1 k2 k3 k4 k5;go_in;go_wp2_with fail
       go_region
       all_goals
        go_wp2_with fail;go_ret;refine⟨Ac a.out.symm,?_⟩;repeat any_goals(first|exact bR|exact lR|refine Below.alloc ?_ ?_ _|refine Below.draw1 ?_|refine Below.setCell ?_ ?_ _|(simp;done)|(simp;omega))
     ·have a:Hid (smB b c d f g h i j=false):=Hd (by rw[smB,dN];omega);have C:decide ((g:Int)<=200)=false:=(by rw[dN];omega);clear k0 k1 k2 k3 k4;go_in;go_wp2_with fail
      go_region
      all_goals
       go_wp2_with fail;go_ret;refine⟨Ac a.out.symm,?_⟩;repeat any_goals(first|exact bR|exact lR|refine Below.alloc ?_ ?_ _|refine Below.draw1 ?_|refine Below.setCell ?_ ?_ _|(simp;done)|(simp;omega))
    ·have a:Hid (smB b c d f g h i j=false):=Hd (by rw[smB,dN];omega);have B:decide ((f:Int)<=200)=false:=(by rw[dN];omega);clear k0 k1 k2 k3;go_in;go_wp2_with fail
     go_region
     all_goals
      go_wp2_with fail;go_ret;refine⟨Ac a.out.symm,?_⟩;repeat any_goals(first|exact bR|exact lR|refine Below.alloc ?_ ?_ _|refine Below.draw1 ?_|refine Below.setCell ?_ ?_ _|(simp;done)|(simp;omega))
   ·have a:Hid (smB b c d f g h i j=false):=Hd (by rw[smB,dN];omega);have A:decide ((d:Int)<=200)=false:=(by rw[dN];omega);clear k0 k1 k2;go_in;go_wp2_with fail
    go_region
    all_goals
     go_wp2_with fail;go_ret;refine⟨Ac a.out.symm,?_⟩;repeat any_goals(first|exact bR|exact lR|refine Below.alloc ?_ ?_ _|refine Below.draw1 ?_|refine Below.setCell ?_ ?_ _|(simp;done)|(simp;omega))
  ·have a:Hid (smB b c d f g h i j=false):=Hd (by rw[smB,dN];omega);have z:decide ((c:Int)<=200)=false:=(by rw[dN];omega);clear k0 k1;go_in;go_wp2_with fail
   go_region
   all_goals
    go_wp2_with fail;go_ret;refine⟨Ac a.out.symm,?_⟩;repeat any_goals(first|exact bR|exact lR|refine Below.alloc ?_ ?_ _|refine Below.draw1 ?_|refine Below.setCell ?_ ?_ _|(simp;done)|(simp;omega))
 ·have a:Hid (smB b c d f g h i j=false):=Hd (by rw[smB,dN];omega);have y:decide ((b:Int)<=200)=false:=(by rw[dN];omega);clear k0;go_in;go_wp2_with fail
  go_region
  all_goals
   go_wp2_with fail;go_ret;refine⟨Ac a.out.symm,?_⟩;repeat any_goals(first|exact bR|exact lR|refine Below.alloc ?_ ?_ _|refine Below.draw1 ?_|refine Below.setCell ?_ ?_ _|(simp;done)|(simp;omega))
