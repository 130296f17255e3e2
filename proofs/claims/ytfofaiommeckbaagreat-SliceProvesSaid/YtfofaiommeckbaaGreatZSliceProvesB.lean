/- Short names for facts that the texts of this claim use all the time. -/
import Derived.Lib.Hide
namespace Go.Proofs.YtfofaiommeckbaaGreat
open Go.RowKit
theorem eX {α:Sort _}(e: α):∃x,x=e:=⟨_,rfl⟩
theorem bR {n:Nat} {w:World}:Below n w w:=Below.refl n w
theorem lR {n:Nat}:n≤n:=Nat.le_refl n
theorem Hd {p:Prop}(h:p):Hid p:=h
end Go.Proofs.YtfofaiommeckbaaGreat
