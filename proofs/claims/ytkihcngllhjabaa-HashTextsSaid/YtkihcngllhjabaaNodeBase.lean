/- Nodes of a tree as data: what their values read as; which may be. -/
import Derived.Test.YtkihcngllhjabaaWireMore
import Derived.Test.YtkihcngllhjabaaSameInts
namespace Go.Proofs.Ytkihcngllhjabaa
open Go.RowKit WireM
set_option linter.unusedVariables false
structure LeafD where
  box : List Nat
  sign : List Nat
  ident : List Nat
  source : Nat
  par : List Nat
  sig : List Nat
structure ParD where
  box : List Nat
  hash : List Nat
  late : List Int
structure NodeD where
  kind : Nat
  leaf : LeafD
  par : ParD
/-- which leaf may be, by its lengths -/
def rlB (n1 n2 n3 s n4 n5 : Nat) : Bool := decide (n1 = 32 ∧ n2 = 32 ∧ n5 = 64 ∧ 1 ≤ n3 ∧ n3 ≤ 64 ∧ 1 ≤ s ∧ s ≤ 3 ∧ (n4 = 0 ∨ (s = 3 ∧ n4 = 32)))
def nlB (n1 n2 n3 s n4 n5 : Nat) : Bool := decide (s = 0 ∧ n1 + n2 + n3 + n4 + n5 = 0)
def npB (n1 n2 n3 : Nat) : Bool := decide (n1 + n2 + n3 = 0)
end Go.Proofs.Ytkihcngllhjabaa
