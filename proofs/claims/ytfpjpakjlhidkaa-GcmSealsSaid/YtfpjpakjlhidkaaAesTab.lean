/- Plain mathematics: the reference's box of a byte is the table's. -/
import Derived.Test.YtfpjpakjlhidkaaAesMath
namespace Go.Proofs.Ytfpjpakjlhidkaa.AesM

def rinvTo (a : Nat) : Nat → Nat
  | 0 => 0
  | k + 1 => if tms a (k + 1) = 1 then k + 1 else rinvTo a k
def rbit (b i : Nat) : Nat := b / 2 ^ i % 2
def rs (b i : Nat) : Nat := rbit b i + rbit b ((i + 4) % 8) + rbit b ((i + 5) % 8) + rbit b ((i + 6) % 8) + rbit b ((i + 7) % 8) + 99 / 2 ^ i % 2
def raff (b : Nat) : Nat → Nat
  | 0 => 0
  | k + 1 => raff b k + rs b k % 2 * 2 ^ k
def rbox (a : Nat) : Nat := raff (rinvTo a 255) 8
theorem rbox_all : (List.range 256).map rbox = boxL := by decide +kernel
end Go.Proofs.Ytfpjpakjlhidkaa.AesM
