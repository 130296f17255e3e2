/-
  No cell of these rows narrows 'for every input' (looked for: loops, veiled, ifaces, maps, wideKeys, modest, calm, conditions, laid).
  DERIVED. THE GIVEN ROWS OF THIS SEAT. 3 by the template 'for every input the law returns true; each argument reads behind the call as it read before'; 0 by the template 'total and deterministic' (their statements: YtohldijomcljkaaGreatTotals.lean).
  GIVEN WITH THE SEED: the statements are not yours to turn. If you find one false, say at which input.
  Laid BY PROGRAM, IN A SANDBOX (cutbox-rows.mjs): the forced cells as the released guide's own fill.sh prints them over the translation a34f6ab2eb001bbd… (all of the seat's roots in one cut). By AI agents, Wed Nov 11 2026. No macro, syntax, notation, axiom, sorry.
-/
import Derived.Test.YtohldijomcljkaaGreatChecked
import GoSem.Claim
import GoSem.ClaimJoined
import GoSem.ClaimMapViews
import Derived.JoinedTies
import Derived.KernelRfl
namespace Go.Proofs.YtohldijomcljkaaGreat
/- THE CELL 'sum', in the pinned program and in every row, IS THE sha256 OF THE DUMP (.gsa) THAT YtohldijomcljkaaGreatProg.lean LOADS. Nothing in Lean hashes anything: it is a label: what it is worth is what the hold of that sum in a sandbox is worth. -/
noncomputable def Tryz.pinned : Pinned := { name := "ytohldijomcljkaagreat", sum := "a34f6ab2eb001bbdb1d4062de6d8e2067ee66eb4b015ac57e7e22ea98310f634", checked := Tryz.checked }
namespace Rows
def none {H : Type} : Left H := { results := [], args := [] }

/-- 'ratlinelaw18.HashSeen': WHATEVER THE INPUT: true; the input reads as it did. -/
def hashSeenSpec : ChangeSpec := { name := "hashSeen", fn := fun _ => fun
  | [d1, d2, d3] => { results := [.lit (.bool true)], args := [d1, d2, d3] }
  | _ => none }
def hashSeenRow : OpenClaim := { program := "ytohldijomcljkaagreat", sum := "a34f6ab2eb001bbdb1d4062de6d8e2067ee66eb4b015ac57e7e22ea98310f634", func := "ratline/ratlinelaw18.HashSeen", spec := "hashSeen", unfollowed := true, recurses := true, apart := false }
def HashSeenSaid : Prop := hashSeenRow.holds Tryz.pinned (OpenSpec.ofChange hashSeenSpec)

/-- ITS FALSE NEIGHBOUR: 'it returns false'. Refute it at one input. -/
def hashSeenWrong : ChangeSpec := { name := "hashSeen", fn := fun _ => fun
  | [d1, d2, d3] => { results := [.lit (.bool false)], args := [d1, d2, d3] }
  | _ => none }
def HashSeenWrongFalsely : Prop := hashSeenRow.holds Tryz.pinned (OpenSpec.ofChange hashSeenWrong)

/-- 'ratlinelaw17.TreeBytes': WHATEVER THE INPUT: true; the input reads as it did. -/
def treeBytesSpec : ChangeSpec := { name := "treeBytes", fn := fun _ => fun
  | [d] => { results := [.lit (.bool true)], args := [d] }
  | _ => none }
def treeBytesRow : OpenClaim := { program := "ytohldijomcljkaagreat", sum := "a34f6ab2eb001bbdb1d4062de6d8e2067ee66eb4b015ac57e7e22ea98310f634", func := "ratline/ratlinelaw17.TreeBytes", spec := "treeBytes", inPlace := ["slices.overlaps[int]"], unfollowed := true, recurses := true, apart := false }
def TreeBytesSaid : Prop := treeBytesRow.holds Tryz.pinned (OpenSpec.ofChange treeBytesSpec)

/-- ITS FALSE NEIGHBOUR: 'it returns false'. Refute it at one input. -/
def treeBytesWrong : ChangeSpec := { name := "treeBytes", fn := fun _ => fun
  | [d] => { results := [.lit (.bool false)], args := [d] }
  | _ => none }
def TreeBytesWrongFalsely : Prop := treeBytesRow.holds Tryz.pinned (OpenSpec.ofChange treeBytesWrong)

/-- 'ratlinelaw18.HashStands': WHATEVER THE INPUT: true; the input reads as it did. -/
def hashStandsSpec : ChangeSpec := { name := "hashStands", fn := fun _ => fun
  | [d] => { results := [.lit (.bool true)], args := [d] }
  | _ => none }
def hashStandsRow : OpenClaim := { program := "ytohldijomcljkaagreat", sum := "a34f6ab2eb001bbdb1d4062de6d8e2067ee66eb4b015ac57e7e22ea98310f634", func := "ratline/ratlinelaw18.HashStands", spec := "hashStands", unfollowed := true, recurses := true, apart := false }
def HashStandsSaid : Prop := hashStandsRow.holds Tryz.pinned (OpenSpec.ofChange hashStandsSpec)

/-- ITS FALSE NEIGHBOUR: 'it returns false'. Refute it at one input. -/
def hashStandsWrong : ChangeSpec := { name := "hashStands", fn := fun _ => fun
  | [d] => { results := [.lit (.bool false)], args := [d] }
  | _ => none }
def HashStandsWrongFalsely : Prop := hashStandsRow.holds Tryz.pinned (OpenSpec.ofChange hashStandsWrong)

/- THE SECOND FORM. 'bulk': how many values and letters a reading holds, each counted each time it is reached (what is shared counts as often as it is met; a slice's spare places count too). A statement '..UptoSaid' is the law's where the arguments, and the package variables that the reading takes, are together of bulk at most 1048576: NARROWER than '..Said'. Prove '..Said' where nothing that the law and all that it calls make is longer than what came in: it says more and counts as full. Else prove '..UptoSaid'. A law counts once. -/
mutual
def uptoBulk {H : Type} : DataW H → Nat
  | .lit (.string bytes) => bytes.length + 1
  | .lit _ => 1
  | .nil => 1
  | .ptr d => uptoBulk d + 1
  | .slice elems spare => uptoBulkAll elems + uptoBulkAll spare + 1
  | .agg parts => uptoBulkAll parts + 1
  | .iface _ d => uptoBulk d + 1
  | .map entries => uptoBulkEntries entries + 1
  | .held _ => 1
def uptoBulkAll {H : Type} : List (DataW H) → Nat
  | [] => 0
  | d :: r => uptoBulk d + uptoBulkAll r
def uptoBulkEntries {H : Type} : List (Lit × DataW H) → Nat
  | [] => 0
  | x :: r => uptoBulkEntry x + uptoBulkEntries r
def uptoBulkEntry {H : Type} : Lit × DataW H → Nat
  | (.string bytes, d) => bytes.length + uptoBulk d + 1
  | (_, d) => uptoBulk d + 1
 end
def uptoSmall : (H : Type) → List (DataW H) → Bool := fun _ ds => decide (uptoBulkAll ds ≤ 1048576)
def OpenSpec.upto (s : _root_.Go.ChangeSpec) : _root_.Go.OpenSpec := { _root_.Go.OpenSpec.ofChange s with cond := some uptoSmall }

/-- 'ratlinelaw18.HashSeen', WHERE WHAT IT READS IS OF BULK AT MOST 1048576: true; the input reads as it did. -/
def hashSeenUptoRow : OpenClaim := { program := "ytohldijomcljkaagreat", sum := "a34f6ab2eb001bbdb1d4062de6d8e2067ee66eb4b015ac57e7e22ea98310f634", func := "ratline/ratlinelaw18.HashSeen", spec := "hashSeen", unfollowed := true, recurses := true, apart := false, narrowed := true }
def HashSeenUptoSaid : Prop := hashSeenUptoRow.holds Tryz.pinned (OpenSpec.upto hashSeenSpec)

/-- 'ratlinelaw17.TreeBytes', WHERE WHAT IT READS IS OF BULK AT MOST 1048576: true; the input reads as it did. -/
def treeBytesUptoRow : OpenClaim := { program := "ytohldijomcljkaagreat", sum := "a34f6ab2eb001bbdb1d4062de6d8e2067ee66eb4b015ac57e7e22ea98310f634", func := "ratline/ratlinelaw17.TreeBytes", spec := "treeBytes", inPlace := ["slices.overlaps[int]"], unfollowed := true, recurses := true, apart := false, narrowed := true }
def TreeBytesUptoSaid : Prop := treeBytesUptoRow.holds Tryz.pinned (OpenSpec.upto treeBytesSpec)

/-- 'ratlinelaw18.HashStands', WHERE WHAT IT READS IS OF BULK AT MOST 1048576: true; the input reads as it did. -/
def hashStandsUptoRow : OpenClaim := { program := "ytohldijomcljkaagreat", sum := "a34f6ab2eb001bbdb1d4062de6d8e2067ee66eb4b015ac57e7e22ea98310f634", func := "ratline/ratlinelaw18.HashStands", spec := "hashStands", unfollowed := true, recurses := true, apart := false, narrowed := true }
def HashStandsUptoSaid : Prop := hashStandsUptoRow.holds Tryz.pinned (OpenSpec.upto hashStandsSpec)

end Rows
end Go.Proofs.YtohldijomcljkaaGreat
