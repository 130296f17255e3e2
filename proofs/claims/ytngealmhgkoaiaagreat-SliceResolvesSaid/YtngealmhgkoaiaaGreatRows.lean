/-
  No cell of these rows narrows 'for every input' (looked for: loops, veiled, ifaces, maps, wideKeys, modest, calm, conditions, laid).
  DERIVED. THE GIVEN ROWS OF THIS SEAT. 12 by the template 'for every input the law returns true; each argument reads behind the call as it read before'; 0 by the template 'total and deterministic' (their statements: YtngealmhgkoaiaaGreatTotals.lean).
  GIVEN WITH THE SEED: the statements are not yours to turn. If you find one false, say at which input.
  Laid BY PROGRAM, IN A SANDBOX (cutbox-rows.mjs): the forced cells as the released guide's own fill.sh prints them over the translation 16837592818d5f2f… (all of the seat's roots in one cut). By AI agents, Wed Nov 11 2026. No macro, syntax, notation, axiom, sorry.
-/
import Derived.Test.YtngealmhgkoaiaaGreatChecked
import GoSem.Claim
import GoSem.ClaimJoined
import GoSem.ClaimMapViews
import Derived.JoinedTies
import Derived.KernelRfl
namespace Go.Proofs.YtngealmhgkoaiaaGreat
/- THE CELL 'sum', in the pinned program and in every row, IS THE sha256 OF THE DUMP (.gsa) THAT YtngealmhgkoaiaaGreatProg.lean LOADS. Nothing in Lean hashes anything: it is a label: what it is worth is what the hold of that sum in a sandbox is worth. -/
noncomputable def Tryz.pinned : Pinned := { name := "ytngealmhgkoaiaagreat", sum := "16837592818d5f2fc27836290a74f736221ed92f4700fc2bdf0032ecf44696e6", checked := Tryz.checked }
namespace Rows
def none {H : Type} : Left H := { results := [], args := [] }

/-- 'ratlinelaw17.TreeBytes': WHATEVER THE INPUT: true; the input reads as it did. -/
def treeBytesSpec : ChangeSpec := { name := "treeBytes", fn := fun _ => fun
  | [d] => { results := [.lit (.bool true)], args := [d] }
  | _ => none }
def treeBytesRow : OpenClaim := { program := "ytngealmhgkoaiaagreat", sum := "16837592818d5f2fc27836290a74f736221ed92f4700fc2bdf0032ecf44696e6", func := "ratline/ratlinelaw17.TreeBytes", spec := "treeBytes", inPlace := ["slices.overlaps[int]"], unfollowed := true, recurses := true, apart := false }
def TreeBytesSaid : Prop := treeBytesRow.holds Tryz.pinned (OpenSpec.ofChange treeBytesSpec)

/-- ITS FALSE NEIGHBOUR: 'it returns false'. Refute it at one input. -/
def treeBytesWrong : ChangeSpec := { name := "treeBytes", fn := fun _ => fun
  | [d] => { results := [.lit (.bool false)], args := [d] }
  | _ => none }
def TreeBytesWrongFalsely : Prop := treeBytesRow.holds Tryz.pinned (OpenSpec.ofChange treeBytesWrong)

/-- 'ratlinelaw18.HashStands': WHATEVER THE INPUT: true; the input reads as it did. -/
def hashStandsSpec : ChangeSpec := { name := "hashStands", fn := fun _ => fun
  | [d] => { results := [.lit (.bool true)], args := [d] }
  | _ => none }
def hashStandsRow : OpenClaim := { program := "ytngealmhgkoaiaagreat", sum := "16837592818d5f2fc27836290a74f736221ed92f4700fc2bdf0032ecf44696e6", func := "ratline/ratlinelaw18.HashStands", spec := "hashStands", unfollowed := true, recurses := true, apart := false }
def HashStandsSaid : Prop := hashStandsRow.holds Tryz.pinned (OpenSpec.ofChange hashStandsSpec)

/-- ITS FALSE NEIGHBOUR: 'it returns false'. Refute it at one input. -/
def hashStandsWrong : ChangeSpec := { name := "hashStands", fn := fun _ => fun
  | [d] => { results := [.lit (.bool false)], args := [d] }
  | _ => none }
def HashStandsWrongFalsely : Prop := hashStandsRow.holds Tryz.pinned (OpenSpec.ofChange hashStandsWrong)

/-- 'ratlinelaw19.SliceCuts': WHATEVER THE INPUT: true; the input reads as it did. -/
def sliceCutsSpec : ChangeSpec := { name := "sliceCuts", fn := fun _ => fun
  | [d1, d2] => { results := [.lit (.bool true)], args := [d1, d2] }
  | _ => none }
def sliceCutsRow : OpenClaim := { program := "ytngealmhgkoaiaagreat", sum := "16837592818d5f2fc27836290a74f736221ed92f4700fc2bdf0032ecf44696e6", func := "ratline/ratlinelaw19.SliceCuts", spec := "sliceCuts", unfollowed := true, recurses := true, apart := false }
def SliceCutsSaid : Prop := sliceCutsRow.holds Tryz.pinned (OpenSpec.ofChange sliceCutsSpec)

/-- ITS FALSE NEIGHBOUR: 'it returns false'. Refute it at one input. -/
def sliceCutsWrong : ChangeSpec := { name := "sliceCuts", fn := fun _ => fun
  | [d1, d2] => { results := [.lit (.bool false)], args := [d1, d2] }
  | _ => none }
def SliceCutsWrongFalsely : Prop := sliceCutsRow.holds Tryz.pinned (OpenSpec.ofChange sliceCutsWrong)

/-- 'ratlinelaw19.SliceRight': WHATEVER THE INPUT: true; the input reads as it did. -/
def sliceRightSpec : ChangeSpec := { name := "sliceRight", fn := fun _ => fun
  | [d] => { results := [.lit (.bool true)], args := [d] }
  | _ => none }
def sliceRightRow : OpenClaim := { program := "ytngealmhgkoaiaagreat", sum := "16837592818d5f2fc27836290a74f736221ed92f4700fc2bdf0032ecf44696e6", func := "ratline/ratlinelaw19.SliceRight", spec := "sliceRight", unfollowed := true, recurses := true, apart := false }
def SliceRightSaid : Prop := sliceRightRow.holds Tryz.pinned (OpenSpec.ofChange sliceRightSpec)

/-- ITS FALSE NEIGHBOUR: 'it returns false'. Refute it at one input. -/
def sliceRightWrong : ChangeSpec := { name := "sliceRight", fn := fun _ => fun
  | [d] => { results := [.lit (.bool false)], args := [d] }
  | _ => none }
def SliceRightWrongFalsely : Prop := sliceRightRow.holds Tryz.pinned (OpenSpec.ofChange sliceRightWrong)

/-- 'ratlinelaw19.SliceResolves': WHATEVER THE INPUT: true; the input reads as it did. -/
def sliceResolvesSpec : ChangeSpec := { name := "sliceResolves", fn := fun _ => fun
  | [d1, d2, d3] => { results := [.lit (.bool true)], args := [d1, d2, d3] }
  | _ => none }
def sliceResolvesRow : OpenClaim := { program := "ytngealmhgkoaiaagreat", sum := "16837592818d5f2fc27836290a74f736221ed92f4700fc2bdf0032ecf44696e6", func := "ratline/ratlinelaw19.SliceResolves", spec := "sliceResolves", unfollowed := true, recurses := true, apart := false }
def SliceResolvesSaid : Prop := sliceResolvesRow.holds Tryz.pinned (OpenSpec.ofChange sliceResolvesSpec)

/-- ITS FALSE NEIGHBOUR: 'it returns false'. Refute it at one input. -/
def sliceResolvesWrong : ChangeSpec := { name := "sliceResolves", fn := fun _ => fun
  | [d1, d2, d3] => { results := [.lit (.bool false)], args := [d1, d2, d3] }
  | _ => none }
def SliceResolvesWrongFalsely : Prop := sliceResolvesRow.holds Tryz.pinned (OpenSpec.ofChange sliceResolvesWrong)

/-- 'ratlinelaw19.SliceReads': WHATEVER THE INPUT: true; the input reads as it did. -/
def sliceReadsSpec : ChangeSpec := { name := "sliceReads", fn := fun _ => fun
  | [d] => { results := [.lit (.bool true)], args := [d] }
  | _ => none }
def sliceReadsRow : OpenClaim := { program := "ytngealmhgkoaiaagreat", sum := "16837592818d5f2fc27836290a74f736221ed92f4700fc2bdf0032ecf44696e6", func := "ratline/ratlinelaw19.SliceReads", spec := "sliceReads", unfollowed := true, recurses := true, apart := false }
def SliceReadsSaid : Prop := sliceReadsRow.holds Tryz.pinned (OpenSpec.ofChange sliceReadsSpec)

/-- ITS FALSE NEIGHBOUR: 'it returns false'. Refute it at one input. -/
def sliceReadsWrong : ChangeSpec := { name := "sliceReads", fn := fun _ => fun
  | [d] => { results := [.lit (.bool false)], args := [d] }
  | _ => none }
def SliceReadsWrongFalsely : Prop := sliceReadsRow.holds Tryz.pinned (OpenSpec.ofChange sliceReadsWrong)

/-- 'ratlinelaw19.SliceChecks': WHATEVER THE INPUT: true; the input reads as it did. -/
def sliceChecksSpec : ChangeSpec := { name := "sliceChecks", fn := fun _ => fun
  | [d1, d2, d3] => { results := [.lit (.bool true)], args := [d1, d2, d3] }
  | _ => none }
def sliceChecksRow : OpenClaim := { program := "ytngealmhgkoaiaagreat", sum := "16837592818d5f2fc27836290a74f736221ed92f4700fc2bdf0032ecf44696e6", func := "ratline/ratlinelaw19.SliceChecks", spec := "sliceChecks", unfollowed := true, recurses := true, apart := false }
def SliceChecksSaid : Prop := sliceChecksRow.holds Tryz.pinned (OpenSpec.ofChange sliceChecksSpec)

/-- ITS FALSE NEIGHBOUR: 'it returns false'. Refute it at one input. -/
def sliceChecksWrong : ChangeSpec := { name := "sliceChecks", fn := fun _ => fun
  | [d1, d2, d3] => { results := [.lit (.bool false)], args := [d1, d2, d3] }
  | _ => none }
def SliceChecksWrongFalsely : Prop := sliceChecksRow.holds Tryz.pinned (OpenSpec.ofChange sliceChecksWrong)

/-- 'ratlinelaw19.SliceProven': WHATEVER THE INPUT: true; the input reads as it did. -/
def sliceProvenSpec : ChangeSpec := { name := "sliceProven", fn := fun _ => fun
  | [d1, d2, d3] => { results := [.lit (.bool true)], args := [d1, d2, d3] }
  | _ => none }
def sliceProvenRow : OpenClaim := { program := "ytngealmhgkoaiaagreat", sum := "16837592818d5f2fc27836290a74f736221ed92f4700fc2bdf0032ecf44696e6", func := "ratline/ratlinelaw19.SliceProven", spec := "sliceProven", unfollowed := true, recurses := true, apart := false }
def SliceProvenSaid : Prop := sliceProvenRow.holds Tryz.pinned (OpenSpec.ofChange sliceProvenSpec)

/-- ITS FALSE NEIGHBOUR: 'it returns false'. Refute it at one input. -/
def sliceProvenWrong : ChangeSpec := { name := "sliceProven", fn := fun _ => fun
  | [d1, d2, d3] => { results := [.lit (.bool false)], args := [d1, d2, d3] }
  | _ => none }
def SliceProvenWrongFalsely : Prop := sliceProvenRow.holds Tryz.pinned (OpenSpec.ofChange sliceProvenWrong)

/-- 'ratlinelaw19.SliceProves': WHATEVER THE INPUT: true; the input reads as it did. -/
def sliceProvesSpec : ChangeSpec := { name := "sliceProves", fn := fun _ => fun
  | [d1, d2] => { results := [.lit (.bool true)], args := [d1, d2] }
  | _ => none }
def sliceProvesRow : OpenClaim := { program := "ytngealmhgkoaiaagreat", sum := "16837592818d5f2fc27836290a74f736221ed92f4700fc2bdf0032ecf44696e6", func := "ratline/ratlinelaw19.SliceProves", spec := "sliceProves", unfollowed := true, recurses := true, apart := false }
def SliceProvesSaid : Prop := sliceProvesRow.holds Tryz.pinned (OpenSpec.ofChange sliceProvesSpec)

/-- ITS FALSE NEIGHBOUR: 'it returns false'. Refute it at one input. -/
def sliceProvesWrong : ChangeSpec := { name := "sliceProves", fn := fun _ => fun
  | [d1, d2] => { results := [.lit (.bool false)], args := [d1, d2] }
  | _ => none }
def SliceProvesWrongFalsely : Prop := sliceProvesRow.holds Tryz.pinned (OpenSpec.ofChange sliceProvesWrong)

/-- 'ratlinelaw19.SliceSound': WHATEVER THE INPUT: true; the input reads as it did. -/
def sliceSoundSpec : ChangeSpec := { name := "sliceSound", fn := fun _ => fun
  | [d1, d2, d3] => { results := [.lit (.bool true)], args := [d1, d2, d3] }
  | _ => none }
def sliceSoundRow : OpenClaim := { program := "ytngealmhgkoaiaagreat", sum := "16837592818d5f2fc27836290a74f736221ed92f4700fc2bdf0032ecf44696e6", func := "ratline/ratlinelaw19.SliceSound", spec := "sliceSound", unfollowed := true, recurses := true, apart := false }
def SliceSoundSaid : Prop := sliceSoundRow.holds Tryz.pinned (OpenSpec.ofChange sliceSoundSpec)

/-- ITS FALSE NEIGHBOUR: 'it returns false'. Refute it at one input. -/
def sliceSoundWrong : ChangeSpec := { name := "sliceSound", fn := fun _ => fun
  | [d1, d2, d3] => { results := [.lit (.bool false)], args := [d1, d2, d3] }
  | _ => none }
def SliceSoundWrongFalsely : Prop := sliceSoundRow.holds Tryz.pinned (OpenSpec.ofChange sliceSoundWrong)

/-- 'ratlinelaw19.SliceProofs': WHATEVER THE INPUT: true; the input reads as it did. -/
def sliceProofsSpec : ChangeSpec := { name := "sliceProofs", fn := fun _ => fun
  | [d1, d2, d3] => { results := [.lit (.bool true)], args := [d1, d2, d3] }
  | _ => none }
def sliceProofsRow : OpenClaim := { program := "ytngealmhgkoaiaagreat", sum := "16837592818d5f2fc27836290a74f736221ed92f4700fc2bdf0032ecf44696e6", func := "ratline/ratlinelaw19.SliceProofs", spec := "sliceProofs", unfollowed := true, recurses := true, apart := false }
def SliceProofsSaid : Prop := sliceProofsRow.holds Tryz.pinned (OpenSpec.ofChange sliceProofsSpec)

/-- ITS FALSE NEIGHBOUR: 'it returns false'. Refute it at one input. -/
def sliceProofsWrong : ChangeSpec := { name := "sliceProofs", fn := fun _ => fun
  | [d1, d2, d3] => { results := [.lit (.bool false)], args := [d1, d2, d3] }
  | _ => none }
def SliceProofsWrongFalsely : Prop := sliceProofsRow.holds Tryz.pinned (OpenSpec.ofChange sliceProofsWrong)

/-- 'ratlinelaw19.SliceTrue': WHATEVER THE INPUT: true; the input reads as it did. -/
def sliceTrueSpec : ChangeSpec := { name := "sliceTrue", fn := fun _ => fun
  | [d1, d2] => { results := [.lit (.bool true)], args := [d1, d2] }
  | _ => none }
def sliceTrueRow : OpenClaim := { program := "ytngealmhgkoaiaagreat", sum := "16837592818d5f2fc27836290a74f736221ed92f4700fc2bdf0032ecf44696e6", func := "ratline/ratlinelaw19.SliceTrue", spec := "sliceTrue", unfollowed := true, recurses := true, apart := false }
def SliceTrueSaid : Prop := sliceTrueRow.holds Tryz.pinned (OpenSpec.ofChange sliceTrueSpec)

/-- ITS FALSE NEIGHBOUR: 'it returns false'. Refute it at one input. -/
def sliceTrueWrong : ChangeSpec := { name := "sliceTrue", fn := fun _ => fun
  | [d1, d2] => { results := [.lit (.bool false)], args := [d1, d2] }
  | _ => none }
def SliceTrueWrongFalsely : Prop := sliceTrueRow.holds Tryz.pinned (OpenSpec.ofChange sliceTrueWrong)

/- THE SECOND FORM. 'bulk': how many values and letters a reading holds, each counted each time it is reached (what is shared counts as often as it is met; a slice's spare places count too). A statement '..UptoSaid' is the law's where the arguments, and the package variables that the reading takes, are together of bulk at most 1048576: NARROWER than '..Said'. Prove '..Said' where nothing that the law and all that it calls make is longer than what came in: it says more and counts as full. Else prove '..UptoSaid'. A law counts once. -/
mutual
def uptoBulk {H : Type} : DataW H → Nat
  | .lit (.string bytes) => bytes.length + 1
  | .lit _ => 1
  | .nil => 1
  | .ptr d => uptoBulk d + 1
  | .slice elems spare => uptoBulkAll elems + uptoBulkAll spare + 1
  | .agg parts => uptoBulkAll parts + 1
  | .iface _ d => uptoBulk d + 1
  | .map entries => uptoBulkEntries entries + 1
  | .held _ => 1
def uptoBulkAll {H : Type} : List (DataW H) → Nat
  | [] => 0
  | d :: r => uptoBulk d + uptoBulkAll r
def uptoBulkEntries {H : Type} : List (Lit × DataW H) → Nat
  | [] => 0
  | x :: r => uptoBulkEntry x + uptoBulkEntries r
def uptoBulkEntry {H : Type} : Lit × DataW H → Nat
  | (.string bytes, d) => bytes.length + uptoBulk d + 1
  | (_, d) => uptoBulk d + 1
 end
def uptoSmall : (H : Type) → List (DataW H) → Bool := fun _ ds => decide (uptoBulkAll ds ≤ 1048576)
def OpenSpec.upto (s : _root_.Go.ChangeSpec) : _root_.Go.OpenSpec := { _root_.Go.OpenSpec.ofChange s with cond := some uptoSmall }

/-- 'ratlinelaw17.TreeBytes', WHERE WHAT IT READS IS OF BULK AT MOST 1048576: true; the input reads as it did. -/
def treeBytesUptoRow : OpenClaim := { program := "ytngealmhgkoaiaagreat", sum := "16837592818d5f2fc27836290a74f736221ed92f4700fc2bdf0032ecf44696e6", func := "ratline/ratlinelaw17.TreeBytes", spec := "treeBytes", inPlace := ["slices.overlaps[int]"], unfollowed := true, recurses := true, apart := false, narrowed := true }
def TreeBytesUptoSaid : Prop := treeBytesUptoRow.holds Tryz.pinned (OpenSpec.upto treeBytesSpec)

/-- 'ratlinelaw18.HashStands', WHERE WHAT IT READS IS OF BULK AT MOST 1048576: true; the input reads as it did. -/
def hashStandsUptoRow : OpenClaim := { program := "ytngealmhgkoaiaagreat", sum := "16837592818d5f2fc27836290a74f736221ed92f4700fc2bdf0032ecf44696e6", func := "ratline/ratlinelaw18.HashStands", spec := "hashStands", unfollowed := true, recurses := true, apart := false, narrowed := true }
def HashStandsUptoSaid : Prop := hashStandsUptoRow.holds Tryz.pinned (OpenSpec.upto hashStandsSpec)

/-- 'ratlinelaw19.SliceCuts', WHERE WHAT IT READS IS OF BULK AT MOST 1048576: true; the input reads as it did. -/
def sliceCutsUptoRow : OpenClaim := { program := "ytngealmhgkoaiaagreat", sum := "16837592818d5f2fc27836290a74f736221ed92f4700fc2bdf0032ecf44696e6", func := "ratline/ratlinelaw19.SliceCuts", spec := "sliceCuts", unfollowed := true, recurses := true, apart := false, narrowed := true }
def SliceCutsUptoSaid : Prop := sliceCutsUptoRow.holds Tryz.pinned (OpenSpec.upto sliceCutsSpec)

/-- 'ratlinelaw19.SliceRight', WHERE WHAT IT READS IS OF BULK AT MOST 1048576: true; the input reads as it did. -/
def sliceRightUptoRow : OpenClaim := { program := "ytngealmhgkoaiaagreat", sum := "16837592818d5f2fc27836290a74f736221ed92f4700fc2bdf0032ecf44696e6", func := "ratline/ratlinelaw19.SliceRight", spec := "sliceRight", unfollowed := true, recurses := true, apart := false, narrowed := true }
def SliceRightUptoSaid : Prop := sliceRightUptoRow.holds Tryz.pinned (OpenSpec.upto sliceRightSpec)

/-- 'ratlinelaw19.SliceResolves', WHERE WHAT IT READS IS OF BULK AT MOST 1048576: true; the input reads as it did. -/
def sliceResolvesUptoRow : OpenClaim := { program := "ytngealmhgkoaiaagreat", sum := "16837592818d5f2fc27836290a74f736221ed92f4700fc2bdf0032ecf44696e6", func := "ratline/ratlinelaw19.SliceResolves", spec := "sliceResolves", unfollowed := true, recurses := true, apart := false, narrowed := true }
def SliceResolvesUptoSaid : Prop := sliceResolvesUptoRow.holds Tryz.pinned (OpenSpec.upto sliceResolvesSpec)

/-- 'ratlinelaw19.SliceReads', WHERE WHAT IT READS IS OF BULK AT MOST 1048576: true; the input reads as it did. -/
def sliceReadsUptoRow : OpenClaim := { program := "ytngealmhgkoaiaagreat", sum := "16837592818d5f2fc27836290a74f736221ed92f4700fc2bdf0032ecf44696e6", func := "ratline/ratlinelaw19.SliceReads", spec := "sliceReads", unfollowed := true, recurses := true, apart := false, narrowed := true }
def SliceReadsUptoSaid : Prop := sliceReadsUptoRow.holds Tryz.pinned (OpenSpec.upto sliceReadsSpec)

/-- 'ratlinelaw19.SliceChecks', WHERE WHAT IT READS IS OF BULK AT MOST 1048576: true; the input reads as it did. -/
def sliceChecksUptoRow : OpenClaim := { program := "ytngealmhgkoaiaagreat", sum := "16837592818d5f2fc27836290a74f736221ed92f4700fc2bdf0032ecf44696e6", func := "ratline/ratlinelaw19.SliceChecks", spec := "sliceChecks", unfollowed := true, recurses := true, apart := false, narrowed := true }
def SliceChecksUptoSaid : Prop := sliceChecksUptoRow.holds Tryz.pinned (OpenSpec.upto sliceChecksSpec)

/-- 'ratlinelaw19.SliceProven', WHERE WHAT IT READS IS OF BULK AT MOST 1048576: true; the input reads as it did. -/
def sliceProvenUptoRow : OpenClaim := { program := "ytngealmhgkoaiaagreat", sum := "16837592818d5f2fc27836290a74f736221ed92f4700fc2bdf0032ecf44696e6", func := "ratline/ratlinelaw19.SliceProven", spec := "sliceProven", unfollowed := true, recurses := true, apart := false, narrowed := true }
def SliceProvenUptoSaid : Prop := sliceProvenUptoRow.holds Tryz.pinned (OpenSpec.upto sliceProvenSpec)

/-- 'ratlinelaw19.SliceProves', WHERE WHAT IT READS IS OF BULK AT MOST 1048576: true; the input reads as it did. -/
def sliceProvesUptoRow : OpenClaim := { program := "ytngealmhgkoaiaagreat", sum := "16837592818d5f2fc27836290a74f736221ed92f4700fc2bdf0032ecf44696e6", func := "ratline/ratlinelaw19.SliceProves", spec := "sliceProves", unfollowed := true, recurses := true, apart := false, narrowed := true }
def SliceProvesUptoSaid : Prop := sliceProvesUptoRow.holds Tryz.pinned (OpenSpec.upto sliceProvesSpec)

/-- 'ratlinelaw19.SliceSound', WHERE WHAT IT READS IS OF BULK AT MOST 1048576: true; the input reads as it did. -/
def sliceSoundUptoRow : OpenClaim := { program := "ytngealmhgkoaiaagreat", sum := "16837592818d5f2fc27836290a74f736221ed92f4700fc2bdf0032ecf44696e6", func := "ratline/ratlinelaw19.SliceSound", spec := "sliceSound", unfollowed := true, recurses := true, apart := false, narrowed := true }
def SliceSoundUptoSaid : Prop := sliceSoundUptoRow.holds Tryz.pinned (OpenSpec.upto sliceSoundSpec)

/-- 'ratlinelaw19.SliceProofs', WHERE WHAT IT READS IS OF BULK AT MOST 1048576: true; the input reads as it did. -/
def sliceProofsUptoRow : OpenClaim := { program := "ytngealmhgkoaiaagreat", sum := "16837592818d5f2fc27836290a74f736221ed92f4700fc2bdf0032ecf44696e6", func := "ratline/ratlinelaw19.SliceProofs", spec := "sliceProofs", unfollowed := true, recurses := true, apart := false, narrowed := true }
def SliceProofsUptoSaid : Prop := sliceProofsUptoRow.holds Tryz.pinned (OpenSpec.upto sliceProofsSpec)

/-- 'ratlinelaw19.SliceTrue', WHERE WHAT IT READS IS OF BULK AT MOST 1048576: true; the input reads as it did. -/
def sliceTrueUptoRow : OpenClaim := { program := "ytngealmhgkoaiaagreat", sum := "16837592818d5f2fc27836290a74f736221ed92f4700fc2bdf0032ecf44696e6", func := "ratline/ratlinelaw19.SliceTrue", spec := "sliceTrue", unfollowed := true, recurses := true, apart := false, narrowed := true }
def SliceTrueUptoSaid : Prop := sliceTrueUptoRow.holds Tryz.pinned (OpenSpec.upto sliceTrueSpec)

end Rows
end Go.Proofs.YtngealmhgkoaiaaGreat
