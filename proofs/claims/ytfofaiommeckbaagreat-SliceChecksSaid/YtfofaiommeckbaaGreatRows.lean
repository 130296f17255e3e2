/-
  No cell of these rows narrows 'for every input' (looked for: loops, veiled, ifaces, maps, wideKeys, modest, calm, conditions, laid).
  DERIVED. THE GIVEN ROWS OF THIS SEAT. 12 by the template 'for every input the law returns true; each argument reads behind the call as it read before'; 0 by the template 'total and deterministic' (their statements: YtfofaiommeckbaaGreatTotals.lean).
  GIVEN WITH THE SEED: the statements are not yours to turn. If you find one false, say at which input.
  Laid BY PROGRAM, IN A SANDBOX (cutbox-rows.mjs): the forced cells as the released guide's own fill.sh prints them over the translation 6f711519f1badb44… (all of the seat's roots in one cut). By AI agents, Wed Nov 11 2026. No macro, syntax, notation, axiom, sorry.
-/
import Derived.Test.YtfofaiommeckbaaGreatChecked
import GoSem.Claim
import GoSem.ClaimJoined
import GoSem.ClaimMapViews
import Derived.JoinedTies
import Derived.KernelRfl
namespace Go.Proofs.YtfofaiommeckbaaGreat
/- THE CELL 'sum', in the pinned program and in every row, IS THE sha256 OF THE DUMP (.gsa) THAT YtfofaiommeckbaaGreatProg.lean LOADS. Nothing in Lean hashes anything: it is a label: what it is worth is what the hold of that sum in a sandbox is worth. -/
noncomputable def Tryz.pinned : Pinned := { name := "ytfofaiommeckbaagreat", sum := "6f711519f1badb444b9465153e981cb4a605b750d834c0e8026df8b29c2ba423", checked := Tryz.checked }
namespace Rows
def none {H : Type} : Left H := { results := [], args := [] }

/-- 'ratlinelaw26.PatchMakes': WHATEVER THE INPUT: true; the input reads as it did. -/
def patchMakesSpec : ChangeSpec := { name := "patchMakes", fn := fun _ => fun
  | [d1, d2] => { results := [.lit (.bool true)], args := [d1, d2] }
  | _ => none }
def patchMakesRow : OpenClaim := { program := "ytfofaiommeckbaagreat", sum := "6f711519f1badb444b9465153e981cb4a605b750d834c0e8026df8b29c2ba423", func := "ratline/ratlinelaw26.PatchMakes", spec := "patchMakes", unfollowed := true, recurses := true, apart := false }
def PatchMakesSaid : Prop := patchMakesRow.holds Tryz.pinned (OpenSpec.ofChange patchMakesSpec)

/-- ITS FALSE NEIGHBOUR: 'it returns false'. Refute it at one input. -/
def patchMakesWrong : ChangeSpec := { name := "patchMakes", fn := fun _ => fun
  | [d1, d2] => { results := [.lit (.bool false)], args := [d1, d2] }
  | _ => none }
def PatchMakesWrongFalsely : Prop := patchMakesRow.holds Tryz.pinned (OpenSpec.ofChange patchMakesWrong)

/-- 'ratlinelaw19.SliceReads': WHATEVER THE INPUT: true; the input reads as it did. -/
def sliceReadsSpec : ChangeSpec := { name := "sliceReads", fn := fun _ => fun
  | [d] => { results := [.lit (.bool true)], args := [d] }
  | _ => none }
def sliceReadsRow : OpenClaim := { program := "ytfofaiommeckbaagreat", sum := "6f711519f1badb444b9465153e981cb4a605b750d834c0e8026df8b29c2ba423", func := "ratline/ratlinelaw19.SliceReads", spec := "sliceReads", unfollowed := true, recurses := true, apart := false }
def SliceReadsSaid : Prop := sliceReadsRow.holds Tryz.pinned (OpenSpec.ofChange sliceReadsSpec)

/-- ITS FALSE NEIGHBOUR: 'it returns false'. Refute it at one input. -/
def sliceReadsWrong : ChangeSpec := { name := "sliceReads", fn := fun _ => fun
  | [d] => { results := [.lit (.bool false)], args := [d] }
  | _ => none }
def SliceReadsWrongFalsely : Prop := sliceReadsRow.holds Tryz.pinned (OpenSpec.ofChange sliceReadsWrong)

/-- 'ratlinelaw19.SliceChecks': WHATEVER THE INPUT: true; the input reads as it did. -/
def sliceChecksSpec : ChangeSpec := { name := "sliceChecks", fn := fun _ => fun
  | [d1, d2, d3] => { results := [.lit (.bool true)], args := [d1, d2, d3] }
  | _ => none }
def sliceChecksRow : OpenClaim := { program := "ytfofaiommeckbaagreat", sum := "6f711519f1badb444b9465153e981cb4a605b750d834c0e8026df8b29c2ba423", func := "ratline/ratlinelaw19.SliceChecks", spec := "sliceChecks", unfollowed := true, recurses := true, apart := false }
def SliceChecksSaid : Prop := sliceChecksRow.holds Tryz.pinned (OpenSpec.ofChange sliceChecksSpec)

/-- ITS FALSE NEIGHBOUR: 'it returns false'. Refute it at one input. -/
def sliceChecksWrong : ChangeSpec := { name := "sliceChecks", fn := fun _ => fun
  | [d1, d2, d3] => { results := [.lit (.bool false)], args := [d1, d2, d3] }
  | _ => none }
def SliceChecksWrongFalsely : Prop := sliceChecksRow.holds Tryz.pinned (OpenSpec.ofChange sliceChecksWrong)

/-- 'ratlinelaw19.SliceProven': WHATEVER THE INPUT: true; the input reads as it did. -/
def sliceProvenSpec : ChangeSpec := { name := "sliceProven", fn := fun _ => fun
  | [d1, d2, d3] => { results := [.lit (.bool true)], args := [d1, d2, d3] }
  | _ => none }
def sliceProvenRow : OpenClaim := { program := "ytfofaiommeckbaagreat", sum := "6f711519f1badb444b9465153e981cb4a605b750d834c0e8026df8b29c2ba423", func := "ratline/ratlinelaw19.SliceProven", spec := "sliceProven", unfollowed := true, recurses := true, apart := false }
def SliceProvenSaid : Prop := sliceProvenRow.holds Tryz.pinned (OpenSpec.ofChange sliceProvenSpec)

/-- ITS FALSE NEIGHBOUR: 'it returns false'. Refute it at one input. -/
def sliceProvenWrong : ChangeSpec := { name := "sliceProven", fn := fun _ => fun
  | [d1, d2, d3] => { results := [.lit (.bool false)], args := [d1, d2, d3] }
  | _ => none }
def SliceProvenWrongFalsely : Prop := sliceProvenRow.holds Tryz.pinned (OpenSpec.ofChange sliceProvenWrong)

/-- 'ratlinelaw19.SliceProves': WHATEVER THE INPUT: true; the input reads as it did. -/
def sliceProvesSpec : ChangeSpec := { name := "sliceProves", fn := fun _ => fun
  | [d1, d2] => { results := [.lit (.bool true)], args := [d1, d2] }
  | _ => none }
def sliceProvesRow : OpenClaim := { program := "ytfofaiommeckbaagreat", sum := "6f711519f1badb444b9465153e981cb4a605b750d834c0e8026df8b29c2ba423", func := "ratline/ratlinelaw19.SliceProves", spec := "sliceProves", unfollowed := true, recurses := true, apart := false }
def SliceProvesSaid : Prop := sliceProvesRow.holds Tryz.pinned (OpenSpec.ofChange sliceProvesSpec)

/-- ITS FALSE NEIGHBOUR: 'it returns false'. Refute it at one input. -/
def sliceProvesWrong : ChangeSpec := { name := "sliceProves", fn := fun _ => fun
  | [d1, d2] => { results := [.lit (.bool false)], args := [d1, d2] }
  | _ => none }
def SliceProvesWrongFalsely : Prop := sliceProvesRow.holds Tryz.pinned (OpenSpec.ofChange sliceProvesWrong)

/-- 'ratlinelaw19.SliceSound': WHATEVER THE INPUT: true; the input reads as it did. -/
def sliceSoundSpec : ChangeSpec := { name := "sliceSound", fn := fun _ => fun
  | [d1, d2, d3] => { results := [.lit (.bool true)], args := [d1, d2, d3] }
  | _ => none }
def sliceSoundRow : OpenClaim := { program := "ytfofaiommeckbaagreat", sum := "6f711519f1badb444b9465153e981cb4a605b750d834c0e8026df8b29c2ba423", func := "ratline/ratlinelaw19.SliceSound", spec := "sliceSound", unfollowed := true, recurses := true, apart := false }
def SliceSoundSaid : Prop := sliceSoundRow.holds Tryz.pinned (OpenSpec.ofChange sliceSoundSpec)

/-- ITS FALSE NEIGHBOUR: 'it returns false'. Refute it at one input. -/
def sliceSoundWrong : ChangeSpec := { name := "sliceSound", fn := fun _ => fun
  | [d1, d2, d3] => { results := [.lit (.bool false)], args := [d1, d2, d3] }
  | _ => none }
def SliceSoundWrongFalsely : Prop := sliceSoundRow.holds Tryz.pinned (OpenSpec.ofChange sliceSoundWrong)

/-- 'ratlinelaw19.SliceProofs': WHATEVER THE INPUT: true; the input reads as it did. -/
def sliceProofsSpec : ChangeSpec := { name := "sliceProofs", fn := fun _ => fun
  | [d1, d2, d3] => { results := [.lit (.bool true)], args := [d1, d2, d3] }
  | _ => none }
def sliceProofsRow : OpenClaim := { program := "ytfofaiommeckbaagreat", sum := "6f711519f1badb444b9465153e981cb4a605b750d834c0e8026df8b29c2ba423", func := "ratline/ratlinelaw19.SliceProofs", spec := "sliceProofs", unfollowed := true, recurses := true, apart := false }
def SliceProofsSaid : Prop := sliceProofsRow.holds Tryz.pinned (OpenSpec.ofChange sliceProofsSpec)

/-- ITS FALSE NEIGHBOUR: 'it returns false'. Refute it at one input. -/
def sliceProofsWrong : ChangeSpec := { name := "sliceProofs", fn := fun _ => fun
  | [d1, d2, d3] => { results := [.lit (.bool false)], args := [d1, d2, d3] }
  | _ => none }
def SliceProofsWrongFalsely : Prop := sliceProofsRow.holds Tryz.pinned (OpenSpec.ofChange sliceProofsWrong)

/-- 'ratlinelaw19.SliceTrue': WHATEVER THE INPUT: true; the input reads as it did. -/
def sliceTrueSpec : ChangeSpec := { name := "sliceTrue", fn := fun _ => fun
  | [d1, d2] => { results := [.lit (.bool true)], args := [d1, d2] }
  | _ => none }
def sliceTrueRow : OpenClaim := { program := "ytfofaiommeckbaagreat", sum := "6f711519f1badb444b9465153e981cb4a605b750d834c0e8026df8b29c2ba423", func := "ratline/ratlinelaw19.SliceTrue", spec := "sliceTrue", unfollowed := true, recurses := true, apart := false }
def SliceTrueSaid : Prop := sliceTrueRow.holds Tryz.pinned (OpenSpec.ofChange sliceTrueSpec)

/-- ITS FALSE NEIGHBOUR: 'it returns false'. Refute it at one input. -/
def sliceTrueWrong : ChangeSpec := { name := "sliceTrue", fn := fun _ => fun
  | [d1, d2] => { results := [.lit (.bool false)], args := [d1, d2] }
  | _ => none }
def SliceTrueWrongFalsely : Prop := sliceTrueRow.holds Tryz.pinned (OpenSpec.ofChange sliceTrueWrong)

/-- 'ratlinelaw26.PatchApplies': WHATEVER THE INPUT: true; the input reads as it did. -/
def patchAppliesSpec : ChangeSpec := { name := "patchApplies", fn := fun _ => fun
  | [d1, d2, d3] => { results := [.lit (.bool true)], args := [d1, d2, d3] }
  | _ => none }
def patchAppliesRow : OpenClaim := { program := "ytfofaiommeckbaagreat", sum := "6f711519f1badb444b9465153e981cb4a605b750d834c0e8026df8b29c2ba423", func := "ratline/ratlinelaw26.PatchApplies", spec := "patchApplies", unfollowed := true, recurses := true, apart := false }
def PatchAppliesSaid : Prop := patchAppliesRow.holds Tryz.pinned (OpenSpec.ofChange patchAppliesSpec)

/-- ITS FALSE NEIGHBOUR: 'it returns false'. Refute it at one input. -/
def patchAppliesWrong : ChangeSpec := { name := "patchApplies", fn := fun _ => fun
  | [d1, d2, d3] => { results := [.lit (.bool false)], args := [d1, d2, d3] }
  | _ => none }
def PatchAppliesWrongFalsely : Prop := patchAppliesRow.holds Tryz.pinned (OpenSpec.ofChange patchAppliesWrong)

/-- 'ratlinelaw26.PatchThen': WHATEVER THE INPUT: true; the input reads as it did. -/
def patchThenSpec : ChangeSpec := { name := "patchThen", fn := fun _ => fun
  | [d1, d2, d3, d4] => { results := [.lit (.bool true)], args := [d1, d2, d3, d4] }
  | _ => none }
def patchThenRow : OpenClaim := { program := "ytfofaiommeckbaagreat", sum := "6f711519f1badb444b9465153e981cb4a605b750d834c0e8026df8b29c2ba423", func := "ratline/ratlinelaw26.PatchThen", spec := "patchThen", unfollowed := true, recurses := true, apart := false }
def PatchThenSaid : Prop := patchThenRow.holds Tryz.pinned (OpenSpec.ofChange patchThenSpec)

/-- ITS FALSE NEIGHBOUR: 'it returns false'. Refute it at one input. -/
def patchThenWrong : ChangeSpec := { name := "patchThen", fn := fun _ => fun
  | [d1, d2, d3, d4] => { results := [.lit (.bool false)], args := [d1, d2, d3, d4] }
  | _ => none }
def PatchThenWrongFalsely : Prop := patchThenRow.holds Tryz.pinned (OpenSpec.ofChange patchThenWrong)

/-- 'ratlinelaw26.PatchBack': WHATEVER THE INPUT: true; the input reads as it did. -/
def patchBackSpec : ChangeSpec := { name := "patchBack", fn := fun _ => fun
  | [d1, d2, d3] => { results := [.lit (.bool true)], args := [d1, d2, d3] }
  | _ => none }
def patchBackRow : OpenClaim := { program := "ytfofaiommeckbaagreat", sum := "6f711519f1badb444b9465153e981cb4a605b750d834c0e8026df8b29c2ba423", func := "ratline/ratlinelaw26.PatchBack", spec := "patchBack", unfollowed := true, recurses := true, apart := false }
def PatchBackSaid : Prop := patchBackRow.holds Tryz.pinned (OpenSpec.ofChange patchBackSpec)

/-- ITS FALSE NEIGHBOUR: 'it returns false'. Refute it at one input. -/
def patchBackWrong : ChangeSpec := { name := "patchBack", fn := fun _ => fun
  | [d1, d2, d3] => { results := [.lit (.bool false)], args := [d1, d2, d3] }
  | _ => none }
def PatchBackWrongFalsely : Prop := patchBackRow.holds Tryz.pinned (OpenSpec.ofChange patchBackWrong)

/-- 'ratlinelaw26.PatchSound': WHATEVER THE INPUT: true; the input reads as it did. -/
def patchSoundSpec : ChangeSpec := { name := "patchSound", fn := fun _ => fun
  | [d1, d2, d3, d4] => { results := [.lit (.bool true)], args := [d1, d2, d3, d4] }
  | _ => none }
def patchSoundRow : OpenClaim := { program := "ytfofaiommeckbaagreat", sum := "6f711519f1badb444b9465153e981cb4a605b750d834c0e8026df8b29c2ba423", func := "ratline/ratlinelaw26.PatchSound", spec := "patchSound", unfollowed := true, recurses := true, apart := false }
def PatchSoundSaid : Prop := patchSoundRow.holds Tryz.pinned (OpenSpec.ofChange patchSoundSpec)

/-- ITS FALSE NEIGHBOUR: 'it returns false'. Refute it at one input. -/
def patchSoundWrong : ChangeSpec := { name := "patchSound", fn := fun _ => fun
  | [d1, d2, d3, d4] => { results := [.lit (.bool false)], args := [d1, d2, d3, d4] }
  | _ => none }
def PatchSoundWrongFalsely : Prop := patchSoundRow.holds Tryz.pinned (OpenSpec.ofChange patchSoundWrong)

/- THE SECOND FORM. 'bulk': how many values and letters a reading holds, each counted each time it is reached (what is shared counts as often as it is met; a slice's spare places count too). A statement '..UptoSaid' is the law's where the arguments, and the package variables that the reading takes, are together of bulk at most 1048576: NARROWER than '..Said'. Prove '..Said' where nothing that the law and all that it calls make is longer than what came in: it says more and counts as full. Else prove '..UptoSaid'. A law counts once. -/
mutual
def uptoBulk {H : Type} : DataW H → Nat
  | .lit (.string bytes) => bytes.length + 1
  | .lit _ => 1
  | .nil => 1
  | .ptr d => uptoBulk d + 1
  | .slice elems spare => uptoBulkAll elems + uptoBulkAll spare + 1
  | .agg parts => uptoBulkAll parts + 1
  | .iface _ d => uptoBulk d + 1
  | .map entries => uptoBulkEntries entries + 1
  | .held _ => 1
def uptoBulkAll {H : Type} : List (DataW H) → Nat
  | [] => 0
  | d :: r => uptoBulk d + uptoBulkAll r
def uptoBulkEntries {H : Type} : List (Lit × DataW H) → Nat
  | [] => 0
  | x :: r => uptoBulkEntry x + uptoBulkEntries r
def uptoBulkEntry {H : Type} : Lit × DataW H → Nat
  | (.string bytes, d) => bytes.length + uptoBulk d + 1
  | (_, d) => uptoBulk d + 1
 end
def uptoSmall : (H : Type) → List (DataW H) → Bool := fun _ ds => decide (uptoBulkAll ds ≤ 1048576)
def OpenSpec.upto (s : _root_.Go.ChangeSpec) : _root_.Go.OpenSpec := { _root_.Go.OpenSpec.ofChange s with cond := some uptoSmall }

/-- 'ratlinelaw26.PatchMakes', WHERE WHAT IT READS IS OF BULK AT MOST 1048576: true; the input reads as it did. -/
def patchMakesUptoRow : OpenClaim := { program := "ytfofaiommeckbaagreat", sum := "6f711519f1badb444b9465153e981cb4a605b750d834c0e8026df8b29c2ba423", func := "ratline/ratlinelaw26.PatchMakes", spec := "patchMakes", unfollowed := true, recurses := true, apart := false, narrowed := true }
def PatchMakesUptoSaid : Prop := patchMakesUptoRow.holds Tryz.pinned (OpenSpec.upto patchMakesSpec)

/-- 'ratlinelaw19.SliceReads', WHERE WHAT IT READS IS OF BULK AT MOST 1048576: true; the input reads as it did. -/
def sliceReadsUptoRow : OpenClaim := { program := "ytfofaiommeckbaagreat", sum := "6f711519f1badb444b9465153e981cb4a605b750d834c0e8026df8b29c2ba423", func := "ratline/ratlinelaw19.SliceReads", spec := "sliceReads", unfollowed := true, recurses := true, apart := false, narrowed := true }
def SliceReadsUptoSaid : Prop := sliceReadsUptoRow.holds Tryz.pinned (OpenSpec.upto sliceReadsSpec)

/-- 'ratlinelaw19.SliceChecks', WHERE WHAT IT READS IS OF BULK AT MOST 1048576: true; the input reads as it did. -/
def sliceChecksUptoRow : OpenClaim := { program := "ytfofaiommeckbaagreat", sum := "6f711519f1badb444b9465153e981cb4a605b750d834c0e8026df8b29c2ba423", func := "ratline/ratlinelaw19.SliceChecks", spec := "sliceChecks", unfollowed := true, recurses := true, apart := false, narrowed := true }
def SliceChecksUptoSaid : Prop := sliceChecksUptoRow.holds Tryz.pinned (OpenSpec.upto sliceChecksSpec)

/-- 'ratlinelaw19.SliceProven', WHERE WHAT IT READS IS OF BULK AT MOST 1048576: true; the input reads as it did. -/
def sliceProvenUptoRow : OpenClaim := { program := "ytfofaiommeckbaagreat", sum := "6f711519f1badb444b9465153e981cb4a605b750d834c0e8026df8b29c2ba423", func := "ratline/ratlinelaw19.SliceProven", spec := "sliceProven", unfollowed := true, recurses := true, apart := false, narrowed := true }
def SliceProvenUptoSaid : Prop := sliceProvenUptoRow.holds Tryz.pinned (OpenSpec.upto sliceProvenSpec)

/-- 'ratlinelaw19.SliceProves', WHERE WHAT IT READS IS OF BULK AT MOST 1048576: true; the input reads as it did. -/
def sliceProvesUptoRow : OpenClaim := { program := "ytfofaiommeckbaagreat", sum := "6f711519f1badb444b9465153e981cb4a605b750d834c0e8026df8b29c2ba423", func := "ratline/ratlinelaw19.SliceProves", spec := "sliceProves", unfollowed := true, recurses := true, apart := false, narrowed := true }
def SliceProvesUptoSaid : Prop := sliceProvesUptoRow.holds Tryz.pinned (OpenSpec.upto sliceProvesSpec)

/-- 'ratlinelaw19.SliceSound', WHERE WHAT IT READS IS OF BULK AT MOST 1048576: true; the input reads as it did. -/
def sliceSoundUptoRow : OpenClaim := { program := "ytfofaiommeckbaagreat", sum := "6f711519f1badb444b9465153e981cb4a605b750d834c0e8026df8b29c2ba423", func := "ratline/ratlinelaw19.SliceSound", spec := "sliceSound", unfollowed := true, recurses := true, apart := false, narrowed := true }
def SliceSoundUptoSaid : Prop := sliceSoundUptoRow.holds Tryz.pinned (OpenSpec.upto sliceSoundSpec)

/-- 'ratlinelaw19.SliceProofs', WHERE WHAT IT READS IS OF BULK AT MOST 1048576: true; the input reads as it did. -/
def sliceProofsUptoRow : OpenClaim := { program := "ytfofaiommeckbaagreat", sum := "6f711519f1badb444b9465153e981cb4a605b750d834c0e8026df8b29c2ba423", func := "ratline/ratlinelaw19.SliceProofs", spec := "sliceProofs", unfollowed := true, recurses := true, apart := false, narrowed := true }
def SliceProofsUptoSaid : Prop := sliceProofsUptoRow.holds Tryz.pinned (OpenSpec.upto sliceProofsSpec)

/-- 'ratlinelaw19.SliceTrue', WHERE WHAT IT READS IS OF BULK AT MOST 1048576: true; the input reads as it did. -/
def sliceTrueUptoRow : OpenClaim := { program := "ytfofaiommeckbaagreat", sum := "6f711519f1badb444b9465153e981cb4a605b750d834c0e8026df8b29c2ba423", func := "ratline/ratlinelaw19.SliceTrue", spec := "sliceTrue", unfollowed := true, recurses := true, apart := false, narrowed := true }
def SliceTrueUptoSaid : Prop := sliceTrueUptoRow.holds Tryz.pinned (OpenSpec.upto sliceTrueSpec)

/-- 'ratlinelaw26.PatchApplies', WHERE WHAT IT READS IS OF BULK AT MOST 1048576: true; the input reads as it did. -/
def patchAppliesUptoRow : OpenClaim := { program := "ytfofaiommeckbaagreat", sum := "6f711519f1badb444b9465153e981cb4a605b750d834c0e8026df8b29c2ba423", func := "ratline/ratlinelaw26.PatchApplies", spec := "patchApplies", unfollowed := true, recurses := true, apart := false, narrowed := true }
def PatchAppliesUptoSaid : Prop := patchAppliesUptoRow.holds Tryz.pinned (OpenSpec.upto patchAppliesSpec)

/-- 'ratlinelaw26.PatchThen', WHERE WHAT IT READS IS OF BULK AT MOST 1048576: true; the input reads as it did. -/
def patchThenUptoRow : OpenClaim := { program := "ytfofaiommeckbaagreat", sum := "6f711519f1badb444b9465153e981cb4a605b750d834c0e8026df8b29c2ba423", func := "ratline/ratlinelaw26.PatchThen", spec := "patchThen", unfollowed := true, recurses := true, apart := false, narrowed := true }
def PatchThenUptoSaid : Prop := patchThenUptoRow.holds Tryz.pinned (OpenSpec.upto patchThenSpec)

/-- 'ratlinelaw26.PatchBack', WHERE WHAT IT READS IS OF BULK AT MOST 1048576: true; the input reads as it did. -/
def patchBackUptoRow : OpenClaim := { program := "ytfofaiommeckbaagreat", sum := "6f711519f1badb444b9465153e981cb4a605b750d834c0e8026df8b29c2ba423", func := "ratline/ratlinelaw26.PatchBack", spec := "patchBack", unfollowed := true, recurses := true, apart := false, narrowed := true }
def PatchBackUptoSaid : Prop := patchBackUptoRow.holds Tryz.pinned (OpenSpec.upto patchBackSpec)

/-- 'ratlinelaw26.PatchSound', WHERE WHAT IT READS IS OF BULK AT MOST 1048576: true; the input reads as it did. -/
def patchSoundUptoRow : OpenClaim := { program := "ytfofaiommeckbaagreat", sum := "6f711519f1badb444b9465153e981cb4a605b750d834c0e8026df8b29c2ba423", func := "ratline/ratlinelaw26.PatchSound", spec := "patchSound", unfollowed := true, recurses := true, apart := false, narrowed := true }
def PatchSoundUptoSaid : Prop := patchSoundUptoRow.holds Tryz.pinned (OpenSpec.upto patchSoundSpec)

end Rows
end Go.Proofs.YtfofaiommeckbaaGreat
