/- Walks: a reader's length. -/
import Derived.Test.YtlcmodbjbdfloaaZTreeAdds05
import Derived.Test.YtlcmodbjbdfloaaZTreeAdds13
namespace Go.Proofs.Ytlcmodbjbdfloaa
open Go.RowKit WireM
set_option linter.unusedVariables false
/-- a length that begins with b: it, what is left, the error -/
def lenF (b : Nat) (M : List Nat) : Option Nat × List Nat × Nat :=
  if b / 64 = 3 then (none, M, 3)
  else if M.length < 2 ^ (b / 64) - 1 then (none, M, 4)
  else if lenS (numV (b % 64 :: M.take (2 ^ (b / 64) - 1)) : Nat) = 2 ^ (b / 64) then (some (numV (b % 64 :: M.take (2 ^ (b / 64) - 1))), M.drop (2 ^ (b / 64) - 1), 0)
  else (none, M.drop (2 ^ (b / 64) - 1), 3)
end Go.Proofs.Ytlcmodbjbdfloaa
/- Walks: a reader's length at any state, Take, Vec. -/
namespace Go.Proofs.Ytlcmodbjbdfloaa
open Go.RowKit WireM
set_option linter.unusedVariables false
def lengthF (L : List Nat) (er : Nat) : Option Nat × List Nat × Nat :=
  if er ≠ 0 then (none, L, er) else match L with
    | [] => (none, [], 4)
    | b :: M => lenF b M
def takeF (L : List Nat) (er : Nat) (n : Int) : List Nat × List Nat × Nat :=
  if er ≠ 0 then ([], L, er) else if n < 0 then ([], L, 1) else if (L.length : Int) < n then ([], L, 4) else (L.take n.toNat, L.drop n.toNat, 0)
theorem nil_rdk (w : World) (B : Nat) : RdK w B (.slice none 0 0) (bvs []) := ⟨none, 0, rfl, Nat.le_refl _, Nat.zero_le _, .inl ⟨rfl, fun _ => rfl⟩⟩
theorem takeF_len (L : List Nat) (er : Nat) (n : Int) : (takeF L er n).1.length ≤ L.length := by
  unfold takeF
  split
  · simp
  · split
    · simp
    · split
      · simp
      · simp; omega
def vecF (L : List Nat) (er : Nat) : List Nat × List Nat × Nat :=
  match lengthF L er with
  | (none, M, e) => ([], M, e)
  | (some n, M, e) => takeF M e (n : Int)
theorem lenF_len (b : Nat) (M : List Nat) : (lenF b M).2.1.length ≤ M.length := by
  unfold lenF
  split
  · exact Nat.le_refl _
  · split
    · exact Nat.le_refl _
    · split <;> simp
theorem lengthF_len (L : List Nat) (er : Nat) : (lengthF L er).2.1.length ≤ L.length := by
  unfold lengthF
  split
  · exact Nat.le_refl _
  · split
    · exact Nat.le_refl _
    · rename_i b M
      have := lenF_len b M
      simp; omega
end Go.Proofs.Ytlcmodbjbdfloaa
