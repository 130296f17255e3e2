/- Plain: the hashes of a tree's nodes, without some leaves. -/
import Derived.Test.YtlcmodbjbdfloaaZTreeAdds20
import Derived.Test.YtlcmodbjbdfloaaZTreeAdds12
import Derived.Test.YtlcmodbjbdfloaaZTreeAdds25
import Derived.Test.YtlcmodbjbdfloaaZTreeAdds18
import Derived.Test.YtlcmodbjbdfloaaZTreeAdds05
import Derived.Test.YtlcmodbjbdfloaaZTreeAdds07
import Derived.Test.YtlcmodbjbdfloaaZTreeAdds23
namespace Go.Proofs.Ytlcmodbjbdfloaa
open Go.RowKit WalkM ShaM WireM
set_option linter.unusedVariables false
mutual
/-- what is digested of a node of a level -/
def textN (t : Nat → NodeD) : Nat → Nat → List Nat
  | 0, x => ([1] ++ beN 4 (x / 2)) ++ nodeB (t x)
  | k + 1, x => ([2] ++ nodeB (t x)) ++ (vecB (hashN t k (x - 2 ^ k)) ++ vecB (hashN t k (x + 2 ^ k)))
def hashN (t : Nat → NodeD) : Nat → Nat → List Nat
  | 0, x => shaF (([1] ++ beN 4 (x / 2)) ++ nodeB (t x))
  | k + 1, x => shaF (([2] ++ nodeB (t x)) ++ (vecB (hashN t k (x - 2 ^ k)) ++ vecB (hashN t k (x + 2 ^ k))))
end
theorem hashN_eq (t : Nat → NodeD) (k x : Nat) : hashN t k x = shaF (textN t k x) := by cases k <;> simp only [hashN, textN]
theorem textN_zero (t : Nat → NodeD) (x : Nat) : textN t 0 x = ([1] ++ beN 4 (x / 2)) ++ nodeB (t x) := by simp only [textN]
theorem textN_succ (t : Nat → NodeD) (k x : Nat) : textN t (k + 1) x = ([2] ++ nodeB (t x)) ++ (vecB (hashN t k (x - 2 ^ k)) ++ vecB (hashN t k (x + 2 ^ k))) := by simp only [textN]
theorem hashN_len (t : Nat → NodeD) (k x : Nat) : (hashN t k x).length = 32 := by rw [hashN_eq]; exact shaF_len _
theorem shaF_lt (b : List Nat) : ∀ x ∈ shaF b, x < 256 := by
  intro x hx
  unfold shaF at hx
  rw [List.mem_flatten] at hx
  obtain ⟨l, hl, hx⟩ := hx
  obtain ⟨y, _, rfl⟩ := List.mem_map.1 hl
  exact beN_lt _ _ x hx
theorem hashN_lt (t : Nat → NodeD) (k x : Nat) : ∀ y ∈ hashN t k x, y < 256 := by rw [hashN_eq]; exact shaF_lt _
theorem vecB32 {L : List Nat} (h : L.length = 32) : (vecB L).length ≤ 36 := by have := vecB_len L (by omega); omega
theorem textN_len {t : Nat → NodeD} (hs : ∀ x, smallB (t x) = true) (k x : Nat) : (textN t k x).length ≤ 2000 := by
  have h := nodeB_len (hs x)
  cases k with
  | zero =>
    rw [textN_zero]
    simp only [List.length_append, List.length_cons, List.length_nil, beN_len]; omega
  | succ k =>
    have h1 := vecB32 (hashN_len t k (x - 2 ^ k))
    have h2 := vecB32 (hashN_len t k (x + 2 ^ k))
    rw [textN_succ]
    simp only [List.length_append, List.length_cons, List.length_nil]; omega
/-- a node of a tree without some leaves -/
def woD (t : List NodeD) (ps : List Int) (x : Nat) : NodeD :=
  if x % 2 = 0 then (if ((x / 2 : Nat) : Int) ∈ ps then noNodeD else nd t x)
  else ⟨(nd t x).kind, (nd t x).leaf, ⟨(nd t x).par.box, (nd t x).par.hash, (nd t x).par.late.filter fun u => decide (u ∉ ps)⟩⟩
theorem woD_nil (t : List NodeD) (x : Nat) : woD t [] x = nd t x := by
  unfold woD
  split
  · rw [if_neg (by simp)]
  · have : ((nd t x).par.late.filter fun u => decide (u ∉ ([] : List Int))) = (nd t x).par.late := List.filter_eq_self.2 (by simp)
    rw [this]
theorem woD_even {t : List NodeD} {ps : List Int} {x : Nat} (h : x % 2 = 0) : woD t ps x = if ((x / 2 : Nat) : Int) ∈ ps then noNodeD else nd t x := by rw [woD, if_pos h]
theorem woD_odd {t : List NodeD} {ps : List Int} {x : Nat} (h : x % 2 = 1) : woD t ps x = ⟨(nd t x).kind, (nd t x).leaf, ⟨(nd t x).par.box, (nd t x).par.hash, (nd t x).par.late.filter fun u => decide (u ∉ ps)⟩⟩ := by rw [woD, if_neg (by omega)]
theorem woD_small {t : List NodeD} (h : smallT t = true) (ps : List Int) (x : Nat) : smallB (woD t ps x) = true := by
  have hs := smallT_nd h x
  unfold woD
  split
  · split
    · exact smallB_no
    · exact hs
  · have h1 := of_decide_eq_true hs
    have h2 := List.length_filter_le (fun u => decide (u ∉ ps)) (nd t x).par.late
    exact decide_eq_true ⟨h1.1, h1.2.1, h1.2.2.1, h1.2.2.2.1, h1.2.2.2.2.1, h1.2.2.2.2.2.1, h1.2.2.2.2.2.2.1, by have := h1.2.2.2.2.2.2.2; simp only; omega⟩
end Go.Proofs.Ytlcmodbjbdfloaa
/- Walks: the reference's join and has. -/
namespace Go.Proofs.Ytlcmodbjbdfloaa
open Go.RowKit WalkM ShaM WireM
set_option linter.unusedVariables false
theorem rdS {w : World} {v : Value} {xs : List Value} (h : Rd w v xs) : ∃ a n c, v = .slice a n c := by
  obtain ⟨a, c, e, _⟩ := h
  exact ⟨_, _, _, e⟩
end Go.Proofs.Ytlcmodbjbdfloaa
/- Walks: the reference's Text and Hash of a node of a tree, without some leaves' places. -/
namespace Go.Proofs.Ytlcmodbjbdfloaa
open Go.RowKit WalkM ShaM WireM
set_option linter.unusedVariables false
/-- from the region's world on -/
theorem NodeC.alloc {w : World} {d : NodeD} {c : Array Value} (h : NodeC w d c) (o : Obj) : NodeC (w.alloc o) d c := h.below ((Below.refl w.heap.size w).alloc (Nat.le_refl _) o) (Nat.le_refl _)
end Go.Proofs.Ytlcmodbjbdfloaa
/- Walks: the reference's Text of a parent, and Hash; both by the level. -/
namespace Go.Proofs.Ytlcmodbjbdfloaa
open Go.RowKit WalkM ShaM WireM
set_option linter.unusedVariables false
/-- who stays -/
def keepF (ps : List Int) (u : Int) : Bool := decide (u ∉ ps)
theorem keepF_yes {ps : List Int} {u : Int} (h : u ∉ ps) : keepF ps u = true := decide_eq_true h
theorem keepF_no {ps : List Int} {u : Int} (h : u ∈ ps) : ¬ keepF ps u = true := by unfold keepF; simp [h]
theorem filter_take_succ (L : List Int) (p : Int → Bool) {i : Nat} (h : i < L.length) : (L.take (i + 1)).filter p = (L.take i).filter p ++ (if p (L.getD i 0) = true then [L.getD i 0] else []) := by
  rw [List.take_succ_eq_append_getElem h, List.filter_append]
  congr 1
  rw [List.getD_eq_getElem?_getD, List.getElem?_eq_getElem h, List.filter_cons]
  simp
end Go.Proofs.Ytlcmodbjbdfloaa
