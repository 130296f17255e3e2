/- Plain: what a tree is with a place's leaf another node and all above it blank; how far it may be cut. -/
import Derived.Test.YtlcmodbjbdfloaaZTreeAdds36
namespace Go.Proofs.Ytlcmodbjbdfloaa
open Go.RowKit WalkM WireM
set_option linter.unusedVariables false
/-- a place's leaf is another node, and all above is blank -/
def setF (t : List NodeD) (i : Nat) (y : NodeD) (x : Nat) : NodeD := if x = 2 * i then y else if x = anc (2 * i) (lev x) then noNodeD else nd t x
/-- the way up is blank up to a level -/
def blankR (t : List NodeD) (i r x : Nat) : NodeD := if x ≠ 2 * i ∧ lev x ≤ r ∧ x = anc (2 * i) (lev x) then noNodeD else nd t x
def blankF (t : List NodeD) (i x : Nat) : NodeD := if x ≠ 2 * i ∧ x = anc (2 * i) (lev x) then noNodeD else nd t x
theorem lev0_leaf {i x : Nat} (h : lev x = 0) (c : x = anc (2 * i) (lev x)) : x = 2 * i := by
  rw [h] at c
  have h2 : IsLev (2 * i) 0 := by unfold IsLev; simp
  rw [anc_self h2] at c
  exact c
theorem blankR_zero (t : List NodeD) (i x : Nat) : blankR t i 0 x = nd t x := by
  unfold blankR
  rw [if_neg]
  rintro ⟨a, b, c⟩
  exact a (lev0_leaf (by omega) c)
theorem blankR_step (t : List NodeD) {d i r x : Nat} (hd : d ≤ 16) (hi : 2 * i + 1 < 2 ^ (d + 1)) (hr : r < d) (hx : x + 1 < 2 ^ (d + 1)) :
    blankR t i (r + 1) x = if x = anc (2 * i) (r + 1) then noNodeD else blankR t i r x := by
  have h1 := anc_in hd hi (show r + 1 ≤ d by omega)
  have h2 := anc_odd (2 * i) (show 1 ≤ r + 1 by omega)
  by_cases e : x = anc (2 * i) (r + 1)
  · have hl : lev x = r + 1 := by rw [e]; exact h1.2
    rw [if_pos e]
    unfold blankR
    rw [if_pos ⟨by omega, by omega, by rw [hl]; exact e⟩]
  · rw [if_neg e]
    unfold blankR
    by_cases h : x ≠ 2 * i ∧ lev x ≤ r ∧ x = anc (2 * i) (lev x)
    · rw [if_pos h, if_pos ⟨h.1, by omega, h.2.2⟩]
    · rw [if_neg h, if_neg]
      rintro ⟨a, b, c⟩
      by_cases e2 : lev x ≤ r
      · exact h ⟨a, e2, c⟩
      · have : lev x = r + 1 := by omega
        rw [this] at c
        exact e c
theorem blankR_end (t : List NodeD) {d i x : Nat} (hd : d ≤ 16) (hx : x + 1 < 2 ^ (d + 1)) : blankR t i d x = blankF t i x := by
  have h17 := two_pow_le (show d + 1 ≤ 17 by omega)
  have hl := (lev_root hx (lev_is (by omega))).1
  unfold blankR blankF
  by_cases h : x ≠ 2 * i ∧ x = anc (2 * i) (lev x)
  · rw [if_pos h, if_pos ⟨h.1, hl, h.2⟩]
  · rw [if_neg h, if_neg (by rintro ⟨a, b, c⟩; exact h ⟨a, c⟩)]
theorem setF_blank (t : List NodeD) (i : Nat) (y : NodeD) (x : Nat) : setF t i y x = if x = 2 * i then y else blankF t i x := by
  unfold setF blankF
  by_cases h : x = 2 * i
  · rw [if_pos h, if_pos h]
  · rw [if_neg h, if_neg h]
    by_cases c : x = anc (2 * i) (lev x)
    · rw [if_pos c, if_pos ⟨h, c⟩]
    · rw [if_neg c, if_neg (fun hh => c hh.2)]
/-- the half on the right of so many leaves has a leaf that isn't blank -/
def halfS (F : Nat → NodeD) (k : Nat) : Bool := someK ((listT (2 * 2 ^ k - 1) F).drop (2 ^ k))
/-- how far down the halving goes -/
def cutK (F : Nat → NodeD) : Nat → Nat
  | 0 => 0
  | k + 1 => if halfS F (k + 1) = true then k + 1 else cutK F k
theorem cutK_le (F : Nat → NodeD) : ∀ k, cutK F k ≤ k
  | 0 => Nat.le_refl _
  | k + 1 => by
    unfold cutK
    split
    · exact Nat.le_refl _
    · exact Nat.le_succ_of_le (cutK_le F k)
theorem halfS_iff (F : Nat → NodeD) (k : Nat) : halfS F k = true ↔ ∃ x, 2 ^ k ≤ x ∧ x < 2 * 2 ^ k - 1 ∧ (F x).kind = 1 := by
  have hp := pow_pos' k
  constructor
  · intro h
    unfold halfS someK at h
    rw [List.any_eq_true] at h
    obtain ⟨y, hy, hk⟩ := h
    obtain ⟨j, hj, rfl⟩ := List.getElem_of_mem hy
    rw [List.length_drop, listT_len] at hj
    refine ⟨2 ^ k + j, by omega, by omega, ?_⟩
    rw [List.getElem_drop] at hk
    have := listT_nd (F := F) (show 2 ^ k + j < 2 * 2 ^ k - 1 by omega)
    rw [nd, List.getD_eq_getElem?_getD, List.getElem?_eq_getElem (by rw [listT_len]; omega)] at this
    simp only [Option.getD_some] at this
    rw [← this]
    simpa using hk
  · rintro ⟨x, h1, h2, h3⟩
    unfold halfS
    refine someK_yes (i := x - 2 ^ k) (by rw [List.length_drop, listT_len]; omega) ?_
    rw [nd_drop, show 2 ^ k + (x - 2 ^ k) = x by omega, listT_nd h2]
    exact h3
theorem listT_take {n m : Nat} (F : Nat → NodeD) (h : m ≤ n) : (listT n F).take m = listT m F := by
  unfold listT
  rw [← List.map_take, List.take_range, Nat.min_eq_left h]
end Go.Proofs.Ytlcmodbjbdfloaa
