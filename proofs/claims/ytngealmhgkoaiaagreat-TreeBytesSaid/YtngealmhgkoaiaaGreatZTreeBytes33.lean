/- Plain: blank nodes laid behind a tree in new memory. -/
import Derived.Test.YtngealmhgkoaiaaGreatZTreeBytes32
import Derived.Test.YtngealmhgkoaiaaGreatZTreeBytes25
import Derived.Test.YtngealmhgkoaiaaGreatZTreeBytes26
namespace Go.Proofs.YtngealmhgkoaiaaGreat
open Go.RowKit WalkM WireM
set_option linter.unusedVariables false
def zeroNode : Value := .agg #[.int .u8 0, .slice none 0 0, .slice none 0 0, .slice none 0 0, .int .u8 0, .slice none 0 0, .slice none 0 0, .slice none 0 0, .slice none 0 0, .slice none 0 0]
def zerosN (k : Nat) : List Value := (Builtin.zeroCells zeroNode.cells k).toList
theorem zerosN_get (k j : Nat) : (zerosN k)[j]? = if j < k * 10 then some (zeroNode.cells[j % 10]!) else none := by
  have e : zeroNode.cells.size = 10 := by kernel_rfl
  unfold zerosN Builtin.zeroCells
  rw [e, Array.toList_map, List.getElem?_map, Array.toList_range]
  by_cases h : j < k * 10
  · rw [if_pos h, List.getElem?_range h]; rfl
  · rw [if_neg h, List.getElem?_eq_none (by rw [List.length_range]; omega)]; rfl
theorem zerosN_len (k : Nat) : (zerosN k).length = 10 * k := by
  have e : zeroNode.cells.size = 10 := by kernel_rfl
  unfold zerosN
  rw [Array.length_toList, size_zeroCells, e, Nat.mul_comm]
theorem zerosN_one (k : Nat) : ∀ u ∈ zerosN k, u.oneCell' = true := by
  intro u hu
  obtain ⟨j, hj, rfl⟩ := List.getElem_of_mem hu
  have h := zerosN_get k j
  rw [List.getElem?_eq_getElem hj] at h
  split at h
  · simp only [Option.some.injEq] at h
    rw [h]
    have : j % 10 < 10 := Nat.mod_lt _ (by omega)
    obtain ⟨m, hm⟩ : ∃ m, m = j % 10 := ⟨_, rfl⟩
    rw [← hm] at this ⊢
    match m, this with
    | 0, _ => rfl
    | 1, _ => rfl
    | 2, _ => rfl
    | 3, _ => rfl
    | 4, _ => rfl
    | 5, _ => rfl
    | 6, _ => rfl
    | 7, _ => rfl
    | 8, _ => rfl
    | 9, _ => rfl
  · cases h
def blankL : List Value := [.int .u8 0, .slice none 0 0, .slice none 0 0, .slice none 0 0, .int .u8 0, .slice none 0 0, .slice none 0 0, .slice none 0 0, .slice none 0 0, .slice none 0 0]
theorem cellsAt_zeros {xs : List Value} {n k j : Nat} (h : xs.length = 10 * n) (hj : n ≤ j) (hk : j < n + k) : cellsAt (xs ++ zerosN k) j = blankL := by
  apply List.ext_getElem?
  intro i
  rw [cellsAt_get?]
  by_cases hi : i < 10
  · rw [if_pos hi, List.getElem?_append_right (by omega), zerosN_get, if_pos (by omega)]
    have e : (10 * j + i - xs.length) % 10 = i := by omega
    rw [e]
    match i, hi with
    | 0, _ => rfl
    | 1, _ => rfl
    | 2, _ => rfl
    | 3, _ => rfl
    | 4, _ => rfl
    | 5, _ => rfl
    | 6, _ => rfl
    | 7, _ => rfl
    | 8, _ => rfl
    | 9, _ => rfl
  · rw [if_neg hi, List.getElem?_eq_none (show blankL.length ≤ i by show 10 ≤ i; omega)]
/-- blank nodes behind a tree -/
theorem treeF_zeros {w w' : World} {B : Nat} {v v' : Value} {t : List NodeD} {k : Nat} {xs : List Value} (h : OwnK w B 54 10 v t.length xs) (hn : NodesO w B xs t t.length) (hg : w.grownBy w' v.ownBlock) (h' : OwnK w' B 54 10 v' (t.length + k) (xs ++ zerosN k)) :
    TreeF w' B v' (t.length + k) (nd t) := by
  have hn' := hn.grown h hg
  have hl := hn.1
  have late0 : ∀ j, t.length ≤ j → j < t.length + k → lateV (xs ++ zerosN k) j = .slice none 0 0 := fun j h1 h2 => by unfold lateV; rw [cellsAt_zeros hl h1 h2]; rfl
  have lateO : ∀ j, j < t.length → lateV (xs ++ zerosN k) j = lateV xs j := fun j h1 => by unfold lateV; rw [cellsAt_old hl h1]
  refine ⟨_, h', by rw [List.length_append, hl, zerosN_len]; omega, fun j hj => ?_, fun j i hji hi => ?_⟩
  · by_cases e : j < t.length
    · rw [cellsAt_old hl e]; exact hn'.2.1 j e
    · rw [cellsAt_zeros hl (by omega) hj]
      have : nd t j = noNodeD := by unfold nd; rw [List.getD_eq_getElem?_getD, List.getElem?_eq_none (by omega)]; rfl
      rw [this]
      exact noNode_o w' B
  · by_cases e : i < t.length
    · rw [lateO j (by omega), lateO i e]; exact hn'.2.2 j i hji e
    · intro g h1 h2
      rw [late0 i (by omega) hi] at h2
      simp [Value.ownBlock] at h2
/-- 'append(s, make([]T, 0)...)' -/
theorem run_app_zeros0 {P : Program} {w : World} (t tn ty e : TypeId) (z : Value) (kc bytes : Nat) (F : ElemK P t e z kc bytes) (kn : IntKind) (htn : P.underlying tn = some (.int kn)) (g n cap : Nat) (hn : n ≤ cap) :
    (Builtin.append_ #[t, tn] ty #[.slice (some ⟨g, 0, none⟩) n cap, .int .i64 0]).run P w = .ok (.slice (some ⟨g, 0, none⟩) n cap) w := by
  obtain ⟨i, hi, hz, hsz, hby⟩ := info_partsK F.inf
  have ht := F.ty
  have hw : IntKind.i64.wrap (0 : Int) = 0 := by rw [IntKind.wrap_i64]; omega
  simp [Builtin.append_, run_underlying ht, run_underlying htn, sizeOf, typeInfo, zeroValue, hi, hz, asInt, asIntOf, hw, hn, storeCells]
/-- blank nodes are laid behind a tree that the call owns -/
theorem run_zeros {w : World} {B : Nat} {v : Value} {t : List NodeD} (h : TreeO w B v t) (hp : 0 < t.length) (hn : t.length ≤ 1000000) (k : Nat) (hk : k ≤ 1000000) (hB : B ≤ w.heap.size) :
    ∃ v' w', (Builtin.append_ #[22, 3] 22 #[v, .int .i64 (k : Nat)]).run Tryz.prog w = .ok v' w' ∧ TreeF w' B v' (t.length + k) (nd t) ∧ w.grownBy w' v.ownBlock := by
  obtain ⟨xs, h1, h2⟩ := h
  by_cases h0 : k = 0
  · subst h0
    obtain ⟨g, cap, rfl, hB, hlt, hn, hm, -⟩ := h1.out hp
    exact ⟨_, w, run_app_zeros0 _ _ _ _ _ _ _ treesE .i64 Tryz.underlying3 g t.length cap hn, TreeO.f ⟨xs, h1, h2⟩, ⟨rfl, rfl, rfl, Nat.le_refl _, fun _ _ _ => rfl⟩⟩
  · obtain ⟨v', w', r1, r2, r3⟩ := run_app_zerosK 22 3 22 54 zeroNode 10 208 treesE .i64 Tryz.underlying3 v t.length xs h1 hp k (by omega) (zerosN_one k) (by omega) hB
    exact ⟨v', w', r1, treeF_zeros h1 h2 r3 r2, r3⟩
theorem TreeO.mono {w : World} {B B' : Nat} {v : Value} {t : List NodeD} (h : TreeO w B v t) (hB : B' ≤ B) : TreeO w B' v t := by
  obtain ⟨xs, k1, k2⟩ := h
  exact ⟨xs, k1.mono hB, k2.1, fun j hj => (k2.2.1 j hj).mono hB, k2.2.2⟩
theorem TreeO.sl {w : World} {B : Nat} {v : Value} {t : List NodeD} (h : TreeO w B v t) (hp : 0 < t.length) : ∃ g cap, v = .slice (some ⟨g, 0, none⟩) t.length cap ∧ B ≤ g ∧ g < w.heap.size ∧ cap ≤ 9223372036854775807 := by
  obtain ⟨xs, k1, k2⟩ := h
  obtain ⟨g, cap, e, h1, h2, h3, h4, _⟩ := k1.out hp
  exact ⟨g, cap, e, h1, h2, by unfold maxLen at h4; exact h4⟩
end Go.Proofs.YtngealmhgkoaiaaGreat
