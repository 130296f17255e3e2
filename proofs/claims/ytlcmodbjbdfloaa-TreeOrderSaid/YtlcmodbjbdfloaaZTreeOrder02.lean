/- Opening an argument that is a list of leaves. -/
import Derived.Test.YtlcmodbjbdfloaaZTreeAdds47
namespace Go.Proofs.Ytlcmodbjbdfloaa
open Go.RowKit Go.ChangeShapes Go.WideShapes Go.ChangeAt Go.Deep WireM
set_option linter.unusedVariables false
/-- v is a slice of leaves -/
def LeafsR (w : World) (v : Value) (t : List LeafD) : Prop :=
  ∃ a cap, v = .slice a t.length cap ∧ t.length ≤ cap ∧ cap ≤ maxLen ∧ ∀ i, i < t.length → ∃ b off c, a = some ⟨b, off, none⟩ ∧ b < w.heap.size ∧ LeafC w (t.getD i noLeafD) c ∧ w.rangeAt b (off + i * 6) c.toList
def LeafsOk (t : List LeafD) : Prop := ∀ d ∈ t, LeafOk d
theorem LeafsR.nil (w : World) : LeafsR w (.slice none 0 0) [] := ⟨none, 0, rfl, Nat.le_refl _, Nat.zero_le _, fun i hi => absurd hi (by simp)⟩
theorem LeafsR.sl {w : World} {v : Value} {t : List LeafD} (h : LeafsR w v t) : ∃ a c, v = .slice a t.length c ∧ t.length ≤ c ∧ c ≤ 9223372036854775807 := by
  obtain ⟨a, cap, e, h1, h2, _⟩ := h
  unfold maxLen at h2
  exact ⟨a, cap, e, h1, h2⟩
theorem LeafsOk.at {t : List LeafD} (h : LeafsOk t) (i : Nat) : LeafOk (t.getD i noLeafD) := by
  rw [List.getD_eq_getElem?_getD]
  by_cases hi : i < t.length
  · rw [List.getElem?_eq_getElem hi]; exact h _ (List.getElem_mem hi)
  · rw [List.getElem?_eq_none (by omega)]; constructor <;> simp [noLeafD]
set_option maxRecDepth 100000 in
theorem open_leafs {H : Type} {enc : TypeId × Value → H} {W : World} {v : Value} {d : DataW H} {p : List MemPlace} {base : Nat}
    (ok : Value.okWide Try.prog W .any base 49 v) (h : DataW.Trod enc Try.prog W 0 (fun _ => true) true 49 v d p) : ∃ t : List LeafD, LeafsR W v t ∧ LeafsOk t := by
  obtain ⟨a0, len0, cap0, rfl⟩ := okWide_slice Try.underlying49 ok
  obtain ⟨fuel, hf⟩ := h
  rcases open_slice Try.underlying49 hf with ⟨hcs, _⟩ | ⟨a, len, cap, m, n, D, Pl, hcs, hb, hl, hm, hmm, hx, hi⟩
  · simp [Value.cells] at hcs
    obtain ⟨rfl, rfl, rfl⟩ := hcs
    exact ⟨[], LeafsR.nil _, fun d hd => by cases hd⟩
  · simp [Value.cells] at hcs
    obtain ⟨rfl, rfl, rfl⟩ := hcs
    have hlm : len0 ≤ m := by rw [hmm]; split <;> omega
    have key : ∀ i, i < len0 → ∃ D : LeafD, LeafOk D ∧ ∃ b off c, some a = some ⟨b, off, none⟩ ∧ b < W.heap.size ∧ LeafC W D c ∧ W.rangeAt b (off + i * 6) c.toList := by
      intro i hil
      obtain ⟨cs', hc', ht'⟩ := hi i (by omega)
      rw [c53] at hc'
      obtain ⟨_, hcl, hat⟩ := World.cells?_some hc'
      obtain ⟨D, hD, hok⟩ := trod_leaf hcl ht'
      obtain ⟨b, off, spot⟩ := a
      have hz := hat 0 (by omega)
      have h0 : cs'[0]? = some (cs'[0]'(by omega)) := List.getElem?_eq_getElem (by omega)
      rw [h0] at hz
      have hspot : spot = none := by
        obtain ⟨cs0, hc0, _⟩ := hi 0 (by omega)
        rw [c53] at hc0
        obtain ⟨_, hcl0, hat0⟩ := World.cells?_some hc0
        have hz0 := hat0 0 (by omega)
        rw [List.getElem?_eq_getElem (show 0 < cs0.length by omega)] at hz0
        simpa [Addr.add] using World.cell?_spot hz0
      subst hspot
      refine ⟨D, hok, b, off, cs'.toArray, rfl, ?_, hD, ?_⟩
      · rw [Addr.add_lit, Addr.add_lit] at hz
        exact World.block_lt_of_cell? W _ hz
      · intro j u hu
        have hj : j < 6 := by
          rcases Nat.lt_or_ge j cs'.length with h | h
          · omega
          · rw [List.getElem?_eq_none h] at hu; cases hu
        have := hat j hj
        rw [Addr.add_lit, Addr.add_lit] at this
        rw [this]; exact hu
    obtain ⟨ds, h1, h2⟩ := list_of _ len0 key
    have hnd : ∀ i (hi : i < ds.length), ds.getD i noLeafD = ds[i] := fun i hi => by rw [List.getD_eq_getElem?_getD, List.getElem?_eq_getElem hi]; rfl
    refine ⟨ds, ⟨some a, cap0, by rw [h1], by omega, hm, ?_⟩, ?_⟩
    · intro i hi
      rw [hnd i hi]
      exact (h2 i hi).2
    · intro x hx
      obtain ⟨i, hi, rfl⟩ := List.getElem_of_mem hx
      exact (h2 i hi).1
end Go.Proofs.Ytlcmodbjbdfloaa
