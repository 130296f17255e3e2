/- Slices of slices that the call itself owns. -/
import Derived.Test.YtfpjpakjlhidkaaMem
namespace Go.Proofs.Ytfpjpakjlhidkaa
open Go.RowKit

/-- r is a slice (elements of the type eo) of slices (elements of the type ei) that read as the rows. -/
def Grid (w : World) (B : Nat) (eo ei : TypeId) (r : Value) (rows : List (List Value)) : Prop :=
  ∃ vs : List Value, Own w B eo r vs ∧ vs.length = rows.length ∧ ∀ (i : Nat) (xs : List Value), rows[i]? = some xs →
    ∃ v, vs[i]? = some v ∧ Own w B ei v xs ∧ v.oneCell' = true

theorem Own.ty {w : World} {B : Nat} {e : TypeId} {g n cap : Nat} {xs : List Value} (h : Own w B e (.slice (some ⟨g, 0, none⟩) n cap) xs) : ∃ cur, w.heap[g]? = some (.cells cur e (0, 0)) := by
  obtain ⟨_, h | ⟨g', cap', cur, hv, _, hh, _⟩⟩ := h
  · cases h.1
  · simp only [Value.slice.injEq, Option.some.injEq, Addr.mk.injEq, and_true] at hv
    obtain ⟨rfl, _, rfl⟩ := hv
    exact ⟨cur, hh⟩
theorem Own.form {w : World} {B : Nat} {e : TypeId} {v : Value} {xs : List Value} (h : Own w B e v xs) : v = .slice none 0 0 ∨ ∃ g cap, v = .slice (some ⟨g, 0, none⟩) xs.length cap := by
  obtain ⟨_, h | ⟨g, cap, cur, hv, _⟩⟩ := h
  · exact .inl h.1
  · exact .inr ⟨g, cap, hv⟩
/-- Slices of unlike elements lie in unlike blocks. -/
theorem Own.apart {w : World} {B B' : Nat} {e e' : TypeId} {v v' : Value} {xs ys : List Value} (h : Own w B e v xs) (h' : Own w B' e' v' ys) (he : e ≠ e') : v.ownBlock = none ∨ v.ownBlock ≠ v'.ownBlock := by
  rcases h.form with rfl | ⟨g, cap, rfl⟩
  · exact .inl rfl
  · right
    rcases h'.form with rfl | ⟨g', cap', rfl⟩
    · simp [Value.ownBlock]
    · simp only [Value.ownBlock, ne_eq, Option.some.injEq]
      rintro rfl
      obtain ⟨c, hc⟩ := h.ty
      obtain ⟨c', hc'⟩ := h'.ty
      rw [hc] at hc'
      simp only [Option.some.injEq, Obj.cells.injEq] at hc'
      exact he hc'.2.1
theorem Own.oneCell {w : World} {B : Nat} {e : TypeId} {v : Value} {xs : List Value} (h : Own w B e v xs) : v.oneCell' = true := by
  rcases h.form with rfl | ⟨g, cap, rfl⟩ <;> rfl

theorem Grid.nil (w : World) (B : Nat) (eo ei : TypeId) : Grid w B eo ei (.slice none 0 0) [] := ⟨[], Own.nil w B eo, rfl, by intro i xs h; simp at h⟩
theorem Grid.below {w w' : World} {B B' : Nat} {eo ei : TypeId} {r : Value} {rows : List (List Value)} (h : Grid w B eo ei r rows) (hb : Below B' w w') (hB : w.heap.size ≤ B') : Grid w' B eo ei r rows := by
  obtain ⟨vs, h1, h2, h3⟩ := h
  refine ⟨vs, h1.below hb hB, h2, ?_⟩
  intro i xs hi
  obtain ⟨v, e1, e2, e3⟩ := h3 i xs hi
  exact ⟨v, e1, e2.below hb hB, e3⟩
theorem Grid.alloc {w : World} {B : Nat} {eo ei : TypeId} {r : Value} {rows : List (List Value)} (h : Grid w B eo ei r rows) (o : Obj) : Grid (w.alloc o) B eo ei r rows :=
  h.below ((Below.refl w.heap.size _).alloc (Nat.le_refl _) o) (Nat.le_refl _)
theorem Grid.mono {w : World} {B B' : Nat} {eo ei : TypeId} {r : Value} {rows : List (List Value)} (h : Grid w B eo ei r rows) (hB : B' ≤ B) : Grid w B' eo ei r rows := by
  obtain ⟨vs, h1, h2, h3⟩ := h
  refine ⟨vs, h1.mono hB, h2, ?_⟩
  intro i xs hi
  obtain ⟨v, e1, e2, e3⟩ := h3 i xs hi
  exact ⟨v, e1, e2.mono hB, e3⟩
theorem Grid.drewN {w : World} {B : Nat} {eo ei : TypeId} {r : Value} {rows : List (List Value)} (h : Grid w B eo ei r rows) (n : Nat) : Grid (w.drewN n) B eo ei r rows := h

section
variable {P : Program} {w : World}
/-- 's = append(s, r)', r a slice that the call owns too. -/
theorem wpList_pushRow {ops : Array Oper} {rest : List Oper} {o : Oper} {a : Act} {Q : Exit → Act → World → Prop} (hgd : o.guard = none) (s x : Operand) (t : TypeId)
    (ho : o.op = .call { callee := .builtin .append, args := #[s, x], argTypes := #[t, t] })
    (B : Nat) (eo ei : TypeId) (z : Value) (bytes : Nat) (F : Elem P t eo z bytes) (hne : ei ≠ eo)
    (v : Value) (rows : List (List Value)) (hs : a.eval s = v) (hown : Grid w B eo ei v rows)
    (ad : Addr) (u : Value) (xs : List Value) (hx : a.eval x = .slice (some ad) 1 1) (hu : w.cell? ad = some u) (hr : Own w B ei u xs)
    (hn : rows.length < 1099511627776) (hB : B ≤ w.heap.size)
    (h : ∀ v' w', Grid w' B eo ei v' (rows ++ [xs]) → Below B w w' → wpList P ops Q rest (a.put o.dst v') w') : wpList P ops Q (o :: rest) a w := by
  obtain ⟨vs, h1, h2, h3⟩ := hown
  refine wpList_push hgd s x t ho B eo z bytes F v vs hs h1 ad u hx hu hr.oneCell (by omega) hB ?_
  intro v' w' ho' hg hb
  refine h v' w' ⟨vs ++ [u], ho', by simp [h2], ?_⟩ hb
  intro i ys hi
  rcases Nat.lt_or_ge i rows.length with hlt | hge
  · rw [List.getElem?_append_left hlt] at hi
    obtain ⟨y, e1, e2, e3⟩ := h3 i ys hi
    exact ⟨y, by rw [List.getElem?_append_left (by omega)]; exact e1, World.ownsRow.kept e2 hg (e2.apart h1 hne), e3⟩
  · rw [List.getElem?_append_right hge] at hi
    have hi0 : i - rows.length = 0 := by
      rcases Nat.eq_zero_or_pos (i - rows.length) with h | h
      · exact h
      · rw [List.getElem?_eq_none (by simp; omega)] at hi; cases hi
    rw [hi0] at hi
    simp only [List.getElem?_cons_zero, Option.some.injEq] at hi
    subst hi
    refine ⟨u, ?_, World.ownsRow.kept hr hg (hr.apart h1 hne), hr.oneCell⟩
    rw [List.getElem?_append_right (by omega), h2, hi0]
    rfl
end
/-- A row, written out. -/
theorem Grid.row {w : World} {B : Nat} {eo ei : TypeId} {go no co : Nat} {rows : List (List Value)} (h : Grid w B eo ei (.slice (some ⟨go, 0, none⟩) no co) rows) {i : Nat} {xs : List Value} (hi : rows[i]? = some xs) (hx : xs ≠ []) :
    ∃ g cap, w.cell? ⟨go, i, none⟩ = some (.slice (some ⟨g, 0, none⟩) xs.length cap) ∧ xs.length ≤ cap ∧ cap ≤ maxLen ∧ g < w.heap.size ∧ (∀ (j : Nat) u, xs[j]? = some u → w.cell? ⟨g, j, none⟩ = some u) := by
  obtain ⟨vs, h1, h2, h3⟩ := h
  obtain ⟨v, e1, e2, e3⟩ := h3 i xs hi
  obtain ⟨g, cap, cur, rfl, _, hgl, _, hc1, hc2, _, _, hc, _⟩ := e2.out hx
  exact ⟨g, cap, h1.at.1 i _ e1, hc1, hc2, hgl, hc⟩
theorem Grid.outer {w : World} {B : Nat} {eo ei : TypeId} {r : Value} {rows : List (List Value)} (h : Grid w B eo ei r rows) (hx : rows ≠ []) :
    ∃ g cap, r = .slice (some ⟨g, 0, none⟩) rows.length cap ∧ rows.length ≤ cap ∧ cap ≤ maxLen ∧ g < w.heap.size := by
  obtain ⟨vs, h1, h2, _⟩ := h
  have hv : vs ≠ [] := by
    rintro rfl
    apply hx
    exact List.eq_nil_of_length_eq_zero (by simpa using h2.symm)
  obtain ⟨g, cap, cur, rfl, _, hgl, _, hc1, hc2, _⟩ := h1.out hv
  exact ⟨g, cap, by rw [h2], by omega, hc2, hgl⟩
end Go.Proofs.Ytfpjpakjlhidkaa
