/- A small vocabulary for slices whose elements are one cell each: a slice that reads as a list; a slice that the call itself owns; append. -/
import Derived.WalkKit
import Derived.Laws.CopyOwn
import Derived.Lib.Hide
namespace Go.Proofs.Ytfpjpakjlhidkaa
open Go.RowKit

/-- The slice type t has elements of the type e, one cell each, of so many bytes; z is the element's zero. -/
structure Elem (P : Program) (t e : TypeId) (z : Value) (bytes : Nat) : Prop where
  ty : P.underlying t = some (.slice e)
  inf : (P.info? e).map (fun i => (i.zero, i.size, i.bytes)) = some (some z, 1, bytes)
  one : z.cells.size = 1
  low : bytes ≤ 64

/-- In the world w the value v is a slice that reads as the list xs. -/
def Rd (w : World) (v : Value) (xs : List Value) : Prop :=
  ∃ a cap, v = .slice a xs.length cap ∧ xs.length ≤ cap ∧ cap ≤ maxLen ∧
    (xs = [] ∨ ∃ b off, a = some ⟨b, off, none⟩ ∧ ∀ (j : Nat) u, xs[j]? = some u → w.cell? ⟨b, off + j, none⟩ = some u)

/-- The slice v of the call's own memory (blocks from B on) reads as xs. -/
def Own (w : World) (B : Nat) (e : TypeId) (v : Value) (xs : List Value) : Prop := w.ownsRow B e 1 v xs.length xs

theorem Own.rd {w : World} {B : Nat} {e : TypeId} {v : Value} {xs : List Value} (h : Own w B e v xs) : Rd w v xs := by
  have hc := fun g => World.ownsRow.cells (g := g) h
  obtain ⟨_, h⟩ := h
  rcases h with ⟨rfl, h0⟩ | ⟨g, cap, cur, rfl, hg, hh, hn, hm, hs, ht⟩
  · have : xs = [] := List.eq_nil_of_length_eq_zero h0
    subst this
    exact ⟨none, 0, rfl, Nat.le_refl _, Nat.zero_le _, .inl rfl⟩
  · refine ⟨_, cap, rfl, hn, hm, .inr ⟨g, 0, rfl, ?_⟩⟩
    intro j u hu
    have := hc g rfl j u hu
    simpa [Addr.add_lit] using this

theorem Rd.lt {w : World} {v : Value} {xs : List Value} (h : Rd w v xs) : xs = [] ∨ ∃ b off cap, v = .slice (some ⟨b, off, none⟩) xs.length cap ∧ b < w.heap.size := by
  obtain ⟨a, cap, rfl, _, _, h | ⟨b, off, rfl, hc⟩⟩ := h
  · exact .inl h
  · cases xs with
    | nil => exact .inl rfl
    | cons x xs => exact .inr ⟨b, off, cap, rfl, World.block_lt_of_cell? w _ (hc 0 x rfl)⟩

/-- What stood there stays as it was behind a call that only makes new memory. -/
theorem Rd.below {w w' : World} {B : Nat} {v : Value} {xs : List Value} (h : Rd w v xs) (hb : Below B w w') (hB : w.heap.size ≤ B) : Rd w' v xs := by
  obtain ⟨a, cap, rfl, h1, h2, h | ⟨b, off, rfl, hc⟩⟩ := h
  · exact ⟨a, cap, rfl, h1, h2, .inl h⟩
  · refine ⟨_, cap, rfl, h1, h2, .inr ⟨b, off, rfl, ?_⟩⟩
    intro j u hu
    have := hc j u hu
    have hl := World.block_lt_of_cell? w _ this
    rw [hb.cell (by simp only at hl ⊢; omega)]
    exact this
theorem Rd.alloc {w : World} {v : Value} {xs : List Value} (h : Rd w v xs) (o : Obj) : Rd (w.alloc o) v xs :=
  h.below ((Below.refl w.heap.size _).alloc (Nat.le_refl _) o) (Nat.le_refl _)
theorem Rd.drew {w : World} {v : Value} {xs : List Value} (h : Rd w v xs) : Rd w.drew v xs := h

theorem Own.nil (w : World) (B : Nat) (e : TypeId) : Own w B e (.slice none 0 0) [] := World.ownsRow_nil w B e 1
theorem Own.alloc {w : World} {B : Nat} {e : TypeId} {v : Value} {xs : List Value} (h : Own w B e v xs) (o : Obj) : Own (w.alloc o) B e v xs := World.ownsRow.alloc h o
theorem Own.mono {w : World} {B B' : Nat} {e : TypeId} {v : Value} {xs : List Value} (h : Own w B e v xs) (hB : B' ≤ B) : Own w B' e v xs := by
  obtain ⟨h0, h | ⟨g, cap, cur, hv, hg, r⟩⟩ := h
  · exact ⟨h0, .inl h⟩
  · exact ⟨h0, .inr ⟨g, cap, cur, hv, by omega, r⟩⟩
theorem Own.below {w w' : World} {B B' : Nat} {e : TypeId} {v : Value} {xs : List Value} (h : Own w B e v xs) (hb : Below B' w w') (hB : w.heap.size ≤ B') : Own w' B e v xs := by
  obtain ⟨h0, h | ⟨g, cap, cur, hv, hg, hh, r⟩⟩ := h
  · exact ⟨h0, .inl h⟩
  · refine ⟨h0, .inr ⟨g, cap, cur, hv, hg, ?_, r⟩⟩
    have hl : g < w.heap.size := by
      rcases Nat.lt_or_ge g w.heap.size with h' | h'
      · exact h'
      · simp [Array.getElem?_eq_none h'] at hh
    rw [hb.block g (by omega)]
    exact hh
/-- Which slice the call owns, written out. -/
theorem Own.out {w : World} {B : Nat} {e : TypeId} {v : Value} {xs : List Value} (h : Own w B e v xs) (hx : xs ≠ []) :
    ∃ g cap cur, v = .slice (some ⟨g, 0, none⟩) xs.length cap ∧ B ≤ g ∧ g < w.heap.size ∧ w.heap[g]? = some (.cells cur e (0, 0)) ∧ xs.length ≤ cap ∧ cap ≤ maxLen ∧ cur.size = cap ∧ cur.toList.take xs.length = xs ∧
      (∀ (j : Nat) u, xs[j]? = some u → w.cell? ⟨g, j, none⟩ = some u) ∧ (∀ j : Nat, w.frozen? ⟨g, j, none⟩ = false) := by
  have hc := fun g => World.ownsRow.cells (g := g) h
  obtain ⟨_, h⟩ := h
  rcases h with ⟨rfl, h0⟩ | ⟨g, cap, cur, rfl, hg, hh, hn, hm, hs, ht⟩
  · exact absurd (List.eq_nil_of_length_eq_zero h0) hx
  · refine ⟨g, cap, cur, rfl, hg, ?_, hh, hn, hm, by simpa using hs, by simpa using ht, ?_, ?_⟩
    · rcases Nat.lt_or_ge g w.heap.size with h' | h'
      · exact h'
      · simp [Array.getElem?_eq_none h'] at hh
    · intro j u hu
      have := hc g rfl j u hu
      simpa [Addr.add_lit] using this
    · intro j
      exact frozen_of_row w g j cur e hh

section
variable {P : Program} {w : World}

/-- 's = append(s, x)' on a slice that the call owns. -/
theorem wpList_push {ops : Array Oper} {rest : List Oper} {o : Oper} {a : Act} {Q : Exit → Act → World → Prop} (hgd : o.guard = none) (s x : Operand) (t : TypeId)
    (ho : o.op = .call { callee := .builtin .append, args := #[s, x], argTypes := #[t, t] })
    (B : Nat) (e : TypeId) (z : Value) (bytes : Nat) (F : Elem P t e z bytes)
    (v : Value) (xs : List Value) (hs : a.eval s = v) (hown : Own w B e v xs)
    (ad : Addr) (u : Value) (hx : a.eval x = .slice (some ad) 1 1) (hu : w.cell? ad = some u) (h1 : u.oneCell' = true)
    (hn : xs.length < 1099511627776) (hB : B ≤ w.heap.size)
    (h : ∀ v' w', Own w' B e v' (xs ++ [u]) → w.grownBy w' v.ownBlock → Below B w w' → wpList P ops Q rest (a.put o.dst v') w') : wpList P ops Q (o :: rest) a w := by
  obtain ⟨i, hi, hz, hsz, hby⟩ := info_parts F.inf
  have low := F.low
  refine wpList_append_own w hgd s x t ho B e i z 1 bytes F.ty hi hz hsz hby F.one (by omega) v xs.length xs hs hown ad 1 1 [u] hx rfl ?_ (by simpa using h1) ?_ ?_ hB ?_
  · intro j y hy
    cases j with
    | zero =>
      have : ad.add 0 = ad := by unfold Addr.add; split <;> simp_all
      rw [this]; simp at hy; rw [← hy]; exact hu
    | succ j => simp at hy
  · unfold maxLen; omega
  · have : (xs.length + 1) * bytes ≤ (xs.length + 1) * 64 := Nat.mul_le_mul_left _ low
    omega
  · intro v' w' h2 h3 _
    have e1 : (xs ++ [u]).length = xs.length + 1 := by simp
    refine h v' w' (by unfold Own; rw [e1]; exact h2) h3 ?_
    refine (Below.refl B w).grown h3 hB ?_
    intro k hk
    exact (World.ownsRow.lt hown k hk).1

/-- 's = append(s, r...)' on a slice that the call owns: r reads as a list. -/
theorem wpList_pushes {ops : Array Oper} {rest : List Oper} {o : Oper} {a : Act} {Q : Exit → Act → World → Prop} (hgd : o.guard = none) (s x : Operand) (t : TypeId)
    (ho : o.op = .call { callee := .builtin .append, args := #[s, x], argTypes := #[t, t] })
    (B : Nat) (e : TypeId) (z : Value) (bytes : Nat) (F : Elem P t e z bytes)
    (v : Value) (xs : List Value) (hs : a.eval s = v) (hown : Own w B e v xs)
    (ad : Addr) (cap : Nat) (ys : List Value) (hx : a.eval x = .slice (some ad) ys.length cap) (hu : ∀ (j : Nat) u, ys[j]? = some u → w.cell? (ad.add j) = some u) (h1 : ∀ u ∈ ys, u.oneCell' = true)
    (hn : xs.length + ys.length < 1099511627776) (hB : B ≤ w.heap.size)
    (h : ∀ v' w', Own w' B e v' (xs ++ ys) → w.grownBy w' v.ownBlock → Below B w w' → wpList P ops Q rest (a.put o.dst v') w') : wpList P ops Q (o :: rest) a w := by
  obtain ⟨i, hi, hz, hsz, hby⟩ := info_parts F.inf
  have low := F.low
  refine wpList_append_own w hgd s x t ho B e i z 1 bytes F.ty hi hz hsz hby F.one (by omega) v xs.length xs hs hown ad ys.length cap ys hx (by omega) hu h1 ?_ ?_ hB ?_
  · unfold maxLen; omega
  · have : (xs.length + ys.length) * bytes ≤ (xs.length + ys.length) * 64 := Nat.mul_le_mul_left _ low
    omega
  · intro v' w' h2 h3 _
    have e1 : (xs ++ ys).length = xs.length + ys.length := by simp
    refine h v' w' (by unfold Own; rw [e1]; exact h2) h3 ?_
    refine (Below.refl B w).grown h3 hB ?_
    intro k hk
    exact (World.ownsRow.lt hown k hk).1
end

/-- 'a[i]' of an array's value whose elements are one cell each. -/
theorem run_index_arr {P : Program} (w : World) {T E len : Nat} {d : TypeDesc} (hT : P.underlying T = some (.array len E)) (hd : (match d with | .struct _ | .array _ _ => true | _ => false) = false) (hE : P.underlying E = some d)
    (hs : (P.info? E).map (·.size) = some 1)
    (cs : Array Value) (k : IntKind) (i : Nat) (hi : i < len) (v : Value) (hv : cs[i]? = some v) :
    (Instr.index T (.agg cs) (.int k (i : Int))).run P w = .ok v w := by
  have ha : (isAgg E).run P w = .ok false w := by
    unfold isAgg
    rw [Sem.run_bind, run_underlying hE w]
    cases d <;> simp_all
  cases hq : P.info? E with
  | none => simp [hq] at hs
  | some inf =>
    have hs1 : inf.size = 1 := by simpa [hq] using hs
    have h0 : (0 : Int) ≤ (i : Int) ∧ (i : Int) < (len : Int) := by omega
    simp [Instr.index, asIntOf, Sem.run_bind, run_underlying hT, h0, sizeOf, typeInfo, hq, hs1, part, ha, hv]
    intro h; omega
theorem cell_new (w : World) (u : Value) (e : TypeId) : (w.alloc (.cells #[u] e)).cell? ⟨w.heap.size, 0, none⟩ = some u := by
  rw [cell_of_row _ _ _ _ _ _ (heap_alloc_new w _)]; rfl
end Go.Proofs.Ytfpjpakjlhidkaa
