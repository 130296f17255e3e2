/- Slices as they come in. -/
import Derived.Test.YtngealmhgkoaiaaGreatZTreeBytes06
import Derived.Deep.Slices
import Derived.Deep.Fields
import Derived.ChangeSame
namespace Go.Proofs.YtngealmhgkoaiaaGreat
open Go.RowKit WireM Go.ChangeShapes Go.WideShapes Go.Deep
set_option linter.unusedVariables false
section
variable {H : Type} {enc : TypeId × Value → H} {P : Program} {w : World} {base : Nat} {spare : Nat → Bool} {held : Bool}
theorem open_slice_fields {t e : TypeId} {fs : Array Field} {fuel : Nat} {cs : List Value} {x : DataW H × List MemPlace} (ht : P.underlying t = some (.slice e)) (he : P.underlying e = some (.struct fs))
    (hone : oneCellFields P fs = true) (hC : P.cellsOf e = fs.size) (h : DataW.trod enc P w base spare held fuel t cs = some x) :
    (cs = [.slice none 0 0] ∧ x = (.nil, [])) ∨
    ∃ (a : Addr) (len cap m : Nat), cs = [.slice (some a) len cap] ∧ base ≤ a.block ∧ len ≤ cap ∧ cap ≤ maxLen ∧ m = (if spare a.block then cap else len) ∧
      ∀ i, i < m → ∃ (n : Nat), ∀ (j : Nat) (f : Field), fs[j]? = some f → ∃ (v : Value) (y : DataW H × List MemPlace), w.cell? (a.add (i * fs.size + j)) = some v ∧ DataW.trod enc P w base spare held n f.type [v] = some y := by
  rcases open_slice ht h with h0 | ⟨a, len, cap, m, n, D, Pl, hcs, hb, hl, hm, hmm, hx, hi⟩
  · exact .inl h0
  · refine .inr ⟨a, len, cap, m, hcs, hb, hl, hm, hmm, fun i him => ?_⟩
    obtain ⟨cs', hc, ht'⟩ := hi i him
    rw [hC] at hc
    obtain ⟨ys, n', hn', hy, hlen, hyl, hf⟩ := DataW.trod_struct he ht'
    obtain ⟨_, hcl, hat⟩ := World.cells?_some hc
    refine ⟨n', fun j f hj => ?_⟩
    obtain ⟨ho, hk⟩ := hone_of hone j f hj
    have hjl : j < fs.size := (Array.getElem?_eq_some_iff.1 hj).1
    have hcell := hat j hjl
    have hv : cs'[j]? = some (cs'[j]'(by omega)) := List.getElem?_eq_getElem (by omega)
    have h1 := hf j f hj
    rw [ho, hk] at h1
    have hone' : (cs'.drop j).take 1 = [cs'[j]'(by omega)] := by
      rw [List.drop_eq_getElem_cons (by omega)]
      rfl
    rw [hone'] at h1
    have hys : ys[j]? = some (ys[j]'(by omega)) := List.getElem?_eq_getElem (by omega)
    refine ⟨_, _, ?_, h1.trans hys⟩
    rw [← Go.Deep.add_add, hcell, hv]
/-- a list of bytes, from its reading alone -/
theorem trod_bytes {T E : TypeId} (hT : P.underlying T = some (.slice E)) (hE : P.underlying E = some (.int .u8)) (hc : P.cellsOf E = 1) {v : Value} {fuel : Nat} {x : DataW H × List MemPlace}
    (h : DataW.trod enc P w base spare held fuel T [v] = some x) : ∃ L : List Nat, (∀ n ∈ L, n < 256) ∧ Rd w v (bvs L) := by
  rcases open_ints hT hE hc h with ⟨hcs, _⟩ | ⟨a, l, c, zs, hcs, _, hl, hm, hz, _, hcell, hwz⟩
  · simp only [List.cons.injEq, and_true] at hcs
    subst hcs
    exact ⟨[], by simp, none, 0, rfl, Nat.le_refl _, Nat.zero_le _, .inl ⟨rfl, fun _ => rfl⟩⟩
  · simp only [List.cons.injEq, and_true] at hcs
    subst hcs
    have hz' : l ≤ zs.length := by rw [hz]; split <;> omega
    have hlen : (bvs ((zs.take l).map Int.toNat)).length = l := by simp [bvs]; omega
    refine ⟨(zs.take l).map Int.toNat, ?_, some a, c, by rw [hlen], by rw [hlen]; exact hl, hm, ?_⟩
    · intro n hn
      obtain ⟨z, hz1, rfl⟩ := List.mem_map.1 hn
      obtain ⟨n, hn, rfl⟩ := nat_u8 (hwz z (List.mem_of_mem_take hz1))
      omega
    · by_cases h0 : l = 0
      · left; subst h0; simp [bvs]
      · right
        obtain ⟨b, off, spot⟩ := a
        have hc0 := hcell 0 (by omega)
        have hspot : spot = none := by simpa [Addr.add] using World.cell?_spot hc0
        subst hspot
        refine ⟨b, off, rfl, ?_⟩
        intro j u hu
        have hj : j < l := by
          rcases Nat.lt_or_ge j l with h | h
          · exact h
          · rw [List.getElem?_eq_none (by rw [hlen]; exact h)] at hu; cases hu
        have h5 := hcell j (by omega)
        rw [Addr.add_lit] at h5
        have hjz : j < zs.length := by omega
        obtain ⟨n, hn, hn2⟩ := nat_u8 (hwz zs[j] (List.getElem_mem hjz))
        rw [h5, ← hu]
        simp [bvs, hj, hjz, hn2]
/-- a list of lists of bytes -/
theorem trod_rows {T S E : TypeId} (hT : P.underlying T = some (.slice S)) (hS : P.underlying S = some (.slice E)) (hE : P.underlying E = some (.int .u8)) (hc : P.cellsOf E = 1) (hcS : P.cellsOf S = 1) {v : Value} {fuel : Nat} {x : DataW H × List MemPlace}
    (h : DataW.trod enc P w base spare held fuel T [v] = some x) : ∃ L : List (List Nat), (∀ r ∈ L, ∀ n ∈ r, n < 256) ∧ RdL w v L := by
  rcases open_slice hT h with ⟨hcs, _⟩ | ⟨a, len, cap, m, n, D, Pl, hcs, hb, hl, hm, hmm, hx, hi⟩
  · simp only [List.cons.injEq, and_true] at hcs
    subst hcs
    exact ⟨[], by simp, [], ⟨none, 0, rfl, Nat.le_refl _, Nat.zero_le _, .inl ⟨rfl, fun _ => rfl⟩⟩, rfl, by simp⟩
  · simp only [List.cons.injEq, and_true] at hcs
    subst hcs
    have hlm : len ≤ m := by rw [hmm]; split <;> omega
    have hrow : ∀ i, i < len → ∃ (u : Value) (r : List Nat), w.cell? (a.add i) = some u ∧ (∀ n ∈ r, n < 256) ∧ Rd w u (bvs r) := by
      intro i hil
      obtain ⟨cs', hc', ht'⟩ := hi i (by omega)
      rw [hcS] at hc'
      obtain ⟨_, hcl, hat⟩ := World.cells?_some hc'
      obtain ⟨u, rfl⟩ : ∃ u, cs' = [u] := by
        cases cs' with
        | nil => simp at hcl
        | cons u t => cases t with
          | nil => exact ⟨u, rfl⟩
          | cons _ _ => simp at hcl
      obtain ⟨r, h1, h2⟩ := trod_bytes hS hE hc ht'
      have h3 := hat 0 (by omega)
      rw [Nat.mul_one, Go.Deep.add_add, Nat.add_zero] at h3
      exact ⟨u, r, by simpa using h3, h1, h2⟩
    have : ∀ k, k ≤ len → ∃ (us : List Value) (rs : List (List Nat)), us.length = k ∧ rs.length = k ∧ (∀ r ∈ rs, ∀ n ∈ r, n < 256) ∧ ∀ i, i < k → ∃ u r, us[i]? = some u ∧ rs[i]? = some r ∧ w.cell? (a.add i) = some u ∧ Rd w u (bvs r) := by
      intro k
      induction k with
      | zero => intro _; exact ⟨[], [], rfl, rfl, by simp, fun i h => by omega⟩
      | succ k ih =>
        intro hk
        obtain ⟨us, rs, h1, h2, h3, h4⟩ := ih (by omega)
        obtain ⟨u, r, h5, h6, h7⟩ := hrow k (by omega)
        refine ⟨us ++ [u], rs ++ [r], by simp [h1], by simp [h2], ?_, ?_⟩
        · intro q hq
          rw [List.mem_append] at hq
          rcases hq with hq | hq
          · exact h3 q hq
          · simp only [List.mem_singleton] at hq; subst hq; exact h6
        · intro i hi
          by_cases e : i < k
          · obtain ⟨u', r', k1, k2, k3, k4⟩ := h4 i e
            exact ⟨u', r', by rw [List.getElem?_append_left (by omega)]; exact k1, by rw [List.getElem?_append_left (by omega)]; exact k2, k3, k4⟩
          · obtain rfl : i = k := by omega
            exact ⟨u, r, by rw [List.getElem?_append_right (by omega), h1, Nat.sub_self]; rfl, by rw [List.getElem?_append_right (by omega), h2, Nat.sub_self]; rfl, h5, h7⟩
    obtain ⟨us, rs, h1, h2, h3, h4⟩ := this len (Nat.le_refl _)
    refine ⟨rs, h3, us, ⟨some a, cap, by rw [h1], by rw [h1]; exact hl, hm, ?_⟩, by omega, ?_⟩
    · by_cases h0 : len = 0
      · left
        exact ⟨List.eq_nil_of_length_eq_zero (by omega), fun h => by cases h⟩
      · right
        obtain ⟨b, off, spot⟩ := a
        obtain ⟨u0, r0, _, _, hc0, _⟩ := h4 0 (by omega)
        have hspot : spot = none := by simpa [Addr.add] using World.cell?_spot hc0
        subst hspot
        refine ⟨b, off, rfl, ?_⟩
        intro j u hu
        have hj : j < len := by
          rcases Nat.lt_or_ge j us.length with h | h
          · omega
          · rw [List.getElem?_eq_none h] at hu; cases hu
        obtain ⟨u', r', k1, _, k3, _⟩ := h4 j hj
        rw [k1] at hu
        cases hu
        rw [Addr.add_lit] at k3
        exact k3
    · intro i r hr
      have hil : i < len := by
        rcases Nat.lt_or_ge i rs.length with h | h
        · omega
        · rw [List.getElem?_eq_none h] at hr; cases hr
      obtain ⟨u', r', k1, k2, _, k4⟩ := h4 i hil
      rw [k2] at hr
      cases hr
      exact ⟨u', k1, k4⟩
end
theorem list_of {α : Type} (Q : Nat → α → Prop) : ∀ n, (∀ i, i < n → ∃ x, Q i x) → ∃ L : List α, L.length = n ∧ ∀ i (hi : i < L.length), Q i L[i] := by
  intro n
  induction n with
  | zero => intro _; exact ⟨[], rfl, by intro i hi; simp at hi⟩
  | succ n ih =>
    intro h
    obtain ⟨L, h1, h2⟩ := ih fun i hi => h i (by omega)
    obtain ⟨x, hx⟩ := h n (by omega)
    refine ⟨L ++ [x], by simp [h1], ?_⟩
    intro i hi
    by_cases e : i < n
    · rw [List.getElem_append_left (by omega)]
      exact h2 i (by omega)
    · have : i = n := by simp at hi; omega
      subst this
      rw [List.getElem_append_right (by omega)]
      simpa [h1] using hx
end Go.Proofs.YtngealmhgkoaiaaGreat
