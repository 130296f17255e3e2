/- Walks: the reference's Put, the law's put. -/
import Derived.Test.YtngealmhgkoaiaaGreatZTreeBytes06
import Derived.Test.YtngealmhgkoaiaaGreatZTreeBytes22
import Derived.RegionTactic
import Derived.Test.YtngealmhgkoaiaaGreatZTreeBytes27
namespace Go.Proofs.YtngealmhgkoaiaaGreat
open Go.RowKit WireM
set_option linter.unusedVariables false
structure ItemD where
  kind : Int
  size : Int
  n : Nat
  v : List Nat
  l : List (List Nat)
/-- what an item may be, as it is looked at -/
structure ItemOk (d : ItemD) : Prop where
  n : d.n < 18446744073709551616
  v : ∀ x ∈ d.v, x < 256
  l : ∀ r ∈ d.l, ∀ x ∈ r, x < 256
  kind : -9223372036854775808 ≤ d.kind ∧ d.kind ≤ 9223372036854775807
  size : -9223372036854775808 ≤ d.size ∧ d.size ≤ 9223372036854775807
/-- what isn't far -/
structure Near (d : ItemD) : Prop where
  k0 : 0 ≤ d.kind
  k4 : d.kind ≤ 4
  v : d.v.length ≤ 300
  l : d.l.length ≤ 20
  r : ∀ r ∈ d.l, r.length ≤ 200
/-- the five cells of an item -/
def ItemC (w : World) (d : ItemD) (c : Array Value) : Prop := ∃ cv cl, c = #[.int .i64 d.kind, .int .i64 d.size, .int .u64 (d.n : Nat), cv, cl] ∧ Rd w cv (bvs d.v) ∧ RdL w cl d.l
theorem ItemC.below {w w' : World} {B : Nat} {d : ItemD} {c : Array Value} (h : ItemC w d c) (hb : Below B w w') (hB : w.heap.size ≤ B) : ItemC w' d c := by
  obtain ⟨cv, cl, h1, h2, h3⟩ := h
  exact ⟨cv, cl, h1, h2.below hb hB, h3.below hb hB⟩
/-- an item's bytes -/
def putB (d : ItemD) : List Nat :=
  if d.kind = 0 then beN d.size.toNat d.n else if d.kind = 1 then vecB d.v else if d.kind = 2 then listB d.l else if d.kind = 3 then [if 0 < d.n then 1 else 0] else d.v
theorem putB_len {d : ItemD} (hn : Near d) (hs : d.kind = 0 → d.size.toNat ≤ 8) : (putB d).length ≤ 5000 := by
  have h2 := vecB_len d.v (by have := hn.v; omega)
  have h3 := catB_len d.l hn.r
  have h4 := vecB_len (catB d.l) (by have := hn.l; omega)
  have h5 := hn.v
  have h6 := hn.l
  unfold putB listB
  split
  · rename_i h
    rw [beN_len]
    have := hs h; omega
  · split
    · omega
    · split
      · omega
      · split
        · simp
        · omega
theorem catB_lt : ∀ (l : List (List Nat)), (∀ r ∈ l, r.length ≤ 200) → (∀ r ∈ l, ∀ x ∈ r, x < 256) → ∀ x ∈ catB l, x < 256 := by
  intro l h1 h2 x hx
  simp only [catB, List.mem_flatten, List.mem_map] at hx
  obtain ⟨y, ⟨r, hr, rfl⟩, hx⟩ := hx
  exact vecB_lt (by have := h1 r hr; omega) (h2 r hr) x hx
theorem putB_lt {d : ItemD} (hn : Near d) (hk : ItemOk d) : ∀ x ∈ putB d, x < 256 := by
  intro x hx
  have h3 := catB_len d.l hn.r
  have h6 := hn.l
  unfold putB listB at hx
  split at hx
  · exact beN_lt _ _ x hx
  · split at hx
    · exact vecB_lt (by have := hn.v; omega) hk.v x hx
    · split at hx
      · exact vecB_lt (by omega) (catB_lt _ hn.r hk.l) x hx
      · split at hx
        · simp only [List.mem_singleton] at hx
          subst hx
          split <;> omega
        · exact hk.v x hx
end Go.Proofs.YtngealmhgkoaiaaGreat
