/- Plain: what is digested are bytes. -/
import Derived.Test.YtlcmodbjbdfloaaZTreeAdds26
import Derived.Test.YtlcmodbjbdfloaaZTreeAdds32
import Derived.Test.YtlcmodbjbdfloaaZTreeAdds07
import Derived.Deep.MidRow
namespace Go.Proofs.Ytlcmodbjbdfloaa
open Go.RowKit WalkM ShaM WireM
set_option linter.unusedVariables false
theorem woD_ok {t : List NodeD} (hok : TreeOk t) (ps : List Int) (x : Nat) : NodeOk (woD t ps x) := by
  have h := hok.nd x
  unfold woD
  split
  · split
    · exact noNode_ok
    · exact h
  · exact ⟨h.kind, h.source, h.box, h.sign, h.ident, h.par, h.sig, h.pbox, h.hash, fun u hu => h.late u (List.mem_filter.1 hu).1⟩
theorem textN_lt' (t : Nat → NodeD) (hk : ∀ x, NodeOk (t x)) (hs : ∀ x, smallB (t x) = true) (k x : Nat) : ∀ y ∈ textN t k x, y < 256 := by
  have hn := nodeB_lt (hk x) (hs x)
  intro y hy
  cases k with
  | zero =>
    rw [textN_zero] at hy
    simp only [List.mem_append, List.mem_cons, List.not_mem_nil, or_false] at hy
    rcases hy with (rfl | hy) | hy
    · omega
    · exact beN_lt _ _ y hy
    · exact hn y hy
  | succ k =>
    rw [textN_succ] at hy
    simp only [List.mem_append, List.mem_cons, List.not_mem_nil, or_false] at hy
    rcases hy with (rfl | hy) | hy | hy
    · omega
    · exact hn y hy
    · exact vecB_lt (by rw [hashN_len]; omega) (hashN_lt _ _ _) y hy
    · exact vecB_lt (by rw [hashN_len]; omega) (hashN_lt _ _ _) y hy
end Go.Proofs.Ytlcmodbjbdfloaa
/- Walks: hash.fill. -/
namespace Go.Proofs.Ytlcmodbjbdfloaa
open Go.RowKit WalkM ShaM WireM
set_option linter.unusedVariables false
/-- the slice lies elsewhere -/
def apartV (u : Value) (g : Nat) : Prop := ∀ a m c, u = .slice (some a) m c → a.block ≠ g
theorem apart_own {w : World} {B g : Nat} {e : TypeId} {v : Value} {xs : List Value} (h : Own w B e v xs) (hg : g < B) : apartV v g := by
  intro a m c e
  rcases h.2 with ⟨e2, _⟩ | ⟨g', cp, cur, e2, hb, _⟩
  · rw [e2] at e; cases e
  · rw [e2] at e
    simp only [Value.slice.injEq, Option.some.injEq] at e
    rw [← e.1]
    show g' ≠ g
    omega
/-- a variable that holds rows of bytes; of some it is known what they read -/
def AllR (w : World) (g n : Nat) (F : Nat → Option (List Nat)) : Prop :=
  ∃ cs : Array Value, Blk w g 23 cs ∧ cs.size = n ∧ ∀ y, y < n → ∃ u, cs[y]? = some u ∧ ∀ L, F y = some L → Rd w u (bvs L) ∧ apartV u g
theorem AllR.lt {w : World} {g n : Nat} {F : Nat → Option (List Nat)} (h : AllR w g n F) : g < w.heap.size := by
  obtain ⟨cs, hb, _⟩ := h; exact hb.lt
theorem AllR.below {w w' : World} {g n : Nat} {F : Nat → Option (List Nat)} (h : AllR w g n F) (hb : Below w.heap.size w w') : AllR w' g n F := by
  obtain ⟨cs, h1, h2, h3⟩ := h
  refine ⟨cs, h1.below hb h1.lt, h2, fun y hy => ?_⟩
  obtain ⟨u, k1, k2⟩ := h3 y hy
  exact ⟨u, k1, fun L hL => ⟨(k2 L hL).1.below hb (Nat.le_refl _), (k2 L hL).2⟩⟩
theorem AllR.alloc {w : World} {g n : Nat} {F : Nat → Option (List Nat)} (h : AllR w g n F) (o : Obj) : AllR (w.alloc o) g n F := h.below ((Below.refl _ _).alloc (Nat.le_refl _) o)
theorem AllR.at {w : World} {g n : Nat} {F : Nat → Option (List Nat)} (h : AllR w g n F) {x : Nat} (hx : x < n) : ∃ u, w.cell? ⟨g, x, none⟩ = some u ∧ w.frozen? ⟨g, x, none⟩ = false := by
  obtain ⟨cs, h1, h2, h3⟩ := h
  obtain ⟨u, k1, _⟩ := h3 x hx
  exact ⟨u, by rw [h1.cell]; exact k1, h1.frozen x⟩
theorem AllR.row {w : World} {g n : Nat} {F : Nat → Option (List Nat)} (h : AllR w g n F) {x : Nat} (hx : x < n) {L : List Nat} (hL : F x = some L) : ∃ u, w.cell? ⟨g, x, none⟩ = some u ∧ Rd w u (bvs L) ∧ apartV u g := by
  obtain ⟨cs, h1, h2, h3⟩ := h
  obtain ⟨u, k1, k2⟩ := h3 x hx
  exact ⟨u, by rw [h1.cell]; exact k1, k2 L hL⟩
theorem AllR.set {w : World} {g n : Nat} {F : Nat → Option (List Nat)} (h : AllR w g n F) {x : Nat} (hx : x < n) (u : Value) (L : List Nat) (hr : Rd w u (bvs L)) (ha : apartV u g) : AllR (w.setCell ⟨g, x, none⟩ u) g n (fun y => if y = x then some L else F y) := by
  obtain ⟨cs, h1, h2, h3⟩ := h
  refine ⟨_, h1.set x u, by rw [Array.size_setIfInBounds]; exact h2, fun y hy => ?_⟩
  by_cases e : y = x
  · subst e
    refine ⟨u, by rw [Array.getElem?_setIfInBounds, if_pos rfl, if_pos (by omega)], fun L' hL' => ?_⟩
    have hL' : (if y = y then some L else F y) = some L' := hL'
    rw [if_pos rfl] at hL'
    cases hL'
    exact ⟨hr.onlyG (OnlyG.setCell y u) ha, ha⟩
  · obtain ⟨u', k1, k2⟩ := h3 y hy
    refine ⟨u', by rw [Array.getElem?_setIfInBounds, if_neg (fun h => e h.symm)]; exact k1, fun L' hL' => ?_⟩
    have hL' : (if y = x then some L else F y) = some L' := hL'
    rw [if_neg e] at hL'
    exact ⟨(k2 L' hL').1.onlyG (OnlyG.setCell x u) (k2 L' hL').2, (k2 L' hL').2⟩
/-- what is known behind the filling of all beneath a node -/
def fillF (T : Nat → NodeD) (F : Nat → Option (List Nat)) (k x : Nat) (y : Nat) : Option (List Nat) := if x + 1 ≤ y + 2 ^ k ∧ y < x + 2 ^ k then some (hashN T (lev y) y) else F y
theorem fillF_zero (T : Nat → NodeD) (F : Nat → Option (List Nat)) {x : Nat} (hl : lev x = 0) : fillF T F 0 x = fun y => if y = x then some (hashN T 0 x) else F y := by
  funext y
  unfold fillF
  rw [show (2 : Nat) ^ 0 = 1 from rfl]
  by_cases h : y = x
  · rw [if_pos (by omega), if_pos h, h, hl]
  · rw [if_neg (by omega), if_neg h]
theorem fillF_succ (T : Nat → NodeD) (F : Nat → Option (List Nat)) {x k : Nat} (hl : lev x = k + 1) (hx : 2 ^ k ≤ x) : fillF T F (k + 1) x = fun y => if y = x then some (hashN T (k + 1) x) else fillF T (fillF T F k (x - 2 ^ k)) k (x + 2 ^ k) y := by
  funext y
  have e : 2 ^ (k + 1) = 2 * 2 ^ k := by rw [Nat.pow_succ]; omega
  have hp : 0 < 2 ^ k := Nat.pos_of_ne_zero (by simp)
  by_cases h : y = x
  · rw [if_pos h]
    unfold fillF
    rw [if_pos (by omega), h, hl]
  · rw [if_neg h]
    unfold fillF
    rw [e]
    by_cases h2 : x + 2 ^ k + 1 ≤ y + 2 ^ k ∧ y < x + 2 ^ k + 2 ^ k
    · rw [if_pos h2, if_pos (by omega)]
    · rw [if_neg h2]
      by_cases h3 : x - 2 ^ k + 1 ≤ y + 2 ^ k ∧ y < x - 2 ^ k + 2 ^ k
      · rw [if_pos h3, if_pos (by omega)]
      · rw [if_neg h3, if_neg (by omega)]
/-- a tree apart from a block -/
def TreeG (w : World) (g : Nat) (v : Value) (t : List NodeD) : Prop :=
  ∃ a cap, v = .slice a t.length cap ∧ t.length ≤ cap ∧ cap ≤ maxLen ∧ ∀ i, i < t.length → ∃ b off c, a = some ⟨b, off, none⟩ ∧ b < w.heap.size ∧ b ≠ g ∧ c.size = 10 ∧ w.rangeAt b (off + i * 10) c.toList ∧ ∀ W, OnlyG g w W → NodeC W (nd t i) c
theorem rangeAt_onlyG {w w' : World} {g b o : Nat} {cs : List Value} (h : w.rangeAt b o cs) (hb : OnlyG g w w') (hl : b < w.heap.size) (hne : b ≠ g) : w'.rangeAt b o cs := by
  intro j u hu
  have := h j u hu
  rw [World.cell?_of_block (hb.2.2 b hl hne)]
  exact this
theorem TreeG.onlyG {w w' : World} {g : Nat} {v : Value} {t : List NodeD} (h : TreeG w g v t) (hb : OnlyG g w w') : TreeG w' g v t := by
  obtain ⟨a, cap, e, h1, h2, h3⟩ := h
  refine ⟨a, cap, e, h1, h2, fun i hi => ?_⟩
  obtain ⟨b, off, c, k1, k2, k3, k4, k5, k6⟩ := h3 i hi
  exact ⟨b, off, c, k1, Nat.lt_of_lt_of_le k2 hb.2.1, k3, k4, rangeAt_onlyG k5 hb k2 k3, fun W hW => k6 W (hb.trans hW)⟩
theorem TreeR.g {w0 w : World} {g : Nat} {v : Value} {t : List NodeD} (h : TreeR w0 v t) (hb : Below w0.heap.size w0 w) (hg : w0.heap.size ≤ g) : TreeG w g v t := by
  obtain ⟨a, cap, e, h1, h2, h3⟩ := h
  refine ⟨a, cap, e, h1, h2, fun i hi => ?_⟩
  obtain ⟨b, off, c, k1, k2, k3, k4⟩ := h3 i hi
  exact ⟨b, off, c, k1, Nat.lt_of_lt_of_le k2 hb.size, by omega, k3.size, rangeAt_below k4 hb k2, fun W hW => k3.below (hb.trans (hW.1.mono hg)) (Nat.le_refl _)⟩
theorem TreeG.sl {w : World} {g : Nat} {v : Value} {t : List NodeD} (h : TreeG w g v t) : ∃ a c, v = .slice a t.length c ∧ t.length ≤ c ∧ c ≤ 9223372036854775807 := by
  obtain ⟨a, cap, e, h1, h2, _⟩ := h
  unfold maxLen at h2
  exact ⟨a, cap, e, h1, h2⟩
theorem TreeG.node {w : World} {g : Nat} {a : Option Addr} {n c : Nat} {t : List NodeD} (h : TreeG w g (.slice a n c) t) {i : Nat} (hi : i < n) : ∃ b off cs, a = some ⟨b, off, none⟩ ∧ b < w.heap.size ∧ b ≠ g ∧ cs.size = 10 ∧ w.rangeAt b (off + i * 10) cs.toList ∧ ∀ W, OnlyG g w W → NodeC W (nd t i) cs := by
  obtain ⟨a', cap, e, h1, h2, h3⟩ := h
  simp only [Value.slice.injEq] at e
  obtain ⟨rfl, rfl, rfl⟩ := e
  exact h3 i hi
end Go.Proofs.Ytlcmodbjbdfloaa
