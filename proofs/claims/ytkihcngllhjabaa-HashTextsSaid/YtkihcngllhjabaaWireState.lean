/- A small vocabulary: a reader's memory. -/
import Derived.Test.YtkihcngllhjabaaWirePut
import Derived.Test.YtkihcngllhjabaaMemK
namespace Go.Proofs.Ytkihcngllhjabaa
open Go.RowKit WireM
set_option linter.unusedVariables false
/-- v reads as xs, out of blocks below B -/
def RdK (w : World) (B : Nat) (v : Value) (xs : List Value) : Prop :=
  ∃ a cap, v = .slice a xs.length cap ∧ xs.length ≤ cap ∧ cap ≤ maxLen ∧
    ((xs = [] ∧ (a = none → cap = 0)) ∨ ∃ b off, a = some ⟨b, off, none⟩ ∧ b < B ∧ ∀ (j : Nat) u, xs[j]? = some u → w.cell? ⟨b, off + j, none⟩ = some u)
theorem RdK.rd {w : World} {B : Nat} {v : Value} {xs : List Value} (h : RdK w B v xs) : Rd w v xs := by
  obtain ⟨a, cap, h1, h2, h3, h4 | ⟨b, off, h4, _, h5⟩⟩ := h
  · exact ⟨a, cap, h1, h2, h3, .inl h4⟩
  · exact ⟨a, cap, h1, h2, h3, .inr ⟨b, off, h4, h5⟩⟩
theorem Rd.k {w : World} {v : Value} {xs : List Value} {B : Nat} (h : Rd w v xs) (hB : w.heap.size ≤ B) : RdK w B v xs := by
  obtain ⟨a, cap, h1, h2, h3, h4⟩ := h
  refine ⟨a, cap, h1, h2, h3, ?_⟩
  cases xs with
  | nil =>
    rcases h4 with h4 | ⟨b, off, rfl, _⟩
    · exact .inl h4
    · exact .inl ⟨rfl, fun h => by cases h⟩
  | cons x xs =>
    rcases h4 with h4 | ⟨b, off, rfl, hc⟩
    · cases h4.1
    · have := World.block_lt_of_cell? w _ (hc 0 x rfl)
      exact .inr ⟨b, off, rfl, by simp only at this; omega, hc⟩
theorem RdK.keep {w w' : World} {B : Nat} {v : Value} {xs : List Value} (h : RdK w B v xs) (hk : ∀ p : Addr, p.block < B → w'.cell? p = w.cell? p) : RdK w' B v xs := by
  obtain ⟨a, cap, h1, h2, h3, h4 | ⟨b, off, h4, h5, h6⟩⟩ := h
  · exact ⟨a, cap, h1, h2, h3, .inl h4⟩
  · exact ⟨a, cap, h1, h2, h3, .inr ⟨b, off, h4, h5, fun j u hu => (hk _ h5).trans (h6 j u hu)⟩⟩
/-- w is a, with new blocks, and writes to the block B alone -/
def Only (B : Nat) (a w : World) : Prop := a.grownBy w (some B)
theorem Only.refl (B : Nat) (a : World) : Only B a a := World.grownBy.refl a _
theorem Only.trans {B : Nat} {a b c : World} (h : Only B a b) (k : Only B b c) : Only B a c :=
  ⟨k.os.trans h.os, k.tape.trans h.tape, k.output.trans h.output, Nat.le_trans h.size k.size, fun i hi hne => (k.block i (Nat.lt_of_lt_of_le hi h.size) hne).trans (h.block i hi hne)⟩
theorem Only.of {B : Nat} {a w : World} (h : Below a.heap.size a w) : Only B a w := ⟨h.os, h.tape, h.output, h.size, fun i hi _ => h.block i hi⟩
theorem Only.set {a : World} {B : Nat} (i : Nat) (u : Value) : Only B a (a.setCell ⟨B, i, none⟩ u) :=
  ⟨rfl, rfl, rfl, by simp [World.setCell], fun k hk hne => Below.heap_setCell _ _ _ _ (fun e => hne (by rw [e]))⟩
theorem Only.below {B C : Nat} {a w : World} (h : Only B a w) (h1 : C ≤ B) (h2 : C ≤ a.heap.size) : Below C a w :=
  ⟨h.os, h.tape, h.output, h.size, fun i hi => h.block i (by omega) (fun e => by simp at e; omega)⟩
theorem Only.cell {B : Nat} {a w : World} (h : Only B a w) {p : Addr} (hp : p.block < B) (hs : B ≤ a.heap.size) : w.cell? p = a.cell? p :=
  World.cell?_of_block (h.block p.block (by omega) (fun e => by simp at e; omega))
theorem RdK.only {w w' : World} {B : Nat} {v : Value} {xs : List Value} (h : RdK w B v xs) (ho : Only B w w') (hs : B ≤ w.heap.size) : RdK w' B v xs := h.keep fun _ hp => ho.cell hp hs

/-- the reader in the block B: the bytes L are left, the error is er -/
def RS (w : World) (B : Nat) (L : List Nat) (er : Nat) : Prop := ∃ v, Blk w B 107 #[v, .int .u8 (er : Nat)] ∧ RdK w B v (bvs L)
theorem RS.lt {w : World} {B : Nat} {L : List Nat} {er : Nat} (h : RS w B L er) : B < w.heap.size := by obtain ⟨v, h, _⟩ := h; exact h.lt
theorem RS.below {w w' : World} {B : Nat} {L : List Nat} {er : Nat} (h : RS w B L er) (hb : Below w.heap.size w w') : RS w' B L er := by
  obtain ⟨v, h1, h2⟩ := h
  exact ⟨v, h1.below hb h1.lt, h2.keep fun p hp => hb.cell (Nat.lt_trans hp h1.lt)⟩
theorem RS.drewN {w : World} {B : Nat} {L : List Nat} {er : Nat} (h : RS w B L er) (n : Nat) : RS (w.drewN n) B L er := h
theorem bvs_take (L : List Nat) (n : Nat) : bvs (L.take n) = (bvs L).take n := by simp [bvs, List.map_take]
theorem bvs_drop (L : List Nat) (n : Nat) : bvs (L.drop n) = (bvs L).drop n := by simp [bvs, List.map_drop]
theorem RdK.front {w : World} {B : Nat} {a : Option Addr} {cap n : Nat} {L : List Nat} (h : RdK w B (.slice a L.length cap) (bvs L)) (hn : n ≤ L.length) : RdK w B (.slice a n cap) (bvs (L.take n)) := by
  obtain ⟨a', cap', he, h2, h3, h4⟩ := h
  simp only [Value.slice.injEq] at he
  obtain ⟨rfl, _, rfl⟩ := he
  have hl : (bvs (L.take n)).length = n := by rw [bvs_len, List.length_take]; omega
  rw [bvs_len] at h2
  refine ⟨a, cap, by rw [hl], by rw [hl]; omega, h3, ?_⟩
  rcases h4 with ⟨h4, h5⟩ | ⟨b, off, h4, h5, h6⟩
  · left
    refine ⟨by rw [bvs_take, h4]; simp, h5⟩
  · right
    refine ⟨b, off, h4, h5, ?_⟩
    intro j u hu
    rw [bvs_take, List.getElem?_take] at hu
    split at hu
    · exact h6 j u hu
    · cases hu
theorem RdK.rest {w : World} {B : Nat} {a : Option Addr} {cap n : Nat} {L : List Nat} (h : RdK w B (.slice a L.length cap) (bvs L)) (hn : n ≤ L.length) : RdK w B (.slice (a.map (·.add n)) (L.length - n) (cap - n)) (bvs (L.drop n)) := by
  obtain ⟨a', cap', he, h2, h3, h4⟩ := h
  simp only [Value.slice.injEq] at he
  obtain ⟨rfl, _, rfl⟩ := he
  have hl : (bvs (L.drop n)).length = L.length - n := by rw [bvs_len, List.length_drop]
  rw [bvs_len] at h2
  refine ⟨_, cap - n, by rw [hl], by rw [hl]; omega, by omega, ?_⟩
  rcases h4 with ⟨h4, h5⟩ | ⟨b, off, rfl, h5, h6⟩
  · left
    refine ⟨by rw [bvs_drop, h4]; simp, ?_⟩
    intro h
    have : a = none := by cases a with
      | none => rfl
      | some a => simp at h
    rw [h5 this]; omega
  · right
    refine ⟨b, off + n, by simp [Addr.add_lit], h5, ?_⟩
    intro j u hu
    rw [bvs_drop, List.getElem?_drop] at hu
    rw [Nat.add_assoc]
    exact h6 _ u hu
theorem RdK.rest0 {w : World} {B : Nat} {a : Option Addr} {n : Nat} {L : List Nat} (hn : L.length ≤ n) : RdK w B (.slice a (L.length - n) 0) (bvs (L.drop n)) := by
  have hl : bvs (L.drop n) = [] := by rw [List.drop_eq_nil_of_le hn]; rfl
  rw [hl]
  refine ⟨a, 0, by simp; omega, by simp, Nat.zero_le _, .inl ⟨rfl, fun _ => rfl⟩⟩
end Go.Proofs.Ytkihcngllhjabaa
