/- Small laws on bits: operations on numbers that are casts of naturals. -/
import Derived.WalkKit
import Derived.Laws.BitsAllLaws
import Derived.Laws.CopyOwn
import Derived.Laws.AppendOwnNone
import Derived.Lib.Hide
import Derived.Deep.Draws
import Derived.ProofKit
import Derived.OpenShut
import Derived.ShutString
import Derived.ChangeOld
import Derived.Test.YtohldijomcljkaaProg
import Derived.WalkSpells
import Derived.WalkLawsBesides
import Derived.Deep.QuietTactic
import Derived.BigQuiet
namespace Go.Proofs.Ytohldijomcljkaa
open Go.RowKit

theorem ret_int {k : IntKind} {a b : Int} (h : a = b) : Ending.returned (.int k a) = .returned (.int k b) := by rw [h]
theorem ret_bool {a b : Bool} (h : a = b) : Ending.returned (.bool a) = .returned (.bool b) := by rw [h]
theorem val_int {k : IntKind} {a b : Int} (h : a = b) : Value.int k a = .int k b := by rw [h]

theorem ofInt_64 (a : Nat) (ha : a < 9223372036854775808) : (BitVec.ofInt 64 (a : Int)).toNat = a := by
  rw [BitVec.ofInt_natCast, BitVec.toNat_ofNat]; exact Nat.mod_eq_of_lt (by omega)
theorem i64_xor_nat (a b : Nat) (ha : a < 9223372036854775808) (hb : b < 9223372036854775808) : bits .xor .i64 (a : Int) (b : Int) = ((a ^^^ b : Nat) : Int) := by
  have hx : a ^^^ b < 2 ^ 63 := Nat.xor_lt_two_pow (by omega) (by omega)
  show IntKind.i64.wrap ((BitVec.ofInt 64 (a : Int) ^^^ BitVec.ofInt 64 (b : Int)).toNat : Int) = _
  rw [BitVec.toNat_xor, ofInt_64 a ha, ofInt_64 b hb, IntKind.wrap_i64]
  omega
theorem i64_and_nat (a b : Nat) (ha : a < 9223372036854775808) (hb : b < 9223372036854775808) : bits .and .i64 (a : Int) (b : Int) = ((a &&& b : Nat) : Int) := by
  have hx : a &&& b < 2 ^ 63 := Nat.and_lt_two_pow _ (by omega)
  show IntKind.i64.wrap ((BitVec.ofInt 64 (a : Int) &&& BitVec.ofInt 64 (b : Int)).toNat : Int) = _
  rw [BitVec.toNat_and, ofInt_64 a ha, ofInt_64 b hb, IntKind.wrap_i64]
  omega
theorem i64_or_nat (a b : Nat) (ha : a < 9223372036854775808) (hb : b < 9223372036854775808) : bits .or .i64 (a : Int) (b : Int) = ((a ||| b : Nat) : Int) := by
  have hx : a ||| b < 2 ^ 63 := Nat.or_lt_two_pow (by omega) (by omega)
  show IntKind.i64.wrap ((BitVec.ofInt 64 (a : Int) ||| BitVec.ofInt 64 (b : Int)).toNat : Int) = _
  rw [BitVec.toNat_or, ofInt_64 a ha, ofInt_64 b hb, IntKind.wrap_i64]
  omega
theorem and1_u8 (b : Nat) (hb : b < 256) : bits .and .u8 (b : Int) 1 = ((b % 2 : Nat) : Int) := by
  have := u8_and_nat b 1 hb (by omega)
  rw [nat_mask1] at this
  exact this
theorem mask_u8 (a m : Nat) (ha : a < 256) (hm : m < 2) : bits .and .u8 (a : Int) (-(m : Int) % 256) = ((if m = 1 then a else 0 : Nat) : Int) := by
  have e : (-(m : Int) % 256) = ((if m = 1 then 255 else 0 : Nat) : Int) := by split <;> omega
  rw [e, u8_and_nat a _ ha (by split <;> omega)]
  congr 1
  split
  · have := Nat.and_two_pow_sub_one_eq_mod a 8
    simp only [show 2 ^ 8 - 1 = 255 from rfl] at this
    rw [this]; omega
  · simp
theorem two_pow_le {k n : Nat} (h : k ≤ n) : 2 ^ k ≤ 2 ^ n := Nat.pow_le_pow_right (by omega) h
theorem two_pow_pos (k : Nat) : 1 ≤ 2 ^ k := Nat.one_le_two_pow
end Go.Proofs.Ytohldijomcljkaa
/- A small vocabulary for slices whose elements are one cell each: a slice that reads as a list; a slice that the call itself owns; append. -/
namespace Go.Proofs.Ytohldijomcljkaa
open Go.RowKit

/-- The slice type t has elements of the type e, one cell each, of so many bytes; z is the element's zero. -/
structure Elem (P : Program) (t e : TypeId) (z : Value) (bytes : Nat) : Prop where
  ty : P.underlying t = some (.slice e)
  inf : (P.info? e).map (fun i => (i.zero, i.size, i.bytes)) = some (some z, 1, bytes)
  one : z.cells.size = 1
  low : bytes ≤ 64

/-- In the world w the value v is a slice that reads as the list xs. -/
def Rd (w : World) (v : Value) (xs : List Value) : Prop :=
  ∃ a cap, v = .slice a xs.length cap ∧ xs.length ≤ cap ∧ cap ≤ maxLen ∧
    ((xs = [] ∧ (a = none → cap = 0)) ∨ ∃ b off, a = some ⟨b, off, none⟩ ∧ ∀ (j : Nat) u, xs[j]? = some u → w.cell? ⟨b, off + j, none⟩ = some u)

/-- The slice v of the call's own memory (blocks from B on) reads as xs. -/
def Own (w : World) (B : Nat) (e : TypeId) (v : Value) (xs : List Value) : Prop := w.ownsRow B e 1 v xs.length xs

theorem Own.rd {w : World} {B : Nat} {e : TypeId} {v : Value} {xs : List Value} (h : Own w B e v xs) : Rd w v xs := by
  have hc := fun g => World.ownsRow.cells (g := g) h
  obtain ⟨_, h⟩ := h
  rcases h with ⟨rfl, h0⟩ | ⟨g, cap, cur, rfl, hg, hh, hn, hm, hs, ht⟩
  · have : xs = [] := List.eq_nil_of_length_eq_zero h0
    subst this
    exact ⟨none, 0, rfl, Nat.le_refl _, Nat.zero_le _, .inl ⟨rfl, fun _ => rfl⟩⟩
  · refine ⟨_, cap, rfl, hn, hm, .inr ⟨g, 0, rfl, ?_⟩⟩
    intro j u hu
    have := hc g rfl j u hu
    simpa [Addr.add_lit] using this

theorem Rd.lt {w : World} {v : Value} {xs : List Value} (h : Rd w v xs) : xs = [] ∨ ∃ b off cap, v = .slice (some ⟨b, off, none⟩) xs.length cap ∧ b < w.heap.size := by
  obtain ⟨a, cap, rfl, _, _, h | ⟨b, off, rfl, hc⟩⟩ := h
  · exact .inl h.1
  · cases xs with
    | nil => exact .inl rfl
    | cons x xs => exact .inr ⟨b, off, cap, rfl, World.block_lt_of_cell? w _ (hc 0 x rfl)⟩

/-- What stood there stays as it was behind a call that only makes new memory. -/
theorem Rd.below {w w' : World} {B : Nat} {v : Value} {xs : List Value} (h : Rd w v xs) (hb : Below B w w') (hB : w.heap.size ≤ B) : Rd w' v xs := by
  obtain ⟨a, cap, rfl, h1, h2, h | ⟨b, off, rfl, hc⟩⟩ := h
  · exact ⟨a, cap, rfl, h1, h2, .inl h⟩
  · refine ⟨_, cap, rfl, h1, h2, .inr ⟨b, off, rfl, ?_⟩⟩
    intro j u hu
    have := hc j u hu
    have hl := World.block_lt_of_cell? w _ this
    rw [hb.cell (by simp only at hl ⊢; omega)]
    exact this
theorem Rd.alloc {w : World} {v : Value} {xs : List Value} (h : Rd w v xs) (o : Obj) : Rd (w.alloc o) v xs :=
  h.below ((Below.refl w.heap.size _).alloc (Nat.le_refl _) o) (Nat.le_refl _)
theorem Rd.drew {w : World} {v : Value} {xs : List Value} (h : Rd w v xs) : Rd w.drew v xs := h

theorem Own.nil (w : World) (B : Nat) (e : TypeId) : Own w B e (.slice none 0 0) [] := World.ownsRow_nil w B e 1
theorem Own.alloc {w : World} {B : Nat} {e : TypeId} {v : Value} {xs : List Value} (h : Own w B e v xs) (o : Obj) : Own (w.alloc o) B e v xs := World.ownsRow.alloc h o
theorem Own.mono {w : World} {B B' : Nat} {e : TypeId} {v : Value} {xs : List Value} (h : Own w B e v xs) (hB : B' ≤ B) : Own w B' e v xs := by
  obtain ⟨h0, h | ⟨g, cap, cur, hv, hg, r⟩⟩ := h
  · exact ⟨h0, .inl h⟩
  · exact ⟨h0, .inr ⟨g, cap, cur, hv, by omega, r⟩⟩
theorem Own.below {w w' : World} {B B' : Nat} {e : TypeId} {v : Value} {xs : List Value} (h : Own w B e v xs) (hb : Below B' w w') (hB : w.heap.size ≤ B') : Own w' B e v xs := by
  obtain ⟨h0, h | ⟨g, cap, cur, hv, hg, hh, r⟩⟩ := h
  · exact ⟨h0, .inl h⟩
  · refine ⟨h0, .inr ⟨g, cap, cur, hv, hg, ?_, r⟩⟩
    have hl : g < w.heap.size := by
      rcases Nat.lt_or_ge g w.heap.size with h' | h'
      · exact h'
      · simp [Array.getElem?_eq_none h'] at hh
    rw [hb.block g (by omega)]
    exact hh
/-- Which slice the call owns, written out. -/
theorem Own.out {w : World} {B : Nat} {e : TypeId} {v : Value} {xs : List Value} (h : Own w B e v xs) (hx : xs ≠ []) :
    ∃ g cap cur, v = .slice (some ⟨g, 0, none⟩) xs.length cap ∧ B ≤ g ∧ g < w.heap.size ∧ w.heap[g]? = some (.cells cur e (0, 0)) ∧ xs.length ≤ cap ∧ cap ≤ maxLen ∧ cur.size = cap ∧ cur.toList.take xs.length = xs ∧
      (∀ (j : Nat) u, xs[j]? = some u → w.cell? ⟨g, j, none⟩ = some u) ∧ (∀ j : Nat, w.frozen? ⟨g, j, none⟩ = false) := by
  have hc := fun g => World.ownsRow.cells (g := g) h
  obtain ⟨_, h⟩ := h
  rcases h with ⟨rfl, h0⟩ | ⟨g, cap, cur, rfl, hg, hh, hn, hm, hs, ht⟩
  · exact absurd (List.eq_nil_of_length_eq_zero h0) hx
  · refine ⟨g, cap, cur, rfl, hg, ?_, hh, hn, hm, by simpa using hs, by simpa using ht, ?_, ?_⟩
    · rcases Nat.lt_or_ge g w.heap.size with h' | h'
      · exact h'
      · simp [Array.getElem?_eq_none h'] at hh
    · intro j u hu
      have := hc g rfl j u hu
      simpa [Addr.add_lit] using this
    · intro j
      exact frozen_of_row w g j cur e hh

section
variable {P : Program} {w : World}

/-- 's = append(s, x)' on a slice that the call owns. -/
theorem wpList_push {ops : Array Oper} {rest : List Oper} {o : Oper} {a : Act} {Q : Exit → Act → World → Prop} (hgd : o.guard = none) (s x : Operand) (t : TypeId)
    (ho : o.op = .call { callee := .builtin .append, args := #[s, x], argTypes := #[t, t] })
    (B : Nat) (e : TypeId) (z : Value) (bytes : Nat) (F : Elem P t e z bytes)
    (v : Value) (xs : List Value) (hs : a.eval s = v) (hown : Own w B e v xs)
    (ad : Addr) (u : Value) (hx : a.eval x = .slice (some ad) 1 1) (hu : w.cell? ad = some u) (h1 : u.oneCell' = true)
    (hn : xs.length < 1099511627776) (hB : B ≤ w.heap.size)
    (h : ∀ v' w', Own w' B e v' (xs ++ [u]) → w.grownBy w' v.ownBlock → Below B w w' → wpList P ops Q rest (a.put o.dst v') w') : wpList P ops Q (o :: rest) a w := by
  obtain ⟨i, hi, hz, hsz, hby⟩ := info_parts F.inf
  have low := F.low
  refine wpList_append_own w hgd s x t ho B e i z 1 bytes F.ty hi hz hsz hby F.one (by omega) v xs.length xs hs hown ad 1 1 [u] hx rfl ?_ (by simpa using h1) ?_ ?_ hB ?_
  · intro j y hy
    cases j with
    | zero =>
      have : ad.add 0 = ad := by unfold Addr.add; split <;> simp_all
      rw [this]; simp at hy; rw [← hy]; exact hu
    | succ j => simp at hy
  · unfold maxLen; omega
  · have : (xs.length + 1) * bytes ≤ (xs.length + 1) * 64 := Nat.mul_le_mul_left _ low
    omega
  · intro v' w' h2 h3 _
    have e1 : (xs ++ [u]).length = xs.length + 1 := by simp
    refine h v' w' (by unfold Own; rw [e1]; exact h2) h3 ?_
    refine (Below.refl B w).grown h3 hB ?_
    intro k hk
    exact (World.ownsRow.lt hown k hk).1

/-- 's = append(s, r...)' on a slice that the call owns: r reads as a list. -/
theorem wpList_pushes {ops : Array Oper} {rest : List Oper} {o : Oper} {a : Act} {Q : Exit → Act → World → Prop} (hgd : o.guard = none) (s x : Operand) (t : TypeId)
    (ho : o.op = .call { callee := .builtin .append, args := #[s, x], argTypes := #[t, t] })
    (B : Nat) (e : TypeId) (z : Value) (bytes : Nat) (F : Elem P t e z bytes)
    (v : Value) (xs : List Value) (hs : a.eval s = v) (hown : Own w B e v xs)
    (ad : Addr) (cap : Nat) (ys : List Value) (hx : a.eval x = .slice (some ad) ys.length cap) (hu : ∀ (j : Nat) u, ys[j]? = some u → w.cell? (ad.add j) = some u) (h1 : ∀ u ∈ ys, u.oneCell' = true)
    (hn : xs.length + ys.length < 1099511627776) (hB : B ≤ w.heap.size)
    (h : ∀ v' w', Own w' B e v' (xs ++ ys) → w.grownBy w' v.ownBlock → Below B w w' → wpList P ops Q rest (a.put o.dst v') w') : wpList P ops Q (o :: rest) a w := by
  obtain ⟨i, hi, hz, hsz, hby⟩ := info_parts F.inf
  have low := F.low
  refine wpList_append_own w hgd s x t ho B e i z 1 bytes F.ty hi hz hsz hby F.one (by omega) v xs.length xs hs hown ad ys.length cap ys hx (by omega) hu h1 ?_ ?_ hB ?_
  · unfold maxLen; omega
  · have : (xs.length + ys.length) * bytes ≤ (xs.length + ys.length) * 64 := Nat.mul_le_mul_left _ low
    omega
  · intro v' w' h2 h3 _
    have e1 : (xs ++ ys).length = xs.length + ys.length := by simp
    refine h v' w' (by unfold Own; rw [e1]; exact h2) h3 ?_
    refine (Below.refl B w).grown h3 hB ?_
    intro k hk
    exact (World.ownsRow.lt hown k hk).1
/-- 's = append(s, r...)' on a slice that the call owns, r whatever slice: nil, empty or not. -/
theorem wpList_app {ops : Array Oper} {rest : List Oper} {o : Oper} {a : Act} {Q : Exit → Act → World → Prop} (hgd : o.guard = none) (s x : Operand) (t : TypeId)
    (ho : o.op = .call { callee := .builtin .append, args := #[s, x], argTypes := #[t, t] })
    (B : Nat) (e : TypeId) (z : Value) (bytes : Nat) (F : Elem P t e z bytes)
    (v : Value) (xs : List Value) (hs : a.eval s = v) (hown : Own w B e v xs)
    (r : Value) (ys : List Value) (hx : a.eval x = r) (hr : Rd w r ys) (h1 : ∀ u ∈ ys, u.oneCell' = true)
    (hn : xs.length + ys.length < 1099511627776) (hB : B ≤ w.heap.size)
    (h : ∀ v' w', Own w' B e v' (xs ++ ys) → w.grownBy w' v.ownBlock → Below B w w' → wpList P ops Q rest (a.put o.dst v') w') : wpList P ops Q (o :: rest) a w := by
  obtain ⟨ad, cap, rfl, _, _, ⟨rfl, hcap⟩ | ⟨b, off, rfl, hc⟩⟩ := hr
  · cases ad with
    | none =>
      obtain rfl := hcap rfl
      obtain ⟨i, hi, _, _, _⟩ := info_parts F.inf
      refine wpList_append_own_none hgd s x t ho B e i 1 F.ty hi v xs.length xs hs hown hx ?_
      exact h v w (by simpa using hown) ⟨rfl, rfl, rfl, Nat.le_refl _, fun _ _ _ => rfl⟩ (Below.refl _ _)
    | some ad => exact wpList_pushes hgd s x t ho B e z bytes F v xs hs hown ad cap [] hx (by simp) h1 hn hB h
  · exact wpList_pushes hgd s x t ho B e z bytes F v xs hs hown _ cap ys hx (fun j u hu => by rw [Addr.add_lit]; exact hc j u hu) h1 hn hB h
end

/-- 'a[i]' of an array's value whose elements are one cell each. -/
theorem run_index_arr {P : Program} (w : World) {T E len : Nat} {d : TypeDesc} (hT : P.underlying T = some (.array len E)) (hd : (match d with | .struct _ | .array _ _ => true | _ => false) = false) (hE : P.underlying E = some d)
    (hs : (P.info? E).map (·.size) = some 1)
    (cs : Array Value) (k : IntKind) (i : Nat) (hi : i < len) (v : Value) (hv : cs[i]? = some v) :
    (Instr.index T (.agg cs) (.int k (i : Int))).run P w = .ok v w := by
  have ha : (isAgg E).run P w = .ok false w := by
    unfold isAgg
    rw [Sem.run_bind, run_underlying hE w]
    cases d <;> simp_all
  cases hq : P.info? E with
  | none => simp [hq] at hs
  | some inf =>
    have hs1 : inf.size = 1 := by simpa [hq] using hs
    have h0 : (0 : Int) ≤ (i : Int) ∧ (i : Int) < (len : Int) := by omega
    simp [Instr.index, asIntOf, Sem.run_bind, run_underlying hT, h0, sizeOf, typeInfo, hq, hs1, part, ha, hv]
    intro h; omega
theorem cell_new {w : World} {u : Value} {e : TypeId} {N : Nat} (hN : N = w.heap.size) : (w.alloc (.cells #[u] e)).cell? ⟨N, 0, none⟩ = some u := by
  subst hN
  rw [cell_of_row _ _ _ _ _ _ (heap_alloc_new w _)]; rfl

/-- A slice literal of no element. -/
theorem Own.lit0 {w : World} {B N : Nat} {e : TypeId} (hN : N = w.heap.size) (hB : B ≤ N) : Own (w.alloc (.cells #[] e)) B e (.slice (some ⟨N, 0, none⟩) 0 0) [] := by
  subst hN; exact World.ownsRow_made w #[] 0 hB (Nat.zero_le _) rfl
/-- A new row, full. -/
theorem Own.full {w : World} {B : Nat} {e : TypeId} {cs : Array Value} {N : Nat} (hN : N = w.heap.size) (hB : B ≤ N) (hm : cs.size ≤ maxLen) {n : Nat} (hn : n = cs.size) :
    Own (w.alloc (.cells cs e)) B e (.slice (some ⟨N, 0, none⟩) n n) cs.toList := by
  subst hn hN
  refine ⟨by simp, .inr ⟨w.heap.size, cs.size, cs, by simp, hB, heap_alloc_new w _, by simp, hm, by simp, ?_⟩⟩
  simp only [Nat.mul_one, Array.length_toList]
  rw [List.take_of_length_le (by simp)]
/-- A store into what the call owns. -/
theorem Own.set {w : World} {B : Nat} {e : TypeId} {g n cap : Nat} {xs : List Value} (h : Own w B e (.slice (some ⟨g, 0, none⟩) n cap) xs) (i : Nat) (u : Value) :
    Own (w.setCell ⟨g, i, none⟩ u) B e (.slice (some ⟨g, 0, none⟩) n cap) (xs.set i u) := by
  obtain ⟨h0, h | ⟨g', cap', cur, hv, hg, hh, hn, hm, hs, ht⟩⟩ := h
  · cases h.1
  · simp only [Value.slice.injEq, Option.some.injEq, Addr.mk.injEq, and_true] at hv
    obtain ⟨rfl, rfl, rfl⟩ := hv
    refine ⟨by simp, .inr ⟨g, cap, cur.setIfInBounds i u, by simp, hg, heap_setCell_same w g i cur e u hh, by simpa using hn, hm, by simpa using hs, ?_⟩⟩
    simp only [Array.toList_setIfInBounds, List.length_set]
    rw [List.take_set, ht]
theorem Own.setOther {w : World} {B : Nat} {e : TypeId} {v : Value} {xs : List Value} (h : Own w B e v xs) {a : Addr} (ha : v.ownBlock ≠ some a.block) (u : Value) : Own (w.setCell a u) B e v xs := by
  obtain ⟨h0, h | ⟨g, cap, cur, hv, hg, hh, r⟩⟩ := h
  · exact ⟨h0, .inl h⟩
  · refine ⟨h0, .inr ⟨g, cap, cur, hv, hg, ?_, r⟩⟩
    rw [Below.heap_setCell _ _ _ _ (fun e => ha (by rw [hv]; simp [Value.ownBlock, e]))]
    exact hh
theorem Own.drew {w : World} {B : Nat} {e : TypeId} {v : Value} {xs : List Value} (h : Own w B e v xs) : Own w.drew B e v xs := h
theorem Own.drewN {w : World} {B : Nat} {e : TypeId} {v : Value} {xs : List Value} (h : Own w B e v xs) (n : Nat) : Own (w.drewN n) B e v xs := h
theorem Rd.drewN {w : World} {v : Value} {xs : List Value} (h : Rd w v xs) (n : Nat) : Rd (w.drewN n) v xs := h
theorem below_drewN' {B : Nat} {a w : World} (h : Below B a w) (n : Nat) : Below B a (w.drewN n) := h.trans ⟨rfl, rfl, rfl, Nat.le_refl _, fun _ _ => rfl⟩
/-- Places are written one by one: X in the place of T. -/
theorem upd_step {α : Type} {X T : List α} (h : X.length = T.length) {i : Nat} (hi : i < T.length) :
    (X.take i ++ T.drop i).set i (X[i]'(by omega)) = X.take (i + 1) ++ T.drop (i + 1) := by
  have hl : (X.take i).length = i := by rw [List.length_take]; omega
  rw [List.set_append_right _ _ (by omega)]
  rw [hl, Nat.sub_self, List.take_succ_eq_append_getElem (by omega), List.append_assoc]
  congr 1
  rw [List.drop_eq_getElem_cons hi]
  rfl
theorem upd_get {X T : List Nat} (h : X.length = T.length) {i : Nat} (hi : i < T.length) : (X.take i ++ T.drop i).getD i 0 = T.getD i 0 := by
  have hl : (X.take i).length = i := by rw [List.length_take]; omega
  simp only [List.getD_eq_getElem?_getD]
  rw [List.getElem?_append_right (by omega), hl, Nat.sub_self, List.getElem?_drop]
  rfl

/-- A part of what is read. -/
theorem Rd.sub {w : World} {b off n cap : Nat} {xs : List Value} (h : Rd w (.slice (some ⟨b, off, none⟩) n cap) xs) (lo hi : Nat) {off' n' cap' : Nat} (h1 : lo ≤ hi) (h2 : hi ≤ n) (ho : off' = off + lo) (hn : n' = hi - lo) (hc : cap' = cap - lo) :
    Rd w (.slice (some ⟨b, off', none⟩) n' cap') ((xs.take hi).drop lo) := by
  obtain ⟨a, c, hv, k1, k2, k3⟩ := h
  simp only [Value.slice.injEq] at hv
  obtain ⟨rfl, rfl, rfl⟩ := hv
  subst ho hn hc
  have hlen : ((xs.take hi).drop lo).length = hi - lo := by simp; omega
  refine ⟨_, cap - lo, by rw [hlen], by rw [hlen]; omega, by omega, ?_⟩
  rcases k3 with ⟨rfl, _⟩ | ⟨b', off', he, hcell⟩
  · exact .inl ⟨by simp, by simp⟩
  · simp only [Option.some.injEq, Addr.mk.injEq, and_true] at he
    obtain ⟨rfl, rfl⟩ := he
    refine .inr ⟨b, off + lo, rfl, ?_⟩
    intro j u hu
    rw [List.getElem?_drop, List.getElem?_take] at hu
    split at hu
    · rw [Nat.add_assoc]; exact hcell _ u hu
    · cases hu
/-- The cells of what the call owns, the slice being written out. -/
theorem Own.at {w : World} {B : Nat} {e : TypeId} {g n cap : Nat} {xs : List Value} (h : Own w B e (.slice (some ⟨g, 0, none⟩) n cap) xs) :
    (∀ (j : Nat) u, xs[j]? = some u → w.cell? ⟨g, j, none⟩ = some u) ∧ (∀ j : Nat, w.frozen? ⟨g, j, none⟩ = false) := by
  have hc := fun g => World.ownsRow.cells (g := g) h
  obtain ⟨_, h | ⟨g', cap', cur, hv, hg, hh, r⟩⟩ := h
  · cases h.1
  · simp only [Value.slice.injEq, Option.some.injEq, Addr.mk.injEq, and_true] at hv
    obtain ⟨rfl, _, rfl⟩ := hv
    refine ⟨?_, fun j => frozen_of_row w g j cur e hh⟩
    intro j u hu
    have := hc g rfl j u hu
    simpa [Addr.add_lit] using this

theorem setRow_alloc (w : World) (c c' : Array Value) (t : TypeId) : (w.alloc (.cells c t)).setRow w.heap.size c' = w.alloc (.cells c' t) := by
  unfold World.setRow World.alloc
  congr 1
  apply Array.ext_getElem?
  intro i
  simp only [Array.getElem?_modify, Array.getElem?_push]
  by_cases h : i = w.heap.size
  · subst h; simp
  · rw [if_neg (fun e => h e.symm)]
    simp [h]
/-- A whole array stored into the variable that has just been made. -/
theorem wpList_store_new {P : Program} {w : World} {ops : Array Oper} {rest : List Oper} {o : Oper} {a : Act} {Q : Exit → Act → World → Prop} (hgd : o.guard = none) (ty : TypeId) (x y : Operand) (ho : o.op = .store ty x y)
    (N : Nat) (hN : N = w.heap.size) (cells : Array Value) (hx : a.eval x = .pointer (some ⟨N, 0, none⟩)) (hy : a.eval y = .agg cells)
    (t : TypeId) (old : Array Value) (hi : (P.info? ty).map (·.size) = some cells.size)
    (hold : old.size = cells.size) (h1 : cells.all (·.oneCell') = true)
    (h : wpList P ops Q rest (a.put o.dst undef) (w.alloc (.cells cells t))) : wpList P ops Q (o :: rest) a (w.alloc (.cells old t)) := by
  subst hN
  refine wpList_store_row hgd ty x y ho w.heap.size cells hx hy t old (heap_alloc_new w _) hi hold h1 ?_
  rw [setRow_alloc]
  exact h
/-- A whole array loaded from a variable, whose block is known. -/
theorem wpList_load_at {P : Program} {w : World} {ops : Array Oper} {rest : List Oper} {o : Oper} {a : Act} {Q : Exit → Act → World → Prop} (hgd : o.guard = none) (ty : TypeId) (x : Operand) (ho : o.op = .load ty x)
    (g : Nat) (hx : a.eval x = .pointer (some ⟨g, 0, none⟩)) (t : TypeId) (cs : Array Value) (fr : Nat × Nat) (d : TypeDesc) (hg : w.heap[g]? = some (.cells cs t fr))
    (hu : P.underlying ty = some d) (hd : (match d with | .struct _ | .array _ _ => true | _ => false) = true) (hi : (P.info? ty).map (·.size) = some cs.size)
    (h : wpList P ops Q rest (a.put o.dst (.agg cs)) w) : wpList P ops Q (o :: rest) a w :=
  wpList_load_row hgd ty x ho g hx t cs fr d hg hu hd hi h

/-- 'copy(dst, src)': dst is the call's own. -/
theorem wpList_cpy {P : Program} {w : World} {ops : Array Oper} {rest : List Oper} {o : Oper} {a : Act} {Q : Exit → Act → World → Prop} (hgd : o.guard = none) (d s : Operand) (dT sT : TypeId)
    (ho : o.op = .call { callee := .builtin .copy, args := #[d, s], argTypes := #[dT, sT] }) (e : TypeId) (z : Value) (bytes : Nat) (F : Elem P dT e z bytes)
    (B g n cap : Nat) (xs : List Value) (hd : a.eval d = .slice (some ⟨g, 0, none⟩) n cap) (hown : Own w B e (.slice (some ⟨g, 0, none⟩) n cap) xs)
    (r : Value) (ys : List Value) (hs : a.eval s = r) (hr : Rd w r ys) (h1 : ∀ u ∈ ys, u.oneCell' = true)
    (h : ∀ w', Own w' B e (.slice (some ⟨g, 0, none⟩) n cap) (ys.take xs.length ++ xs.drop ys.length) → Below B w w' → wpList P ops Q rest (a.put o.dst (goInt (ys.take xs.length).length)) w') :
    wpList P ops Q (o :: rest) a w := by
  obtain ⟨i, hi, hz, hsz, hby⟩ := info_parts F.inf
  obtain ⟨h0, h2 | ⟨g', cap', cur, hv, hg, hh, hn, hm, hcs, ht⟩⟩ := hown
  · cases h2.1
  · simp only [Value.slice.injEq, Option.some.injEq, Addr.mk.injEq, and_true] at hv
    obtain ⟨rfl, rfl, rfl⟩ := hv
    obtain ⟨ad, rc, rfl, hrl, _, hrd⟩ := hr
    simp only [Nat.mul_one] at hcs ht
    refine wpList_copy_splice hgd d s dT sT ho e F.ty (by rw [hi]; simp [hsz]) (some ⟨g, 0, none⟩) ad xs.length cap ys.length rc hd hs g 0 cur.toList e (by simpa using hh) (ys.take xs.length) (by simp [Nat.min_comm]) ?_ (by simp; omega) (fun v hv => h1 v (List.mem_of_mem_take hv)) B w (Below.refl _ _) hg ?_
    · intro hpos
      refine ⟨rfl, ?_⟩
      rcases hrd with ⟨rfl, _⟩ | ⟨b, off, rfl, hc⟩
      · simp at hpos
      · refine ⟨_, rfl, ?_⟩
        intro j v hv
        rw [Addr.add_lit]
        rw [List.getElem?_take] at hv
        split at hv
        · exact hc j v hv
        · cases hv
    · intro w' hw' hb
      have hw := hw'.out
      refine h w' ?_ hb
      have hl : (ys.take xs.length ++ xs.drop ys.length).length = xs.length := by
        rw [List.length_append, List.length_take, List.length_drop]; omega
      unfold Own
      rw [hl]
      refine ⟨by rw [hl, Nat.mul_one], .inr ⟨g, cap, _, rfl, hg, hw, hn, hm, ?_, ?_⟩⟩
      · simp only [List.size_toArray, Nat.mul_one]
        rw [length_splice _ _ _ (by simp; omega)]
        simpa using hcs
      · simp only [Nat.mul_one]
        unfold splice
        simp only [List.take_zero, List.nil_append, Nat.zero_add]
        rw [List.take_append, List.take_take]
        have e1 : min xs.length xs.length = xs.length := Nat.min_self _
        rw [e1]
        congr 1
        rw [List.length_take]
        have e2 : (cur.toList.drop (min xs.length ys.length)).take (xs.length - min xs.length ys.length) = (cur.toList.take xs.length).drop (min xs.length ys.length) := by
          rw [List.drop_take]
        rw [e2, ht]
        rcases Nat.le_total xs.length ys.length with hle | hle
        · rw [Nat.min_eq_left hle, List.drop_length, List.drop_eq_nil_of_le hle]
        · rw [Nat.min_eq_right hle]

/-- A guarded operation whose guard holds: as if it bore none. -/
theorem wpList_wanted {P : Program} {w : World} {ops : Array Oper} {rest : List Oper} {o : Oper} {a : Act} {Q : Exit → Act → World → Prop} (hw : Region.wanted o (yielded ops a.tmps) = true)
    (h : wpList P ops Q ({ o with guard := none } :: rest) a w) : wpList P ops Q (o :: rest) a w := by
  unfold wpList at h ⊢
  rw [if_pos hw]
  rw [if_pos (show Region.wanted { o with guard := none } (yielded ops a.tmps) = true from rfl)] at h
  exact h
end Go.Proofs.Ytohldijomcljkaa
/- Arguments as they come in, in the vocabulary of Mem: lists of numbers. -/
namespace Go.Proofs.Ytohldijomcljkaa
open Go.ChangeShapes Go.WideShapes Go.ChangeAt Go.RowKit

/-- Bytes as values. -/
def bvs (L : List Nat) : List Value := L.map fun n : Nat => .int .u8 (n : Int)
/-- Numbers of a kind as values. -/
def ivs (k : IntKind) (L : List Int) : List Value := L.map fun n => .int k n

theorem nat_u8 {a : Int} (h : (Lit.int .u8 a).wf = true) : ∃ n : Nat, n < 256 ∧ a = (n : Int) := by
  have := bounds_u8 h
  exact ⟨a.toNat, by omega, by omega⟩
theorem nat_u64 {a : Int} (h : (Lit.int .u64 a).wf = true) : ∃ n : Nat, n < 18446744073709551616 ∧ a = (n : Int) := by
  have := bounds_u64 h
  exact ⟨a.toNat, by omega, by omega⟩
theorem bd_i64 {a : Int} (h : (Lit.int .i64 a).wf = true) : -9223372036854775808 ≤ a ∧ a ≤ 9223372036854775807 := by
  have := bounds_i64 h
  omega

section
variable {H : Type} {enc : TypeId × Value → H} {P : Program}
theorem open_row {T E : TypeId} {k : IntKind} (hT : P.underlying T = some (.slice E)) (hE : P.underlying E = some (.int k)) (hc : P.cellsOf E = 1) {W : World} {v : Value} {d : DataW H} {p : List MemPlace}
    {base : Nat} (ok : Value.okWide P W .any base T v) (h : DataW.Trod enc P W 0 (fun _ => true) true T v d p) :
    ∃ zs : List Int, (∀ n ∈ zs, (Lit.int k n).wf = true) ∧ Rd W v (ivs k zs) := by
  obtain ⟨a, len, cap, rfl⟩ := okWide_slice hT ok
  obtain ⟨fuel, hf⟩ := h
  rcases open_ints hT hE hc hf with ⟨hcs, _⟩ | ⟨x, l, c, zs, hcs, _, hl, hm, hz, _, hcell, hwz⟩
  · simp [Value.cells] at hcs
    obtain ⟨rfl, rfl, rfl⟩ := hcs
    exact ⟨[], by simp, none, 0, rfl, Nat.le_refl _, Nat.zero_le _, .inl ⟨rfl, fun _ => rfl⟩⟩
  · simp [Value.cells] at hcs
    obtain ⟨rfl, rfl, rfl⟩ := hcs
    have hz' : zs.length = cap := by simpa using hz
    have hlen : (ivs k (zs.take len)).length = len := by simp [ivs]; omega
    refine ⟨zs.take len, fun n hn => hwz n (List.mem_of_mem_take hn), some x, cap, by rw [hlen], by rw [hlen]; exact hl, hm, ?_⟩
    by_cases h0 : len = 0
    · left; subst h0; simp [ivs]
    · right
      obtain ⟨b, off, spot⟩ := x
      have hc0 := hcell 0 (by omega)
      have hspot : spot = none := by simpa [Addr.add] using World.cell?_spot hc0
      subst hspot
      refine ⟨b, off, rfl, ?_⟩
      intro j u hu
      have hj : j < len := by
        rcases Nat.lt_or_ge j len with h | h
        · exact h
        · rw [List.getElem?_eq_none (by rw [hlen]; exact h)] at hu; cases hu
      have := hcell j (by omega)
      rw [Addr.add_lit] at this
      rw [this, ← hu]
      simp [ivs, hj, show j < zs.length from by omega]
theorem open_bytes {T E : TypeId} (hT : P.underlying T = some (.slice E)) (hE : P.underlying E = some (.int .u8)) (hc : P.cellsOf E = 1) {W : World} {v : Value} {d : DataW H} {p : List MemPlace}
    {base : Nat} (ok : Value.okWide P W .any base T v) (h : DataW.Trod enc P W 0 (fun _ => true) true T v d p) :
    ∃ L : List Nat, (∀ n ∈ L, n < 256) ∧ Rd W v (bvs L) := by
  obtain ⟨zs, hz, hr⟩ := open_row hT hE hc ok h
  refine ⟨zs.map Int.toNat, ?_, ?_⟩
  · intro n hn
    obtain ⟨z, hz', rfl⟩ := List.mem_map.1 hn
    obtain ⟨n, hn, rfl⟩ := nat_u8 (hz z hz')
    omega
  · have : bvs (zs.map Int.toNat) = ivs .u8 zs := by
      simp only [bvs, ivs, List.map_map]
      apply List.map_congr_left
      intro z hz'
      obtain ⟨n, _, rfl⟩ := nat_u8 (hz z hz')
      simp
    rw [this]; exact hr
end
end Go.Proofs.Ytohldijomcljkaa
/- Walks: the reference's Same of two lists of bytes. -/
namespace Go.Proofs.Ytohldijomcljkaa
open Go.RowKit

@[simp] theorem bvs_len (L : List Nat) : (bvs L).length = L.length := by simp [bvs]
theorem bvs_get {L : List Nat} {i : Nat} (h : i < L.length) : (bvs L)[i]? = some (.int .u8 ((L[i] : Nat) : Int)) := by simp [bvs, h]
theorem bvs_getD {L : List Nat} {i : Nat} (h : i < L.length) : (bvs L)[i]? = some (.int .u8 ((L.getD i 0 : Nat) : Int)) := by simp [bvs, h]
theorem bvs_append (L M : List Nat) : bvs (L ++ M) = bvs L ++ bvs M := by simp [bvs]
theorem bvs_one (L : List Nat) : ∀ u ∈ bvs L, u.oneCell' = true := by
  intro u hu
  obtain ⟨n, _, rfl⟩ := List.mem_map.1 hu
  rfl
theorem getD_lt {L : List Nat} {m : Nat} (h : ∀ n ∈ L, n < m) (h0 : 0 < m) (i : Nat) : L.getD i 0 < m := by
  rcases Nat.lt_or_ge i L.length with hi | hi
  · rw [List.getD_eq_getElem?_getD, List.getElem?_eq_getElem hi]; exact h _ (List.getElem_mem hi)
  · rw [List.getD_eq_getElem?_getD, List.getElem?_eq_none hi]; exact h0

/-- Bytes that are read, taken apart. -/
theorem Rd.cases {w : World} {v : Value} {L : List Nat} (h : Rd w v (bvs L)) :
    (∃ a cap, v = .slice a 0 cap ∧ L = []) ∨ ∃ b off cap, 0 < L.length ∧ L.length ≤ cap ∧ cap ≤ maxLen ∧ v = .slice (some ⟨b, off, none⟩) L.length cap ∧ b < w.heap.size ∧
      ∀ i, i < L.length → w.cell? ⟨b, off + i, none⟩ = some (.int .u8 ((L.getD i 0 : Nat) : Int)) := by
  have hlt := h.lt
  obtain ⟨a, cap, rfl, h1, h2, h3⟩ := h
  by_cases hL : L = []
  · subst hL; exact .inl ⟨a, cap, rfl, rfl⟩
  · right
    have hpos : 0 < L.length := List.length_pos_iff.2 hL
    have hne : bvs L ≠ [] := by intro h; apply hL; simpa [bvs] using h
    rcases h3 with h | ⟨b, off, rfl, hc⟩
    · exact absurd h.1 hne
    · rcases hlt with h | ⟨b', off', cap', he, hb⟩
      · exact absurd h hne
      · simp only [Value.slice.injEq, Option.some.injEq, Addr.mk.injEq] at he
        refine ⟨b, off, cap, hpos, by simpa using h1, h2, by simp, by omega, ?_⟩
        intro i hi
        exact hc i _ (bvs_getD hi)

theorem take_ext {L M : List Nat} {i : Nat} (hi : i < L.length) (hm : i < M.length) (h : L.take i = M.take i) (he : L.getD i 0 = M.getD i 0) : L.take (i + 1) = M.take (i + 1) := by
  rw [List.take_succ_eq_append_getElem hi, List.take_succ_eq_append_getElem hm, h]
  simp only [List.getD_eq_getElem?_getD, List.getElem?_eq_getElem hi, List.getElem?_eq_getElem hm, Option.getD_some] at he
  rw [he]
theorem getD_ne {L M : List Nat} {i : Nat} (he : L.getD i 0 ≠ M.getD i 0) : L ≠ M := by
  intro h; subst h; exact he rfl

set_option maxRecDepth 100000 in
set_option maxHeartbeats 1000000 in
theorem same_any (v v' : Value) (L M : List Nat) (w : World) (h : Rd w v (bvs L)) (h' : Rd w v' (bvs M)) (hL : ∀ n ∈ L, n < 256) (hM : ∀ n ∈ M, n < 256) :
    Calls Try.prog 19 #[v, v'] w fun e w' => e = .returned (.bool (decide (L = M))) ∧ ∃ n, w' = w.drewN n := by
  by_cases hlen : L.length = M.length
  · rcases h.cases with ⟨a, cap, rfl, rfl⟩ | ⟨b, off, cap, hpos, hc1, hc2, rfl, hb, hcell⟩
    · have : M = [] := List.eq_nil_of_length_eq_zero hlen.symm
      subst this
      rcases h'.cases with ⟨a', cap', rfl, _⟩ | ⟨b', off', cap', hpos', _⟩
      · clear h h' hL hM hlen
        go_enter Try.func19, Try.ntmps19
        go_wp2
        refine wp_loop_rounds 1 ?_
        rw [rounds_succ]
        go_wp2
        go_ret
        exact ⟨rfl, 0, rfl⟩
      · simp at hpos'
    · rcases h'.cases with ⟨a', cap', rfl, rfl⟩ | ⟨b', off', cap', hpos', hc1', hc2', rfl, hb', hcell'⟩
      · simp only [List.length_nil] at hlen; omega
      · obtain ⟨k, hk⟩ : ∃ k, k = L.length := ⟨_, rfl⟩
        rw [← hlen, ← hk] at hpos' hc1' hcell' ⊢
        rw [← hk] at hpos hc1 hcell
        have HK := Lib.hid hk
        have HM : Hid (M.length = k) := Lib.hid (by omega)
        have HC := Lib.hid hcell
        have HC' := Lib.hid hcell'
        have hkm : k ≤ 9223372036854775807 := by unfold maxLen at hc2; omega
        clear hlen hk h h' hcell hcell'
        go_enter Try.func19, Try.ntmps19
        go_wp2
        go_loopw [5] (fun i wr => ∃ i' n : Nat, i' ≤ k ∧ L.take i' = M.take i' ∧ i = .int .i64 i' ∧ wr = w.drewN n) (fun i _ => k - (intOf i).toNat)
        case atStart => exact ⟨0, 0, by omega, rfl, rfl, rfl⟩
        case round =>
          obtain ⟨i, n, hi, he, rfl, rfl⟩ := hrel
          have H := Lib.hid he; clear he
          by_cases hlt : i < k
          · have g1 := HC.out i hlt
            have g2 := HC'.out i hlt
            have x1 := getD_lt hL (by omega) i
            have x2 := getD_lt hM (by omega) i
            obtain ⟨x, hx⟩ : ∃ x, L.getD i 0 = x := ⟨_, rfl⟩
            obtain ⟨y, hy⟩ : ∃ y, M.getD i 0 = y := ⟨_, rfl⟩
            rw [hx] at g1 x1
            rw [hy] at g2 x2
            have HX := Lib.hid hx
            have HY := Lib.hid hy
            clear hx hy
            by_cases hxy : x = y
            · subst hxy
              go_wp2
              go_quiet (fail)
              go_wp2
              go_roundw
              case rel => exact ⟨i + 1, _, by omega, take_ext (by have := HK.out; omega) (by have := HM.out; omega) H.out (HX.out.trans HY.out.symm), by go_num, rfl⟩
              case measure => simp [intOf]; omega
            · have hxy' : ((x : Int) != (y : Int)) = true := by simp; omega
              go_wp2
              go_quiet (fail)
              go_wp2
              go_ret
              exact ⟨ret_bool (by rw [decide_eq_false]; exact getD_ne (by rw [HX.out, HY.out]; exact hxy)), _, World.drewN_drewN _ _ _⟩
          · obtain rfl : i = k := by omega
            go_wp2
            go_ret
            have e := H.out
            rw [List.take_of_length_le (by have := HK.out; omega), List.take_of_length_le (by have := HM.out; omega)] at e
            exact ⟨ret_bool (by rw [decide_eq_true]; exact e), _, rfl⟩
  · have hne : ((L.length : Int) != (M.length : Int)) = true := by simp; omega
    obtain ⟨a, cap, rfl, _⟩ := h
    obtain ⟨a', cap', rfl, _⟩ := h'
    rw [bvs_len, bvs_len]
    go_enter Try.func19, Try.ntmps19
    go_wp2
    go_ret
    exact ⟨ret_bool (by rw [decide_eq_false]; intro h; apply hlen; rw [h]), 0, rfl⟩
end Go.Proofs.Ytohldijomcljkaa
/- Plain mathematics: numbers as bytes, the highest first; lengths. -/
namespace Go.Proofs.Ytohldijomcljkaa.WireM

/-- i bytes of a number, the highest first -/
def beN : Nat → Nat → List Nat
  | 0, _ => []
  | i + 1, n => (n / 256 ^ i % 256) :: beN i n
theorem beN_len : ∀ i n, (beN i n).length = i := by
  intro i
  induction i with
  | zero => intro n; rfl
  | succ i ih => intro n; simp [beN, ih]
theorem beN_lt : ∀ i n, ∀ x ∈ beN i n, x < 256 := by
  intro i
  induction i with
  | zero => intro n x h; simp [beN] at h
  | succ i ih =>
    intro n x h
    simp only [beN, List.mem_cons] at h
    rcases h with rfl | h
    · exact Nat.mod_lt _ (by omega)
    · exact ih n x h
/-- the bytes of a length -/
def lenB (n : Nat) : List Nat :=
  if n < 64 then [n] else if n < 16384 then [64 + n / 256, n % 256] else [128 + n / 16777216, n / 65536 % 256, n / 256 % 256, n % 256]
/-- how many bytes a length takes, 0: it can't be one -/
def lenS (n : Int) : Nat := if n < 0 ∨ 1073741823 < n then 0 else if n < 64 then 1 else if n < 16384 then 2 else 4
theorem lenB_lt {n : Nat} (h : n < 1073741824) : ∀ x ∈ lenB n, x < 256 := by
  intro x hx
  unfold lenB at hx
  split at hx
  · simp at hx; omega
  · split at hx
    · simp at hx; omega
    · simp at hx; omega
theorem lenS1 {n : Nat} (h1 : n < 64) : lenS n = 1 := by unfold lenS; rw [if_neg (by omega), if_pos (by omega)]
theorem lenS2 {n : Nat} (h0 : 64 ≤ n) (h1 : n < 16384) : lenS n = 2 := by unfold lenS; rw [if_neg (by omega), if_neg (by omega), if_pos (by omega)]
theorem lenS4 {n : Nat} (h0 : 16384 ≤ n) (h1 : n < 1073741824) : lenS n = 4 := by unfold lenS; rw [if_neg (by omega), if_neg (by omega), if_neg (by omega)]
theorem lenB_len {n : Nat} (h : n < 1073741824) : (lenB n).length = lenS n := by
  by_cases h1 : n < 64
  · rw [lenS1 h1, lenB, if_pos h1]; rfl
  · by_cases h2 : n < 16384
    · rw [lenS2 (by omega) h2, lenB, if_neg h1, if_pos h2]; rfl
    · rw [lenS4 (by omega) h, lenB, if_neg h1, if_neg h2]; rfl
theorem be1 (n : Nat) (h : n < 64) : beN 1 n = lenB n := by
  unfold lenB
  rw [if_pos h]
  simp [beN]; omega
theorem be2 (n : Nat) (h0 : 64 ≤ n) (h : n < 16384) : beN 2 (16384 + n) = lenB n := by
  unfold lenB
  rw [if_neg (by omega), if_pos h]
  simp [beN]; omega
theorem be4 (n : Nat) (h0 : 16384 ≤ n) (h : n < 1073741824) : beN 4 (2147483648 + n) = lenB n := by
  unfold lenB
  rw [if_neg (by omega), if_neg (by omega)]
  simp [beN]; omega
theorem or2 (n : Nat) (h : n < 16384) : 16384 ||| n = 16384 + n := by
  have := Nat.two_pow_add_eq_or_of_lt (i := 14) (b := n) (by omega) 1
  simpa using this.symm
theorem or4 (n : Nat) (h : n < 1073741824) : 2147483648 ||| n = 2147483648 + n := by
  have := Nat.two_pow_add_eq_or_of_lt (i := 31) (b := n) (by omega) 1
  simpa using this.symm
theorem beN_step (i n : Nat) : n / 256 ^ i / 256 = n / 256 ^ (i + 1) := by rw [Nat.pow_succ, Nat.div_div_eq_div_mul]
theorem shift_pow (i : Nat) : 2 ^ (8 * i) = 256 ^ i := by rw [Nat.pow_mul]
end Go.Proofs.Ytohldijomcljkaa.WireM
