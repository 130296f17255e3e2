/- Walks: the law's alive, WireLens. -/
import Derived.Test.YtohldijomcljkaaZHashTells29
import Derived.Test.YtohldijomcljkaaZHashTells05
import Derived.Deep.RegionWith
import Derived.Test.YtohldijomcljkaaZHashTells06
import Derived.Test.YtohldijomcljkaaZHashTells02
namespace Go.Proofs.Ytohldijomcljkaa
open Go.RowKit WireM
set_option linter.unusedVariables false
end Go.Proofs.Ytohldijomcljkaa
/- Walks: a reader's Num, Flag, Left, List; nobody's reader; what is put is taken. -/
namespace Go.Proofs.Ytohldijomcljkaa
open Go.RowKit WireM
set_option linter.unusedVariables false
theorem Own.only {w w' : World} {B C : Nat} {e : TypeId} {v : Value} {xs : List Value} (h : Own w B e v xs) (hb : Only C w w') (hC : C < B) : Own w' B e v xs := by
  refine World.ownsRow.kept h hb ?_
  rcases h.form with rfl | ⟨g, cap, rfl⟩
  · exact .inl rfl
  · right
    have := (World.ownsRow.lt h) g rfl
    simp only [Value.ownBlock, ne_eq, Option.some.injEq]
    omega
theorem Grid.only {w w' : World} {B C : Nat} {eo ei : TypeId} {r : Value} {rows : List (List Value)} (h : Grid w B eo ei r rows) (hb : Only C w w') (hC : C < B) : Grid w' B eo ei r rows := by
  obtain ⟨vs, h1, h2, h3⟩ := h
  refine ⟨vs, h1.only hb hC, h2, ?_⟩
  intro i xs hi
  obtain ⟨v, e1, e2, e3⟩ := h3 i xs hi
  exact ⟨v, e1, e2.only hb hC, e3⟩
theorem rowsE : Elem Try.prog 25 29 (.slice none 0 0) 24 := ⟨Try.underlying25, by kernel_rfl, rfl, by omega⟩
/-- rows of bytes -/
def GridB (w : World) (B : Nat) (v : Value) (rows : List (List Nat)) : Prop := Grid w B 29 5 v (rows.map bvs)
theorem GridB.rdl {w : World} {B : Nat} {v : Value} {rows : List (List Nat)} (h : GridB w B v rows) : RdL w v rows := by
  obtain ⟨vs, h1, h2, h3⟩ := h
  refine ⟨vs, h1.rd, by simpa using h2, ?_⟩
  intro i r hr
  obtain ⟨u, e1, e2, _⟩ := h3 i (bvs r) (by simp [hr])
  exact ⟨u, e1, e2.rd⟩
-- numbers
theorem numV_cons (c : Nat) (L : List Nat) : numV (c :: L) = c * 256 ^ L.length + numV L := by
  have key : ∀ (L : List Nat) (a : Nat), L.foldl (fun a c => a * 256 + c) a = a * 256 ^ L.length + L.foldl (fun a c => a * 256 + c) 0 := by
    intro L
    induction L with
    | nil => intro a; simp
    | cons x L ih =>
      intro a
      simp only [List.foldl_cons, List.length_cons]
      have e : (a * 256 + x) * 256 ^ L.length = a * (256 ^ L.length * 256) + x * 256 ^ L.length := by rw [Nat.add_mul, Nat.mul_assoc, Nat.mul_comm 256]
      rw [ih (a * 256 + x), ih (0 * 256 + x), Nat.pow_succ, e, Nat.zero_mul, Nat.zero_add]
      omega
  show (c :: L).foldl _ 0 = _
  rw [List.foldl_cons, key]
  simp [numV]
theorem numV_beN : ∀ s n, numV (beN s n) = n % 256 ^ s := by
  intro s
  induction s with
  | zero => intro n; simp [beN, numV, Nat.mod_one]
  | succ s ih =>
    intro n
    rw [beN, numV_cons, beN_len, ih, Nat.mod_pow_succ, Nat.mul_comm]
    omega
theorem lengthF_put {n : Nat} (hn : n < 1073741824) (R : List Nat) : lengthF (lenB n ++ R) 0 = (some n, R, 0) := by
  by_cases h1 : n < 64
  · have e : lenB n ++ R = n :: R := by rw [lenB, if_pos h1]; rfl
    rw [e, lengthF, if_neg (by simp)]
    have h0 : n / 64 = 0 := by omega
    rw [lenF, h0, if_neg (by omega)]
    have e2 : numV (n % 64 :: R.take (2 ^ 0 - 1)) = n := by simp [numV]; omega
    rw [e2, if_neg (by simp), if_pos (by rw [lenS1 h1])]
    simp
  · by_cases h2 : n < 16384
    · have e : lenB n ++ R = (64 + n / 256) :: (n % 256) :: R := by rw [lenB, if_neg h1, if_pos h2]; rfl
      rw [e, lengthF, if_neg (by simp)]
      have h0 : (64 + n / 256) / 64 = 1 := by omega
      rw [lenF, h0, if_neg (by omega)]
      have e2 : numV ((64 + n / 256) % 64 :: (n % 256 :: R).take (2 ^ 1 - 1)) = n := by simp [numV]; omega
      rw [e2, if_neg (by simp), if_pos (by rw [lenS2 (by omega) h2])]
      simp
    · have e : lenB n ++ R = (128 + n / 16777216) :: (n / 65536 % 256) :: (n / 256 % 256) :: (n % 256) :: R := by rw [lenB, if_neg h1, if_neg h2]; rfl
      rw [e, lengthF, if_neg (by simp)]
      have h0 : (128 + n / 16777216) / 64 = 2 := by omega
      rw [lenF, h0, if_neg (by omega)]
      have e2 : numV ((128 + n / 16777216) % 64 :: (n / 65536 % 256 :: n / 256 % 256 :: n % 256 :: R).take (2 ^ 2 - 1)) = n := by simp [numV]; omega
      rw [e2, if_neg (by simp), if_pos (by rw [lenS4 (by omega) hn])]
      simp
theorem takeF_put (v R : List Nat) : takeF (v ++ R) 0 (v.length : Int) = (v, R, 0) := by
  rw [takeF, if_neg (by simp), if_neg (by omega), if_neg (by rw [List.length_append]; omega), Int.toNat_natCast]
  simp
theorem vecF_put {v : List Nat} (hv : v.length < 1073741824) (R : List Nat) : vecF (vecB v ++ R) 0 = (v, R, 0) := by
  rw [vecF, vecB, List.append_assoc, lengthF_put hv]
  simp only
  exact takeF_put v R
theorem takeF_le (L : List Nat) (er : Nat) (n : Int) : (takeF L er n).1.length ≤ n.toNat := by
  unfold takeF
  split
  · simp
  · split
    · simp
    · split
      · simp
      · simp; omega
theorem takeF_mem (L : List Nat) (er : Nat) (n : Int) : ∀ x ∈ (takeF L er n).1, x ∈ L := by
  intro x hx
  unfold takeF at hx
  split at hx
  · simp at hx
  · split at hx
    · simp at hx
    · split at hx
      · simp at hx
      · exact List.mem_of_mem_take hx
def numF (L : List Nat) (er : Nat) (s : Int) : List Nat × List Nat × Nat := takeF L er (if mayB s = true then s else -1)
theorem numF_put {s n : Nat} (hs : mayB (s : Int) = true) (R : List Nat) : numF (beN s n ++ R) 0 (s : Int) = (beN s n, R, 0) := by
  rw [numF, if_pos hs]
  have := takeF_put (beN s n) R
  rw [beN_len] at this
  exact this
def flagF (L : List Nat) (er : Nat) : Bool × List Nat × Nat :=
  if er ≠ 0 then (false, L, er) else match L with
    | [] => (false, [], 4)
    | b :: M => if 1 < b then (false, M, 3) else (b == 1, M, 0)
end Go.Proofs.Ytohldijomcljkaa
