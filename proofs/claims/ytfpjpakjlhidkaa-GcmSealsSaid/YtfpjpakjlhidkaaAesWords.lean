/- Plain mathematics: a key's words, one by one. -/
import Derived.Test.YtfpjpakjlhidkaaAesInj
namespace Go.Proofs.Ytfpjpakjlhidkaa.AesM

def pw : Nat → Nat
  | 0 => 1
  | k + 1 => tms (pw k) 2
theorem pw_lt : ∀ k, pw k < 256 := by
  intro k
  induction k with
  | zero => show 1 < 256; omega
  | succ k ih => exact tms_lt _ ih
/-- what the word i (from 4 on) is held against, at the place k -/
def wx (KW : List Nat) (i k : Nat) : Nat :=
  if i % 4 = 0 then (if k = 0 then boxL.getD (KW.getD (4 * (i - 1) + (k + 1) % 4) 0) 0 ^^^ pw (i / 4 - 1) else boxL.getD (KW.getD (4 * (i - 1) + (k + 1) % 4) 0) 0)
  else KW.getD (4 * (i - 1) + k) 0

section
variable {K : List Nat} (hK : ∀ x ∈ K, x < 256) (hl : K.length = 16)
include hK hl
theorem exN_pre : ∀ d n j, j < 16 + 4 * n → (exN boxL K (n + d)).1.getD j 0 = (exN boxL K n).1.getD j 0 := by
  intro d
  induction d with
  | zero => intro n j _; rfl
  | succ d ih =>
    intro n j hj
    rw [← ih n j hj]
    show (exStep boxL (exN boxL K (n + d))).1.getD j 0 = _
    have h := (exN_ok boxL_lt hK hl (n + d)).1
    simp only [exStep, List.getD_eq_getElem?_getD]
    rw [List.getElem?_append_left (by omega)]
theorem kw_at {n j : Nat} (hn : n ≤ 40) (hj : j < 16 + 4 * n) : (kwords K).getD j 0 = (exN boxL K n).1.getD j 0 := by
  have := exN_pre hK hl (40 - n) n j hj
  rw [show n + (40 - n) = 40 from by omega] at this
  exact this
theorem exN_f : ∀ n, (exN boxL K n).2 = pw ((n + 3) / 4) := by
  intro n
  induction n with
  | zero => rfl
  | succ n ih =>
    have h := (exN_ok boxL_lt hK hl n).1
    simp only [exN, exStep]
    rw [h, ih]
    split
    · rw [show (n + 1 + 3) / 4 = (n + 3) / 4 + 1 from by omega]; rfl
    · rw [show (n + 1 + 3) / 4 = (n + 3) / 4 from by omega]
omit hK hl in
theorem getD_drop (L : List Nat) (a j : Nat) : (L.drop a).getD j 0 = L.getD (a + j) 0 := by
  simp [List.getD_eq_getElem?_getD]
theorem kw_rec {n k : Nat} (hn : n < 40) (hk : k < 4) : (kwords K).getD (4 * (n + 4) + k) 0 = (kwords K).getD (4 * n + k) 0 ^^^ wx (kwords K) (n + 4) k := by
  have h := (exN_ok boxL_lt hK hl n).1
  have at' := fun j (hj : j < 16 + 4 * n) => kw_at hK hl (n := n) (by omega) hj
  rw [kw_at hK hl (n := n + 1) (by omega) (by omega)]
  have ht : (exT boxL (exN boxL K n).1 (exN boxL K n).2).length = 4 := exT_len _ _ (by omega)
  have e1 : (exN boxL K (n + 1)).1.getD (4 * (n + 4) + k) 0 = (exT boxL (exN boxL K n).1 (exN boxL K n).2).getD k 0 ^^^ (kwords K).getD (4 * n + k) 0 := by
    simp only [exN, exStep]
    have : ∀ A B : List Nat, A.length = 16 + 4 * n → (A ++ B).getD (4 * (n + 4) + k) 0 = B.getD k 0 := by
      intro A B hA
      simp only [List.getD_eq_getElem?_getD]
      rw [List.getElem?_append_right (by omega), hA, show 4 * (n + 4) + k - (16 + 4 * n) = k from by omega]
    rw [this _ _ h, getD_zip (by omega) (by rw [List.length_drop]; omega), getD_drop, h, show 16 + 4 * n - 16 + k = 4 * n + k from by omega, at' _ (by omega)]
  rw [e1, Nat.xor_comm]
  congr 1
  have hx : ∀ j, j < 4 → ((exN boxL K n).1.drop ((exN boxL K n).1.length - 4)).getD j 0 = (kwords K).getD (4 * (n + 4 - 1) + j) 0 := by
    intro j hj
    rw [getD_drop, h, at' _ (by omega)]
    congr 1; omega
  have hf := exN_f hK hl n
  have hF : n % 4 = 0 → (n + 3) / 4 = (n + 4) / 4 - 1 := by omega
  unfold exT wx
  simp only
  rw [h]
  by_cases h16 : n % 4 = 0
  · rw [if_pos (by omega), if_pos (by omega), hf, hF h16, ← h]
    obtain rfl | rfl | rfl | rfl : k = 0 ∨ k = 1 ∨ k = 2 ∨ k = 3 := by omega
    · rw [if_pos rfl, ← hx _ (by omega)]; simp only [List.getD_cons_zero]
    · rw [if_neg (by omega), ← hx _ (by omega)]; simp only [List.getD_cons_zero, List.getD_cons_succ]
    · rw [if_neg (by omega), ← hx _ (by omega)]; simp only [List.getD_cons_zero, List.getD_cons_succ]
    · rw [if_neg (by omega), ← hx _ (by omega)]; simp only [List.getD_cons_zero, List.getD_cons_succ]
  · rw [if_neg (by omega), if_neg (by omega), ← h]
    exact hx k hk
theorem kw_head {j : Nat} (hj : j < 16) : (kwords K).getD j 0 = K.getD j 0 := kw_at hK hl (n := 0) (by omega) (by omega)
end
theorem kw_len {K : List Nat} (hK : ∀ x ∈ K, x < 256) (hl : K.length = 16) : (kwords K).length = 176 := (exN_ok boxL_lt hK hl 40).1
theorem kw_lt {K : List Nat} (hK : ∀ x ∈ K, x < 256) (hl : K.length = 16) : ∀ x ∈ kwords K, x < 256 := (exN_ok boxL_lt hK hl 40).2.1
end Go.Proofs.Ytfpjpakjlhidkaa.AesM
