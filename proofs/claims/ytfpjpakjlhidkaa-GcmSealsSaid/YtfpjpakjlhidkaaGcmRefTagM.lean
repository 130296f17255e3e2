/- Plain: the reference's sum over the filled texts is the tag's. -/
import Derived.Test.YtfpjpakjlhidkaaGcmRefP
import Derived.Test.YtfpjpakjlhidkaaGcmRefM
namespace Go.Proofs.Ytfpjpakjlhidkaa
open Go.RowKit AesM GcmM GcmB
set_option linter.unusedVariables false
theorem p256 (k : Nat) : 256 ^ k = 2 ^ (8 * k) := by rw [Nat.pow_mul]
theorem xorL_beN {A B : List Nat} (hA : ∀ x ∈ A, x < 256) (hB : ∀ x ∈ B, x < 256) (la : A.length = 16) (lb : B.length = 16) : xorL A B 16 = beN 16 (beV A ^^^ beV B) := by
  refine ext_getD (by rw [xorL_len, beN_len]) fun j hj => ?_
  rw [xorL_len] at hj
  have e1 : (xorL A B 16).getD j 0 = A.getD j 0 ^^^ B.getD j 0 := by simp [xorL, List.getD_eq_getElem?_getD, hj]
  rw [e1, byte_at hA la hj, byte_at hB lb hj, List.getD_eq_getElem?_getD, beN_get hj, Option.getD_some, show (16 - 1 - j) = 15 - j by omega, p256, Nat.xor_div_two_pow, show (256 : Nat) = 2 ^ 8 from rfl, Nat.xor_mod_two_pow]
/-- the sum over the first n parts -/
def yF (h : Nat) (b : List Nat) (n : Nat) (y : Nat) : Nat := (List.range n).foldl (fun y i => GcmM.gm (y ^^^ beV (padB b (16 * i))) h) y
theorem yF_succ (h : Nat) (b : List Nat) (n y : Nat) : yF h b (n + 1) y = GcmM.gm (yF h b n y ^^^ beV (padB b (16 * n))) h := by simp [yF, List.range_succ]
theorem yF_lt {h : Nat} (hh : h < P128) (b : List Nat) {y : Nat} (hy : y < P128) : ∀ n, yF h b n y < P128
  | 0 => hy
  | n + 1 => by rw [yF_succ]; exact gm_lt hh _
theorem yF_congr {h : Nat} {b c : List Nat} {y : Nat} : ∀ n, (∀ i, i < n → padB b (16 * i) = padB c (16 * i)) → yF h b n y = yF h c n y := by
  intro n
  induction n with
  | zero => intro _; simp only [yF, List.range_zero, List.foldl_nil]
  | succ n ih => intro hp; rw [yF_succ, yF_succ, ih fun i hi => hp i (by omega), hp n (by omega)]
theorem yF_add (h : Nat) (b c : List Nat) (m y : Nat) : ∀ n, (∀ i, i < n → padB b (16 * (m + i)) = padB c (16 * i)) → yF h b (m + n) y = yF h c n (yF h b m y) := by
  intro n
  induction n with
  | zero => intro _; simp only [yF, List.range_zero, List.foldl_nil, Nat.add_zero]
  | succ n ih => intro hp; rw [← Nat.add_assoc, yF_succ, yF_succ, ih fun i hi => hp i (by omega), hp n (by omega)]
theorem ghF_eq (h : Nat) (b : List Nat) (y : Nat) : ghF h b y = yF h b ((b.length + 15) / 16) y := rfl
theorem padB_get (b : List Nat) (x : Nat) {j : Nat} (h : j < 16) : (padB b x).getD j 0 = b.getD (x + j) 0 := by simp [padB, List.getD_eq_getElem?_getD, h]
/-- all that the reference sums -/
def allB (S M : List Nat) : List Nat := fillB M ++ fillB S ++ beN 8 (8 * M.length) ++ beN 8 (8 * S.length)
theorem allB_len (S M : List Nat) : (allB S M).length = 16 * ((M.length + 15) / 16 + (S.length + 15) / 16 + 1) := by
  simp only [allB, List.length_append, fillB_len, beN_len]; omega
theorem allB_lt {S M : List Nat} (hS : ∀ x ∈ S, x < 256) (hM : ∀ x ∈ M, x < 256) : ∀ x ∈ allB S M, x < 256 := by
  intro x hx
  rcases List.mem_append.1 hx with hx | hx
  · rcases List.mem_append.1 hx with hx | hx
    · rcases List.mem_append.1 hx with hx | hx
      · exact fillB_lt hM x hx
      · exact fillB_lt hS x hx
    · exact beN_lt _ _ x hx
  · exact beN_lt _ _ x hx
theorem getD_app (A B : List Nat) (i : Nat) : (A ++ B).getD i 0 = if i < A.length then A.getD i 0 else B.getD (i - A.length) 0 := by
  rw [List.getD_eq_getElem?_getD, List.getElem?_append]
  split <;> rw [List.getD_eq_getElem?_getD]
theorem allB_yF {S M : List Nat} (hS : S.length ≤ 100000) (hM : M.length ≤ 100000) (h : Nat) : yF h (allB S M) ((M.length + 15) / 16 + (S.length + 15) / 16 + 1) 0 = GcmM.gm (ghF h S (ghF h M 0) ^^^ (8 * M.length * 18446744073709551616 + 8 * S.length)) h := by
  obtain ⟨cm, hcm⟩ : ∃ c, c = (M.length + 15) / 16 := ⟨_, rfl⟩
  obtain ⟨cs, hcs⟩ : ∃ c, c = (S.length + 15) / 16 := ⟨_, rfl⟩
  have lm := fillB_len M
  have ls := fillB_len S
  rw [ghF_eq, ghF_eq, ← hcm, ← hcs]
  rw [← hcm] at lm
  rw [← hcs] at ls
  have g1 : ∀ i, i < cm → padB (allB S M) (16 * i) = padB M (16 * i) := by
    intro i hi
    refine ext_getD (by rw [padB_len, padB_len]) fun j hj => ?_
    rw [padB_len] at hj
    rw [padB_get _ _ hj, padB_get _ _ hj, allB, List.append_assoc, List.append_assoc, getD_app, if_pos (by omega), fillB_get]
  have g2 : ∀ i, i < cs → padB (allB S M) (16 * (cm + i)) = padB S (16 * i) := by
    intro i hi
    refine ext_getD (by rw [padB_len, padB_len]) fun j hj => ?_
    rw [padB_len] at hj
    rw [padB_get _ _ hj, padB_get _ _ hj, allB, List.append_assoc, List.append_assoc, getD_app, if_neg (by omega), getD_app, if_pos (by omega), fillB_get]
    congr 1; omega
  have g3 : padB (allB S M) (16 * (cm + cs)) = beN 8 (8 * M.length) ++ beN 8 (8 * S.length) := by
    refine ext_getD (by rw [padB_len, List.length_append, beN_len, beN_len]) fun j hj => ?_
    rw [padB_len] at hj
    rw [padB_get _ _ hj, allB, List.append_assoc, getD_app, if_neg (by rw [List.length_append]; omega)]
    congr 1; rw [List.length_append]; omega
  rw [yF_succ, g3, beV_app, beN_len, beV_beN (by omega), beV_beN (by omega), yF_add h _ S cm 0 cs g2, yF_congr cm g1]
theorem beV_pad {b : List Nat} {x : Nat} (h : x + 16 ≤ b.length) : padB b x = (b.drop x).take 16 := by
  refine ext_getD (by rw [padB_len]; simp; omega) fun j hj => ?_
  rw [padB_len] at hj
  rw [padB_get _ _ hj, List.getD_eq_getElem?_getD, List.getD_eq_getElem?_getD, List.getElem?_take_of_lt hj, List.getElem?_drop]
end Go.Proofs.Ytfpjpakjlhidkaa
