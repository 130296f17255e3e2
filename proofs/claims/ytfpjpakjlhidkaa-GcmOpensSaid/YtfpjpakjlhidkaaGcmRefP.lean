/- Walks: the reference's filled, bits. -/
import Derived.Test.YtfpjpakjlhidkaaGcmRefX
namespace Go.Proofs.Ytfpjpakjlhidkaa
open Go.RowKit AesM GcmM GcmB
set_option linter.unusedVariables false
/-- with zeros behind, to whole parts of 16 -/
def fillB (b : List Nat) : List Nat := b ++ List.replicate (16 * ((b.length + 15) / 16) - b.length) 0
theorem fillB_len (b : List Nat) : (fillB b).length = 16 * ((b.length + 15) / 16) := by
  simp only [fillB, List.length_append, List.length_replicate]; omega
theorem fillB_lt {b : List Nat} (hb : ∀ x ∈ b, x < 256) : ∀ x ∈ fillB b, x < 256 := by
  intro x hx
  rcases List.mem_append.1 hx with hx | hx
  · exact hb x hx
  · rw [(List.mem_replicate.1 hx).2]; omega
theorem fillB_get (b : List Nat) (i : Nat) : (fillB b).getD i 0 = b.getD i 0 := by
  unfold fillB
  rw [List.getD_eq_getElem?_getD, List.getD_eq_getElem?_getD, List.getElem?_append]
  by_cases h : i < b.length
  · rw [if_pos h]
  · rw [if_neg h, List.getElem?_eq_none (l := b) (by omega), List.getElem?_replicate]
    split <;> rfl
theorem bvs_set1 (L : List Nat) (i n : Nat) : bvs (L.set i n) = (bvs L).set i (.int .u8 (n : Int)) := by simp [bvs]
theorem slLen {w : World} {B : Nat} {e : TypeId} {v : Value} {xs : List Value} (h : Own w B e v xs) (n : Nat) (hn : xs.length = n) : ∃ a c, v = .slice a n c := by
  obtain ⟨a, c, e, _⟩ := h.rd
  exact ⟨a, c, by rw [e, hn]⟩
set_option maxRecDepth 100000 in
set_option maxHeartbeats 2000000 in
theorem rfilled_any (v1 : Value) (A : List Nat) (w : World) (h1 : Rd w v1 (bvs A)) (hn : A.length ≤ 100000) :
    Calls Try.prog 39 #[v1] w fun e w' => ∃ u, e = .returned u ∧ Own w' w.heap.size 5 u (bvs (fillB A)) ∧ Below w.heap.size w w' := by
  have hv1 : ∃ a b c, v1 = .slice a b c := by obtain ⟨a, c, e, _⟩ := h1; exact ⟨a, _, c, e⟩
  obtain ⟨a1, b1, c1, rfl⟩ := hv1
  obtain ⟨n, hn'⟩ : ∃ n, n = A.length := ⟨_, rfl⟩
  obtain ⟨M, hM⟩ : ∃ M, M = 16 * ((n + 15) / 16) - n := ⟨_, rfl⟩
  have hfl : fillB A = A ++ List.replicate M 0 := by rw [fillB, hM, hn']
  rw [hfl]
  rw [← hn'] at hn
  have HR := Lib.hid h1
  have HN := Lib.hid hn'
  have HM := Lib.hid hM
  clear h1 hn' hM hfl
  go_enter Try.func39, Try.ntmps39
  go_wp2_with (at_builtin; refine wpList_app rfl (.tmp 4) (.tmp 5) 28 rfl w.heap.size 5 _ 1 bytesE _ [] rfl (Own.lit0 rfl (Nat.le_refl _)) _ (bvs A) rfl (HR.out.alloc _) (bvs_one _) ?c2 ?c3 ?_)
  case c2 => rw [bvs_len, ← HN.out]; simp; omega
  case c3 => simp
  rintro v' w2 hown - hb2
  have HO := Lib.hid hown
  have HB := Lib.hid (((Below.refl w.heap.size w).alloc (Nat.le_refl _) (.cells #[] 5)).trans hb2)
  clear hown hb2
  go_wp2_with fail
  go_loopg [3] M (fun q ov wr => ∃ k : Nat, k + q = M ∧ Own wr w.heap.size 5 ov (bvs (A ++ List.replicate k 0)) ∧ Below w.heap.size w wr)
  case atStart => exact ⟨0, by omega, by simpa using HO.out, HB.out⟩
  case round =>
    obtain ⟨k, hk, hown, hb⟩ := hrel
    obtain ⟨m, hm⟩ : ∃ m, m = n + k := ⟨_, rfl⟩
    obtain ⟨s1, s3, rfl⟩ := slLen hown m (by rw [bvs_len, List.length_append, List.length_replicate, ← HN.out, hm])
    obtain ⟨r, hr⟩ : ∃ r, r = m % 16 := ⟨_, rfl⟩
    have e1 : (m : Int) % 16 = (r : Int) := by omega
    have e2 : Int.tmod (m : Int) 16 = (r : Int) := by rw [Int.tmod_eq_emod_of_nonneg (by omega)]; omega
    have HO2 := Lib.hid hown
    have HB2 := Lib.hid hb
    have HK := Lib.hid hk
    have hM2 := HM.out
    by_cases hlt : k < M
    · have ht : decide (0 < r) = true := by rw [decide_eq_true_iff]; omega
      clear hown hb hk hM2 hm hr
      go_wp2_with (at_builtin; refine wpList_push rfl (.tmp 11) (.tmp 12) 28 rfl w.heap.size 5 _ 1 bytesE _ (bvs (A ++ List.replicate k 0)) rfl (HO2.out.alloc _) ⟨wr.heap.size, 0, none⟩ (.int .u8 0) rfl (cell_new rfl) rfl ?d2 ?d3 ?_)
      case d2 => have := HM.out; rw [bvs_len, List.length_append, List.length_replicate, ← HN.out]; omega
      case d3 => have := HB2.out.size; simp; omega
      rintro v'' w4 hown - hb4
      have HO4 := Lib.hid hown
      have HB4 := Lib.hid ((HB2.out.alloc HB2.out.size (.cells #[.int .u8 0] 5)).trans hb4)
      clear hown hb4
      go_wp2_with fail
      go_roundg (gk - 1)
      case measure => have := HK.out; omega
      case rel =>
        refine ⟨k + 1, by have := HK.out; omega, ?_, HB4.out⟩
        have := HO4.out
        rw [List.replicate_succ', ← List.append_assoc, bvs_snoc1]
        exact this
    · have ht : decide (0 < r) = false := by rw [decide_eq_false_iff_not]; omega
      obtain rfl : k = M := by omega
      clear hown hb hk hM2 hm hr
      go_wp2_with fail
      go_ret
      exact ⟨_, rfl, HO2.out, HB2.out⟩
/-- the last bytes of a number, zeros ahead -/
def bitsL (m j : Nat) : List Nat := List.replicate (8 - j) 0 ++ beN j m
theorem bitsL_len (m : Nat) {j : Nat} (h : j ≤ 8) : (bitsL m j).length = 8 := by simp [bitsL, beN_len]; omega
theorem bitsL_step (m : Nat) {j : Nat} (h : j < 8) : (bitsL m j).set (7 - j) (m / 256 ^ j % 256) = bitsL m (j + 1) := by
  have e : ∀ v, beN (j + 1) v = [v / 256 ^ j % 256] ++ beN j v := by
    clear h
    induction j with
    | zero => intro v; simp [beN]
    | succ j ih =>
      intro v
      rw [beN, ih, List.append_assoc, Nat.div_div_eq_div_mul, show 256 * 256 ^ j = 256 ^ (j + 1) by rw [Nat.pow_succ, Nat.mul_comm]]
      rw [show beN (j + 1) v = beN j (v / 256) ++ [v % 256] from rfl]
  rw [bitsL, bitsL, e, show 8 - j = (7 - j) + 1 by omega, List.replicate_succ', show 8 - (j + 1) = 7 - j by omega, List.append_assoc, List.set_append_right _ _ (by simp)]
  simp
def Z8 : Array Value := #[.int .u8 0, .int .u8 0, .int .u8 0, .int .u8 0, .int .u8 0, .int .u8 0, .int .u8 0, .int .u8 0]
set_option maxRecDepth 100000 in
set_option maxHeartbeats 2000000 in
theorem rbits_any (n : Nat) (w : World) (hn : n ≤ 100000) :
    Calls Try.prog 40 #[.int .i64 (n : Nat)] w fun e w' => ∃ u, e = .returned u ∧ Own w' w.heap.size 5 u (bvs (beN 8 (8 * n))) ∧ Below w.heap.size w w' := by
  have hmk : ∀ w, (Instr.makeSlice 28 (.int .i64 8) (.int .i64 8)).run Try.prog w = .ok (.slice (some ⟨w.heap.size, 0, none⟩) 8 8) (w.alloc (.cells Z8 5)) := fun _ => by kernel_rfl
  obtain ⟨m, hm⟩ : ∃ m, m = 8 * n := ⟨_, rfl⟩
  have HOZ := Lib.hid ((Own.full (w := w) (B := w.heap.size) (e := 5) (cs := (bvs (List.replicate 8 0)).toArray) rfl (Nat.le_refl _) (by unfold maxLen; simp) (n := 8) (by simp) : Own (w.alloc (.cells Z8 5)) w.heap.size 5 (.slice (some ⟨w.heap.size, 0, none⟩) 8 8) (bvs (List.replicate 8 0))))
  have hm1 : 8 * (n : Int) = (m : Int) := by omega
  have hm2 : m < 1000000 := by omega
  rw [← hm]
  clear hm
  go_enter Try.func40, Try.ntmps40
  go_wp2_with fail
  go_loopg [0, 4] 8 (fun q mv iv wr => ∃ j y : Nat, j + q = 8 ∧ iv = .int .i64 (7 - (j : Int)) ∧ mv = .int .i64 (y : Nat) ∧ y = m / 256 ^ j ∧ y < 1000000 ∧ Own wr w.heap.size 5 (.slice (some ⟨w.heap.size, 0, none⟩) 8 8) (bvs (bitsL m j)) ∧ Below w.heap.size w wr)
  case atStart => exact ⟨0, m, rfl, rfl, by go_num, by simp, hm2, HOZ.out, (Below.refl _ _).alloc (Nat.le_refl _) _⟩
  case round =>
    obtain ⟨j, y, hj, rfl, rfl, hy, hy2, hown, hb⟩ := hrel
    have hf := hown.at.2
    have HO := Lib.hid hown
    have HB := Lib.hid hb
    have HJ := Lib.hid hj
    have HY := Lib.hid hy
    clear hb hj hy
    by_cases hlt : j < 8
    · obtain ⟨i, hi⟩ : ∃ i, i = 7 - j := ⟨_, rfl⟩
      have hi8 : i < 8 := by omega
      have e0 : (7 : Int) - (j : Int) = (i : Int) := by omega
      rw [e0]
      obtain ⟨x, hx⟩ : ∃ x, x = y % 256 := ⟨_, rfl⟩
      have e1 : (y : Int) % 256 = (x : Int) := by omega
      have q1 : IntKind.u8.wrap (x : Int) = (x : Int) := by rw [IntKind.wrap_u8]; omega
      have hge : decide ((i : Int) ≥ 0) = true := by rw [decide_eq_true_iff]; omega
      have hge2 : decide (0 ≤ (i : Int)) = true := by rw [decide_eq_true_iff]; omega
      have q2 := hown.at.1 i (.int .u8 ((bitsL m j).getD i 0 : Nat)) (by rw [bvs_getD (by rw [bitsL_len _ (by omega)]; omega)])
      have q3 := hf i
      obtain ⟨old, hold⟩ : ∃ o, o = (bitsL m j).getD i 0 := ⟨_, rfl⟩
      rw [← hold] at q2
      have HI := Lib.hid hi
      have HX := Lib.hid hx
      clear hown hf hold hi hx e0
      go_wp2_with fail
      go_roundg (gk - 1)
      case measure => have := HJ.out; omega
      case rel =>
        refine ⟨j + 1, y / 256, by have := HJ.out; omega, ?_, by go_num, by rw [HY.out, Nat.div_div_eq_div_mul, Nat.pow_succ], by omega, ?_, HB.out.setCell (p := ⟨w.heap.size, i, none⟩) (Nat.le_refl _) _⟩
        · have := HI.out; have := HJ.out
          show Value.int .i64 ((i : Int) - 1) = _
          congr 1
          omega
        · rw [← bitsL_step m hlt, ← HY.out, ← HI.out, ← HX.out, bvs_set1]
          exact HO.out.set i _
    · obtain rfl : j = 8 := by have := HJ.out; omega
      have hge : decide ((7 : Int) - (8 : Nat) ≥ 0) = false := by decide
      clear hown hf
      go_wp2_with fail
      go_ret
      exact ⟨_, rfl, HO.out, HB.out⟩
end Go.Proofs.Ytfpjpakjlhidkaa
