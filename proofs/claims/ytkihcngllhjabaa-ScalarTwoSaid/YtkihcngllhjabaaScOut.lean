/- Walks: scalar's Bit, Bytes. -/
import Derived.Test.YtkihcngllhjabaaScBytes
namespace Go.Proofs.Ytkihcngllhjabaa
open Go.RowKit ScM
set_option linter.unusedVariables false
/-- n bytes of a number, the lowest first -/
def leN : Nat → Nat → List Nat
  | 0, _ => []
  | n + 1, x => x % 256 :: leN n (x / 256)
theorem leN_len (n x : Nat) : (leN n x).length = n := by
  induction n generalizing x with
  | zero => rfl
  | succ n ih => rw [leN, List.length_cons, ih]
theorem leN_lt (n x : Nat) : ∀ d ∈ leN n x, d < 256 := by
  induction n generalizing x with
  | zero => intro d h; cases h
  | succ n ih =>
    intro d hd
    rw [leN] at hd
    rcases List.mem_cons.1 hd with rfl | hd
    · omega
    · exact ih _ d hd
theorem leN_get {n x i : Nat} (h : i < n) : (leN n x)[i]? = some (x / 256 ^ i % 256) := by
  induction n generalizing x i with
  | zero => omega
  | succ n ih =>
    rw [leN]
    cases i with
    | zero => simp
    | succ i =>
      rw [List.getElem?_cons_succ, ih (by omega), Nat.div_div_eq_div_mul, Nat.pow_succ, Nat.mul_comm 256]
theorem leV_leN (n x : Nat) (h : x < 256 ^ n) : leV (leN n x) = x := by
  induction n generalizing x with
  | zero => have : x = 0 := by simpa using h
            subst this; rfl
  | succ n ih =>
    rw [leN, leV, ih (x / 256) (by rw [Nat.pow_succ] at h; omega)]; omega
theorem leN_leV (K : List Nat) (h : ∀ n ∈ K, n < 256) : leN K.length (leV K) = K := by
  induction K with
  | nil => rfl
  | cons d K ih =>
    have hd := h d (List.mem_cons_self ..)
    rw [List.length_cons, leN, leV, show (d + 256 * leV K) % 256 = d by omega, show (d + 256 * leV K) / 256 = leV K by omega, ih fun x hx => h x (List.mem_cons_of_mem _ hx)]
theorem wd_byte (x i : Nat) (h : i < 32) : wd x (i / 8) / 2 ^ (i % 8 * 8) % 256 = x / 256 ^ i % 256 := by
  have hw := wd_wg x (i / 8) (by omega)
  rw [hw, wg]
  obtain ⟨q, r, hr, rfl⟩ : ∃ q r, r < 8 ∧ i = 8 * q + r := ⟨i / 8, i % 8, Nat.mod_lt _ (by omega), (Nat.div_add_mod i 8).symm⟩
  rw [show (8 * q + r) / 8 = q by omega, show (8 * q + r) % 8 = r by omega, show (18446744073709551616 : Nat) = 2 ^ 64 by decide, show (256 : Nat) ^ (8 * q + r) = 2 ^ (64 * q) * 2 ^ (r * 8) by
    rw [show (256 : Nat) = 2 ^ 8 by decide, ← Nat.pow_mul, ← Nat.pow_add]; congr 1; omega]
  rw [← Nat.pow_mul, ← Nat.div_div_eq_div_mul]
  obtain ⟨v, hv⟩ : ∃ v, v = x / 2 ^ (64 * q) := ⟨_, rfl⟩
  rw [← hv]
  obtain ⟨s, hs⟩ : ∃ s, 64 = r * 8 + 8 + s := ⟨56 - r * 8, by omega⟩
  have e : (256 : Nat) = 2 ^ 8 := by decide
  rw [e, hs, Nat.pow_add, Nat.pow_add, Nat.mul_assoc, Nat.mod_mul_right_div_self, Nat.mod_mul_right_mod]
theorem wd_bit (x i : Nat) (h : i < 256) : wd x (i / 64) / 2 ^ (i % 64) % 2 = x / 2 ^ i % 2 := by
  have hw := wd_wg x (i / 64) (by omega)
  rw [hw, wg]
  obtain ⟨q, r, hr, rfl⟩ : ∃ q r, r < 64 ∧ i = 64 * q + r := ⟨i / 64, i % 64, Nat.mod_lt _ (by omega), (Nat.div_add_mod i 64).symm⟩
  rw [show (64 * q + r) / 64 = q by omega, show (64 * q + r) % 64 = r by omega, show (18446744073709551616 : Nat) = 2 ^ 64 by decide, Nat.pow_add, ← Nat.pow_mul, ← Nat.div_div_eq_div_mul]
  obtain ⟨v, hv⟩ : ∃ v, v = x / 2 ^ (64 * q) := ⟨_, rfl⟩
  rw [← hv]
  obtain ⟨s, hs⟩ : ∃ s, 64 = r + 1 + s := ⟨63 - r, by omega⟩
  rw [hs, Nat.pow_add, Nat.pow_succ, Nat.mul_assoc, Nat.mod_mul_right_div_self, Nat.mod_mul_right_mod]
def bitF (x : Nat) (i : Int) : Nat := if 0 ≤ i ∧ i < 256 then x / 2 ^ i.toNat % 2 else 0
set_option maxRecDepth 100000 in
set_option maxHeartbeats 1000000 in
theorem sbit_any (x : Nat) (i : Int) (w : World) :
    Calls Try.prog 31 #[.agg (w4 x), .int .i64 i] w fun e w' => e = .returned (.int .i64 (bitF x i : Nat)) ∧ Below w.heap.size w w' := by
  have K1 := Lib.hid (Blk.new w 27 (w4 x))
  have K3 := Lib.hid ((Below.refl w.heap.size w).alloc (Nat.le_refl _) (.cells (w4 x) 27))
  by_cases h : 0 ≤ i ∧ i < 256
  · have e : bitF x i = x / 2 ^ i.toNat % 2 := if_pos h
    rw [e]
    obtain ⟨h0, h1⟩ := h
    obtain ⟨k, rfl⟩ := Int.eq_ofNat_of_zero_le h0
    have hk : k < 256 := by omega
    rw [Int.toNat_natCast, ← wd_bit x k hk]
    obtain ⟨m, hm⟩ : ∃ m, m = k / 64 := ⟨_, rfl⟩
    obtain ⟨r, hr⟩ : ∃ r, r = k % 64 := ⟨_, rfl⟩
    rw [← hm, ← hr]
    have em : (k : Int) / 64 = (m : Int) := by omega
    have er : (k : Int) % 64 = (r : Int) := by omega
    have hm4 : m < 4 := by omega
    have hr64 : r < 64 := by omega
    have c0 := K1.out.cell m
    rw [w4_get hm4] at c0
    have hy := wd_lt x m
    obtain ⟨y, hye⟩ : ∃ y, y = wd x m := ⟨_, rfl⟩
    rw [← hye] at c0 hy ⊢
    obtain ⟨q, hq⟩ : ∃ q, q = y / 2 ^ r := ⟨_, rfl⟩
    have hqy : q ≤ y := by rw [hq]; exact Nat.div_le_self _ _
    have eq1 : (y : Int) / 2 ^ r = (q : Int) := by rw [hq]; simp
    rw [← hq]
    have ha := and_u64 q (by omega)
    have e2 : ((q % 2 : Nat) : Int) = (q : Int) % 2 := by omega
    clear hm hr hq hye e h0 h1
    go_enter Try.func31, Try.ntmps31
    go_wp2_with fail
    go_ret
    refine ⟨ret_int ?_, K3.out⟩
    omega
  · have e : bitF x i = 0 := if_neg h
    rw [e]
    by_cases h0 : i < 0
    · clear h e
      go_enter Try.func31, Try.ntmps31
      go_wp2_with fail
      go_ret
      exact ⟨rfl, K3.out⟩
    · have h1 : 256 ≤ i := by omega
      clear h e
      go_enter Try.func31, Try.ntmps31
      go_wp2_with fail
      go_ret
      exact ⟨rfl, K3.out⟩
def Z32 : Array Value := (bvs (List.replicate 32 0)).toArray
set_option maxRecDepth 100000 in
set_option maxHeartbeats 2000000 in
theorem sbytes_any (x : Nat) (w : World) :
    Calls Try.prog 17 #[.agg (w4 x)] w fun e w' => ∃ v, e = .returned v ∧ Own w' w.heap.size 5 v (bvs (leN 32 x)) ∧ Below w.heap.size w w' := by
  obtain ⟨k1, k2, k3⟩ := blk2 w (w4 x) Z32 27 5
  have K1 := Lib.hid k1
  have K3 := Lib.hid k3
  have ho : Own ((w.alloc (.cells (w4 x) 27)).alloc (.cells Z32 5)) (w.heap.size + 1) 5 (.slice (some ⟨w.heap.size + 1, 0, none⟩) 32 32) (bvs (List.replicate 32 0)) :=
    Own.full (cs := (bvs (List.replicate 32 0)).toArray) (by simp) (by simp) (by simp; unfold maxLen; omega) (by simp)
  have HO := Lib.hid ho
  obtain ⟨X, hX⟩ : ∃ X, X = leN 32 x := ⟨_, rfl⟩
  have hXl : X.length = 32 := by rw [hX, leN_len]
  have hXg : ∀ i, i < 32 → X[i]? = some (wd x (i / 8) / 2 ^ (i % 8 * 8) % 256) := fun i hi => by rw [wd_byte x i hi, hX]; exact leN_get hi
  rw [← hX]
  have HXL := Lib.hid hXl
  have HXG := Lib.hid hXg
  have hmk : ∀ w, (Instr.makeSlice 22 (.int .i64 32) (.int .i64 32)).run Try.prog w = .ok (.slice (some ⟨w.heap.size, 0, none⟩) 32 32) (w.alloc (.cells Z32 5)) := fun _ => by kernel_rfl
  clear k1 k2 k3 ho hX hXl hXg
  go_enter Try.func17, Try.ntmps17
  go_wp2_with fail
  go_loopg [8] 32 (fun q iv wr => ∃ i : Nat, i + q = 32 ∧ iv = .int .i64 (i : Nat) ∧ Blk wr w.heap.size 27 (w4 x) ∧ Own wr (w.heap.size + 1) 5 (.slice (some ⟨w.heap.size + 1, 0, none⟩) 32 32) (bvs (X.take i ++ (List.replicate 32 0).drop i)) ∧ Below w.heap.size w wr)
  case atStart => exact ⟨0, rfl, rfl, K1.out, by simpa using HO.out, K3.out⟩
  case round =>
    obtain ⟨i, hi, rfl, k1, hown, hb⟩ := hrel
    have J1 := Lib.hid k1
    have JO := Lib.hid hown
    have JB := Lib.hid hb
    have HI := Lib.hid hi
    by_cases h32 : i < 32
    · have h32' : decide ((i : Int) < 32) = true := by rw [decide_eq_true_iff]; omega
      obtain ⟨m, hm⟩ : ∃ m, m = i / 8 := ⟨_, rfl⟩
      obtain ⟨r, hr⟩ : ∃ r, r = i % 8 := ⟨_, rfl⟩
      have em : (i : Int) / 8 = (m : Int) := by omega
      have er : (i : Int) % 8 = (r : Int) := by omega
      have hm4 : m < 4 := by omega
      have hr8 : r < 8 := by omega
      have c0 := k1.cell m
      rw [w4_get hm4] at c0
      have hg := HXG.out i h32
      rw [← hm, ← hr] at hg
      obtain ⟨y, hye⟩ : ∃ y, y = wd x m := ⟨_, rfl⟩
      rw [← hye] at c0 hg
      obtain ⟨hcT, hfT⟩ := hown.at
      have q3 := hcT i _ (bvs_getD (by simp [HXL.out]; omega))
      have q4 := hfT i
      obtain ⟨old, hold⟩ : ∃ o, o = (X.take i ++ (List.replicate 32 0).drop i).getD i 0 := ⟨_, rfl⟩
      rw [← hold] at q3
      have HG := Lib.hid hg
      clear k1 hown hb hm hr hye hcT hfT hold hg hi
      go_wp2_with fail
      go_roundg (gk - 1)
      case measure => have := HI.out; omega
      case rel =>
        have hg := HG.out
        refine ⟨i + 1, by have := HI.out; omega, by go_num, J1.out.far (by simp) _, ?_, JB.out.setCell (by simp) _⟩
        rw [← upd_step (by simp [HXL.out]) (by simp; omega)]
        have hz : X[i]'(by rw [HXL.out]; exact h32) = y / 2 ^ (r * 8) % 256 := by
          rw [List.getElem?_eq_getElem (by rw [HXL.out]; exact h32)] at hg
          simpa using hg
        rw [hz]
        have hb : ∀ (T : List Nat) (d : Nat), bvs (T.set i d) = (bvs T).set i (.int .u8 (d : Int)) := fun T d => by simp [bvs, List.map_set]
        rw [hb, show ((y / 2 ^ (r * 8) % 256 : Nat) : Int) = (y : Int) / 2 ^ (r * 8) % 256 from by simp]
        exact JO.out.set i _
    · obtain rfl : i = 32 := by omega
      have e : X.take 32 ++ (List.replicate 32 0).drop 32 = X := by rw [List.take_of_length_le (by rw [HXL.out]; omega)]; simp
      rw [e] at JO
      clear k1 hown hb hi e
      go_wp2_with fail
      go_ret
      exact ⟨_, rfl, JO.out.mono (by omega), JB.out⟩
end Go.Proofs.Ytkihcngllhjabaa
