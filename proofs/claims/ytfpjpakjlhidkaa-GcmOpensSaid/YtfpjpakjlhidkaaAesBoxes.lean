/- Walks: the boxes of all bytes. -/
import Derived.Test.YtfpjpakjlhidkaaAesTimes
import Derived.Laws.CopyOwn
namespace Go.Proofs.Ytfpjpakjlhidkaa
open Go.RowKit AesM
theorem rot_eq (x k : Nat) (hx : x < 256) : bits .or .u8 ((x : Int) * 2 ^ k % 256) ((x : Int) / 2 ^ (8 - k)) = ((rot x k : Nat) : Int) := by
  have e1 : ((x : Int) * 2 ^ k % 256) = ((x * 2 ^ k % 256 : Nat) : Int) := by simp
  have e2 : ((x : Int) / 2 ^ (8 - k)) = ((x / 2 ^ (8 - k) : Nat) : Int) := by simp
  rw [e1, e2, u8_or_nat _ _ (by omega) (Nat.lt_of_le_of_lt (Nat.div_le_self _ _) hx)]
  rfl
set_option maxHeartbeats 400000 in
theorem rot_any (x : Nat) (k : Nat) (hx : x < 256) (hk : k ≤ 4) (hk0 : 1 ≤ k) (w : World) :
    Calls Try.prog 43 #[.int .u8 x, .int .i64 k] w fun e w' => e = .returned (.int .u8 (rot x k)) ∧ w = w' := by
  have b1 : bits .and .u64 1 7 = 1 := u64_and_nat 1 7 (by omega) (by omega)
  have b2 : bits .and .u64 2 7 = 2 := u64_and_nat 2 7 (by omega) (by omega)
  have b3 : bits .and .u64 3 7 = 3 := u64_and_nat 3 7 (by omega) (by omega)
  have b4 : bits .and .u64 4 7 = 4 := u64_and_nat 4 7 (by omega) (by omega)
  have h' := rot_eq x k hx
  obtain rfl | rfl | rfl | rfl : k = 1 ∨ k = 2 ∨ k = 3 ∨ k = 4 := by omega
  all_goals
    have h := h'
    clear h'
    simp only [Int.reducePow, Nat.reduceSub] at h
    have H := Lib.hid h
    clear h
    go_enter Try.func43, Try.ntmps43
    go_wp2
    go_ret
    exact ⟨ret_int H.out, rfl⟩
/-- numbers as bytes in memory -/
def bys (L : List Nat) : Array Value := (L.map fun n : Nat => Value.int .u8 (n : Int)).toArray
@[simp] theorem bys_size (L : List Nat) : (bys L).size = L.length := by simp [bys]
theorem bys_get {L : List Nat} {i : Nat} (h : i < L.length) : (bys L)[i]? = some (.int .u8 ((L[i] : Nat) : Int)) := by simp [bys, h]
theorem bys_getD {L : List Nat} {i : Nat} (h : i < L.length) : (bys L)[i]? = some (.int .u8 ((L.getD i 0 : Nat) : Int)) := by simp [bys, h]
theorem bys_set (L : List Nat) (i v : Nat) : (bys L).setIfInBounds i (.int .u8 (v : Int)) = bys (L.set i v) := by
  apply Array.toList_inj.mp
  simp [bys]
@[irreducible] def zero256 : Array Value := Array.replicate 256 (.int .u8 0)
theorem zero256_size : zero256.size = 256 := by unfold zero256; exact Array.size_replicate
theorem zero256_get {i : Nat} (h : i < 256) : zero256[i]? = some (.int .u8 0) := by
  unfold zero256
  rw [Array.getElem?_replicate, if_pos h]
theorem zero256_set {i : Nat} (v : Nat) : zero256.setIfInBounds i (.int .u8 (v : Int)) = bys ((List.replicate 256 0).set i v) := by
  rw [← bys_set]
  have : zero256 = bys (List.replicate 256 0) := by
    unfold zero256 bys
    rw [List.map_replicate, List.toArray_replicate]
    rfl
  rw [this]
theorem bys_one (L : List Nat) : (bys L).all (·.oneCell') = true := by
  rw [Array.all_eq_true_iff_forall_mem]
  intro x hx
  simp only [bys, List.mem_toArray, List.mem_map] at hx
  obtain ⟨n, _, rfl⟩ := hx
  rfl
theorem info256 (L : List Nat) (h : L.length = 256) : (Try.prog.info? 48).map (·.size) = some (bys L).size := by
  rw [bys_size, h]
  kernel_rfl
set_option maxRecDepth 100000 in
set_option maxHeartbeats 1000000 in
theorem boxes_any (w : World) :
    Calls Try.prog 29 #[] w fun e w' => e = .returned (.agg (bys boxL)) ∧ Below w.heap.size w w' := by
  have hz : ∀ w, (zeroValue 48).run Try.prog w = .ok (.agg zero256) w := fun _ => by kernel_rfl
  have z0 := zero256_get (i := 0) (by omega)
  have z1 := zero256_size
  go_enter Try.func29, Try.ntmps29
  go_wp2
  go_loopw [2, 3, 7] (fun p q i wr => ∃ i' p' q' : Nat, ∃ L : List Nat, ∃ Z : Obj, i' ≤ 255 ∧ p' < 256 ∧ q' < 256 ∧ L.length = 256 ∧ (p', q', L) = bst i' ∧ p = .int .u8 p' ∧ q = .int .u8 q' ∧ i = .int .i64 i' ∧ wr = (w.alloc (.cells zero256 48)).alloc (.cells (bys L) 48)) (fun _ _ i _ => 255 - (intOf i).toNat)
  case atStart => exact ⟨0, 1, 1, _, .map #[] 0, by omega, by omega, by omega, by simp, rfl, rfl, rfl, rfl, by rw [← zero256_set]; rfl⟩
  case round =>
    obtain ⟨i, p, q, L, Z, hi, hp, hq, hL, he, rfl, rfl, rfl, rfl⟩ := hrel
    have H := Lib.hid he; clear he
    have HL := Lib.hid hL; clear hL
    by_cases h : i < 255
    · have hP := tms_lt 3 hp
      have hQ := tms_lt 246 hq
      obtain ⟨P, eP⟩ : ∃ P, P = tms p 3 := ⟨_, rfl⟩
      obtain ⟨Q, eQ⟩ : ∃ Q, Q = tms q 246 := ⟨_, rfl⟩
      rw [← eP] at hP
      rw [← eQ] at hQ
      have HP := Lib.hid eP
      have HQ := Lib.hid eQ
      have t1 := times_any p 3 (by omega) (by omega)
      have t2 := times_any q 246 (by omega) (by omega)
      rw [← eP] at t1
      rw [← eQ] at t2
      have T1 := Lib.hid t1
      have T2 := Lib.hid t2
      have g0 : (bys L)[P]? = some (.int .u8 ((L.getD P 0 : Nat) : Int)) := bys_getD (by have := HL.out; omega)
      clear eP eQ t1 t2
      go_wp2_with fail
      refine (T1.out _).mono ?_
      rintro e w' ⟨rfl, rfl⟩
      go_wp2_with fail
      refine (T2.out _).mono ?_
      rintro e w' ⟨rfl, rfl⟩
      go_wp2_with fail
      go_loop [4, 5] (fun x n => ∃ n' x' : Nat, n' ≤ 4 ∧ x' < 256 ∧ x' = spread Q n' ∧ x = .int .u8 x' ∧ n = .int .i64 ((n' : Int) + 1)) (fun _ n => 5 - (intOf n).toNat)
      case atStart => exact ⟨0, Q, by omega, hQ, rfl, rfl, rfl⟩
      case round =>
        obtain ⟨n, x, hn, hx, he, rfl, rfl⟩ := hrel
        have HX := Lib.hid he; clear he
        by_cases h4 : n < 4
        · have hr := rot_lt (k := n + 1) hQ
          have rc := rot_any Q (n + 1) hQ (by omega) (by omega)
          rw [show (((n + 1 : Nat)) : Int) = (n : Int) + 1 from by omega] at rc
          have RC := Lib.hid rc; clear rc
          go_wp2_with fail
          refine (RC.out _).mono ?_
          rintro e w' ⟨rfl, rfl⟩
          go_wp2_with fail
          go_round
          case rel => exact ⟨n + 1, _, by omega, xor_lt hx hr, by rw [spread, ← HX.out], by rw [u8_xor_nat x _ hx hr], by go_num⟩
          case measure => simp [intOf]; omega
        · obtain rfl : n = 4 := by omega
          have hs := bys_set L P (x ^^^ 99)
          have hx9 := u8_xor_nat x 99 hx (by omega)
          have HS := Lib.hid hs
          clear hs
          go_wp2_with fail
          go_roundw
          case rel => 
            refine ⟨i + 1, P, Q, L.set P (x ^^^ 99), .map #[] 0, by omega, hP, hQ, by rw [List.length_set]; exact HL.out, ?_, rfl, rfl, by go_num, ?_⟩
            · rw [bst, ← H.out, bstep, HP.out, HQ.out, HX.out, HQ.out]
            · rw [← HS.out, ← hx9]; rfl
          case measure => simp [intOf]; omega
    · obtain rfl : i = 255 := by omega
      have hg1 := Lib.hid (heap_alloc2_new w (.cells zero256 48) (.cells (bys L) 48))
      have hg0 := Lib.hid (heap_alloc2_old w (.cells zero256 48) (.cells (bys L) 48))
      have hs := Lib.hid (info256 L HL.out)
      have ho : Hid (zero256.size = (bys L).size) := Lib.hid (by rw [zero256_size, bys_size]; exact HL.out.symm)
      have h1 := Lib.hid (bys_one L)
      go_wp2_with (first | (with_reducible refine wpList_load_row rfl 48 _ rfl (w.heap.size + 1) rfl 48 (bys L) (0, 0) _ hg1.out Try.underlying48 rfl hs.out ?_) | (with_reducible refine wpList_store_row rfl 48 _ _ rfl w.heap.size (bys L) rfl rfl 48 zero256 hg0.out hs.out ho.out h1.out ?_))
      refine bodyPost_ret (results_cell_row rfl _ _ w.heap.size 48 (bys L) (0, 0) _ rfl (setRow_heap _ _ _ _ _ _ hg0.out) Try.underlying48 rfl hs.out) rfl ⟨?_, ?_⟩
      · rw [boxL, ← H.out]
      · exact below_setRow (((Below.refl _ _).alloc (Nat.le_refl _) _).alloc (by simp) _) (Nat.le_refl _) _
end Go.Proofs.Ytfpjpakjlhidkaa
