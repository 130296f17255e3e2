/- Walks: aes.Box, and the reference's Box. -/
import Derived.Test.YtfpjpakjlhidkaaAesBoxes
import Derived.Test.YtfpjpakjlhidkaaAesTab
import Derived.Test.YtfpjpakjlhidkaaMem
import Derived.Deep.QuietTactic
import Derived.BigQuiet
namespace Go.Proofs.Ytfpjpakjlhidkaa
open Go.RowKit AesM

theorem ints34 : Elem Try.prog 34 3 (.int .i64 0) 8 := ⟨Try.underlying34, by kernel_rfl, rfl, by omega⟩

set_option maxRecDepth 100000 in
set_option maxHeartbeats 400000 in
theorem box_any (b : Nat) (hb : b < 256) (w : World) :
    Calls Try.prog 13 #[.int .u8 b] w fun e w' => e = .returned (.int .u8 (boxL.getD b 0 : Nat)) ∧ Below w.heap.size w w' := by
  have hg := bys_getD (L := boxL) (i := b) (by rw [boxL_len]; exact hb)
  have hi := fun w => run_index_arr (P := Try.prog) w Try.underlying48 rfl Try.underlying5 (by kernel_rfl) (bys boxL) .u8 b hb _ hg
  go_enter Try.func13, Try.ntmps13
  go_wp2_with (go_at_call 29; refine (boxes_any _).mono ?_; rintro e w' ⟨rfl, hbel⟩)
  go_ret
  exact ⟨rfl, hbel⟩

theorem rinv_le (a : Nat) : ∀ k, rinvTo a k ≤ k := by
  intro k
  induction k with
  | zero => exact Nat.le_refl _
  | succ k ih => unfold rinvTo; split <;> omega

def bits2 (b : Nat) (k : Nat) : List Value := (List.range k).map fun j => .int .i64 ((b / 2 ^ j % 2 : Nat) : Int)
theorem bits2_succ (b k : Nat) : bits2 b (k + 1) = bits2 b k ++ [.int .i64 ((b / 2 ^ k % 2 : Nat) : Int)] := by simp [bits2, List.range_succ]
theorem bitcell {w : World} {g B : Nat} (hc : ∀ (j : Nat) u, (bits2 B 8)[j]? = some u → w.cell? ⟨g, j, none⟩ = some u) (j : Nat) (hj : j < 8) :
    ∃ t : Nat, t ≤ 1 ∧ Hid (t = rbit B j) ∧ w.cell? ⟨g, j, none⟩ = some (.int .i64 (t : Int)) :=
  ⟨rbit B j, by unfold rbit; omega, rfl, hc j _ (by simp [bits2, hj]; rfl)⟩
theorem raff_lt (B : Nat) : ∀ k, raff B k < 2 ^ k := by
  intro k
  induction k with
  | zero => show 0 < 1; omega
  | succ k ih =>
    have : rs B k % 2 * 2 ^ k ≤ 1 * 2 ^ k := Nat.mul_le_mul_right _ (by omega)
    rw [raff, Nat.pow_succ]; omega
theorem raff_step (B i o s : Nat) (h : o = raff B i) (hs : s = rs B i) : raff B (i + 1) = o + s % 2 * 2 ^ i := by rw [raff, h, hs]
set_option maxRecDepth 100000 in
set_option maxHeartbeats 1000000 in
theorem rbox_any (a : Nat) (ha : a < 256) (w : World) :
    Calls Try.prog 14 #[.int .i64 a] w fun e w' => e = .returned (.int .i64 (rbox a : Nat)) ∧ Below w.heap.size w w' := by
  go_enter Try.func14, Try.ntmps14
  go_wp2
  go_loop [3, 4] (fun b x => ∃ k b' : Nat, k ≤ 255 ∧ b' ≤ 255 ∧ b' = rinvTo a k ∧ b = .int .i64 b' ∧ x = .int .i64 ((k : Int) + 1)) (fun _ x => 256 - (intOf x).toNat)
  case atStart => exact ⟨0, 0, by omega, by omega, rfl, rfl, rfl⟩
  case round =>
    obtain ⟨k, b, hk, hb, he, rfl, rfl⟩ := hrel
    have H := Lib.hid he; clear he
    by_cases h : k < 255
    · have T := rtimes_any a (k + 1) ha (by omega)
      rw [rtms_tms a _ ha, show (((k + 1 : Nat)) : Int) = (k : Int) + 1 from by omega] at T
      have HT := Lib.hid T; clear T
      by_cases h1 : tms a (k + 1) = 1
      · have h1' : ((tms a (k + 1) : Nat) : Int) == 1 := by rw [h1]; rfl
        have H1 := Lib.hid h1; clear h1
        go_wp2_with fail
        refine (HT.out _).mono ?_
        rintro e w' ⟨rfl, rfl⟩
        go_wp2_with fail
        go_round
        case rel => exact ⟨k + 1, k + 1, by omega, by omega, by rw [rinvTo, if_pos H1.out], by go_num, by go_num⟩
        case measure => simp [intOf]; omega
      · have h1' : (((tms a (k + 1) : Nat) : Int) == 1) = false := by rw [← Bool.not_eq_true, beq_iff_eq]; omega
        have H1 := Lib.hid h1; clear h1
        go_wp2_with fail
        refine (HT.out _).mono ?_
        rintro e w' ⟨rfl, rfl⟩
        go_wp2_with fail
        go_round
        case rel => exact ⟨k + 1, b, by omega, by omega, by rw [rinvTo, if_neg H1.out]; exact H.out, rfl, by go_num⟩
        case measure => simp [intOf]; omega
    · obtain rfl : k = 255 := by omega
      obtain ⟨B0, hB0⟩ : ∃ B0, b = B0 := ⟨_, rfl⟩
      have HB0 := Lib.hid hB0; clear hB0
      go_wp2
      go_loopw [3, 5, 6] (fun b l i wr => ∃ i' b' : Nat, i' ≤ 8 ∧ b' ≤ 255 ∧ b' = B0 / 2 ^ i' ∧ b = .int .i64 b' ∧ i = .int .i64 i' ∧ Own wr w.heap.size 3 l (bits2 B0 i') ∧ Below w.heap.size w wr) (fun _ _ i _ => 8 - (intOf i).toNat)
      case atStart => exact ⟨0, b, by omega, hb, by rw [HB0.out]; simp, rfl, rfl, Own.nil _ _ _, Below.refl _ _⟩
      case round =>
        obtain ⟨i, b, hi, hb, he, rfl, rfl, hown, hbel⟩ := hrel
        have H2 := Lib.hid he; clear he
        by_cases h8 : i < 8
        · have hsz := hbel.size
          have HO := Lib.hid hown
          clear hown
          go_wp2_with (at_builtin; refine wpList_push rfl (.tmp 25) (.tmp 28) 34 rfl w.heap.size 3 _ 8 ints34 _ _ rfl (HO.out.alloc _) ⟨wr.heap.size, 0, none⟩ (.int .i64 ((b : Int) % 2)) rfl ?c1 rfl ?c2 ?c3 ?_)
          case c1 => exact cell_new rfl
          case c2 => simp [bits2]; omega
          case c3 => simp; omega
          rintro v' w1 hown1 hg1 hb1
          clear hg1
          have HO1 := Lib.hid hown1
          clear hown1
          go_wp2
          go_roundw
          case rel =>
            refine ⟨i + 1, b / 2, by omega, by omega, ?_, by go_num, by go_num, ?_, ?_⟩
            · rw [H2.out, Nat.div_div_eq_div_mul, Nat.pow_succ]
            · rw [bits2_succ, show ((B0 / 2 ^ i % 2 : Nat) : Int) = (b : Int) % 2 from by rw [← H2.out]; omega]; exact HO1.out
            · exact (hbel.alloc hsz _).trans hb1
          case measure => simp [intOf]; omega
        · obtain rfl : i = 8 := by omega
          obtain ⟨g, cap, cur, rfl, hg, hgl, hh, hc8, hcm, hcs, htk, hcells, hfz⟩ := hown.out (by simp [bits2])
          have h0 := bitcell hcells 0 (by omega)
          have h1 := bitcell hcells 1 (by omega)
          have h2 := bitcell hcells 2 (by omega)
          have h3 := bitcell hcells 3 (by omega)
          have h4 := bitcell hcells 4 (by omega)
          have h5 := bitcell hcells 5 (by omega)
          have h6 := bitcell hcells 6 (by omega)
          have h7 := bitcell hcells 7 (by omega)
          obtain ⟨t0, n0, e0, h0⟩ := h0
          obtain ⟨t1, n1, e1, h1⟩ := h1
          obtain ⟨t2, n2, e2, h2⟩ := h2
          obtain ⟨t3, n3, e3, h3⟩ := h3
          obtain ⟨t4, n4, e4, h4⟩ := h4
          obtain ⟨t5, n5, e5, h5⟩ := h5
          obtain ⟨t6, n6, e6, h6⟩ := h6
          obtain ⟨t7, n7, e7, h7⟩ := h7
          have hB := Lib.hid hbel
          have hL : (bits2 B0 8).length = 8 := by simp [bits2]
          clear hcells hfz hh hcs htk hown hbel
          rw [hL]
          clear hL
          go_wp2
          go_loopw [7, 8, 9, 10, 11] (fun o u c i _ wv => ∃ i' o' n : Nat, i' ≤ 8 ∧ o' < 2 ^ i' ∧ o' = raff B0 i' ∧ o = .int .i64 o' ∧ u = .int .i64 ((2 ^ i' : Nat) : Int) ∧ c = .int .i64 ((99 / 2 ^ i' : Nat) : Int) ∧ i = .int .i64 i' ∧ wv = wr.drewN n) (fun _ _ _ i _ _ => 8 - (intOf i).toNat)
          case atStart => exact ⟨0, 0, 0, by omega, by omega, rfl, rfl, rfl, rfl, rfl, rfl⟩
          case round =>
            obtain ⟨i, o, n, hi, ho, he, rfl, rfl, rfl, rfl, rfl⟩ := hrel
            have HX := Lib.hid he; clear he
            by_cases h88 : i < 8
            · obtain ⟨j, hj⟩ : ∃ j, j = i + 1 := ⟨_, rfl⟩
              have HJ := Lib.hid hj
              clear hj
              obtain rfl | rfl | rfl | rfl | rfl | rfl | rfl | rfl : i = 0 ∨ i = 1 ∨ i = 2 ∨ i = 3 ∨ i = 4 ∨ i = 5 ∨ i = 6 ∨ i = 7 := by omega
              · go_wp2
                go_quiet (fail)
                go_wp2
                go_roundw
                case rel =>
                  have hr := raff_step B0 0 o (t0 + t4 + t5 + t6 + t7 + 1) HX.out (by rw [e0.out, e4.out, e5.out, e6.out, e7.out]; rfl)
                  exact ⟨1, raff B0 1, _, by omega, raff_lt _ _, rfl, val_int (by rw [hr]; omega), rfl, rfl, rfl, rfl⟩
                case measure => simp [intOf]
              · go_wp2
                go_quiet (fail)
                go_wp2
                go_roundw
                case rel =>
                  have hr := raff_step B0 1 o (t1 + t5 + t6 + t7 + t0 + 1) HX.out (by rw [e1.out, e5.out, e6.out, e7.out, e0.out]; rfl)
                  exact ⟨2, raff B0 2, _, by omega, raff_lt _ _, rfl, val_int (by rw [hr]; omega), rfl, rfl, rfl, rfl⟩
                case measure => simp [intOf]
              · go_wp2
                go_quiet (fail)
                go_wp2
                go_roundw
                case rel =>
                  have hr := raff_step B0 2 o (t2 + t6 + t7 + t0 + t1 + 0) HX.out (by rw [e2.out, e6.out, e7.out, e0.out, e1.out]; rfl)
                  exact ⟨3, raff B0 3, _, by omega, raff_lt _ _, rfl, val_int (by rw [hr]; omega), rfl, rfl, rfl, rfl⟩
                case measure => simp [intOf]
              · go_wp2
                go_quiet (fail)
                go_wp2
                go_roundw
                case rel =>
                  have hr := raff_step B0 3 o (t3 + t7 + t0 + t1 + t2 + 0) HX.out (by rw [e3.out, e7.out, e0.out, e1.out, e2.out]; rfl)
                  exact ⟨4, raff B0 4, _, by omega, raff_lt _ _, rfl, val_int (by rw [hr]; omega), rfl, rfl, rfl, rfl⟩
                case measure => simp [intOf]
              · go_wp2
                go_quiet (fail)
                go_wp2
                go_roundw
                case rel =>
                  have hr := raff_step B0 4 o (t4 + t0 + t1 + t2 + t3 + 0) HX.out (by rw [e4.out, e0.out, e1.out, e2.out, e3.out]; rfl)
                  exact ⟨5, raff B0 5, _, by omega, raff_lt _ _, rfl, val_int (by rw [hr]; omega), rfl, rfl, rfl, rfl⟩
                case measure => simp [intOf]
              · go_wp2
                go_quiet (fail)
                go_wp2
                go_roundw
                case rel =>
                  have hr := raff_step B0 5 o (t5 + t1 + t2 + t3 + t4 + 1) HX.out (by rw [e5.out, e1.out, e2.out, e3.out, e4.out]; rfl)
                  exact ⟨6, raff B0 6, _, by omega, raff_lt _ _, rfl, val_int (by rw [hr]; omega), rfl, rfl, rfl, rfl⟩
                case measure => simp [intOf]
              · go_wp2
                go_quiet (fail)
                go_wp2
                go_roundw
                case rel =>
                  have hr := raff_step B0 6 o (t6 + t2 + t3 + t4 + t5 + 1) HX.out (by rw [e6.out, e2.out, e3.out, e4.out, e5.out]; rfl)
                  exact ⟨7, raff B0 7, _, by omega, raff_lt _ _, rfl, val_int (by rw [hr]; omega), rfl, rfl, rfl, rfl⟩
                case measure => simp [intOf]
              · go_wp2
                go_quiet (fail)
                go_wp2
                go_roundw
                case rel =>
                  have hr := raff_step B0 7 o (t7 + t3 + t4 + t5 + t6 + 0) HX.out (by rw [e7.out, e3.out, e4.out, e5.out, e6.out]; rfl)
                  exact ⟨8, raff B0 8, _, by omega, raff_lt _ _, rfl, val_int (by rw [hr]; omega), rfl, rfl, rfl, rfl⟩
                case measure => simp [intOf]
            · obtain rfl : i = 8 := by omega
              go_wp2
              go_ret
              refine ⟨ret_int (by rw [HX.out, ← HB0.out, H.out]; rfl), ?_⟩
              exact below_drewN hB.out n
end Go.Proofs.Ytfpjpakjlhidkaa
