/- Walks: the reference's Num, wire.PutNum. -/
import Derived.Test.YtkihcngllhjabaaWirePut
namespace Go.Proofs.Ytkihcngllhjabaa
open Go.RowKit WireM
theorem bvs_cons (n : Nat) (L : List Nat) : bvs (n :: L) = .int .u8 (n : Int) :: bvs L := rfl
theorem bvs_snoc (n : Nat) (L : List Nat) : bvs (L ++ [n]) = bvs L ++ [.int .u8 (n : Int)] := by simp [bvs]
set_option maxRecDepth 100000 in
set_option maxHeartbeats 1000000 in
theorem rnum_any (k n : Nat) (w : World) (hk : k ≤ 8) (hn : n < 18446744073709551616) :
    Calls Try.prog 38 #[.int .i64 (k : Nat), .int .u64 (n : Nat)] w fun e w' => ∃ v, e = .returned v ∧ Own w' w.heap.size 5 v (bvs (beN k n)) ∧ Below w.heap.size w w' := by
  obtain ⟨n0, hn0⟩ : ∃ n0, n0 = n := ⟨_, rfl⟩
  have HN := Lib.hid hn0
  clear hn0
  go_enter Try.func38, Try.ntmps38
  go_wp2_with fail
  go_loopg [1, 5, 6] k (fun q m out i wr => ∃ (r : Nat) (x : Nat), r + q = k ∧ x < 18446744073709551616 ∧ x = n0 / 256 ^ r ∧ m = .int .u64 (x : Nat) ∧ i = .int .i64 (r : Nat) ∧ Own wr w.heap.size 5 out (bvs (beN r n0)) ∧ Below w.heap.size w wr)
  case atStart =>
    refine ⟨0, n, by omega, hn, by rw [HN.out]; simp, rfl, rfl, Own.nil _ _ _, Below.refl _ _⟩
  case round =>
    obtain ⟨r, x, hr, hx, hxe, rfl, rfl, hown, hb⟩ := hrel
    have HO := Lib.hid hown
    have HB := Lib.hid hb
    have HX := Lib.hid hxe
    have hsz := hb.size
    clear hown hb hxe
    by_cases hrk : r < k
    · go_wp2_with (at_builtin; refine wpList_app rfl (.tmp 15) (.tmp 16) 22 rfl w.heap.size 5 _ 1 bytesE _ [.int .u8 ((x % 256 : Nat) : Int)] rfl ?c1 _ (bvs (beN r n0)) rfl (HO.out.rd.alloc _) (bvs_one _) ?c2 ?c3 ?_)
      case c1 => exact Own.full (cs := #[.int .u8 ((x % 256 : Nat) : Int)]) rfl hsz (by unfold maxLen; simp) rfl
      case c2 => simp [bvs_len, beN_len]; omega
      case c3 => simp; omega
      rintro v' w2 hown2 - hb2
      have HO2 := Lib.hid hown2
      have HB2 := Lib.hid ((HB.out.alloc hsz _).trans hb2)
      clear hown2 hb2
      go_wp2_with fail
      go_roundg (gk - 1)
      case measure => omega
      case rel =>
        refine ⟨r + 1, x / 256, by omega, by omega, by rw [HX.out, beN_step], ?_, by go_num, ?_, HB2.out⟩
        · exact val_int (by omega)
        · rw [beN, bvs_cons, ← HX.out]
          exact HO2.out
    · obtain rfl : r = k := by omega
      go_wp2_with fail
      go_ret
      refine ⟨_, rfl, ?_, HB.out⟩
      rw [← HN.out]
      exact HO.out
set_option maxRecDepth 100000 in
set_option maxHeartbeats 1000000 in
theorem putNum_on (v : Value) (L : List Nat) (k n : Nat) (w : World) (h : Rd w v (bvs L)) (hl : L.length < 549755813888) (hk : mayB (k : Int) = true) (_ : n < 18446744073709551616) :
    Calls Try.prog 71 #[v, .int .i64 (k : Nat), .int .u64 (n : Nat)] w fun e w' => ∃ v', e = .returned v' ∧ Own w' w.heap.size 5 v' (bvs (L ++ beN k n)) ∧ Below w.heap.size w w' := by
  have C := clone_any v L w h (by omega)
  have M := fun w => may_any (k : Int) w
  rw [hk] at M
  have hk8 : k ≤ 8 ∧ 1 ≤ k := by have := of_decide_eq_true hk; omega
  obtain ⟨hk8, hk1⟩ := hk8
  have HC := Lib.hid C
  have HM := Lib.hid M
  clear C M h hk
  go_enter Try.func71, Try.ntmps71
  go_wp2_with fail
  refine (HC.out).mono ?_
  rintro e w1 ⟨v1, rfl, hown, hb⟩
  have HO := Lib.hid hown
  have HB := Lib.hid hb
  clear hown hb
  go_wp2_with fail
  refine (HM.out _).mono ?_
  rintro e w' ⟨rfl, rfl⟩
  go_wp2_with fail
  go_loopg [0, 7] k (fun q out i wr => ∃ pre : List Nat, q ≤ k ∧ i = .int .i64 ((q : Int) - 1) ∧ pre.length + q = L.length + k ∧ pre ++ beN q n = L ++ beN k n ∧ Own wr w.heap.size 5 out (bvs pre) ∧ Below w.heap.size w wr)
  case atStart => exact ⟨L, Nat.le_refl _, rfl, rfl, rfl, HO.out, HB.out⟩
  case round =>
    obtain ⟨pre, hq, rfl, hlen, hpre, hown, hb⟩ := hrel
    have HO := Lib.hid hown
    have HB := Lib.hid hb
    have HP := Lib.hid hpre
    have hsz := hb.size
    clear hown hb hpre
    by_cases h0 : gk = 0
    · subst h0
      go_wp2_with fail
      go_ret
      refine ⟨_, rfl, ?_, HB.out⟩
      rw [← HP.out, beN, List.append_nil]
      exact HO.out
    · obtain ⟨j, rfl⟩ : ∃ j, gk = j + 1 := ⟨gk - 1, by omega⟩
      have ej : ((j + 1 : Nat) : Int) - 1 = (j : Int) := by omega
      rw [ej]
      clear ej h0
      go_wp2_with (at_builtin; refine wpList_push rfl (.tmp 20) (.tmp 26) 22 rfl w.heap.size 5 _ 1 bytesE _ _ rfl (HO.out.alloc _) ⟨wr.heap.size, 0, none⟩ (.int .u8 ((n : Int) / 2 ^ (8 * j) % 256)) rfl ?c1 rfl ?c2 ?c3 ?_)
      case c1 => exact cell_new rfl
      case c2 => rw [bvs_len]; omega
      case c3 => simp; omega
      rintro v' w2 hown2 - hb2
      have HO2 := Lib.hid hown2
      have HB2 := Lib.hid ((HB.out.alloc hsz _).trans hb2)
      clear hown2 hb2
      go_wp2_with fail
      go_roundg j
      case measure => omega
      case rel =>
        refine ⟨pre ++ [n / 256 ^ j % 256], by omega, rfl, by simp; omega, ?_, ?_, HB2.out⟩
        · rw [List.append_assoc]; exact HP.out
        · rw [bvs_snoc]
          have e : ((n / 256 ^ j % 256 : Nat) : Int) = (n : Int) / 2 ^ (8 * j) % 256 := by
            rw [← shift_pow]; simp
          rw [e]
          exact HO2.out
set_option maxRecDepth 100000 in
set_option maxHeartbeats 1000000 in
theorem putNum_off (v : Value) (L : List Nat) (k : Int) (n : Nat) (w : World) (h : Rd w v (bvs L)) (hl : L.length < 549755813888) (hk : mayB k = false) :
    Calls Try.prog 71 #[v, .int .i64 k, .int .u64 (n : Nat)] w fun e w' => ∃ v', e = .returned v' ∧ Own w' w.heap.size 5 v' (bvs L) ∧ Below w.heap.size w w' := by
  have C := clone_any v L w h (by omega)
  have M := fun w => may_any k w
  rw [hk] at M
  have HC := Lib.hid C
  have HM := Lib.hid M
  clear C M h hk
  go_enter Try.func71, Try.ntmps71
  go_wp2_with fail
  refine (HC.out).mono ?_
  rintro e w1 ⟨v1, rfl, hown, hb⟩
  have HO := Lib.hid hown
  have HB := Lib.hid hb
  clear hown hb
  go_wp2_with fail
  refine (HM.out _).mono ?_
  rintro e w' ⟨rfl, rfl⟩
  go_wp2_with fail
  go_ret
  exact ⟨_, rfl, HO.out, HB.out⟩
end Go.Proofs.Ytkihcngllhjabaa
