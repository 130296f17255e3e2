/- Walks: the reference's Path, Copath; walk.Copath. -/
import Derived.Test.YtbjfacfphgnhpaaWalkRPar
namespace Go.Proofs.Ytbjfacfphgnhpaa
open Go.RowKit WalkM
set_option maxRecDepth 100000 in
set_option maxHeartbeats 1000000 in
theorem rpath_any (x n : Int) (w : World) (h1 : -9223372036854775808 ≤ n) (h2 : n ≤ 9223372036854775807) :
    Calls Try.prog 30 #[.int .i64 x, .int .i64 n] w fun e w' => ∃ v, e = .returned v ∧ Own w' w.heap.size 3 v (nvs (pathL x n)) ∧ Below w.heap.size w w' := by
  by_cases ho : isOf x n = true
  · obtain ⟨m, d, rfl, rfl, hd, hm⟩ := isOf_out ho
    have D := fun w => down_on m d hd hm w
    have h17 := two_pow_le (show d + 1 ≤ 17 by omega)
    have hl := (lev_root hm (lev_is (x := m) (by omega))).1
    rw [pathL_of hd hm]
    have g0 := dnodes_at m d (d - lev m + 1)
    obtain ⟨l, hl'⟩ : ∃ l, l = lev m := ⟨_, rfl⟩
    rw [← hl'] at D hl g0 ⊢
    obtain ⟨k, hk⟩ : ∃ k, k = d - l := ⟨_, rfl⟩
    rw [← hk] at D g0 ⊢
    have hk16 : k ≤ 16 := by omega
    have hkd : d = l + k := by omega
    have HKD := Lib.hid hkd
    have HD := Lib.hid D
    have HG := Lib.hid g0
    clear D g0 hk hl hl' ho hm h17 h1 h2 hkd
    go_enter Try.func30, Try.ntmps30
    go_wp2_with fail
    refine (HD.out _).mono ?_
    rintro e w1 ⟨v, rfl, hown, hb⟩
    obtain ⟨g, cap, rfl, hg, hgl, hn, hmx, hc, -⟩ := hown.out (by omega)
    have HC := Lib.hid hc
    have HB := Lib.hid hb
    clear hc hown hb
    go_wp2_with fail
    go_loopg [6, 7] k (fun q out i wr => ∃ r : Nat, r + q = k ∧ i = .int .i64 ((k : Int) - 1 - r) ∧ Own wr w1.heap.size 3 out (nvs (ups m l r)) ∧ Below w1.heap.size w1 wr)
    case atStart =>
      refine ⟨0, by omega, val_int ?_, Own.nil _ _ _, Below.refl _ _⟩
      omega
    case round =>
      obtain ⟨r, hr, rfl, hown, hb1⟩ := hrel
      have HO := Lib.hid hown
      have HB1 := Lib.hid hb1
      have hsz := hb1.size
      clear hown hb1
      by_cases hrk : r < k
      · obtain ⟨j, hj⟩ : ∃ j, k = r + 1 + j := ⟨k - r - 1, by omega⟩
        have ej : (k : Int) - 1 - r = (j : Int) := by omega
        rw [ej]
        have c0 := HC.out _ _ (HG.out j (by omega))
        rw [← HB1.out.cell (p := ⟨g, j * 3, none⟩) hgl] at c0
        rw [show d - j = l + r + 1 by have := HKD.out; omega] at c0
        obtain ⟨a, ha⟩ : ∃ a, a = anc m (l + r + 1) := ⟨_, rfl⟩
        rw [← ha] at c0
        have HA := Lib.hid ha
        have hjk : j < k + 1 := by omega
        have EJ := Lib.hid ej
        have HJ := Lib.hid hj
        clear ha ej hj
        go_wp2_with (at_builtin; refine wpList_push rfl (.tmp 18) (.tmp 24) 35 rfl w1.heap.size 3 _ 8 intsE _ _ rfl (HO.out.alloc _) ⟨wr.heap.size, 0, none⟩ (.int .i64 (a : Int)) rfl ?c1 rfl ?c2 ?c3 ?_)
        case c1 => exact cell_new rfl
        case c2 => rw [nvs_len, ups_len]; omega
        case c3 => simp; omega
        rintro v' w2 hown1 - hb2
        have HO1 := Lib.hid hown1
        have HB2 := Lib.hid hb2
        clear hown1 hb2
        go_wp2_with fail
        go_roundg (gk - 1)
        case measure => omega
        case rel =>
          refine ⟨r + 1, by omega, val_int ?_, ?_, ?_⟩
          · have := HJ.out; omega
          · rw [ups_snoc, nvs_snoc, ← HA.out]
            exact HO1.out
          · exact (HB1.out.alloc hsz _).trans HB2.out
      · obtain rfl : r = k := by omega
        go_wp2_with fail
        go_ret
        exact ⟨_, rfl, HO.out.mono HB.out.size, HB.out.trans (HB1.out.mono HB.out.size)⟩
  · have hf : isOf x n = false := by rw [← Bool.not_eq_true]; exact ho
    rw [pathL_off hf]
    have HD := Lib.hid (fun w => down_off x n w h1 h2 hf)
    clear hf ho h1 h2
    go_enter Try.func30, Try.ntmps30
    go_wp2_with fail
    refine (HD.out _).mono ?_
    rintro e w1 ⟨rfl, rfl⟩
    go_wp2_with fail
    go_loopg [6, 7] 0 (fun q out i wr => i = .int .i64 (-2) ∧ out = .slice none 0 0 ∧ wr = w)
    case atStart => exact ⟨rfl, rfl, rfl⟩
    case round =>
      obtain ⟨rfl, rfl, rfl⟩ := hrel
      go_wp2_with fail
      go_ret
      exact ⟨_, rfl, Own.nil _ _ _, Below.refl _ _⟩
end Go.Proofs.Ytbjfacfphgnhpaa
