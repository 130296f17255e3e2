/- Walks: slices.Clone, bytes.Clone, wire.may, wire.LenSize, the reference's Num, wire.PutNum. -/
import Derived.Test.YtohldijomcljkaaProg
import Derived.Test.YtohldijomcljkaaZHashTrees00
import Derived.WalkSpells
import Derived.WalkLawsBesides
import Derived.Deep.LoopGhost
import Derived.Deep.RegionWith
namespace Go.Proofs.Ytohldijomcljkaa
open Go.RowKit WireM
theorem bytesE : Elem Try.prog 29 5 (.int .u8 0) 1 := ⟨Try.underlying29, by kernel_rfl, rfl, by omega⟩
theorem Below.next {a w w' : World} (h : Below a.heap.size a w) (h' : Below w.heap.size w w') : Below a.heap.size a w' := h.trans (h'.mono h.size)
theorem Below.draws {a w : World} (h : Below a.heap.size a w) (n : Nat) : Below a.heap.size a (w.drewN n) := below_drewN' h n
/-- bytes that are read: nil or not -/
theorem Rd.nilOr {w : World} {v : Value} {xs : List Value} (h : Rd w v xs) : v = .slice none 0 0 ∨ ∃ a cap, v = .slice (some a) xs.length cap := by
  obtain ⟨a, cap, rfl, h1, h2, ⟨rfl, h3⟩ | ⟨b, off, rfl, _⟩⟩ := h
  · cases a with
    | none => left; rw [h3 rfl]; rfl
    | some a => exact .inr ⟨a, cap, rfl⟩
  · exact .inr ⟨_, cap, rfl⟩
set_option maxRecDepth 100000 in
set_option maxHeartbeats 1000000 in
theorem clone_any (v : Value) (L : List Nat) (w : World) (h : Rd w v (bvs L)) (hn : L.length < 1099511627776) :
    Calls Try.prog 102 #[v] w fun e w' => ∃ v', e = .returned v' ∧ Own w' w.heap.size 5 v' (bvs L) ∧ Below w.heap.size w w' := by
  have hl : (bvs L).length = L.length := bvs_len L
  have h1 := bvs_one L
  rcases h.nilOr with rfl | ⟨a, cap, rfl⟩
  · have h0 : bvs L = [] := by
      obtain ⟨a, cap, e, _⟩ := h
      simp only [Value.slice.injEq] at e
      exact List.eq_nil_of_length_eq_zero e.2.1.symm
    rw [h0]
    clear h h0 hl h1
    have q : ∀ w, (binOp .eql 29 (.slice none 0 0) (.slice none 0 0)).run Try.prog w = .ok (.bool true) w := fun w => Lib.run_eql_slice_nil w _ 5 none 0 0 0 0 Try.underlying29
    go_enter Try.func102, Try.ntmps102
    go_wp2_with fail
    go_ret
    exact ⟨_, rfl, Own.nil _ _ _, Below.refl _ _⟩
  · obtain ⟨xs, hxs⟩ : ∃ xs, xs = bvs L := ⟨_, rfl⟩
    rw [← hxs] at h h1 hl ⊢
    have hx : xs.length < 1099511627776 := by omega
    have HR := Lib.hid h
    have H1 := Lib.hid h1
    clear h h1 hl hxs hn
    have q : ∀ w, (binOp .eql 29 (.slice (some a) xs.length cap) (.slice none 0 0)).run Try.prog w = .ok (.bool false) w := fun w => Lib.run_eql_slice_nil w _ 5 (some a) _ _ 0 0 Try.underlying29
    go_enter Try.func102, Try.ntmps102
    go_wp2_with (at_builtin; refine wpList_app rfl (.tmp 5) (.tmp 6) 29 rfl w.heap.size 5 _ 1 bytesE _ [] rfl (Own.lit0 rfl (Nat.le_refl _)) _ xs rfl (HR.out.alloc _) H1.out ?c2 ?c3 ?_)
    case c2 => simpa using hx
    case c3 => simp
    rintro v' w2 hown - hb
    have HO := Lib.hid hown
    have HB := Lib.hid hb
    clear hown hb
    go_wp2_with fail
    go_ret
    exact ⟨_, rfl, HO.out, ((Below.refl _ _).alloc (Nat.le_refl _) _).trans HB.out⟩
set_option maxRecDepth 100000 in
set_option maxHeartbeats 1000000 in
theorem bclone_any (v : Value) (L : List Nat) (w : World) (h : Rd w v (bvs L)) (hn : L.length < 1099511627776) :
    Calls Try.prog 121 #[v] w fun e w' => ∃ v', e = .returned v' ∧ Own w' w.heap.size 5 v' (bvs L) ∧ Below w.heap.size w w' := by
  have hl : (bvs L).length = L.length := bvs_len L
  have h1 := bvs_one L
  rcases h.nilOr with rfl | ⟨a, cap, rfl⟩
  · have h0 : bvs L = [] := by
      obtain ⟨a, cap, e, _⟩ := h
      simp only [Value.slice.injEq] at e
      exact List.eq_nil_of_length_eq_zero e.2.1.symm
    rw [h0]
    clear h h0 hl h1
    have q : ∀ w, (binOp .eql 29 (.slice none 0 0) (.slice none 0 0)).run Try.prog w = .ok (.bool true) w := fun w => Lib.run_eql_slice_nil w _ 5 none 0 0 0 0 Try.underlying29
    go_enter Try.func121, Try.ntmps121
    go_wp2_with fail
    go_ret
    exact ⟨_, rfl, Own.nil _ _ _, Below.refl _ _⟩
  · obtain ⟨xs, hxs⟩ : ∃ xs, xs = bvs L := ⟨_, rfl⟩
    rw [← hxs] at h h1 hl ⊢
    have hx : xs.length < 1099511627776 := by omega
    have HR := Lib.hid h
    have H1 := Lib.hid h1
    clear h h1 hl hxs hn
    have q : ∀ w, (binOp .eql 29 (.slice (some a) xs.length cap) (.slice none 0 0)).run Try.prog w = .ok (.bool false) w := fun w => Lib.run_eql_slice_nil w _ 5 (some a) _ _ 0 0 Try.underlying29
    go_enter Try.func121, Try.ntmps121
    go_wp2_with (at_builtin; refine wpList_app rfl (.tmp 5) (.tmp 6) 29 rfl w.heap.size 5 _ 1 bytesE _ [] rfl (Own.lit0 rfl (Nat.le_refl _)) _ xs rfl (HR.out.alloc _) H1.out ?c2 ?c3 ?_)
    case c2 => simpa using hx
    case c3 => simp
    rintro v' w2 hown - hb
    have HO := Lib.hid hown
    have HB := Lib.hid hb
    clear hown hb
    go_wp2_with fail
    go_ret
    exact ⟨_, rfl, HO.out, ((Below.refl _ _).alloc (Nat.le_refl _) _).trans HB.out⟩
/-- can a number have so many bytes? -/
def mayB (n : Int) : Bool := decide (n = 1 ∨ n = 2 ∨ n = 4 ∨ n = 8)
set_option maxRecDepth 100000 in
set_option maxHeartbeats 1000000 in
theorem may_any (n : Int) (w : World) : Calls Try.prog 103 #[.int .i64 n] w fun e w' => e = .returned (.bool (mayB n)) ∧ w = w' := by
  have hd : n = 1 ∨ n = 2 ∨ n = 4 ∨ n = 8 ∨ (n ≠ 1 ∧ n ≠ 2 ∧ n ≠ 4 ∧ n ≠ 8) := by omega
  rcases hd with rfl | rfl | rfl | rfl | ⟨h1, h2, h3, h4⟩
  · go_enter Try.func103, Try.ntmps103
    go_wp2_with fail
    go_ret
    exact ⟨rfl, rfl⟩
  · go_enter Try.func103, Try.ntmps103
    go_wp2_with fail
    go_ret
    exact ⟨rfl, rfl⟩
  · go_enter Try.func103, Try.ntmps103
    go_wp2_with fail
    go_ret
    exact ⟨rfl, rfl⟩
  · go_enter Try.func103, Try.ntmps103
    go_wp2_with fail
    go_ret
    exact ⟨rfl, rfl⟩
  · have e : mayB n = false := by rw [mayB, decide_eq_false]; omega
    rw [e]
    have e1 : (n == 1) = false := by simp [h1]
    have e2 : (n == 2) = false := by simp [h2]
    have e3 : (n == 4) = false := by simp [h3]
    have e4 : (n == 8) = false := by simp [h4]
    clear h1 h2 h3 h4 e
    go_enter Try.func103, Try.ntmps103
    go_wp2_with fail
    go_ret
    exact ⟨rfl, rfl⟩
set_option maxRecDepth 100000 in
set_option maxHeartbeats 1000000 in
theorem lenSize_any (n : Int) (w : World) : Calls Try.prog 138 #[.int .i64 n] w fun e w' => e = .returned (.int .i64 (lenS n : Nat)) ∧ w = w' := by
  have hd : n < 0 ∨ (0 ≤ n ∧ 1073741823 < n) ∨ (0 ≤ n ∧ n < 64) ∨ (64 ≤ n ∧ n < 16384) ∨ (16384 ≤ n ∧ n ≤ 1073741823) := by omega
  rcases hd with h | ⟨h, h'⟩ | ⟨h, h'⟩ | ⟨h, h'⟩ | ⟨h, h'⟩
  · rw [lenS, if_pos (by omega)]
    go_enter Try.func138, Try.ntmps138
    go_wp2_with fail
    go_ret
    exact ⟨rfl, rfl⟩
  · rw [lenS, if_pos (by omega)]
    go_enter Try.func138, Try.ntmps138
    go_wp2_with fail
    go_ret
    exact ⟨rfl, rfl⟩
  · rw [lenS, if_neg (by omega), if_pos (by omega)]
    have h2 : n ≤ 1073741823 := by omega
    go_enter Try.func138, Try.ntmps138
    go_wp2_with fail
    go_ret
    exact ⟨rfl, rfl⟩
  · rw [lenS, if_neg (by omega), if_neg (by omega), if_pos (by omega)]
    have h2 : n ≤ 1073741823 := by omega
    have h3 : 0 ≤ n := by omega
    go_enter Try.func138, Try.ntmps138
    go_wp2_with fail
    go_ret
    exact ⟨rfl, rfl⟩
  · rw [lenS, if_neg (by omega), if_neg (by omega), if_neg (by omega)]
    have h2 : 64 ≤ n := by omega
    have h3 : 0 ≤ n := by omega
    go_enter Try.func138, Try.ntmps138
    go_wp2_with fail
    go_ret
    exact ⟨rfl, rfl⟩
end Go.Proofs.Ytohldijomcljkaa
/- Walks: the reference's Num, wire.PutNum. -/
namespace Go.Proofs.Ytohldijomcljkaa
open Go.RowKit WireM
theorem bvs_cons (n : Nat) (L : List Nat) : bvs (n :: L) = .int .u8 (n : Int) :: bvs L := rfl
theorem bvs_snoc (n : Nat) (L : List Nat) : bvs (L ++ [n]) = bvs L ++ [.int .u8 (n : Int)] := by simp [bvs]
set_option maxRecDepth 100000 in
set_option maxHeartbeats 1000000 in
theorem rnum_any (k n : Nat) (w : World) (hk : k ≤ 8) (hn : n < 18446744073709551616) :
    Calls Try.prog 95 #[.int .i64 (k : Nat), .int .u64 (n : Nat)] w fun e w' => ∃ v, e = .returned v ∧ Own w' w.heap.size 5 v (bvs (beN k n)) ∧ Below w.heap.size w w' := by
  obtain ⟨n0, hn0⟩ : ∃ n0, n0 = n := ⟨_, rfl⟩
  have HN := Lib.hid hn0
  clear hn0
  go_enter Try.func95, Try.ntmps95
  go_wp2_with fail
  go_loopg [1, 5, 6] k (fun q m out i wr => ∃ (r : Nat) (x : Nat), r + q = k ∧ x < 18446744073709551616 ∧ x = n0 / 256 ^ r ∧ m = .int .u64 (x : Nat) ∧ i = .int .i64 (r : Nat) ∧ Own wr w.heap.size 5 out (bvs (beN r n0)) ∧ Below w.heap.size w wr)
  case atStart =>
    refine ⟨0, n, by omega, hn, by rw [HN.out]; simp, rfl, rfl, Own.nil _ _ _, Below.refl _ _⟩
  case round =>
    obtain ⟨r, x, hr, hx, hxe, rfl, rfl, hown, hb⟩ := hrel
    have HO := Lib.hid hown
    have HB := Lib.hid hb
    have HX := Lib.hid hxe
    have hsz := hb.size
    clear hown hb hxe
    by_cases hrk : r < k
    · go_wp2_with (at_builtin; refine wpList_app rfl (.tmp 15) (.tmp 16) 29 rfl w.heap.size 5 _ 1 bytesE _ [.int .u8 ((x % 256 : Nat) : Int)] rfl ?c1 _ (bvs (beN r n0)) rfl (HO.out.rd.alloc _) (bvs_one _) ?c2 ?c3 ?_)
      case c1 => exact Own.full (cs := #[.int .u8 ((x % 256 : Nat) : Int)]) rfl hsz (by unfold maxLen; simp) rfl
      case c2 => simp [bvs_len, beN_len]; omega
      case c3 => simp; omega
      rintro v' w2 hown2 - hb2
      have HO2 := Lib.hid hown2
      have HB2 := Lib.hid ((HB.out.alloc hsz _).trans hb2)
      clear hown2 hb2
      go_wp2_with fail
      go_roundg (gk - 1)
      case measure => omega
      case rel =>
        refine ⟨r + 1, x / 256, by omega, by omega, by rw [HX.out, beN_step], ?_, by go_num, ?_, HB2.out⟩
        · exact val_int (by omega)
        · rw [beN, bvs_cons, ← HX.out]
          exact HO2.out
    · obtain rfl : r = k := by omega
      go_wp2_with fail
      go_ret
      refine ⟨_, rfl, ?_, HB.out⟩
      rw [← HN.out]
      exact HO.out
set_option maxRecDepth 100000 in
set_option maxHeartbeats 1000000 in
theorem putNum_on (v : Value) (L : List Nat) (k n : Nat) (w : World) (h : Rd w v (bvs L)) (hl : L.length < 549755813888) (hk : mayB (k : Int) = true) (_ : n < 18446744073709551616) :
    Calls Try.prog 63 #[v, .int .i64 (k : Nat), .int .u64 (n : Nat)] w fun e w' => ∃ v', e = .returned v' ∧ Own w' w.heap.size 5 v' (bvs (L ++ beN k n)) ∧ Below w.heap.size w w' := by
  have C := clone_any v L w h (by omega)
  have M := fun w => may_any (k : Int) w
  rw [hk] at M
  have hk8 : k ≤ 8 ∧ 1 ≤ k := by have := of_decide_eq_true hk; omega
  obtain ⟨hk8, hk1⟩ := hk8
  have HC := Lib.hid C
  have HM := Lib.hid M
  clear C M h hk
  go_enter Try.func63, Try.ntmps63
  go_wp2_with fail
  refine (HC.out).mono ?_
  rintro e w1 ⟨v1, rfl, hown, hb⟩
  have HO := Lib.hid hown
  have HB := Lib.hid hb
  clear hown hb
  go_wp2_with fail
  refine (HM.out _).mono ?_
  rintro e w' ⟨rfl, rfl⟩
  go_wp2_with fail
  go_loopg [0, 7] k (fun q out i wr => ∃ pre : List Nat, q ≤ k ∧ i = .int .i64 ((q : Int) - 1) ∧ pre.length + q = L.length + k ∧ pre ++ beN q n = L ++ beN k n ∧ Own wr w.heap.size 5 out (bvs pre) ∧ Below w.heap.size w wr)
  case atStart => exact ⟨L, Nat.le_refl _, rfl, rfl, rfl, HO.out, HB.out⟩
  case round =>
    obtain ⟨pre, hq, rfl, hlen, hpre, hown, hb⟩ := hrel
    have HO := Lib.hid hown
    have HB := Lib.hid hb
    have HP := Lib.hid hpre
    have hsz := hb.size
    clear hown hb hpre
    by_cases h0 : gk = 0
    · subst h0
      go_wp2_with fail
      go_ret
      refine ⟨_, rfl, ?_, HB.out⟩
      rw [← HP.out, beN, List.append_nil]
      exact HO.out
    · obtain ⟨j, rfl⟩ : ∃ j, gk = j + 1 := ⟨gk - 1, by omega⟩
      have ej : ((j + 1 : Nat) : Int) - 1 = (j : Int) := by omega
      rw [ej]
      clear ej h0
      go_wp2_with (at_builtin; refine wpList_push rfl (.tmp 20) (.tmp 26) 29 rfl w.heap.size 5 _ 1 bytesE _ _ rfl (HO.out.alloc _) ⟨wr.heap.size, 0, none⟩ (.int .u8 ((n : Int) / 2 ^ (8 * j) % 256)) rfl ?c1 rfl ?c2 ?c3 ?_)
      case c1 => exact cell_new rfl
      case c2 => rw [bvs_len]; omega
      case c3 => simp; omega
      rintro v' w2 hown2 - hb2
      have HO2 := Lib.hid hown2
      have HB2 := Lib.hid ((HB.out.alloc hsz _).trans hb2)
      clear hown2 hb2
      go_wp2_with fail
      go_roundg j
      case measure => omega
      case rel =>
        refine ⟨pre ++ [n / 256 ^ j % 256], by omega, rfl, by simp; omega, ?_, ?_, HB2.out⟩
        · rw [List.append_assoc]; exact HP.out
        · rw [bvs_snoc]
          have e : ((n / 256 ^ j % 256 : Nat) : Int) = (n : Int) / 2 ^ (8 * j) % 256 := by
            rw [← shift_pow]; simp
          rw [e]
          exact HO2.out
set_option maxRecDepth 100000 in
set_option maxHeartbeats 1000000 in
theorem putNum_off (v : Value) (L : List Nat) (k : Int) (n : Nat) (w : World) (h : Rd w v (bvs L)) (hl : L.length < 549755813888) (hk : mayB k = false) :
    Calls Try.prog 63 #[v, .int .i64 k, .int .u64 (n : Nat)] w fun e w' => ∃ v', e = .returned v' ∧ Own w' w.heap.size 5 v' (bvs L) ∧ Below w.heap.size w w' := by
  have C := clone_any v L w h (by omega)
  have M := fun w => may_any k w
  rw [hk] at M
  have HC := Lib.hid C
  have HM := Lib.hid M
  clear C M h hk
  go_enter Try.func63, Try.ntmps63
  go_wp2_with fail
  refine (HC.out).mono ?_
  rintro e w1 ⟨v1, rfl, hown, hb⟩
  have HO := Lib.hid hown
  have HB := Lib.hid hb
  clear hown hb
  go_wp2_with fail
  refine (HM.out _).mono ?_
  rintro e w' ⟨rfl, rfl⟩
  go_wp2_with fail
  go_ret
  exact ⟨_, rfl, HO.out, HB.out⟩
end Go.Proofs.Ytohldijomcljkaa
/- Walks: wire.PutLen, wire.PutVec, the reference's Len, Vec. -/
namespace Go.Proofs.Ytohldijomcljkaa
open Go.RowKit WireM
set_option linter.unusedVariables false
set_option maxRecDepth 100000 in
set_option maxHeartbeats 2000000 in
theorem putLen_on (v : Value) (L : List Nat) (n : Nat) (w : World) (h : Rd w v (bvs L)) (hl : L.length < 549755813888) (hn : n < 1073741824) :
    Calls Try.prog 105 #[v, .int .i64 (n : Nat)] w fun e w' => ∃ v', e = .returned v' ∧ Own w' w.heap.size 5 v' (bvs (L ++ lenB n)) ∧ Below w.heap.size w w' := by
  have S := fun w => lenSize_any (n : Int) w
  by_cases h1 : n < 64
  · rw [lenS1 h1] at S
    have P := putNum_on v L 1 n w h hl rfl (by omega)
    rw [be1 n h1] at P
    have HS := Lib.hid S
    have HP := Lib.hid P
    have e : bits .or .u64 0 (n : Int) = (n : Int) := by
      have := u64_or_nat 0 n (by omega) (by omega)
      simpa using this
    clear S P h
    go_enter Try.func105, Try.ntmps105
    go_wp2_with fail
    refine (HS.out _).mono ?_
    rintro e w' ⟨rfl, rfl⟩
    go_wp2_with fail
    refine (HP.out).mono ?_
    rintro e w1 ⟨v1, rfl, hown, hb⟩
    have HO := Lib.hid hown
    have HB := Lib.hid hb
    clear hown hb
    go_wp2_with fail
    go_ret
    exact ⟨_, rfl, HO.out, HB.out⟩
  · by_cases h2 : n < 16384
    · rw [lenS2 (by omega) h2] at S
      have P := putNum_on v L 2 (16384 + n) w h hl rfl (by omega)
      rw [be2 n (by omega) h2] at P
      have HS := Lib.hid S
      have HP := Lib.hid P
      have e : bits .or .u64 16384 (n : Int) = ((16384 + n : Nat) : Int) := by
        have := u64_or_nat 16384 n (by omega) (by omega)
        rw [or2 n h2] at this
        exact this
      clear S P h
      go_enter Try.func105, Try.ntmps105
      go_wp2_with fail
      refine (HS.out _).mono ?_
      rintro e w' ⟨rfl, rfl⟩
      go_wp2_with fail
      refine (HP.out).mono ?_
      rintro e w1 ⟨v1, rfl, hown, hb⟩
      have HO := Lib.hid hown
      have HB := Lib.hid hb
      clear hown hb
      go_wp2_with fail
      go_ret
      exact ⟨_, rfl, HO.out, HB.out⟩
    · rw [lenS4 (by omega) hn] at S
      have P := putNum_on v L 4 (2147483648 + n) w h hl rfl (by omega)
      rw [be4 n (by omega) hn] at P
      have HS := Lib.hid S
      have HP := Lib.hid P
      have e : bits .or .u64 2147483648 (n : Int) = ((2147483648 + n : Nat) : Int) := by
        have := u64_or_nat 2147483648 n (by omega) (by omega)
        rw [or4 n hn] at this
        exact this
      clear S P h
      go_enter Try.func105, Try.ntmps105
      go_wp2_with fail
      refine (HS.out _).mono ?_
      rintro e w' ⟨rfl, rfl⟩
      go_wp2_with fail
      refine (HP.out).mono ?_
      rintro e w1 ⟨v1, rfl, hown, hb⟩
      have HO := Lib.hid hown
      have HB := Lib.hid hb
      clear hown hb
      go_wp2_with fail
      go_ret
      exact ⟨_, rfl, HO.out, HB.out⟩
set_option maxRecDepth 100000 in
set_option maxHeartbeats 2000000 in
theorem putLen_off (v : Value) (L : List Nat) (n : Int) (w : World) (h : Rd w v (bvs L)) (hl : L.length < 549755813888) (hn : n < 0 ∨ 1073741824 ≤ n) :
    Calls Try.prog 105 #[v, .int .i64 n] w fun e w' => ∃ v', e = .returned v' ∧ Own w' w.heap.size 5 v' (bvs L) ∧ Below w.heap.size w w' := by
  have S := fun w => lenSize_any n w
  have e0 : lenS n = 0 := by unfold lenS; rw [if_pos (by omega)]
  rw [e0] at S
  have C := clone_any v L w h (by omega)
  have HS := Lib.hid S
  have HC := Lib.hid C
  clear S C h hn e0
  go_enter Try.func105, Try.ntmps105
  go_wp2_with fail
  refine (HS.out _).mono ?_
  rintro e w' ⟨rfl, rfl⟩
  go_wp2_with fail
  refine (HC.out).mono ?_
  rintro e w1 ⟨v1, rfl, hown, hb⟩
  have HO := Lib.hid hown
  have HB := Lib.hid hb
  clear hown hb
  go_wp2_with fail
  go_ret
  exact ⟨_, rfl, HO.out, HB.out⟩
set_option maxRecDepth 100000 in
set_option maxHeartbeats 2000000 in
theorem rlen_any (n : Nat) (w : World) (hn : n < 1073741824) :
    Calls Try.prog 130 #[.int .i64 (n : Nat)] w fun e w' => ∃ v', e = .returned v' ∧ Own w' w.heap.size 5 v' (bvs (lenB n)) ∧ Below w.heap.size w w' := by
  by_cases h1 : n < 64
  · have e : lenB n = [n] := by unfold lenB; rw [if_pos h1]
    rw [e]
    clear e
    go_enter Try.func130, Try.ntmps130
    go_wp2_with fail
    go_ret
    exact ⟨_, rfl, Own.full (cs := #[.int .u8 (n : Int)]) rfl (Nat.le_refl _) (by unfold maxLen; simp) rfl, (Below.refl _ _).alloc (Nat.le_refl _) _⟩
  · by_cases h2 : n < 16384
    · have e : lenB n = [64 + n / 256, n % 256] := by unfold lenB; rw [if_neg h1, if_pos h2]
      rw [e]
      clear e
      have h3 : 64 ≤ n := by omega
      go_enter Try.func130, Try.ntmps130
      go_wp2_with fail
      go_ret
      exact ⟨_, rfl, Own.full (cs := #[.int .u8 ((64 + n / 256 : Nat) : Int), .int .u8 ((n % 256 : Nat) : Int)]) rfl (Nat.le_refl _) (by unfold maxLen; simp) rfl, (Below.refl _ _).alloc (Nat.le_refl _) _⟩
    · have e : lenB n = [128 + n / 16777216, n / 65536 % 256, n / 256 % 256, n % 256] := by unfold lenB; rw [if_neg h1, if_neg h2]
      rw [e]
      clear e
      have h3 : 16384 ≤ n := by omega
      go_enter Try.func130, Try.ntmps130
      go_wp2_with fail
      go_ret
      exact ⟨_, rfl, Own.full (cs := #[.int .u8 ((128 + n / 16777216 : Nat) : Int), .int .u8 ((n / 65536 % 256 : Nat) : Int), .int .u8 ((n / 256 % 256 : Nat) : Int), .int .u8 ((n % 256 : Nat) : Int)]) rfl (Nat.le_refl _) (by unfold maxLen; simp) rfl, (Below.refl _ _).alloc (Nat.le_refl _) _⟩
end Go.Proofs.Ytohldijomcljkaa
/- Literals of bytes, as they read. -/
namespace Go.Proofs.Ytohldijomcljkaa
open Go.RowKit WireM
set_option linter.unusedVariables false
theorem nil_rd (w : World) : Rd w (.slice none 0 0) (bvs []) := ⟨none, 0, rfl, Nat.le_refl _, Nat.zero_le _, .inl ⟨rfl, fun _ => rfl⟩⟩
theorem lit_rd {w : World} {cs : Array Value} {L : List Nat} {N : Nat} (hN : N = w.heap.size) (h : cs.toList = bvs L) (hm : L.length ≤ 1000) : Rd (w.alloc (.cells cs 5)) (.slice (some ⟨N, 0, none⟩) L.length L.length) (bvs L) := by
  have e : cs.size = L.length := by rw [← Array.length_toList, h, bvs_len]
  have := (Own.full (w := w) (B := w.heap.size) (e := 5) (cs := cs) hN (by omega) (by unfold maxLen; omega) (n := L.length) e.symm).rd
  rw [h] at this
  exact this
end Go.Proofs.Ytohldijomcljkaa
/- Walks: the reference's Vec, List; wire.PutVec, wire.PutList. -/
namespace Go.Proofs.Ytohldijomcljkaa
open Go.RowKit WireM
set_option linter.unusedVariables false
/-- a vector's bytes -/
def vecB (v : List Nat) : List Nat := lenB v.length ++ v
def catB (l : List (List Nat)) : List Nat := (l.map vecB).flatten
def listB (l : List (List Nat)) : List Nat := vecB (catB l)
/-- v is a slice of slices that read as the rows -/
def RdL (w : World) (v : Value) (rows : List (List Nat)) : Prop :=
  ∃ vs : List Value, Rd w v vs ∧ vs.length = rows.length ∧ ∀ (i : Nat) r, rows[i]? = some r → ∃ u, vs[i]? = some u ∧ Rd w u (bvs r)
theorem RdL.below {w w' : World} {B : Nat} {v : Value} {rows : List (List Nat)} (h : RdL w v rows) (hb : Below B w w') (hB : w.heap.size ≤ B) : RdL w' v rows := by
  obtain ⟨vs, h1, h2, h3⟩ := h
  refine ⟨vs, h1.below hb hB, h2, ?_⟩
  intro i r hr
  obtain ⟨u, h4, h5⟩ := h3 i r hr
  exact ⟨u, h4, h5.below hb hB⟩
theorem vecB_len (v : List Nat) (h : v.length < 1073741824) : (vecB v).length ≤ v.length + 4 := by
  rw [vecB, List.length_append, lenB_len h]
  unfold lenS
  split <;> (try split) <;> (try split) <;> omega
theorem vecB_lt {v : List Nat} (h : v.length < 1073741824) (hv : ∀ n ∈ v, n < 256) : ∀ n ∈ vecB v, n < 256 := by
  intro n hn
  rw [vecB, List.mem_append] at hn
  rcases hn with hn | hn
  · exact lenB_lt h n hn
  · exact hv n hn
set_option maxRecDepth 100000 in
set_option maxHeartbeats 1000000 in
theorem rvec_any (v : Value) (L : List Nat) (w : World) (h : Rd w v (bvs L)) (hl : L.length < 1073741824) :
    Calls Try.prog 97 #[v] w fun e w' => ∃ v', e = .returned v' ∧ Own w' w.heap.size 5 v' (bvs (vecB L)) ∧ Below w.heap.size w w' := by
  have HN := Lib.hid (rlen_any L.length w hl)
  have e2 : (lenB L.length).length ≤ 4 := by
    rw [lenB_len hl]; unfold lenS; split <;> (try split) <;> (try split) <;> omega
  obtain ⟨a, cap, rfl, _⟩ := id h
  rw [bvs_len] at h ⊢
  have HR := Lib.hid h
  clear h
  go_enter Try.func97, Try.ntmps97
  go_wp2_with fail
  refine HN.out.mono ?_
  rintro e w1 ⟨v1, rfl, hown, hb⟩
  have HO := Lib.hid hown
  have HB := Lib.hid hb
  have HR1 := Lib.hid (HR.out.below hb (Nat.le_refl _))
  have hsz := hb.size
  clear hown hb
  go_wp2_with (at_builtin; refine wpList_app rfl (.tmp 5) (.tmp 6) 29 rfl w.heap.size 5 _ 1 bytesE _ _ rfl HO.out _ (bvs L) rfl HR1.out (bvs_one _) ?c2 ?c3 ?_)
  case c2 => rw [bvs_len, bvs_len]; omega
  case c3 => exact hsz
  rintro v2 w2 hown - hb2
  have HO2 := Lib.hid hown
  have HB2 := Lib.hid (HB.out.trans hb2)
  clear hown hb2
  go_wp2_with fail
  go_ret
  refine ⟨_, rfl, ?_, HB2.out⟩
  rw [vecB, bvs_append]
  exact HO2.out
set_option maxRecDepth 100000 in
set_option maxHeartbeats 1000000 in
theorem putVec_any (b v : Value) (B L : List Nat) (w : World) (hb : Rd w b (bvs B)) (h : Rd w v (bvs L)) (hB : B.length < 274877906944) (hl : L.length < 1073741824) :
    Calls Try.prog 65 #[b, v] w fun e w' => ∃ v', e = .returned v' ∧ Own w' w.heap.size 5 v' (bvs (B ++ vecB L)) ∧ Below w.heap.size w w' := by
  have HN := Lib.hid (putLen_on b B L.length w hb (by omega) hl)
  have e2 : (lenB L.length).length ≤ 4 := by
    rw [lenB_len hl]; unfold lenS; split <;> (try split) <;> (try split) <;> omega
  obtain ⟨a, cap, rfl, _⟩ := id h
  rw [bvs_len] at h ⊢
  have HR := Lib.hid h
  clear h hb
  go_enter Try.func65, Try.ntmps65
  go_wp2_with fail
  refine HN.out.mono ?_
  rintro e w1 ⟨v1, rfl, hown, hb⟩
  have HO := Lib.hid hown
  have HB := Lib.hid hb
  have HR1 := Lib.hid (HR.out.below hb (Nat.le_refl _))
  have hsz := hb.size
  clear hown hb
  go_wp2_with (at_builtin; refine wpList_app rfl (.tmp 8) (.tmp 9) 29 rfl w.heap.size 5 _ 1 bytesE _ _ rfl HO.out _ (bvs L) rfl HR1.out (bvs_one _) ?c2 ?c3 ?_)
  case c2 => rw [bvs_len, bvs_len, List.length_append]; omega
  case c3 => exact hsz
  rintro v2 w2 hown - hb2
  have HO2 := Lib.hid hown
  have HB2 := Lib.hid (HB.out.trans hb2)
  clear hown hb2
  go_wp2_with fail
  go_ret
  refine ⟨_, rfl, ?_, HB2.out⟩
  rw [vecB, ← List.append_assoc, bvs_append]
  exact HO2.out
theorem catB_snoc (l : List (List Nat)) (r : List Nat) : catB (l ++ [r]) = catB l ++ vecB r := by simp [catB]
theorem catB_len : ∀ (l : List (List Nat)), (∀ r ∈ l, r.length ≤ 200) → (catB l).length ≤ l.length * 204 := by
  intro l
  induction l with
  | nil => intro _; simp [catB]
  | cons r l ih =>
    intro h
    have h1 := ih fun q hq => h q (by simp [hq])
    have h2 := vecB_len r (by have := h r (by simp); omega)
    have h3 := h r (by simp)
    simp only [catB, List.map_cons, List.flatten_cons, List.length_append, List.length_cons] at h1 ⊢
    omega
theorem rows_snoc {l : List (List Nat)} {r : Nat} (h : r < l.length) : l.take (r + 1) = l.take r ++ [l[r]] := List.take_succ_eq_append_getElem h
theorem RdL.cases {w : World} {v : Value} {rows : List (List Nat)} (h : RdL w v rows) :
    ∃ a cap, v = .slice a rows.length cap ∧ rows.length ≤ cap ∧ cap ≤ maxLen ∧ ∀ i (hi : i < rows.length), ∃ b off u, a = some ⟨b, off, none⟩ ∧ b < w.heap.size ∧ w.cell? ⟨b, off + i, none⟩ = some u ∧ Rd w u (bvs rows[i]) := by
  obtain ⟨vs, h1, h2, h3⟩ := h
  obtain ⟨a, cap, rfl, h4, h5, h6⟩ := h1
  rw [h2] at h4
  refine ⟨a, cap, by rw [h2], h4, h5, ?_⟩
  intro i hi
  obtain ⟨u, hu, hr⟩ := h3 i _ (List.getElem?_eq_getElem hi)
  rcases h6 with ⟨h6, _⟩ | ⟨b, off, rfl, hc⟩
  · rw [h6] at h2; simp at h2; omega
  · have := hc i u hu
    exact ⟨b, off, u, rfl, World.block_lt_of_cell? w _ this, this, hr⟩
end Go.Proofs.Ytohldijomcljkaa
/- Slices of slices that the call itself owns. -/
namespace Go.Proofs.Ytohldijomcljkaa
open Go.RowKit

/-- r is a slice (elements of the type eo) of slices (elements of the type ei) that read as the rows. -/
def Grid (w : World) (B : Nat) (eo ei : TypeId) (r : Value) (rows : List (List Value)) : Prop :=
  ∃ vs : List Value, Own w B eo r vs ∧ vs.length = rows.length ∧ ∀ (i : Nat) (xs : List Value), rows[i]? = some xs →
    ∃ v, vs[i]? = some v ∧ Own w B ei v xs ∧ v.oneCell' = true

theorem Own.ty {w : World} {B : Nat} {e : TypeId} {g n cap : Nat} {xs : List Value} (h : Own w B e (.slice (some ⟨g, 0, none⟩) n cap) xs) : ∃ cur, w.heap[g]? = some (.cells cur e (0, 0)) := by
  obtain ⟨_, h | ⟨g', cap', cur, hv, _, hh, _⟩⟩ := h
  · cases h.1
  · simp only [Value.slice.injEq, Option.some.injEq, Addr.mk.injEq, and_true] at hv
    obtain ⟨rfl, _, rfl⟩ := hv
    exact ⟨cur, hh⟩
theorem Own.form {w : World} {B : Nat} {e : TypeId} {v : Value} {xs : List Value} (h : Own w B e v xs) : v = .slice none 0 0 ∨ ∃ g cap, v = .slice (some ⟨g, 0, none⟩) xs.length cap := by
  obtain ⟨_, h | ⟨g, cap, cur, hv, _⟩⟩ := h
  · exact .inl h.1
  · exact .inr ⟨g, cap, hv⟩
/-- Slices of unlike elements lie in unlike blocks. -/
theorem Own.apart {w : World} {B B' : Nat} {e e' : TypeId} {v v' : Value} {xs ys : List Value} (h : Own w B e v xs) (h' : Own w B' e' v' ys) (he : e ≠ e') : v.ownBlock = none ∨ v.ownBlock ≠ v'.ownBlock := by
  rcases h.form with rfl | ⟨g, cap, rfl⟩
  · exact .inl rfl
  · right
    rcases h'.form with rfl | ⟨g', cap', rfl⟩
    · simp [Value.ownBlock]
    · simp only [Value.ownBlock, ne_eq, Option.some.injEq]
      rintro rfl
      obtain ⟨c, hc⟩ := h.ty
      obtain ⟨c', hc'⟩ := h'.ty
      rw [hc] at hc'
      simp only [Option.some.injEq, Obj.cells.injEq] at hc'
      exact he hc'.2.1
theorem Own.oneCell {w : World} {B : Nat} {e : TypeId} {v : Value} {xs : List Value} (h : Own w B e v xs) : v.oneCell' = true := by
  rcases h.form with rfl | ⟨g, cap, rfl⟩ <;> rfl

theorem Grid.nil (w : World) (B : Nat) (eo ei : TypeId) : Grid w B eo ei (.slice none 0 0) [] := ⟨[], Own.nil w B eo, rfl, by intro i xs h; simp at h⟩
theorem Grid.below {w w' : World} {B B' : Nat} {eo ei : TypeId} {r : Value} {rows : List (List Value)} (h : Grid w B eo ei r rows) (hb : Below B' w w') (hB : w.heap.size ≤ B') : Grid w' B eo ei r rows := by
  obtain ⟨vs, h1, h2, h3⟩ := h
  refine ⟨vs, h1.below hb hB, h2, ?_⟩
  intro i xs hi
  obtain ⟨v, e1, e2, e3⟩ := h3 i xs hi
  exact ⟨v, e1, e2.below hb hB, e3⟩
theorem Grid.alloc {w : World} {B : Nat} {eo ei : TypeId} {r : Value} {rows : List (List Value)} (h : Grid w B eo ei r rows) (o : Obj) : Grid (w.alloc o) B eo ei r rows :=
  h.below ((Below.refl w.heap.size _).alloc (Nat.le_refl _) o) (Nat.le_refl _)
theorem Grid.mono {w : World} {B B' : Nat} {eo ei : TypeId} {r : Value} {rows : List (List Value)} (h : Grid w B eo ei r rows) (hB : B' ≤ B) : Grid w B' eo ei r rows := by
  obtain ⟨vs, h1, h2, h3⟩ := h
  refine ⟨vs, h1.mono hB, h2, ?_⟩
  intro i xs hi
  obtain ⟨v, e1, e2, e3⟩ := h3 i xs hi
  exact ⟨v, e1, e2.mono hB, e3⟩
theorem Grid.drewN {w : World} {B : Nat} {eo ei : TypeId} {r : Value} {rows : List (List Value)} (h : Grid w B eo ei r rows) (n : Nat) : Grid (w.drewN n) B eo ei r rows := h

section
variable {P : Program} {w : World}
/-- 's = append(s, r)', r a slice that the call owns too. -/
theorem wpList_pushRow {ops : Array Oper} {rest : List Oper} {o : Oper} {a : Act} {Q : Exit → Act → World → Prop} (hgd : o.guard = none) (s x : Operand) (t : TypeId)
    (ho : o.op = .call { callee := .builtin .append, args := #[s, x], argTypes := #[t, t] })
    (B : Nat) (eo ei : TypeId) (z : Value) (bytes : Nat) (F : Elem P t eo z bytes) (hne : ei ≠ eo)
    (v : Value) (rows : List (List Value)) (hs : a.eval s = v) (hown : Grid w B eo ei v rows)
    (ad : Addr) (u : Value) (xs : List Value) (hx : a.eval x = .slice (some ad) 1 1) (hu : w.cell? ad = some u) (hr : Own w B ei u xs)
    (hn : rows.length < 1099511627776) (hB : B ≤ w.heap.size)
    (h : ∀ v' w', Grid w' B eo ei v' (rows ++ [xs]) → Below B w w' → wpList P ops Q rest (a.put o.dst v') w') : wpList P ops Q (o :: rest) a w := by
  obtain ⟨vs, h1, h2, h3⟩ := hown
  refine wpList_push hgd s x t ho B eo z bytes F v vs hs h1 ad u hx hu hr.oneCell (by omega) hB ?_
  intro v' w' ho' hg hb
  refine h v' w' ⟨vs ++ [u], ho', by simp [h2], ?_⟩ hb
  intro i ys hi
  rcases Nat.lt_or_ge i rows.length with hlt | hge
  · rw [List.getElem?_append_left hlt] at hi
    obtain ⟨y, e1, e2, e3⟩ := h3 i ys hi
    exact ⟨y, by rw [List.getElem?_append_left (by omega)]; exact e1, World.ownsRow.kept e2 hg (e2.apart h1 hne), e3⟩
  · rw [List.getElem?_append_right hge] at hi
    have hi0 : i - rows.length = 0 := by
      rcases Nat.eq_zero_or_pos (i - rows.length) with h | h
      · exact h
      · rw [List.getElem?_eq_none (by simp; omega)] at hi; cases hi
    rw [hi0] at hi
    simp only [List.getElem?_cons_zero, Option.some.injEq] at hi
    subst hi
    refine ⟨u, ?_, World.ownsRow.kept hr hg (hr.apart h1 hne), hr.oneCell⟩
    rw [List.getElem?_append_right (by omega), h2, hi0]
    rfl
end
/-- A row, written out. -/
theorem Grid.row {w : World} {B : Nat} {eo ei : TypeId} {go no co : Nat} {rows : List (List Value)} (h : Grid w B eo ei (.slice (some ⟨go, 0, none⟩) no co) rows) {i : Nat} {xs : List Value} (hi : rows[i]? = some xs) (hx : xs ≠ []) :
    ∃ g cap, w.cell? ⟨go, i, none⟩ = some (.slice (some ⟨g, 0, none⟩) xs.length cap) ∧ xs.length ≤ cap ∧ cap ≤ maxLen ∧ g < w.heap.size ∧ (∀ (j : Nat) u, xs[j]? = some u → w.cell? ⟨g, j, none⟩ = some u) := by
  obtain ⟨vs, h1, h2, h3⟩ := h
  obtain ⟨v, e1, e2, e3⟩ := h3 i xs hi
  obtain ⟨g, cap, cur, rfl, _, hgl, _, hc1, hc2, _, _, hc, _⟩ := e2.out hx
  exact ⟨g, cap, h1.at.1 i _ e1, hc1, hc2, hgl, hc⟩
theorem Grid.outer {w : World} {B : Nat} {eo ei : TypeId} {r : Value} {rows : List (List Value)} (h : Grid w B eo ei r rows) (hx : rows ≠ []) :
    ∃ g cap, r = .slice (some ⟨g, 0, none⟩) rows.length cap ∧ rows.length ≤ cap ∧ cap ≤ maxLen ∧ g < w.heap.size := by
  obtain ⟨vs, h1, h2, _⟩ := h
  have hv : vs ≠ [] := by
    rintro rfl
    apply hx
    exact List.eq_nil_of_length_eq_zero (by simpa using h2.symm)
  obtain ⟨g, cap, cur, rfl, _, hgl, _, hc1, hc2, _⟩ := h1.out hv
  exact ⟨g, cap, by rw [h2], by omega, hc2, hgl⟩
end Go.Proofs.Ytohldijomcljkaa
