/- Walks: slices.Clone, bytes.Clone, wire.may, wire.LenSize, the reference's Num, wire.PutNum. -/
import Derived.Test.YtngealmhgkoaiaaGreatProg
import Derived.Test.YtngealmhgkoaiaaGreatZTreeBytes01
import Derived.Test.YtngealmhgkoaiaaGreatZTreeBytes03
import Derived.Test.YtngealmhgkoaiaaGreatZTreeBytes04
import Derived.Test.YtngealmhgkoaiaaGreatZTreeBytes00
import Derived.WalkSpells
import Derived.WalkLawsBesides
import Derived.Deep.LoopGhost
import Derived.Test.YtngealmhgkoaiaaGreatZTreeBytes02
namespace Go.Proofs.YtngealmhgkoaiaaGreat
open Go.RowKit WireM
theorem bytesE : Elem Tryz.prog 25 5 (.int .u8 0) 1 := ⟨Tryz.underlying25, by kernel_rfl, rfl, by omega⟩
theorem Below.next {a w w' : World} (h : Below a.heap.size a w) (h' : Below w.heap.size w w') : Below a.heap.size a w' := h.trans (h'.mono h.size)
theorem Below.draws {a w : World} (h : Below a.heap.size a w) (n : Nat) : Below a.heap.size a (w.drewN n) := below_drewN' h n
/-- bytes that are read: nil or not -/
theorem Rd.nilOr {w : World} {v : Value} {xs : List Value} (h : Rd w v xs) : v = .slice none 0 0 ∨ ∃ a cap, v = .slice (some a) xs.length cap := by
  obtain ⟨a, cap, rfl, h1, h2, ⟨rfl, h3⟩ | ⟨b, off, rfl, _⟩⟩ := h
  · cases a with
    | none => left; rw [h3 rfl]; rfl
    | some a => exact .inr ⟨a, cap, rfl⟩
  · exact .inr ⟨_, cap, rfl⟩
set_option maxRecDepth 100000 in
set_option maxHeartbeats 1000000 in
theorem clone_any (v : Value) (L : List Nat) (w : World) (h : Rd w v (bvs L)) (hn : L.length < 1099511627776) :
    Calls Tryz.prog 203 #[v] w fun e w' => ∃ v', e = .returned v' ∧ Own w' w.heap.size 5 v' (bvs L) ∧ Below w.heap.size w w' := by
  have hl : (bvs L).length = L.length := bvs_len L
  have h1 := bvs_one L
  rcases h.nilOr with rfl | ⟨a, cap, rfl⟩
  · have h0 : bvs L = [] := by
      obtain ⟨a, cap, e, _⟩ := h
      simp only [Value.slice.injEq] at e
      exact List.eq_nil_of_length_eq_zero e.2.1.symm
    rw [h0]
    clear h h0 hl h1
    have q : ∀ w, (binOp .eql 25 (.slice none 0 0) (.slice none 0 0)).run Tryz.prog w = .ok (.bool true) w := fun w => Lib.run_eql_slice_nil w _ 5 none 0 0 0 0 Tryz.underlying25
    go_enter Tryz.func203, Tryz.ntmps203
    go_wp2_with fail
    go_ret
    exact ⟨_, rfl, Own.nil _ _ _, Below.refl _ _⟩
  · obtain ⟨xs, hxs⟩ : ∃ xs, xs = bvs L := ⟨_, rfl⟩
    rw [← hxs] at h h1 hl ⊢
    have hx : xs.length < 1099511627776 := by omega
    have HR := Lib.hid h
    have H1 := Lib.hid h1
    clear h h1 hl hxs hn
    have q : ∀ w, (binOp .eql 25 (.slice (some a) xs.length cap) (.slice none 0 0)).run Tryz.prog w = .ok (.bool false) w := fun w => Lib.run_eql_slice_nil w _ 5 (some a) _ _ 0 0 Tryz.underlying25
    go_enter Tryz.func203, Tryz.ntmps203
    go_wp2_with (at_builtin; refine wpList_app rfl (.tmp 5) (.tmp 6) 25 rfl w.heap.size 5 _ 1 bytesE _ [] rfl (Own.lit0 rfl (Nat.le_refl _)) _ xs rfl (HR.out.alloc _) H1.out ?c2 ?c3 ?_)
    case c2 => simpa using hx
    case c3 => simp
    rintro v' w2 hown - hb
    have HO := Lib.hid hown
    have HB := Lib.hid hb
    clear hown hb
    go_wp2_with fail
    go_ret
    exact ⟨_, rfl, HO.out, ((Below.refl _ _).alloc (Nat.le_refl _) _).trans HB.out⟩
set_option maxRecDepth 100000 in
set_option maxHeartbeats 1000000 in
theorem bclone_any (v : Value) (L : List Nat) (w : World) (h : Rd w v (bvs L)) (hn : L.length < 1099511627776) :
    Calls Tryz.prog 167 #[v] w fun e w' => ∃ v', e = .returned v' ∧ Own w' w.heap.size 5 v' (bvs L) ∧ Below w.heap.size w w' := by
  have hl : (bvs L).length = L.length := bvs_len L
  have h1 := bvs_one L
  rcases h.nilOr with rfl | ⟨a, cap, rfl⟩
  · have h0 : bvs L = [] := by
      obtain ⟨a, cap, e, _⟩ := h
      simp only [Value.slice.injEq] at e
      exact List.eq_nil_of_length_eq_zero e.2.1.symm
    rw [h0]
    clear h h0 hl h1
    have q : ∀ w, (binOp .eql 25 (.slice none 0 0) (.slice none 0 0)).run Tryz.prog w = .ok (.bool true) w := fun w => Lib.run_eql_slice_nil w _ 5 none 0 0 0 0 Tryz.underlying25
    go_enter Tryz.func167, Tryz.ntmps167
    go_wp2_with fail
    go_ret
    exact ⟨_, rfl, Own.nil _ _ _, Below.refl _ _⟩
  · obtain ⟨xs, hxs⟩ : ∃ xs, xs = bvs L := ⟨_, rfl⟩
    rw [← hxs] at h h1 hl ⊢
    have hx : xs.length < 1099511627776 := by omega
    have HR := Lib.hid h
    have H1 := Lib.hid h1
    clear h h1 hl hxs hn
    have q : ∀ w, (binOp .eql 25 (.slice (some a) xs.length cap) (.slice none 0 0)).run Tryz.prog w = .ok (.bool false) w := fun w => Lib.run_eql_slice_nil w _ 5 (some a) _ _ 0 0 Tryz.underlying25
    go_enter Tryz.func167, Tryz.ntmps167
    go_wp2_with (at_builtin; refine wpList_app rfl (.tmp 5) (.tmp 6) 25 rfl w.heap.size 5 _ 1 bytesE _ [] rfl (Own.lit0 rfl (Nat.le_refl _)) _ xs rfl (HR.out.alloc _) H1.out ?c2 ?c3 ?_)
    case c2 => simpa using hx
    case c3 => simp
    rintro v' w2 hown - hb
    have HO := Lib.hid hown
    have HB := Lib.hid hb
    clear hown hb
    go_wp2_with fail
    go_ret
    exact ⟨_, rfl, HO.out, ((Below.refl _ _).alloc (Nat.le_refl _) _).trans HB.out⟩
/-- can a number have so many bytes? -/
def mayB (n : Int) : Bool := decide (n = 1 ∨ n = 2 ∨ n = 4 ∨ n = 8)
set_option maxRecDepth 100000 in
set_option maxHeartbeats 1000000 in
theorem may_any (n : Int) (w : World) : Calls Tryz.prog 211 #[.int .i64 n] w fun e w' => e = .returned (.bool (mayB n)) ∧ w = w' := by
  have hd : n = 1 ∨ n = 2 ∨ n = 4 ∨ n = 8 ∨ (n ≠ 1 ∧ n ≠ 2 ∧ n ≠ 4 ∧ n ≠ 8) := by omega
  rcases hd with rfl | rfl | rfl | rfl | ⟨h1, h2, h3, h4⟩
  · go_enter Tryz.func211, Tryz.ntmps211
    go_wp2_with fail
    go_ret
    exact ⟨rfl, rfl⟩
  · go_enter Tryz.func211, Tryz.ntmps211
    go_wp2_with fail
    go_ret
    exact ⟨rfl, rfl⟩
  · go_enter Tryz.func211, Tryz.ntmps211
    go_wp2_with fail
    go_ret
    exact ⟨rfl, rfl⟩
  · go_enter Tryz.func211, Tryz.ntmps211
    go_wp2_with fail
    go_ret
    exact ⟨rfl, rfl⟩
  · have e : mayB n = false := by rw [mayB, decide_eq_false]; omega
    rw [e]
    have e1 : (n == 1) = false := by simp [h1]
    have e2 : (n == 2) = false := by simp [h2]
    have e3 : (n == 4) = false := by simp [h3]
    have e4 : (n == 8) = false := by simp [h4]
    clear h1 h2 h3 h4 e
    go_enter Tryz.func211, Tryz.ntmps211
    go_wp2_with fail
    go_ret
    exact ⟨rfl, rfl⟩
set_option maxRecDepth 100000 in
set_option maxHeartbeats 1000000 in
theorem lenSize_any (n : Int) (w : World) : Calls Tryz.prog 202 #[.int .i64 n] w fun e w' => e = .returned (.int .i64 (lenS n : Nat)) ∧ w = w' := by
  have hd : n < 0 ∨ (0 ≤ n ∧ 1073741823 < n) ∨ (0 ≤ n ∧ n < 64) ∨ (64 ≤ n ∧ n < 16384) ∨ (16384 ≤ n ∧ n ≤ 1073741823) := by omega
  rcases hd with h | ⟨h, h'⟩ | ⟨h, h'⟩ | ⟨h, h'⟩ | ⟨h, h'⟩
  · rw [lenS, if_pos (by omega)]
    go_enter Tryz.func202, Tryz.ntmps202
    go_wp2_with fail
    go_ret
    exact ⟨rfl, rfl⟩
  · rw [lenS, if_pos (by omega)]
    go_enter Tryz.func202, Tryz.ntmps202
    go_wp2_with fail
    go_ret
    exact ⟨rfl, rfl⟩
  · rw [lenS, if_neg (by omega), if_pos (by omega)]
    have h2 : n ≤ 1073741823 := by omega
    go_enter Tryz.func202, Tryz.ntmps202
    go_wp2_with fail
    go_ret
    exact ⟨rfl, rfl⟩
  · rw [lenS, if_neg (by omega), if_neg (by omega), if_pos (by omega)]
    have h2 : n ≤ 1073741823 := by omega
    have h3 : 0 ≤ n := by omega
    go_enter Tryz.func202, Tryz.ntmps202
    go_wp2_with fail
    go_ret
    exact ⟨rfl, rfl⟩
  · rw [lenS, if_neg (by omega), if_neg (by omega), if_neg (by omega)]
    have h2 : 64 ≤ n := by omega
    have h3 : 0 ≤ n := by omega
    go_enter Tryz.func202, Tryz.ntmps202
    go_wp2_with fail
    go_ret
    exact ⟨rfl, rfl⟩
end Go.Proofs.YtngealmhgkoaiaaGreat
/- Walks: the reference's Num, wire.PutNum. -/
namespace Go.Proofs.YtngealmhgkoaiaaGreat
open Go.RowKit WireM
theorem bvs_cons (n : Nat) (L : List Nat) : bvs (n :: L) = .int .u8 (n : Int) :: bvs L := rfl
theorem bvs_snoc (n : Nat) (L : List Nat) : bvs (L ++ [n]) = bvs L ++ [.int .u8 (n : Int)] := by simp [bvs]
set_option maxRecDepth 100000 in
set_option maxHeartbeats 1000000 in
theorem rnum_any (k n : Nat) (w : World) (hk : k ≤ 8) (hn : n < 18446744073709551616) :
    Calls Tryz.prog 98 #[.int .i64 (k : Nat), .int .u64 (n : Nat)] w fun e w' => ∃ v, e = .returned v ∧ Own w' w.heap.size 5 v (bvs (beN k n)) ∧ Below w.heap.size w w' := by
  obtain ⟨n0, hn0⟩ : ∃ n0, n0 = n := ⟨_, rfl⟩
  have HN := Lib.hid hn0
  clear hn0
  go_enter Tryz.func98, Tryz.ntmps98
  go_wp2_with fail
  go_loopg [1, 5, 6] k (fun q m out i wr => ∃ (r : Nat) (x : Nat), r + q = k ∧ x < 18446744073709551616 ∧ x = n0 / 256 ^ r ∧ m = .int .u64 (x : Nat) ∧ i = .int .i64 (r : Nat) ∧ Own wr w.heap.size 5 out (bvs (beN r n0)) ∧ Below w.heap.size w wr)
  case atStart =>
    refine ⟨0, n, by omega, hn, by rw [HN.out]; simp, rfl, rfl, Own.nil _ _ _, Below.refl _ _⟩
  case round =>
    obtain ⟨r, x, hr, hx, hxe, rfl, rfl, hown, hb⟩ := hrel
    have HO := Lib.hid hown
    have HB := Lib.hid hb
    have HX := Lib.hid hxe
    have hsz := hb.size
    clear hown hb hxe
    by_cases hrk : r < k
    · go_wp2_with (at_builtin; refine wpList_app rfl (.tmp 15) (.tmp 16) 25 rfl w.heap.size 5 _ 1 bytesE _ [.int .u8 ((x % 256 : Nat) : Int)] rfl ?c1 _ (bvs (beN r n0)) rfl (HO.out.rd.alloc _) (bvs_one _) ?c2 ?c3 ?_)
      case c1 => exact Own.full (cs := #[.int .u8 ((x % 256 : Nat) : Int)]) rfl hsz (by unfold maxLen; simp) rfl
      case c2 => simp [bvs_len, beN_len]; omega
      case c3 => simp; omega
      rintro v' w2 hown2 - hb2
      have HO2 := Lib.hid hown2
      have HB2 := Lib.hid ((HB.out.alloc hsz _).trans hb2)
      clear hown2 hb2
      go_wp2_with fail
      go_roundg (gk - 1)
      case measure => omega
      case rel =>
        refine ⟨r + 1, x / 256, by omega, by omega, by rw [HX.out, beN_step], ?_, by go_num, ?_, HB2.out⟩
        · exact val_int (by omega)
        · rw [beN, bvs_cons, ← HX.out]
          exact HO2.out
    · obtain rfl : r = k := by omega
      go_wp2_with fail
      go_ret
      refine ⟨_, rfl, ?_, HB.out⟩
      rw [← HN.out]
      exact HO.out
set_option maxRecDepth 100000 in
set_option maxHeartbeats 1000000 in
theorem putNum_on (v : Value) (L : List Nat) (k n : Nat) (w : World) (h : Rd w v (bvs L)) (hl : L.length < 549755813888) (hk : mayB (k : Int) = true) (_ : n < 18446744073709551616) :
    Calls Tryz.prog 148 #[v, .int .i64 (k : Nat), .int .u64 (n : Nat)] w fun e w' => ∃ v', e = .returned v' ∧ Own w' w.heap.size 5 v' (bvs (L ++ beN k n)) ∧ Below w.heap.size w w' := by
  have C := clone_any v L w h (by omega)
  have M := fun w => may_any (k : Int) w
  rw [hk] at M
  have hk8 : k ≤ 8 ∧ 1 ≤ k := by have := of_decide_eq_true hk; omega
  obtain ⟨hk8, hk1⟩ := hk8
  have HC := Lib.hid C
  have HM := Lib.hid M
  clear C M h hk
  go_enter Tryz.func148, Tryz.ntmps148
  go_wp2_with fail
  refine (HC.out).mono ?_
  rintro e w1 ⟨v1, rfl, hown, hb⟩
  have HO := Lib.hid hown
  have HB := Lib.hid hb
  clear hown hb
  go_wp2_with fail
  refine (HM.out _).mono ?_
  rintro e w' ⟨rfl, rfl⟩
  go_wp2_with fail
  go_loopg [0, 7] k (fun q out i wr => ∃ pre : List Nat, q ≤ k ∧ i = .int .i64 ((q : Int) - 1) ∧ pre.length + q = L.length + k ∧ pre ++ beN q n = L ++ beN k n ∧ Own wr w.heap.size 5 out (bvs pre) ∧ Below w.heap.size w wr)
  case atStart => exact ⟨L, Nat.le_refl _, rfl, rfl, rfl, HO.out, HB.out⟩
  case round =>
    obtain ⟨pre, hq, rfl, hlen, hpre, hown, hb⟩ := hrel
    have HO := Lib.hid hown
    have HB := Lib.hid hb
    have HP := Lib.hid hpre
    have hsz := hb.size
    clear hown hb hpre
    by_cases h0 : gk = 0
    · subst h0
      go_wp2_with fail
      go_ret
      refine ⟨_, rfl, ?_, HB.out⟩
      rw [← HP.out, beN, List.append_nil]
      exact HO.out
    · obtain ⟨j, rfl⟩ : ∃ j, gk = j + 1 := ⟨gk - 1, by omega⟩
      have ej : ((j + 1 : Nat) : Int) - 1 = (j : Int) := by omega
      rw [ej]
      clear ej h0
      go_wp2_with (at_builtin; refine wpList_push rfl (.tmp 20) (.tmp 26) 25 rfl w.heap.size 5 _ 1 bytesE _ _ rfl (HO.out.alloc _) ⟨wr.heap.size, 0, none⟩ (.int .u8 ((n : Int) / 2 ^ (8 * j) % 256)) rfl ?c1 rfl ?c2 ?c3 ?_)
      case c1 => exact cell_new rfl
      case c2 => rw [bvs_len]; omega
      case c3 => simp; omega
      rintro v' w2 hown2 - hb2
      have HO2 := Lib.hid hown2
      have HB2 := Lib.hid ((HB.out.alloc hsz _).trans hb2)
      clear hown2 hb2
      go_wp2_with fail
      go_roundg j
      case measure => omega
      case rel =>
        refine ⟨pre ++ [n / 256 ^ j % 256], by omega, rfl, by simp; omega, ?_, ?_, HB2.out⟩
        · rw [List.append_assoc]; exact HP.out
        · rw [bvs_snoc]
          have e : ((n / 256 ^ j % 256 : Nat) : Int) = (n : Int) / 2 ^ (8 * j) % 256 := by
            rw [← shift_pow]; simp
          rw [e]
          exact HO2.out
set_option maxRecDepth 100000 in
set_option maxHeartbeats 1000000 in
theorem putNum_off (v : Value) (L : List Nat) (k : Int) (n : Nat) (w : World) (h : Rd w v (bvs L)) (hl : L.length < 549755813888) (hk : mayB k = false) :
    Calls Tryz.prog 148 #[v, .int .i64 k, .int .u64 (n : Nat)] w fun e w' => ∃ v', e = .returned v' ∧ Own w' w.heap.size 5 v' (bvs L) ∧ Below w.heap.size w w' := by
  have C := clone_any v L w h (by omega)
  have M := fun w => may_any k w
  rw [hk] at M
  have HC := Lib.hid C
  have HM := Lib.hid M
  clear C M h hk
  go_enter Tryz.func148, Tryz.ntmps148
  go_wp2_with fail
  refine (HC.out).mono ?_
  rintro e w1 ⟨v1, rfl, hown, hb⟩
  have HO := Lib.hid hown
  have HB := Lib.hid hb
  clear hown hb
  go_wp2_with fail
  refine (HM.out _).mono ?_
  rintro e w' ⟨rfl, rfl⟩
  go_wp2_with fail
  go_ret
  exact ⟨_, rfl, HO.out, HB.out⟩
end Go.Proofs.YtngealmhgkoaiaaGreat
/- Walks: wire.PutLen, wire.PutVec, the reference's Len, Vec. -/
namespace Go.Proofs.YtngealmhgkoaiaaGreat
open Go.RowKit WireM
set_option linter.unusedVariables false
set_option maxRecDepth 100000 in
set_option maxHeartbeats 2000000 in
theorem putLen_on (v : Value) (L : List Nat) (n : Nat) (w : World) (h : Rd w v (bvs L)) (hl : L.length < 549755813888) (hn : n < 1073741824) :
    Calls Tryz.prog 136 #[v, .int .i64 (n : Nat)] w fun e w' => ∃ v', e = .returned v' ∧ Own w' w.heap.size 5 v' (bvs (L ++ lenB n)) ∧ Below w.heap.size w w' := by
  have S := fun w => lenSize_any (n : Int) w
  by_cases h1 : n < 64
  · rw [lenS1 h1] at S
    have P := putNum_on v L 1 n w h hl rfl (by omega)
    rw [be1 n h1] at P
    have HS := Lib.hid S
    have HP := Lib.hid P
    have e : bits .or .u64 0 (n : Int) = (n : Int) := by
      have := u64_or_nat 0 n (by omega) (by omega)
      simpa using this
    clear S P h
    go_enter Tryz.func136, Tryz.ntmps136
    go_wp2_with fail
    refine (HS.out _).mono ?_
    rintro e w' ⟨rfl, rfl⟩
    go_wp2_with fail
    refine (HP.out).mono ?_
    rintro e w1 ⟨v1, rfl, hown, hb⟩
    have HO := Lib.hid hown
    have HB := Lib.hid hb
    clear hown hb
    go_wp2_with fail
    go_ret
    exact ⟨_, rfl, HO.out, HB.out⟩
  · by_cases h2 : n < 16384
    · rw [lenS2 (by omega) h2] at S
      have P := putNum_on v L 2 (16384 + n) w h hl rfl (by omega)
      rw [be2 n (by omega) h2] at P
      have HS := Lib.hid S
      have HP := Lib.hid P
      have e : bits .or .u64 16384 (n : Int) = ((16384 + n : Nat) : Int) := by
        have := u64_or_nat 16384 n (by omega) (by omega)
        rw [or2 n h2] at this
        exact this
      clear S P h
      go_enter Tryz.func136, Tryz.ntmps136
      go_wp2_with fail
      refine (HS.out _).mono ?_
      rintro e w' ⟨rfl, rfl⟩
      go_wp2_with fail
      refine (HP.out).mono ?_
      rintro e w1 ⟨v1, rfl, hown, hb⟩
      have HO := Lib.hid hown
      have HB := Lib.hid hb
      clear hown hb
      go_wp2_with fail
      go_ret
      exact ⟨_, rfl, HO.out, HB.out⟩
    · rw [lenS4 (by omega) hn] at S
      have P := putNum_on v L 4 (2147483648 + n) w h hl rfl (by omega)
      rw [be4 n (by omega) hn] at P
      have HS := Lib.hid S
      have HP := Lib.hid P
      have e : bits .or .u64 2147483648 (n : Int) = ((2147483648 + n : Nat) : Int) := by
        have := u64_or_nat 2147483648 n (by omega) (by omega)
        rw [or4 n hn] at this
        exact this
      clear S P h
      go_enter Tryz.func136, Tryz.ntmps136
      go_wp2_with fail
      refine (HS.out _).mono ?_
      rintro e w' ⟨rfl, rfl⟩
      go_wp2_with fail
      refine (HP.out).mono ?_
      rintro e w1 ⟨v1, rfl, hown, hb⟩
      have HO := Lib.hid hown
      have HB := Lib.hid hb
      clear hown hb
      go_wp2_with fail
      go_ret
      exact ⟨_, rfl, HO.out, HB.out⟩
set_option maxRecDepth 100000 in
set_option maxHeartbeats 2000000 in
theorem putLen_off (v : Value) (L : List Nat) (n : Int) (w : World) (h : Rd w v (bvs L)) (hl : L.length < 549755813888) (hn : n < 0 ∨ 1073741824 ≤ n) :
    Calls Tryz.prog 136 #[v, .int .i64 n] w fun e w' => ∃ v', e = .returned v' ∧ Own w' w.heap.size 5 v' (bvs L) ∧ Below w.heap.size w w' := by
  have S := fun w => lenSize_any n w
  have e0 : lenS n = 0 := by unfold lenS; rw [if_pos (by omega)]
  rw [e0] at S
  have C := clone_any v L w h (by omega)
  have HS := Lib.hid S
  have HC := Lib.hid C
  clear S C h hn e0
  go_enter Tryz.func136, Tryz.ntmps136
  go_wp2_with fail
  refine (HS.out _).mono ?_
  rintro e w' ⟨rfl, rfl⟩
  go_wp2_with fail
  refine (HC.out).mono ?_
  rintro e w1 ⟨v1, rfl, hown, hb⟩
  have HO := Lib.hid hown
  have HB := Lib.hid hb
  clear hown hb
  go_wp2_with fail
  go_ret
  exact ⟨_, rfl, HO.out, HB.out⟩
set_option maxRecDepth 100000 in
set_option maxHeartbeats 2000000 in
theorem rlen_any (n : Nat) (w : World) (hn : n < 1073741824) :
    Calls Tryz.prog 147 #[.int .i64 (n : Nat)] w fun e w' => ∃ v', e = .returned v' ∧ Own w' w.heap.size 5 v' (bvs (lenB n)) ∧ Below w.heap.size w w' := by
  by_cases h1 : n < 64
  · have e : lenB n = [n] := by unfold lenB; rw [if_pos h1]
    rw [e]
    clear e
    go_enter Tryz.func147, Tryz.ntmps147
    go_wp2_with fail
    go_ret
    exact ⟨_, rfl, Own.full (cs := #[.int .u8 (n : Int)]) rfl (Nat.le_refl _) (by unfold maxLen; simp) rfl, (Below.refl _ _).alloc (Nat.le_refl _) _⟩
  · by_cases h2 : n < 16384
    · have e : lenB n = [64 + n / 256, n % 256] := by unfold lenB; rw [if_neg h1, if_pos h2]
      rw [e]
      clear e
      have h3 : 64 ≤ n := by omega
      go_enter Tryz.func147, Tryz.ntmps147
      go_wp2_with fail
      go_ret
      exact ⟨_, rfl, Own.full (cs := #[.int .u8 ((64 + n / 256 : Nat) : Int), .int .u8 ((n % 256 : Nat) : Int)]) rfl (Nat.le_refl _) (by unfold maxLen; simp) rfl, (Below.refl _ _).alloc (Nat.le_refl _) _⟩
    · have e : lenB n = [128 + n / 16777216, n / 65536 % 256, n / 256 % 256, n % 256] := by unfold lenB; rw [if_neg h1, if_neg h2]
      rw [e]
      clear e
      have h3 : 16384 ≤ n := by omega
      go_enter Tryz.func147, Tryz.ntmps147
      go_wp2_with fail
      go_ret
      exact ⟨_, rfl, Own.full (cs := #[.int .u8 ((128 + n / 16777216 : Nat) : Int), .int .u8 ((n / 65536 % 256 : Nat) : Int), .int .u8 ((n / 256 % 256 : Nat) : Int), .int .u8 ((n % 256 : Nat) : Int)]) rfl (Nat.le_refl _) (by unfold maxLen; simp) rfl, (Below.refl _ _).alloc (Nat.le_refl _) _⟩
end Go.Proofs.YtngealmhgkoaiaaGreat
/- Literals of bytes, as they read. -/
namespace Go.Proofs.YtngealmhgkoaiaaGreat
open Go.RowKit WireM
set_option linter.unusedVariables false
theorem nil_rd (w : World) : Rd w (.slice none 0 0) (bvs []) := ⟨none, 0, rfl, Nat.le_refl _, Nat.zero_le _, .inl ⟨rfl, fun _ => rfl⟩⟩
theorem lit_rd {w : World} {cs : Array Value} {L : List Nat} {N : Nat} (hN : N = w.heap.size) (h : cs.toList = bvs L) (hm : L.length ≤ 1000) : Rd (w.alloc (.cells cs 5)) (.slice (some ⟨N, 0, none⟩) L.length L.length) (bvs L) := by
  have e : cs.size = L.length := by rw [← Array.length_toList, h, bvs_len]
  have := (Own.full (w := w) (B := w.heap.size) (e := 5) (cs := cs) hN (by omega) (by unfold maxLen; omega) (n := L.length) e.symm).rd
  rw [h] at this
  exact this
end Go.Proofs.YtngealmhgkoaiaaGreat
/- A small vocabulary: a reader's memory. -/
namespace Go.Proofs.YtngealmhgkoaiaaGreat
open Go.RowKit WireM
set_option linter.unusedVariables false
/-- v reads as xs, out of blocks below B -/
def RdK (w : World) (B : Nat) (v : Value) (xs : List Value) : Prop :=
  ∃ a cap, v = .slice a xs.length cap ∧ xs.length ≤ cap ∧ cap ≤ maxLen ∧
    ((xs = [] ∧ (a = none → cap = 0)) ∨ ∃ b off, a = some ⟨b, off, none⟩ ∧ b < B ∧ ∀ (j : Nat) u, xs[j]? = some u → w.cell? ⟨b, off + j, none⟩ = some u)
theorem RdK.rd {w : World} {B : Nat} {v : Value} {xs : List Value} (h : RdK w B v xs) : Rd w v xs := by
  obtain ⟨a, cap, h1, h2, h3, h4 | ⟨b, off, h4, _, h5⟩⟩ := h
  · exact ⟨a, cap, h1, h2, h3, .inl h4⟩
  · exact ⟨a, cap, h1, h2, h3, .inr ⟨b, off, h4, h5⟩⟩
theorem Rd.k {w : World} {v : Value} {xs : List Value} {B : Nat} (h : Rd w v xs) (hB : w.heap.size ≤ B) : RdK w B v xs := by
  obtain ⟨a, cap, h1, h2, h3, h4⟩ := h
  refine ⟨a, cap, h1, h2, h3, ?_⟩
  cases xs with
  | nil =>
    rcases h4 with h4 | ⟨b, off, rfl, _⟩
    · exact .inl h4
    · exact .inl ⟨rfl, fun h => by cases h⟩
  | cons x xs =>
    rcases h4 with h4 | ⟨b, off, rfl, hc⟩
    · cases h4.1
    · have := World.block_lt_of_cell? w _ (hc 0 x rfl)
      exact .inr ⟨b, off, rfl, by simp only at this; omega, hc⟩
theorem RdK.keep {w w' : World} {B : Nat} {v : Value} {xs : List Value} (h : RdK w B v xs) (hk : ∀ p : Addr, p.block < B → w'.cell? p = w.cell? p) : RdK w' B v xs := by
  obtain ⟨a, cap, h1, h2, h3, h4 | ⟨b, off, h4, h5, h6⟩⟩ := h
  · exact ⟨a, cap, h1, h2, h3, .inl h4⟩
  · exact ⟨a, cap, h1, h2, h3, .inr ⟨b, off, h4, h5, fun j u hu => (hk _ h5).trans (h6 j u hu)⟩⟩
/-- w is a, with new blocks, and writes to the block B alone -/
def Only (B : Nat) (a w : World) : Prop := a.grownBy w (some B)
theorem Only.refl (B : Nat) (a : World) : Only B a a := World.grownBy.refl a _
theorem Only.trans {B : Nat} {a b c : World} (h : Only B a b) (k : Only B b c) : Only B a c :=
  ⟨k.os.trans h.os, k.tape.trans h.tape, k.output.trans h.output, Nat.le_trans h.size k.size, fun i hi hne => (k.block i (Nat.lt_of_lt_of_le hi h.size) hne).trans (h.block i hi hne)⟩
theorem Only.of {B : Nat} {a w : World} (h : Below a.heap.size a w) : Only B a w := ⟨h.os, h.tape, h.output, h.size, fun i hi _ => h.block i hi⟩
theorem Only.set {a : World} {B : Nat} (i : Nat) (u : Value) : Only B a (a.setCell ⟨B, i, none⟩ u) :=
  ⟨rfl, rfl, rfl, by simp [World.setCell], fun k hk hne => Below.heap_setCell _ _ _ _ (fun e => hne (by rw [e]))⟩
theorem Only.below {B C : Nat} {a w : World} (h : Only B a w) (h1 : C ≤ B) (h2 : C ≤ a.heap.size) : Below C a w :=
  ⟨h.os, h.tape, h.output, h.size, fun i hi => h.block i (by omega) (fun e => by simp at e; omega)⟩
theorem Only.cell {B : Nat} {a w : World} (h : Only B a w) {p : Addr} (hp : p.block < B) (hs : B ≤ a.heap.size) : w.cell? p = a.cell? p :=
  World.cell?_of_block (h.block p.block (by omega) (fun e => by simp at e; omega))
theorem RdK.only {w w' : World} {B : Nat} {v : Value} {xs : List Value} (h : RdK w B v xs) (ho : Only B w w') (hs : B ≤ w.heap.size) : RdK w' B v xs := h.keep fun _ hp => ho.cell hp hs

/-- the reader in the block B: the bytes L are left, the error is er -/
def RS (w : World) (B : Nat) (L : List Nat) (er : Nat) : Prop := ∃ v, Blk w B 158 #[v, .int .u8 (er : Nat)] ∧ RdK w B v (bvs L)
theorem RS.lt {w : World} {B : Nat} {L : List Nat} {er : Nat} (h : RS w B L er) : B < w.heap.size := by obtain ⟨v, h, _⟩ := h; exact h.lt
theorem RS.below {w w' : World} {B : Nat} {L : List Nat} {er : Nat} (h : RS w B L er) (hb : Below w.heap.size w w') : RS w' B L er := by
  obtain ⟨v, h1, h2⟩ := h
  exact ⟨v, h1.below hb h1.lt, h2.keep fun p hp => hb.cell (Nat.lt_trans hp h1.lt)⟩
theorem RS.drewN {w : World} {B : Nat} {L : List Nat} {er : Nat} (h : RS w B L er) (n : Nat) : RS (w.drewN n) B L er := h
theorem bvs_take (L : List Nat) (n : Nat) : bvs (L.take n) = (bvs L).take n := by simp [bvs, List.map_take]
theorem bvs_drop (L : List Nat) (n : Nat) : bvs (L.drop n) = (bvs L).drop n := by simp [bvs, List.map_drop]
theorem RdK.front {w : World} {B : Nat} {a : Option Addr} {cap n : Nat} {L : List Nat} (h : RdK w B (.slice a L.length cap) (bvs L)) (hn : n ≤ L.length) : RdK w B (.slice a n cap) (bvs (L.take n)) := by
  obtain ⟨a', cap', he, h2, h3, h4⟩ := h
  simp only [Value.slice.injEq] at he
  obtain ⟨rfl, _, rfl⟩ := he
  have hl : (bvs (L.take n)).length = n := by rw [bvs_len, List.length_take]; omega
  rw [bvs_len] at h2
  refine ⟨a, cap, by rw [hl], by rw [hl]; omega, h3, ?_⟩
  rcases h4 with ⟨h4, h5⟩ | ⟨b, off, h4, h5, h6⟩
  · left
    refine ⟨by rw [bvs_take, h4]; simp, h5⟩
  · right
    refine ⟨b, off, h4, h5, ?_⟩
    intro j u hu
    rw [bvs_take, List.getElem?_take] at hu
    split at hu
    · exact h6 j u hu
    · cases hu
theorem RdK.rest {w : World} {B : Nat} {a : Option Addr} {cap n : Nat} {L : List Nat} (h : RdK w B (.slice a L.length cap) (bvs L)) (hn : n ≤ L.length) : RdK w B (.slice (a.map (·.add n)) (L.length - n) (cap - n)) (bvs (L.drop n)) := by
  obtain ⟨a', cap', he, h2, h3, h4⟩ := h
  simp only [Value.slice.injEq] at he
  obtain ⟨rfl, _, rfl⟩ := he
  have hl : (bvs (L.drop n)).length = L.length - n := by rw [bvs_len, List.length_drop]
  rw [bvs_len] at h2
  refine ⟨_, cap - n, by rw [hl], by rw [hl]; omega, by omega, ?_⟩
  rcases h4 with ⟨h4, h5⟩ | ⟨b, off, rfl, h5, h6⟩
  · left
    refine ⟨by rw [bvs_drop, h4]; simp, ?_⟩
    intro h
    have : a = none := by cases a with
      | none => rfl
      | some a => simp at h
    rw [h5 this]; omega
  · right
    refine ⟨b, off + n, by simp [Addr.add_lit], h5, ?_⟩
    intro j u hu
    rw [bvs_drop, List.getElem?_drop] at hu
    rw [Nat.add_assoc]
    exact h6 _ u hu
theorem RdK.rest0 {w : World} {B : Nat} {a : Option Addr} {n : Nat} {L : List Nat} (hn : L.length ≤ n) : RdK w B (.slice a (L.length - n) 0) (bvs (L.drop n)) := by
  have hl : bvs (L.drop n) = [] := by rw [List.drop_eq_nil_of_le hn]; rfl
  rw [hl]
  refine ⟨a, 0, by simp; omega, by simp, Nat.zero_le _, .inl ⟨rfl, fun _ => rfl⟩⟩
end Go.Proofs.YtngealmhgkoaiaaGreat
/- Walks: a reader's fail, take. -/
namespace Go.Proofs.YtngealmhgkoaiaaGreat
open Go.RowKit WireM
set_option linter.unusedVariables false
set_option maxRecDepth 100000 in
set_option maxHeartbeats 1000000 in
theorem fail_first (B : Nat) (L : List Nat) (e' : Nat) (w : World) (h : RS w B L 0) (he : e' < 256) :
    Calls Tryz.prog 205 #[.pointer (some ⟨B, 0, none⟩), .int .u8 (e' : Nat)] w fun e w' => e = .returned (.tuple #[]) ∧ RS w' B L e' ∧ Only B w w' ∧ w'.heap.size = w.heap.size := by
  obtain ⟨v, hb, hr⟩ := h
  have k1 := hb.cell 1
  have z1 := hb.frozen 1
  simp only [List.getElem?_toArray, List.getElem?_cons_zero, List.getElem?_cons_succ] at k1
  have HB := Lib.hid hb
  have HR := Lib.hid hr
  clear hb hr
  go_enter Tryz.func205, Tryz.ntmps205
  go_wp2_with fail
  go_end0
  refine ⟨rfl, ⟨v, ?_, ?_⟩, Only.set _ _, by simp [World.setCell]⟩
  · exact HB.out.set 1 _
  · exact HR.out.keep fun p hp => World.cell?_setCell_other _ _ _ _ (fun e => by subst e; exact absurd hp (Nat.lt_irrefl _))
set_option maxRecDepth 100000 in
set_option maxHeartbeats 1000000 in
theorem take_err (B : Nat) (L : List Nat) (er : Nat) (n : Int) (w : World) (h : RS w B L er) (he : er ≠ 0) :
    Calls Tryz.prog 204 #[.pointer (some ⟨B, 0, none⟩), .int .i64 n] w fun e w' => e = .returned (.tuple #[.slice none 0 0, .bool false]) ∧ w = w' := by
  obtain ⟨v, hb, hr⟩ := h
  have k1 := hb.cell 1
  have he' : ((er : Int) != 0) = true := by simp; omega
  simp only [List.getElem?_toArray, List.getElem?_cons_zero, List.getElem?_cons_succ] at k1
  clear hb hr he
  go_enter Tryz.func204, Tryz.ntmps204
  go_wp2_with fail
  go_ret2
  exact ⟨rfl, rfl⟩
set_option maxRecDepth 100000 in
set_option maxHeartbeats 1000000 in
theorem take_neg (B : Nat) (L : List Nat) (n : Int) (w : World) (h : RS w B L 0) (hn : n < 0) :
    Calls Tryz.prog 204 #[.pointer (some ⟨B, 0, none⟩), .int .i64 n] w fun e w' => e = .returned (.tuple #[.slice none 0 0, .bool false]) ∧ RS w' B L 1 ∧ Only B w w' ∧ w'.heap.size = w.heap.size := by
  have HF := Lib.hid (fail_first B L 1 w h (by omega))
  obtain ⟨v, hb, hr⟩ := h
  have k1 := hb.cell 1
  simp only [List.getElem?_toArray, List.getElem?_cons_zero, List.getElem?_cons_succ] at k1
  clear hb hr
  go_enter Tryz.func204, Tryz.ntmps204
  go_wp2_with fail
  refine HF.out.mono ?_
  rintro e w1 ⟨rfl, h1, h2, h3⟩
  have H1 := Lib.hid h1
  have H2 := Lib.hid h2
  have H3 := Lib.hid h3
  clear h1 h2 h3
  go_wp2_with fail
  go_ret2
  exact ⟨rfl, H1.out, H2.out, H3.out⟩
set_option maxRecDepth 100000 in
set_option maxHeartbeats 1000000 in
theorem take_end (B : Nat) (L : List Nat) (n : Int) (w : World) (h : RS w B L 0) (hn : (L.length : Int) < n) :
    Calls Tryz.prog 204 #[.pointer (some ⟨B, 0, none⟩), .int .i64 n] w fun e w' => e = .returned (.tuple #[.slice none 0 0, .bool false]) ∧ RS w' B L 4 ∧ Only B w w' ∧ w'.heap.size = w.heap.size := by
  have HF := Lib.hid (fail_first B L 4 w h (by omega))
  obtain ⟨v, hb, hr⟩ := h
  obtain ⟨a, cap, rfl, _⟩ := hr
  rw [bvs_len] at hb
  have k0 := hb.cell 0
  have k1 := hb.cell 1
  simp only [List.getElem?_toArray, List.getElem?_cons_zero, List.getElem?_cons_succ] at k0 k1
  have hn0 : 0 ≤ n := by omega
  clear hb
  go_enter Tryz.func204, Tryz.ntmps204
  go_wp2_with fail
  refine HF.out.mono ?_
  rintro e w1 ⟨rfl, h1, h2, h3⟩
  have H1 := Lib.hid h1
  have H2 := Lib.hid h2
  have H3 := Lib.hid h3
  clear h1 h2 h3
  go_wp2_with fail
  go_ret2
  exact ⟨rfl, H1.out, H2.out, H3.out⟩
set_option maxRecDepth 100000 in
set_option maxHeartbeats 1000000 in
theorem take_ok (B : Nat) (L : List Nat) (n : Nat) (w : World) (h : RS w B L 0) (hn : n ≤ L.length) :
    Calls Tryz.prog 204 #[.pointer (some ⟨B, 0, none⟩), .int .i64 (n : Nat)] w fun e w' => (∃ v', e = .returned (.tuple #[v', .bool true]) ∧ RdK w' B v' (bvs (L.take n))) ∧ RS w' B (L.drop n) 0 ∧ Only B w w' ∧ w'.heap.size = w.heap.size := by
  obtain ⟨v, hb, hr⟩ := h
  obtain ⟨a, cap, rfl, hc1, hc2, hc3⟩ := id hr
  rw [bvs_len] at hb hc1 hr
  have k0 := hb.cell 0
  have k1 := hb.cell 1
  have z0 := hb.frozen 0
  simp only [List.getElem?_toArray, List.getElem?_cons_zero, List.getElem?_cons_succ] at k0 k1
  have hlen : L.length ≤ 9223372036854775807 := by unfold maxLen at hc2; omega
  have HB := Lib.hid hb
  have HR := Lib.hid hr
  have keep : Hid (∀ u (p : Addr), p.block < B → (w.setCell ⟨B, 0, none⟩ u).cell? p = w.cell? p) := Lib.hid (fun u p hp => World.cell?_setCell_other _ _ _ _ (fun e => by subst e; exact absurd hp (Nat.lt_irrefl _)))
  clear hb hr hc3
  go_enter Tryz.func204, Tryz.ntmps204
  go_wp2_with fail
  all_goals go_ret2
  · have hcn : cap = n := by assumption
    have hr2 := HR.out.front hn
    have hr3 := RdK.rest0 (w := w.setCell ⟨B, 0, none⟩ (Value.slice a (L.length - n) 0)) (B := B) (a := a) (n := n) (L := L) (by omega)
    rw [hcn] at hr2
    refine ⟨⟨_, rfl, hr2.keep (keep.out _)⟩, ⟨_, HB.out.set 0 _, hr3⟩, Only.set _ _, by simp [World.setCell]⟩
  · refine ⟨⟨_, rfl, (HR.out.front hn).keep (keep.out _)⟩, ⟨_, HB.out.set 0 _, ?_⟩, Only.set _ _, by simp [World.setCell]⟩
    exact (HR.out.rest hn).keep (keep.out _)
end Go.Proofs.YtngealmhgkoaiaaGreat
/- Walks: wire.number, a reader's Take, NewReader, Err, End, Left. -/
namespace Go.Proofs.YtngealmhgkoaiaaGreat
open Go.RowKit WireM
set_option linter.unusedVariables false
/-- the number of bytes, the highest first -/
def numV (L : List Nat) : Nat := L.foldl (fun a c => a * 256 + c) 0
theorem numV_snoc (L : List Nat) (c : Nat) : numV (L ++ [c]) = numV L * 256 + c := by simp [numV]
theorem numV_lt : ∀ (k : Nat) (L : List Nat), L.length = k → (∀ n ∈ L, n < 256) → numV L < 256 ^ k := by
  intro k
  induction k with
  | zero => intro L h _; rw [List.eq_nil_of_length_eq_zero h]; decide
  | succ k ih =>
    intro L h hL
    have hne : L ≠ [] := by intro e; subst e; simp at h
    rw [← List.dropLast_concat_getLast hne, numV_snoc]
    have h1 := ih L.dropLast (by simp [h]) (fun n hn => hL n (List.dropLast_subset _ hn))
    have h2 := hL _ (List.getLast_mem hne)
    rw [Nat.pow_succ]
    omega
theorem or256 (a c : Nat) (hc : c < 256) : a * 256 ||| c = a * 256 + c := by
  have := Nat.two_pow_add_eq_or_of_lt (i := 8) (b := c) hc a
  rw [Nat.mul_comm] at this
  exact this.symm
theorem take_snocD {L : List Nat} {r : Nat} (h : r < L.length) : L.take (r + 1) = L.take r ++ [L.getD r 0] := by
  rw [List.take_succ_eq_append_getElem h, List.getD_eq_getElem?_getD, List.getElem?_eq_getElem h]; rfl
theorem pow256 {r : Nat} (h : r ≤ 7) : 256 ^ r ≤ 72057594037927936 := by
  have := Nat.pow_le_pow_right (show 0 < 256 by omega) h
  exact this
set_option maxRecDepth 100000 in
set_option maxHeartbeats 1000000 in
theorem number_any (v : Value) (L : List Nat) (w : World) (h : Rd w v (bvs L)) (hl : L.length ≤ 8) (hL : ∀ n ∈ L, n < 256) :
    Calls Tryz.prog 206 #[v] w fun e w' => e = .returned (.int .u64 (numV L : Nat)) ∧ w = w' := by
  have hcell := h.cases
  obtain ⟨a, cap, rfl, hc1, hc2, hc3⟩ := h
  rw [bvs_len] at hc1 hcell ⊢
  obtain ⟨k, hk⟩ : ∃ k, k = L.length := ⟨_, rfl⟩
  rw [← hk] at hc1 hl hcell ⊢
  have HC := Lib.hid hcell
  have HK := Lib.hid hk
  have HL := Lib.hid hL
  clear hcell hc3 hk hL
  go_enter Tryz.func206, Tryz.ntmps206
  go_wp2_with fail
  go_loopg [3, 8] k (fun q m i wr => ∃ r : Nat, r + q = k ∧ i = .int .i64 (r : Int) ∧ m = .int .u64 (numV (L.take r) : Nat) ∧ wr = w)
  case atStart => exact ⟨0, by omega, rfl, rfl, rfl⟩
  case round =>
    obtain ⟨r, hr, rfl, rfl, rfl⟩ := hrel
    by_cases hrk : r < k
    · have hrL : r < L.length := by have := HK.out; omega
      have hlt := numV_lt r (L.take r) (by rw [List.length_take]; omega) (fun n hn => HL.out n (List.mem_of_mem_take hn))
      have hp := pow256 (show r ≤ 7 by omega)
      have hs := take_snocD hrL
      have hc := getD_lt HL.out (by omega) r
      obtain ⟨b, off, rfl, c0⟩ : ∃ b off, a = some ⟨b, off, none⟩ ∧ wr.cell? ⟨b, off + r, none⟩ = some (.int .u8 ((L.getD r 0 : Nat) : Int)) := by
        rcases HC.out with ⟨_, _, he, h0⟩ | ⟨b, off, cap', _, _, _, he, _, hc⟩
        · rw [h0] at hrL; simp at hrL
        · simp only [Value.slice.injEq] at he
          exact ⟨b, off, he.1, hc r hrk⟩
      obtain ⟨c, hcc⟩ : ∃ c, c = L.getD r 0 := ⟨_, rfl⟩
      obtain ⟨x, hx⟩ : ∃ x, x = numV (L.take r) := ⟨_, rfl⟩
      rw [← hcc] at hs c0 hc
      rw [← hx] at hlt ⊢
      have hx2 : x < 72057594037927936 := by omega
      have ho := u64_or_nat (x * 256) c (by omega) (by omega)
      rw [or256 x c hc] at ho
      have hn : ((x * 256 : Nat) : Int) = (x : Int) * 256 := by omega
      rw [hn] at ho
      have HX := Lib.hid hx
      have HS := Lib.hid hs
      clear hcc hx hs hlt hp hn
      go_wp2_with fail
      go_roundg (gk - 1)
      case measure => omega
      case rel =>
        refine ⟨r + 1, by omega, by go_num, ?_, rfl⟩
        rw [HS.out, numV_snoc, ← HX.out]
        exact val_int (by omega)
    · obtain rfl : r = k := by omega
      go_wp2_with fail
      go_ret
      refine ⟨ret_int ?_, rfl⟩
      rw [HK.out, List.take_length]
set_option maxRecDepth 100000 in
set_option maxHeartbeats 1000000 in
theorem newReader_any (v : Value) (L : List Nat) (w : World) (h : Rd w v (bvs L)) :
    Calls Tryz.prog 75 #[v] w fun e w' => e = .returned (.pointer (some ⟨w.heap.size, 0, none⟩)) ∧ RS w' w.heap.size L 0 ∧ Below w.heap.size w w' := by
  have hl := bvs_len L
  obtain ⟨a, cap, rfl, _⟩ := id h
  rw [hl] at h ⊢
  have HR := Lib.hid h
  clear h hl
  go_enter Tryz.func75, Tryz.ntmps75
  go_wp2_with fail
  go_ret
  exact ⟨rfl, ⟨_, Blk.new _ _ _, (HR.out.k (Nat.le_refl _)).keep fun p hp => World.cell?_alloc_lt w _ p hp⟩, (Below.refl _ _).alloc (Nat.le_refl _) _⟩
set_option maxRecDepth 100000 in
set_option maxHeartbeats 1000000 in
theorem err_any (B : Nat) (L : List Nat) (er : Nat) (w : World) (h : RS w B L er) :
    Calls Tryz.prog 142 #[.pointer (some ⟨B, 0, none⟩)] w fun e w' => e = .returned (.int .u8 (er : Nat)) ∧ w = w' := by
  obtain ⟨v, hb, hr⟩ := h
  have k1 := hb.cell 1
  simp only [List.getElem?_toArray, List.getElem?_cons_zero, List.getElem?_cons_succ] at k1
  clear hb hr
  go_enter Tryz.func142, Tryz.ntmps142
  go_wp2_with fail
  go_ret
  exact ⟨rfl, rfl⟩
/-- the error at the end -/
def endE (L : List Nat) (er : Nat) : Nat := if er ≠ 0 then er else if L = [] then 0 else 5
set_option maxRecDepth 100000 in
set_option maxHeartbeats 1000000 in
theorem end_any (B : Nat) (L : List Nat) (er : Nat) (w : World) (h : RS w B L er) :
    Calls Tryz.prog 77 #[.pointer (some ⟨B, 0, none⟩)] w fun e w' => e = .returned (.int .u8 (endE L er : Nat)) ∧ w = w' := by
  have HE := Lib.hid (err_any B L er w h)
  obtain ⟨v, hb, hr⟩ := h
  obtain ⟨a, cap, rfl, _⟩ := hr
  rw [bvs_len] at hb
  have k0 := hb.cell 0
  have k1 := hb.cell 1
  simp only [List.getElem?_toArray, List.getElem?_cons_zero, List.getElem?_cons_succ] at k0 k1
  clear hb
  unfold endE
  by_cases he : er = 0
  · subst he
    by_cases hl : L = []
    · subst hl
      rw [if_neg (by simp), if_pos rfl]
      simp only [List.length_nil] at k0
      go_enter Tryz.func77, Tryz.ntmps77
      go_wp2_with fail
      refine HE.out.mono ?_
      rintro e w' ⟨rfl, rfl⟩
      go_wp2_with fail
      go_ret
      exact ⟨rfl, rfl⟩
    · rw [if_neg (by simp), if_neg hl]
      have hpos : 0 < L.length := List.length_pos_iff.2 hl
      clear hl
      go_enter Tryz.func77, Tryz.ntmps77
      go_wp2_with fail
      refine HE.out.mono ?_
      rintro e w' ⟨rfl, rfl⟩
      go_wp2_with fail
      go_ret
      exact ⟨rfl, rfl⟩
  · rw [if_pos he]
    have hc : ((er : Int) != 0) = true := by simp; omega
    clear he
    go_enter Tryz.func77, Tryz.ntmps77
    go_wp2_with fail
    refine HE.out.mono ?_
    rintro e w' ⟨rfl, rfl⟩
    go_wp2_with fail
    go_ret
    exact ⟨rfl, rfl⟩
end Go.Proofs.YtngealmhgkoaiaaGreat
/- Walks: bits.RotateLeft32, sha.right. -/
namespace Go.Proofs.YtngealmhgkoaiaaGreat
open Go.RowKit ShaM
set_option linter.unusedVariables false
theorem and31 (n : Nat) (h1 : 1 ≤ n) (h2 : n ≤ 31) : bits .and .u64 ((18446744073709551616 - n : Nat) : Int) 31 = ((32 - n : Nat) : Int) := by
  show IntKind.u64.wrap ((BitVec.ofInt 64 ((18446744073709551616 - n : Nat) : Int) &&& BitVec.ofInt 64 ((31 : Nat) : Int)).toNat : Int) = _
  rw [BitVec.toNat_and, BitVec.ofInt_natCast, BitVec.ofInt_natCast, BitVec.toNat_ofNat, BitVec.toNat_ofNat, Nat.mod_eq_of_lt (show 18446744073709551616 - n < 2 ^ 64 by omega), Nat.mod_eq_of_lt (show 31 < 2 ^ 64 by decide), IntKind.wrap_u64]
  have := Nat.and_two_pow_sub_one_eq_mod (18446744073709551616 - n) 5
  simp only [Nat.reducePow, Nat.reduceSub] at this
  rw [this]
  omega
theorem or32 (a b : Nat) (ha : a < 4294967296) (hb : b < 4294967296) : bits .or .u32 (a : Int) (b : Int) = ((a ||| b : Nat) : Int) := by
  have h2 : a ||| b < 2 ^ 32 := Nat.or_lt_two_pow (by omega) (by omega)
  show IntKind.u32.wrap ((BitVec.ofInt 32 (a : Int) ||| BitVec.ofInt 32 (b : Int)).toNat : Int) = _
  rw [BitVec.toNat_or, BitVec.ofInt_natCast, BitVec.ofInt_natCast, BitVec.toNat_ofNat, BitVec.toNat_ofNat, Nat.mod_eq_of_lt (show a < 2 ^ 32 by omega), Nat.mod_eq_of_lt (show b < 2 ^ 32 by omega), IntKind.wrap_u32]
  omega
theorem xor32 (a b : Nat) (ha : a < 4294967296) (hb : b < 4294967296) : bits .xor .u32 (a : Int) (b : Int) = ((a ^^^ b : Nat) : Int) := by
  have h2 : a ^^^ b < 2 ^ 32 := Nat.xor_lt_two_pow (by omega) (by omega)
  show IntKind.u32.wrap ((BitVec.ofInt 32 (a : Int) ^^^ BitVec.ofInt 32 (b : Int)).toNat : Int) = _
  rw [BitVec.toNat_xor, BitVec.ofInt_natCast, BitVec.ofInt_natCast, BitVec.toNat_ofNat, BitVec.toNat_ofNat, Nat.mod_eq_of_lt (show a < 2 ^ 32 by omega), Nat.mod_eq_of_lt (show b < 2 ^ 32 by omega), IntKind.wrap_u32]
  omega
theorem and32 (a b : Nat) (ha : a < 4294967296) (hb : b < 4294967296) : bits .and .u32 (a : Int) (b : Int) = ((a &&& b : Nat) : Int) := by
  have h2 : a &&& b < 2 ^ 32 := Nat.lt_of_le_of_lt Nat.and_le_left ha
  show IntKind.u32.wrap ((BitVec.ofInt 32 (a : Int) &&& BitVec.ofInt 32 (b : Int)).toNat : Int) = _
  rw [BitVec.toNat_and, BitVec.ofInt_natCast, BitVec.ofInt_natCast, BitVec.toNat_ofNat, BitVec.toNat_ofNat, Nat.mod_eq_of_lt (show a < 2 ^ 32 by omega), Nat.mod_eq_of_lt (show b < 2 ^ 32 by omega), IntKind.wrap_u32]
  omega
set_option maxRecDepth 100000 in
theorem rotl_any (x n : Nat) (hx : x < 4294967296) (h1 : 1 ≤ n) (h2 : n ≤ 31) (w : World) :
    Calls Tryz.prog 275 #[.int .u32 (x : Nat), .int .i64 (-(n : Int))] w fun e w' => e = .returned (.int .u32 (rot x n : Nat)) ∧ w' = w := by
  obtain ⟨m, hm⟩ : ∃ m, m = 18446744073709551616 - n := ⟨_, rfl⟩
  obtain ⟨s, hs⟩ : ∃ s, s = 32 - n := ⟨_, rfl⟩
  have e1 : IntKind.u64.wrap (-(n : Int)) = (m : Int) := by rw [IntKind.wrap_u64]; omega
  have e2 := and31 n h1 h2
  rw [← hm, ← hs] at e2
  have e3 : (32 : Int) - (s : Int) = (n : Int) := by omega
  have hs32 : s < 32 := by omega
  have HS := Lib.hid hs
  clear hm hs
  go_enter Tryz.func275, Tryz.ntmps275
  go_wp2_with fail
  go_ret
  refine ⟨?_, rfl⟩
  have c1 : (x : Int) * 2 ^ s % 4294967296 = ((x * 2 ^ s % 4294967296 : Nat) : Int) := by rw [Int.natCast_emod, Int.natCast_mul, Int.natCast_pow]; rfl
  have c2 : (x : Int) / 2 ^ n = ((x / 2 ^ n : Nat) : Int) := by rw [Int.natCast_ediv, Int.natCast_pow]; rfl
  have c3 : x / 2 ^ n < 4294967296 := Nat.lt_of_le_of_lt (Nat.div_le_self _ _) hx
  show Ending.returned (.int .u32 (bits BinOp.or IntKind.u32 ((x : Int) * 2 ^ s % 4294967296) ((x : Int) / 2 ^ n))) = _
  rw [c1, c2, or32 _ _ (Nat.mod_lt _ (by omega)) c3, HS.out, rot_or hx (by omega)]
set_option maxRecDepth 100000 in
theorem sright_any (x n : Nat) (hx : x < 4294967296) (h1 : 1 ≤ n) (h2 : n ≤ 31) (w : World) :
    Calls Tryz.prog 272 #[.int .u32 (x : Nat), .int .i64 (n : Nat)] w fun e w' => e = .returned (.int .u32 (rot x n : Nat)) ∧ w' = w := by
  have R := Lib.hid (rotl_any x n hx h1 h2 w)
  go_enter Tryz.func272, Tryz.ntmps272
  go_wp2_with fail
  refine (R.out).mono ?_
  rintro e w' ⟨rfl, rfl⟩
  go_wp2_with fail
  go_ret
  exact ⟨rfl, rfl⟩
end Go.Proofs.YtngealmhgkoaiaaGreat
