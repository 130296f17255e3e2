/- Walks: slices.Clone, bytes.Clone, wire.may, wire.LenSize, the reference's Num, wire.PutNum. -/
import Derived.Test.YtkihcngllhjabaaProg
import Derived.Test.YtkihcngllhjabaaBitsLib
import Derived.Test.YtkihcngllhjabaaOpen
import Derived.Test.YtkihcngllhjabaaSame
import Derived.Test.YtkihcngllhjabaaWireMath
import Derived.WalkSpells
import Derived.WalkLawsBesides
import Derived.Deep.LoopGhost
namespace Go.Proofs.Ytkihcngllhjabaa
open Go.RowKit WireM
theorem bytesE : Elem Try.prog 22 5 (.int .u8 0) 1 := ⟨Try.underlying22, by kernel_rfl, rfl, by omega⟩
theorem Below.next {a w w' : World} (h : Below a.heap.size a w) (h' : Below w.heap.size w w') : Below a.heap.size a w' := h.trans (h'.mono h.size)
theorem Below.draws {a w : World} (h : Below a.heap.size a w) (n : Nat) : Below a.heap.size a (w.drewN n) := below_drewN' h n
/-- bytes that are read: nil or not -/
theorem Rd.nilOr {w : World} {v : Value} {xs : List Value} (h : Rd w v xs) : v = .slice none 0 0 ∨ ∃ a cap, v = .slice (some a) xs.length cap := by
  obtain ⟨a, cap, rfl, h1, h2, ⟨rfl, h3⟩ | ⟨b, off, rfl, _⟩⟩ := h
  · cases a with
    | none => left; rw [h3 rfl]; rfl
    | some a => exact .inr ⟨a, cap, rfl⟩
  · exact .inr ⟨_, cap, rfl⟩
set_option maxRecDepth 100000 in
set_option maxHeartbeats 1000000 in
theorem clone_any (v : Value) (L : List Nat) (w : World) (h : Rd w v (bvs L)) (hn : L.length < 1099511627776) :
    Calls Try.prog 78 #[v] w fun e w' => ∃ v', e = .returned v' ∧ Own w' w.heap.size 5 v' (bvs L) ∧ Below w.heap.size w w' := by
  have hl : (bvs L).length = L.length := bvs_len L
  have h1 := bvs_one L
  rcases h.nilOr with rfl | ⟨a, cap, rfl⟩
  · have h0 : bvs L = [] := by
      obtain ⟨a, cap, e, _⟩ := h
      simp only [Value.slice.injEq] at e
      exact List.eq_nil_of_length_eq_zero e.2.1.symm
    rw [h0]
    clear h h0 hl h1
    have q : ∀ w, (binOp .eql 22 (.slice none 0 0) (.slice none 0 0)).run Try.prog w = .ok (.bool true) w := fun w => Lib.run_eql_slice_nil w _ 5 none 0 0 0 0 Try.underlying22
    go_enter Try.func78, Try.ntmps78
    go_wp2_with fail
    go_ret
    exact ⟨_, rfl, Own.nil _ _ _, Below.refl _ _⟩
  · obtain ⟨xs, hxs⟩ : ∃ xs, xs = bvs L := ⟨_, rfl⟩
    rw [← hxs] at h h1 hl ⊢
    have hx : xs.length < 1099511627776 := by omega
    have HR := Lib.hid h
    have H1 := Lib.hid h1
    clear h h1 hl hxs hn
    have q : ∀ w, (binOp .eql 22 (.slice (some a) xs.length cap) (.slice none 0 0)).run Try.prog w = .ok (.bool false) w := fun w => Lib.run_eql_slice_nil w _ 5 (some a) _ _ 0 0 Try.underlying22
    go_enter Try.func78, Try.ntmps78
    go_wp2_with (at_builtin; refine wpList_app rfl (.tmp 5) (.tmp 6) 22 rfl w.heap.size 5 _ 1 bytesE _ [] rfl (Own.lit0 rfl (Nat.le_refl _)) _ xs rfl (HR.out.alloc _) H1.out ?c2 ?c3 ?_)
    case c2 => simpa using hx
    case c3 => simp
    rintro v' w2 hown - hb
    have HO := Lib.hid hown
    have HB := Lib.hid hb
    clear hown hb
    go_wp2_with fail
    go_ret
    exact ⟨_, rfl, HO.out, ((Below.refl _ _).alloc (Nat.le_refl _) _).trans HB.out⟩
set_option maxRecDepth 100000 in
set_option maxHeartbeats 1000000 in
theorem bclone_any (v : Value) (L : List Nat) (w : World) (h : Rd w v (bvs L)) (hn : L.length < 1099511627776) :
    Calls Try.prog 86 #[v] w fun e w' => ∃ v', e = .returned v' ∧ Own w' w.heap.size 5 v' (bvs L) ∧ Below w.heap.size w w' := by
  have hl : (bvs L).length = L.length := bvs_len L
  have h1 := bvs_one L
  rcases h.nilOr with rfl | ⟨a, cap, rfl⟩
  · have h0 : bvs L = [] := by
      obtain ⟨a, cap, e, _⟩ := h
      simp only [Value.slice.injEq] at e
      exact List.eq_nil_of_length_eq_zero e.2.1.symm
    rw [h0]
    clear h h0 hl h1
    have q : ∀ w, (binOp .eql 22 (.slice none 0 0) (.slice none 0 0)).run Try.prog w = .ok (.bool true) w := fun w => Lib.run_eql_slice_nil w _ 5 none 0 0 0 0 Try.underlying22
    go_enter Try.func86, Try.ntmps86
    go_wp2_with fail
    go_ret
    exact ⟨_, rfl, Own.nil _ _ _, Below.refl _ _⟩
  · obtain ⟨xs, hxs⟩ : ∃ xs, xs = bvs L := ⟨_, rfl⟩
    rw [← hxs] at h h1 hl ⊢
    have hx : xs.length < 1099511627776 := by omega
    have HR := Lib.hid h
    have H1 := Lib.hid h1
    clear h h1 hl hxs hn
    have q : ∀ w, (binOp .eql 22 (.slice (some a) xs.length cap) (.slice none 0 0)).run Try.prog w = .ok (.bool false) w := fun w => Lib.run_eql_slice_nil w _ 5 (some a) _ _ 0 0 Try.underlying22
    go_enter Try.func86, Try.ntmps86
    go_wp2_with (at_builtin; refine wpList_app rfl (.tmp 5) (.tmp 6) 22 rfl w.heap.size 5 _ 1 bytesE _ [] rfl (Own.lit0 rfl (Nat.le_refl _)) _ xs rfl (HR.out.alloc _) H1.out ?c2 ?c3 ?_)
    case c2 => simpa using hx
    case c3 => simp
    rintro v' w2 hown - hb
    have HO := Lib.hid hown
    have HB := Lib.hid hb
    clear hown hb
    go_wp2_with fail
    go_ret
    exact ⟨_, rfl, HO.out, ((Below.refl _ _).alloc (Nat.le_refl _) _).trans HB.out⟩
/-- can a number have so many bytes? -/
def mayB (n : Int) : Bool := decide (n = 1 ∨ n = 2 ∨ n = 4 ∨ n = 8)
set_option maxRecDepth 100000 in
set_option maxHeartbeats 1000000 in
theorem may_any (n : Int) (w : World) : Calls Try.prog 83 #[.int .i64 n] w fun e w' => e = .returned (.bool (mayB n)) ∧ w = w' := by
  have hd : n = 1 ∨ n = 2 ∨ n = 4 ∨ n = 8 ∨ (n ≠ 1 ∧ n ≠ 2 ∧ n ≠ 4 ∧ n ≠ 8) := by omega
  rcases hd with rfl | rfl | rfl | rfl | ⟨h1, h2, h3, h4⟩
  · go_enter Try.func83, Try.ntmps83
    go_wp2_with fail
    go_ret
    exact ⟨rfl, rfl⟩
  · go_enter Try.func83, Try.ntmps83
    go_wp2_with fail
    go_ret
    exact ⟨rfl, rfl⟩
  · go_enter Try.func83, Try.ntmps83
    go_wp2_with fail
    go_ret
    exact ⟨rfl, rfl⟩
  · go_enter Try.func83, Try.ntmps83
    go_wp2_with fail
    go_ret
    exact ⟨rfl, rfl⟩
  · have e : mayB n = false := by rw [mayB, decide_eq_false]; omega
    rw [e]
    have e1 : (n == 1) = false := by simp [h1]
    have e2 : (n == 2) = false := by simp [h2]
    have e3 : (n == 4) = false := by simp [h3]
    have e4 : (n == 8) = false := by simp [h4]
    clear h1 h2 h3 h4 e
    go_enter Try.func83, Try.ntmps83
    go_wp2_with fail
    go_ret
    exact ⟨rfl, rfl⟩
set_option maxRecDepth 100000 in
set_option maxHeartbeats 1000000 in
theorem lenSize_any (n : Int) (w : World) : Calls Try.prog 43 #[.int .i64 n] w fun e w' => e = .returned (.int .i64 (lenS n : Nat)) ∧ w = w' := by
  have hd : n < 0 ∨ (0 ≤ n ∧ 1073741823 < n) ∨ (0 ≤ n ∧ n < 64) ∨ (64 ≤ n ∧ n < 16384) ∨ (16384 ≤ n ∧ n ≤ 1073741823) := by omega
  rcases hd with h | ⟨h, h'⟩ | ⟨h, h'⟩ | ⟨h, h'⟩ | ⟨h, h'⟩
  · rw [lenS, if_pos (by omega)]
    go_enter Try.func43, Try.ntmps43
    go_wp2_with fail
    go_ret
    exact ⟨rfl, rfl⟩
  · rw [lenS, if_pos (by omega)]
    go_enter Try.func43, Try.ntmps43
    go_wp2_with fail
    go_ret
    exact ⟨rfl, rfl⟩
  · rw [lenS, if_neg (by omega), if_pos (by omega)]
    have h2 : n ≤ 1073741823 := by omega
    go_enter Try.func43, Try.ntmps43
    go_wp2_with fail
    go_ret
    exact ⟨rfl, rfl⟩
  · rw [lenS, if_neg (by omega), if_neg (by omega), if_pos (by omega)]
    have h2 : n ≤ 1073741823 := by omega
    have h3 : 0 ≤ n := by omega
    go_enter Try.func43, Try.ntmps43
    go_wp2_with fail
    go_ret
    exact ⟨rfl, rfl⟩
  · rw [lenS, if_neg (by omega), if_neg (by omega), if_neg (by omega)]
    have h2 : 64 ≤ n := by omega
    have h3 : 0 ≤ n := by omega
    go_enter Try.func43, Try.ntmps43
    go_wp2_with fail
    go_ret
    exact ⟨rfl, rfl⟩
end Go.Proofs.Ytkihcngllhjabaa
