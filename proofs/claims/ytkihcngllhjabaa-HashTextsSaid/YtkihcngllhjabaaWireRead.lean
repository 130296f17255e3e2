/- Walks: a reader's fail, take. -/
import Derived.Test.YtkihcngllhjabaaWireState
namespace Go.Proofs.Ytkihcngllhjabaa
open Go.RowKit WireM
set_option linter.unusedVariables false
set_option maxRecDepth 100000 in
set_option maxHeartbeats 1000000 in
theorem fail_first (B : Nat) (L : List Nat) (e' : Nat) (w : World) (h : RS w B L 0) (he : e' < 256) :
    Calls Try.prog 87 #[.pointer (some ⟨B, 0, none⟩), .int .u8 (e' : Nat)] w fun e w' => e = .returned (.tuple #[]) ∧ RS w' B L e' ∧ Only B w w' ∧ w'.heap.size = w.heap.size := by
  obtain ⟨v, hb, hr⟩ := h
  have k1 := hb.cell 1
  have z1 := hb.frozen 1
  simp only [List.getElem?_toArray, List.getElem?_cons_zero, List.getElem?_cons_succ] at k1
  have HB := Lib.hid hb
  have HR := Lib.hid hr
  clear hb hr
  go_enter Try.func87, Try.ntmps87
  go_wp2_with fail
  go_end0
  refine ⟨rfl, ⟨v, ?_, ?_⟩, Only.set _ _, by simp [World.setCell]⟩
  · exact HB.out.set 1 _
  · exact HR.out.keep fun p hp => World.cell?_setCell_other _ _ _ _ (fun e => by subst e; exact absurd hp (Nat.lt_irrefl _))
set_option maxRecDepth 100000 in
set_option maxHeartbeats 1000000 in
theorem take_err (B : Nat) (L : List Nat) (er : Nat) (n : Int) (w : World) (h : RS w B L er) (he : er ≠ 0) :
    Calls Try.prog 84 #[.pointer (some ⟨B, 0, none⟩), .int .i64 n] w fun e w' => e = .returned (.tuple #[.slice none 0 0, .bool false]) ∧ w = w' := by
  obtain ⟨v, hb, hr⟩ := h
  have k1 := hb.cell 1
  have he' : ((er : Int) != 0) = true := by simp; omega
  simp only [List.getElem?_toArray, List.getElem?_cons_zero, List.getElem?_cons_succ] at k1
  clear hb hr he
  go_enter Try.func84, Try.ntmps84
  go_wp2_with fail
  go_ret2
  exact ⟨rfl, rfl⟩
set_option maxRecDepth 100000 in
set_option maxHeartbeats 1000000 in
theorem take_neg (B : Nat) (L : List Nat) (n : Int) (w : World) (h : RS w B L 0) (hn : n < 0) :
    Calls Try.prog 84 #[.pointer (some ⟨B, 0, none⟩), .int .i64 n] w fun e w' => e = .returned (.tuple #[.slice none 0 0, .bool false]) ∧ RS w' B L 1 ∧ Only B w w' ∧ w'.heap.size = w.heap.size := by
  have HF := Lib.hid (fail_first B L 1 w h (by omega))
  obtain ⟨v, hb, hr⟩ := h
  have k1 := hb.cell 1
  simp only [List.getElem?_toArray, List.getElem?_cons_zero, List.getElem?_cons_succ] at k1
  clear hb hr
  go_enter Try.func84, Try.ntmps84
  go_wp2_with fail
  refine HF.out.mono ?_
  rintro e w1 ⟨rfl, h1, h2, h3⟩
  have H1 := Lib.hid h1
  have H2 := Lib.hid h2
  have H3 := Lib.hid h3
  clear h1 h2 h3
  go_wp2_with fail
  go_ret2
  exact ⟨rfl, H1.out, H2.out, H3.out⟩
set_option maxRecDepth 100000 in
set_option maxHeartbeats 1000000 in
theorem take_end (B : Nat) (L : List Nat) (n : Int) (w : World) (h : RS w B L 0) (hn : (L.length : Int) < n) :
    Calls Try.prog 84 #[.pointer (some ⟨B, 0, none⟩), .int .i64 n] w fun e w' => e = .returned (.tuple #[.slice none 0 0, .bool false]) ∧ RS w' B L 4 ∧ Only B w w' ∧ w'.heap.size = w.heap.size := by
  have HF := Lib.hid (fail_first B L 4 w h (by omega))
  obtain ⟨v, hb, hr⟩ := h
  obtain ⟨a, cap, rfl, _⟩ := hr
  rw [bvs_len] at hb
  have k0 := hb.cell 0
  have k1 := hb.cell 1
  simp only [List.getElem?_toArray, List.getElem?_cons_zero, List.getElem?_cons_succ] at k0 k1
  have hn0 : 0 ≤ n := by omega
  clear hb
  go_enter Try.func84, Try.ntmps84
  go_wp2_with fail
  refine HF.out.mono ?_
  rintro e w1 ⟨rfl, h1, h2, h3⟩
  have H1 := Lib.hid h1
  have H2 := Lib.hid h2
  have H3 := Lib.hid h3
  clear h1 h2 h3
  go_wp2_with fail
  go_ret2
  exact ⟨rfl, H1.out, H2.out, H3.out⟩
set_option maxRecDepth 100000 in
set_option maxHeartbeats 1000000 in
theorem take_ok (B : Nat) (L : List Nat) (n : Nat) (w : World) (h : RS w B L 0) (hn : n ≤ L.length) :
    Calls Try.prog 84 #[.pointer (some ⟨B, 0, none⟩), .int .i64 (n : Nat)] w fun e w' => (∃ v', e = .returned (.tuple #[v', .bool true]) ∧ RdK w' B v' (bvs (L.take n))) ∧ RS w' B (L.drop n) 0 ∧ Only B w w' ∧ w'.heap.size = w.heap.size := by
  obtain ⟨v, hb, hr⟩ := h
  obtain ⟨a, cap, rfl, hc1, hc2, hc3⟩ := id hr
  rw [bvs_len] at hb hc1 hr
  have k0 := hb.cell 0
  have k1 := hb.cell 1
  have z0 := hb.frozen 0
  simp only [List.getElem?_toArray, List.getElem?_cons_zero, List.getElem?_cons_succ] at k0 k1
  have hlen : L.length ≤ 9223372036854775807 := by unfold maxLen at hc2; omega
  have HB := Lib.hid hb
  have HR := Lib.hid hr
  have keep : Hid (∀ u (p : Addr), p.block < B → (w.setCell ⟨B, 0, none⟩ u).cell? p = w.cell? p) := Lib.hid (fun u p hp => World.cell?_setCell_other _ _ _ _ (fun e => by subst e; exact absurd hp (Nat.lt_irrefl _)))
  clear hb hr hc3
  go_enter Try.func84, Try.ntmps84
  go_wp2_with fail
  all_goals go_ret2
  · have hcn : cap = n := by assumption
    have hr2 := HR.out.front hn
    have hr3 := RdK.rest0 (w := w.setCell ⟨B, 0, none⟩ (Value.slice a (L.length - n) 0)) (B := B) (a := a) (n := n) (L := L) (by omega)
    rw [hcn] at hr2
    refine ⟨⟨_, rfl, hr2.keep (keep.out _)⟩, ⟨_, HB.out.set 0 _, hr3⟩, Only.set _ _, by simp [World.setCell]⟩
  · refine ⟨⟨_, rfl, (HR.out.front hn).keep (keep.out _)⟩, ⟨_, HB.out.set 0 _, ?_⟩, Only.set _ _, by simp [World.setCell]⟩
    exact (HR.out.rest hn).keep (keep.out _)
end Go.Proofs.Ytkihcngllhjabaa
