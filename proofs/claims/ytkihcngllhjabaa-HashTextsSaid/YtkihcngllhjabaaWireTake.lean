/- Walks: wire.number, a reader's Take, NewReader, Err, End, Left. -/
import Derived.Test.YtkihcngllhjabaaWireRead
import Derived.Test.YtkihcngllhjabaaWireLen
namespace Go.Proofs.Ytkihcngllhjabaa
open Go.RowKit WireM
set_option linter.unusedVariables false
/-- the number of bytes, the highest first -/
def numV (L : List Nat) : Nat := L.foldl (fun a c => a * 256 + c) 0
theorem numV_snoc (L : List Nat) (c : Nat) : numV (L ++ [c]) = numV L * 256 + c := by simp [numV]
theorem numV_lt : ∀ (k : Nat) (L : List Nat), L.length = k → (∀ n ∈ L, n < 256) → numV L < 256 ^ k := by
  intro k
  induction k with
  | zero => intro L h _; rw [List.eq_nil_of_length_eq_zero h]; decide
  | succ k ih =>
    intro L h hL
    have hne : L ≠ [] := by intro e; subst e; simp at h
    rw [← List.dropLast_concat_getLast hne, numV_snoc]
    have h1 := ih L.dropLast (by simp [h]) (fun n hn => hL n (List.dropLast_subset _ hn))
    have h2 := hL _ (List.getLast_mem hne)
    rw [Nat.pow_succ]
    omega
theorem or256 (a c : Nat) (hc : c < 256) : a * 256 ||| c = a * 256 + c := by
  have := Nat.two_pow_add_eq_or_of_lt (i := 8) (b := c) hc a
  rw [Nat.mul_comm] at this
  exact this.symm
theorem take_snocD {L : List Nat} {r : Nat} (h : r < L.length) : L.take (r + 1) = L.take r ++ [L.getD r 0] := by
  rw [List.take_succ_eq_append_getElem h, List.getD_eq_getElem?_getD, List.getElem?_eq_getElem h]; rfl
theorem pow256 {r : Nat} (h : r ≤ 7) : 256 ^ r ≤ 72057594037927936 := by
  have := Nat.pow_le_pow_right (show 0 < 256 by omega) h
  exact this
set_option maxRecDepth 100000 in
set_option maxHeartbeats 1000000 in
theorem number_any (v : Value) (L : List Nat) (w : World) (h : Rd w v (bvs L)) (hl : L.length ≤ 8) (hL : ∀ n ∈ L, n < 256) :
    Calls Try.prog 85 #[v] w fun e w' => e = .returned (.int .u64 (numV L : Nat)) ∧ w = w' := by
  have hcell := h.cases
  obtain ⟨a, cap, rfl, hc1, hc2, hc3⟩ := h
  rw [bvs_len] at hc1 hcell ⊢
  obtain ⟨k, hk⟩ : ∃ k, k = L.length := ⟨_, rfl⟩
  rw [← hk] at hc1 hl hcell ⊢
  have HC := Lib.hid hcell
  have HK := Lib.hid hk
  have HL := Lib.hid hL
  clear hcell hc3 hk hL
  go_enter Try.func85, Try.ntmps85
  go_wp2_with fail
  go_loopg [3, 8] k (fun q m i wr => ∃ r : Nat, r + q = k ∧ i = .int .i64 (r : Int) ∧ m = .int .u64 (numV (L.take r) : Nat) ∧ wr = w)
  case atStart => exact ⟨0, by omega, rfl, rfl, rfl⟩
  case round =>
    obtain ⟨r, hr, rfl, rfl, rfl⟩ := hrel
    by_cases hrk : r < k
    · have hrL : r < L.length := by have := HK.out; omega
      have hlt := numV_lt r (L.take r) (by rw [List.length_take]; omega) (fun n hn => HL.out n (List.mem_of_mem_take hn))
      have hp := pow256 (show r ≤ 7 by omega)
      have hs := take_snocD hrL
      have hc := getD_lt HL.out (by omega) r
      obtain ⟨b, off, rfl, c0⟩ : ∃ b off, a = some ⟨b, off, none⟩ ∧ wr.cell? ⟨b, off + r, none⟩ = some (.int .u8 ((L.getD r 0 : Nat) : Int)) := by
        rcases HC.out with ⟨_, _, he, h0⟩ | ⟨b, off, cap', _, _, _, he, _, hc⟩
        · rw [h0] at hrL; simp at hrL
        · simp only [Value.slice.injEq] at he
          exact ⟨b, off, he.1, hc r hrk⟩
      obtain ⟨c, hcc⟩ : ∃ c, c = L.getD r 0 := ⟨_, rfl⟩
      obtain ⟨x, hx⟩ : ∃ x, x = numV (L.take r) := ⟨_, rfl⟩
      rw [← hcc] at hs c0 hc
      rw [← hx] at hlt ⊢
      have hx2 : x < 72057594037927936 := by omega
      have ho := u64_or_nat (x * 256) c (by omega) (by omega)
      rw [or256 x c hc] at ho
      have hn : ((x * 256 : Nat) : Int) = (x : Int) * 256 := by omega
      rw [hn] at ho
      have HX := Lib.hid hx
      have HS := Lib.hid hs
      clear hcc hx hs hlt hp hn
      go_wp2_with fail
      go_roundg (gk - 1)
      case measure => omega
      case rel =>
        refine ⟨r + 1, by omega, by go_num, ?_, rfl⟩
        rw [HS.out, numV_snoc, ← HX.out]
        exact val_int (by omega)
    · obtain rfl : r = k := by omega
      go_wp2_with fail
      go_ret
      refine ⟨ret_int ?_, rfl⟩
      rw [HK.out, List.take_length]
set_option maxRecDepth 100000 in
set_option maxHeartbeats 1000000 in
theorem newReader_any (v : Value) (L : List Nat) (w : World) (h : Rd w v (bvs L)) :
    Calls Try.prog 45 #[v] w fun e w' => e = .returned (.pointer (some ⟨w.heap.size, 0, none⟩)) ∧ RS w' w.heap.size L 0 ∧ Below w.heap.size w w' := by
  have hl := bvs_len L
  obtain ⟨a, cap, rfl, _⟩ := id h
  rw [hl] at h ⊢
  have HR := Lib.hid h
  clear h hl
  go_enter Try.func45, Try.ntmps45
  go_wp2_with fail
  go_ret
  exact ⟨rfl, ⟨_, Blk.new _ _ _, (HR.out.k (Nat.le_refl _)).keep fun p hp => World.cell?_alloc_lt w _ p hp⟩, (Below.refl _ _).alloc (Nat.le_refl _) _⟩
set_option maxRecDepth 100000 in
set_option maxHeartbeats 1000000 in
theorem err_any (B : Nat) (L : List Nat) (er : Nat) (w : World) (h : RS w B L er) :
    Calls Try.prog 47 #[.pointer (some ⟨B, 0, none⟩)] w fun e w' => e = .returned (.int .u8 (er : Nat)) ∧ w = w' := by
  obtain ⟨v, hb, hr⟩ := h
  have k1 := hb.cell 1
  simp only [List.getElem?_toArray, List.getElem?_cons_zero, List.getElem?_cons_succ] at k1
  clear hb hr
  go_enter Try.func47, Try.ntmps47
  go_wp2_with fail
  go_ret
  exact ⟨rfl, rfl⟩
/-- the error at the end -/
def endE (L : List Nat) (er : Nat) : Nat := if er ≠ 0 then er else if L = [] then 0 else 5
set_option maxRecDepth 100000 in
set_option maxHeartbeats 1000000 in
theorem end_any (B : Nat) (L : List Nat) (er : Nat) (w : World) (h : RS w B L er) :
    Calls Try.prog 53 #[.pointer (some ⟨B, 0, none⟩)] w fun e w' => e = .returned (.int .u8 (endE L er : Nat)) ∧ w = w' := by
  have HE := Lib.hid (err_any B L er w h)
  obtain ⟨v, hb, hr⟩ := h
  obtain ⟨a, cap, rfl, _⟩ := hr
  rw [bvs_len] at hb
  have k0 := hb.cell 0
  have k1 := hb.cell 1
  simp only [List.getElem?_toArray, List.getElem?_cons_zero, List.getElem?_cons_succ] at k0 k1
  clear hb
  unfold endE
  by_cases he : er = 0
  · subst he
    by_cases hl : L = []
    · subst hl
      rw [if_neg (by simp), if_pos rfl]
      simp only [List.length_nil] at k0
      go_enter Try.func53, Try.ntmps53
      go_wp2_with fail
      refine HE.out.mono ?_
      rintro e w' ⟨rfl, rfl⟩
      go_wp2_with fail
      go_ret
      exact ⟨rfl, rfl⟩
    · rw [if_neg (by simp), if_neg hl]
      have hpos : 0 < L.length := List.length_pos_iff.2 hl
      clear hl
      go_enter Try.func53, Try.ntmps53
      go_wp2_with fail
      refine HE.out.mono ?_
      rintro e w' ⟨rfl, rfl⟩
      go_wp2_with fail
      go_ret
      exact ⟨rfl, rfl⟩
  · rw [if_pos he]
    have hc : ((er : Int) != 0) = true := by simp; omega
    clear he
    go_enter Try.func53, Try.ntmps53
    go_wp2_with fail
    refine HE.out.mono ?_
    rintro e w' ⟨rfl, rfl⟩
    go_wp2_with fail
    go_ret
    exact ⟨rfl, rfl⟩
end Go.Proofs.Ytkihcngllhjabaa
