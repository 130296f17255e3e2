/- Walks: a reader's length at any state, Take, Vec. -/
import Derived.Test.YtkihcngllhjabaaWireLength
namespace Go.Proofs.Ytkihcngllhjabaa
open Go.RowKit WireM
set_option linter.unusedVariables false
def lengthF (L : List Nat) (er : Nat) : Option Nat × List Nat × Nat :=
  if er ≠ 0 then (none, L, er) else match L with
    | [] => (none, [], 4)
    | b :: M => lenF b M
set_option maxRecDepth 100000 in
set_option maxHeartbeats 1000000 in
theorem length_any (B : Nat) (L : List Nat) (er : Nat) (w : World) (h : RS w B L er) (hL : ∀ n ∈ L, n < 256) :
    Calls Try.prog 79 #[.pointer (some ⟨B, 0, none⟩)] w (LenP B w (lengthF L er)) := by
  by_cases he : er = 0
  · subst he
    cases L with
    | cons b M =>
      rw [lengthF, if_neg (by simp)]
      exact length_some B b M w h hL
    | nil =>
      rw [lengthF, if_neg (by simp)]
      have HT := Lib.hid (take_end B [] 1 w h (by simp))
      clear h
      go_enter Try.func79, Try.ntmps79
      go_wp2_with fail
      go_step3
      go_wp2_with fail
      refine HT.out.mono ?_
      rintro e w1 ⟨rfl, h1, h2, -⟩
      have H1 := Lib.hid h1
      have H2 := Lib.hid h2
      clear h1 h2
      go_wp2_with fail
      simp only [Exit.noGoto]
      go_ret2
      exact ⟨rfl, H1.out, H2.out⟩
  · have e0 : lengthF L er = (none, L, er) := by unfold lengthF; rw [if_pos he]
    rw [e0]
    clear e0
    have HT := Lib.hid (take_err B L er 1 w h he)
    have HR := Lib.hid h
    clear h he
    go_enter Try.func79, Try.ntmps79
    go_wp2_with fail
    go_step3
    go_wp2_with fail
    refine HT.out.mono ?_
    rintro e w1 ⟨rfl, rfl⟩
    go_wp2_with fail
    simp only [Exit.noGoto]
    go_ret2
    exact ⟨rfl, HR.out, Only.refl _ _⟩
def takeF (L : List Nat) (er : Nat) (n : Int) : List Nat × List Nat × Nat :=
  if er ≠ 0 then ([], L, er) else if n < 0 then ([], L, 1) else if (L.length : Int) < n then ([], L, 4) else (L.take n.toNat, L.drop n.toNat, 0)
def TakeP (B : Nat) (w : World) (r : List Nat × List Nat × Nat) (e : Ending) (w' : World) : Prop :=
  ∃ v, e = .returned v ∧ Own w' w.heap.size 5 v (bvs r.1) ∧ RS w' B r.2.1 r.2.2 ∧ Only B w w'
def TookP (B : Nat) (w : World) (r : List Nat × List Nat × Nat) (e : Ending) (w' : World) : Prop :=
  ∃ v b, e = .returned (.tuple #[v, .bool b]) ∧ RdK w' B v (bvs r.1) ∧ RS w' B r.2.1 r.2.2 ∧ Only B w w'
theorem nil_rdk (w : World) (B : Nat) : RdK w B (.slice none 0 0) (bvs []) := ⟨none, 0, rfl, Nat.le_refl _, Nat.zero_le _, .inl ⟨rfl, fun _ => rfl⟩⟩
theorem took_any (B : Nat) (L : List Nat) (er : Nat) (n : Int) (w : World) (h : RS w B L er) :
    Calls Try.prog 84 #[.pointer (some ⟨B, 0, none⟩), .int .i64 n] w (TookP B w (takeF L er n)) := by
  unfold takeF
  by_cases he : er = 0
  · subst he
    rw [if_neg (by simp)]
    by_cases hn : n < 0
    · rw [if_pos hn]
      refine (take_neg B L n w h hn).mono ?_
      rintro e w' ⟨rfl, h1, h2, -⟩
      exact ⟨_, _, rfl, nil_rdk _ _, h1, h2⟩
    · rw [if_neg hn]
      by_cases hl : (L.length : Int) < n
      · rw [if_pos hl]
        refine (take_end B L n w h hl).mono ?_
        rintro e w' ⟨rfl, h1, h2, -⟩
        exact ⟨_, _, rfl, nil_rdk _ _, h1, h2⟩
      · rw [if_neg hl]
        obtain ⟨k, rfl⟩ : ∃ k : Nat, n = (k : Int) := ⟨n.toNat, by omega⟩
        refine (take_ok B L k w h (by omega)).mono ?_
        rintro e w' ⟨⟨v, rfl, hr⟩, h1, h2, -⟩
        exact ⟨_, _, rfl, hr, h1, h2⟩
  · rw [if_pos he]
    refine (take_err B L er n w h he).mono ?_
    rintro e w' ⟨rfl, rfl⟩
    exact ⟨_, _, rfl, nil_rdk _ _, h, Only.refl _ _⟩
theorem takeF_len (L : List Nat) (er : Nat) (n : Int) : (takeF L er n).1.length ≤ L.length := by
  unfold takeF
  split
  · simp
  · split
    · simp
    · split
      · simp
      · simp; omega
set_option maxRecDepth 100000 in
set_option maxHeartbeats 1000000 in
theorem taken_any (B : Nat) (L : List Nat) (er : Nat) (n : Int) (w : World) (h : RS w B L er) (hl : L.length < 1099511627776) :
    Calls Try.prog 55 #[.pointer (some ⟨B, 0, none⟩), .int .i64 n] w (TakeP B w (takeF L er n)) := by
  have HT := Lib.hid (took_any B L er n w h)
  have hlen := takeF_len L er n
  obtain ⟨r, hr⟩ : ∃ r, r = takeF L er n := ⟨_, rfl⟩
  rw [← hr] at HT hlen ⊢
  clear h hr
  go_enter Try.func55, Try.ntmps55
  go_wp2_with fail
  refine HT.out.mono ?_
  rintro e w1 ⟨v, b, rfl, h1, h2, h3⟩
  have HC := Lib.hid (bclone_any v r.1 w1 h1.rd (by omega))
  have H2 := Lib.hid h2
  have H3 := Lib.hid h3
  clear h1 h2 h3
  go_wp2_with fail
  refine HC.out.mono ?_
  rintro e w2 ⟨v2, rfl, hown, hb⟩
  have HO := Lib.hid hown
  have HB := Lib.hid hb
  clear hown hb
  go_wp2_with fail
  go_ret
  exact ⟨_, rfl, HO.out.mono H3.out.size, H2.out.below HB.out, H3.out.trans (Only.of HB.out)⟩
def vecF (L : List Nat) (er : Nat) : List Nat × List Nat × Nat :=
  match lengthF L er with
  | (none, M, e) => ([], M, e)
  | (some n, M, e) => takeF M e (n : Int)
theorem lenF_len (b : Nat) (M : List Nat) : (lenF b M).2.1.length ≤ M.length := by
  unfold lenF
  split
  · exact Nat.le_refl _
  · split
    · exact Nat.le_refl _
    · split <;> simp
theorem lengthF_len (L : List Nat) (er : Nat) : (lengthF L er).2.1.length ≤ L.length := by
  unfold lengthF
  split
  · exact Nat.le_refl _
  · split
    · exact Nat.le_refl _
    · rename_i b M
      have := lenF_len b M
      simp; omega
set_option maxRecDepth 100000 in
set_option maxHeartbeats 1000000 in
theorem vec_any (B : Nat) (L : List Nat) (er : Nat) (w : World) (h : RS w B L er) (hl : L.length < 1099511627776) (hL : ∀ n ∈ L, n < 256) :
    Calls Try.prog 46 #[.pointer (some ⟨B, 0, none⟩)] w (TakeP B w (vecF L er)) := by
  have HN := Lib.hid (length_any B L er w h hL)
  have hlen := lengthF_len L er
  unfold vecF
  obtain ⟨r, hr⟩ : ∃ r, r = lengthF L er := ⟨_, rfl⟩
  rw [← hr] at HN hlen ⊢
  clear h hr hL
  obtain ⟨o, M, e⟩ := r
  cases o with
  | none =>
    go_enter Try.func46, Try.ntmps46
    go_wp2_with fail
    refine HN.out.mono ?_
    rintro e' w1 ⟨rfl, h1, h2⟩
    have H1 := Lib.hid h1
    have H2 := Lib.hid h2
    clear h1 h2
    go_wp2_with fail
    go_ret
    exact ⟨_, rfl, Own.nil _ _ _, H1.out, H2.out⟩
  | some n =>
    have T := fun w h => taken_any B M e (n : Int) w h (by simp only at hlen; omega)
    have HT := Lib.hid T
    clear T
    go_enter Try.func46, Try.ntmps46
    go_wp2_with fail
    refine HN.out.mono ?_
    rintro e' w1 ⟨rfl, h1, h2⟩
    have H2 := Lib.hid h2
    have HT1 := Lib.hid (HT.out w1 h1)
    clear h1 h2
    go_wp2_with fail
    refine HT1.out.mono ?_
    rintro e' w2 ⟨v2, rfl, hown, h1, h3⟩
    have H1 := Lib.hid h1
    have H3 := Lib.hid h3
    have HO := Lib.hid hown
    clear h1 h3 hown
    go_wp2_with fail
    go_ret
    exact ⟨_, rfl, HO.out.mono H2.out.size, H1.out, H2.out.trans H3.out⟩
end Go.Proofs.Ytkihcngllhjabaa
