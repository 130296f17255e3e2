/- Walks: the law's alive, WireLens. -/
import Derived.Test.YtngealmhgkoaiaaGreatZTreeBytes21
import Derived.Test.YtngealmhgkoaiaaGreatZTreeBytes05
import Derived.Deep.RegionWith
import Derived.Test.YtngealmhgkoaiaaGreatZTreeBytes06
import Derived.Test.YtngealmhgkoaiaaGreatZTreeBytes02
namespace Go.Proofs.YtngealmhgkoaiaaGreat
open Go.RowKit WireM
set_option linter.unusedVariables false
end Go.Proofs.YtngealmhgkoaiaaGreat
/- Walks: a reader's Num, Flag, Left, List; nobody's reader; what is put is taken. -/
namespace Go.Proofs.YtngealmhgkoaiaaGreat
open Go.RowKit WireM
set_option linter.unusedVariables false
theorem RS.low {w w' : World} {B C : Nat} {L : List Nat} {er : Nat} (h : RS w B L er) (hb : Below C w w') (hC : B < C) : RS w' B L er := by
  obtain ⟨v, h1, h2⟩ := h
  exact ⟨v, h1.below hb hC, h2.keep fun p hp => hb.cell (Nat.lt_trans hp hC)⟩
theorem RS.only {w w' : World} {B C : Nat} {L : List Nat} {er : Nat} (h : RS w B L er) (hb : Only C w w') (hC : B < C) (hs : C ≤ w.heap.size) : RS w' B L er :=
  h.low (hb.below (Nat.le_refl _) hs) hC
theorem Own.only {w w' : World} {B C : Nat} {e : TypeId} {v : Value} {xs : List Value} (h : Own w B e v xs) (hb : Only C w w') (hC : C < B) : Own w' B e v xs := by
  refine World.ownsRow.kept h hb ?_
  rcases h.form with rfl | ⟨g, cap, rfl⟩
  · exact .inl rfl
  · right
    have := (World.ownsRow.lt h) g rfl
    simp only [Value.ownBlock, ne_eq, Option.some.injEq]
    omega
theorem Grid.only {w w' : World} {B C : Nat} {eo ei : TypeId} {r : Value} {rows : List (List Value)} (h : Grid w B eo ei r rows) (hb : Only C w w') (hC : C < B) : Grid w' B eo ei r rows := by
  obtain ⟨vs, h1, h2, h3⟩ := h
  refine ⟨vs, h1.only hb hC, h2, ?_⟩
  intro i xs hi
  obtain ⟨v, e1, e2, e3⟩ := h3 i xs hi
  exact ⟨v, e1, e2.only hb hC, e3⟩
theorem rowsE : Elem Tryz.prog 77 25 (.slice none 0 0) 24 := ⟨Tryz.underlying77, by kernel_rfl, rfl, by omega⟩
/-- rows of bytes -/
def GridB (w : World) (B : Nat) (v : Value) (rows : List (List Nat)) : Prop := Grid w B 25 5 v (rows.map bvs)
theorem GridB.rdl {w : World} {B : Nat} {v : Value} {rows : List (List Nat)} (h : GridB w B v rows) : RdL w v rows := by
  obtain ⟨vs, h1, h2, h3⟩ := h
  refine ⟨vs, h1.rd, by simpa using h2, ?_⟩
  intro i r hr
  obtain ⟨u, e1, e2, _⟩ := h3 i (bvs r) (by simp [hr])
  exact ⟨u, e1, e2.rd⟩
-- numbers
theorem numV_cons (c : Nat) (L : List Nat) : numV (c :: L) = c * 256 ^ L.length + numV L := by
  have key : ∀ (L : List Nat) (a : Nat), L.foldl (fun a c => a * 256 + c) a = a * 256 ^ L.length + L.foldl (fun a c => a * 256 + c) 0 := by
    intro L
    induction L with
    | nil => intro a; simp
    | cons x L ih =>
      intro a
      simp only [List.foldl_cons, List.length_cons]
      have e : (a * 256 + x) * 256 ^ L.length = a * (256 ^ L.length * 256) + x * 256 ^ L.length := by rw [Nat.add_mul, Nat.mul_assoc, Nat.mul_comm 256]
      rw [ih (a * 256 + x), ih (0 * 256 + x), Nat.pow_succ, e, Nat.zero_mul, Nat.zero_add]
      omega
  show (c :: L).foldl _ 0 = _
  rw [List.foldl_cons, key]
  simp [numV]
theorem numV_beN : ∀ s n, numV (beN s n) = n % 256 ^ s := by
  intro s
  induction s with
  | zero => intro n; simp [beN, numV, Nat.mod_one]
  | succ s ih =>
    intro n
    rw [beN, numV_cons, beN_len, ih, Nat.mod_pow_succ, Nat.mul_comm]
    omega
theorem lengthF_put {n : Nat} (hn : n < 1073741824) (R : List Nat) : lengthF (lenB n ++ R) 0 = (some n, R, 0) := by
  by_cases h1 : n < 64
  · have e : lenB n ++ R = n :: R := by rw [lenB, if_pos h1]; rfl
    rw [e, lengthF, if_neg (by simp)]
    have h0 : n / 64 = 0 := by omega
    rw [lenF, h0, if_neg (by omega)]
    have e2 : numV (n % 64 :: R.take (2 ^ 0 - 1)) = n := by simp [numV]; omega
    rw [e2, if_neg (by simp), if_pos (by rw [lenS1 h1])]
    simp
  · by_cases h2 : n < 16384
    · have e : lenB n ++ R = (64 + n / 256) :: (n % 256) :: R := by rw [lenB, if_neg h1, if_pos h2]; rfl
      rw [e, lengthF, if_neg (by simp)]
      have h0 : (64 + n / 256) / 64 = 1 := by omega
      rw [lenF, h0, if_neg (by omega)]
      have e2 : numV ((64 + n / 256) % 64 :: (n % 256 :: R).take (2 ^ 1 - 1)) = n := by simp [numV]; omega
      rw [e2, if_neg (by simp), if_pos (by rw [lenS2 (by omega) h2])]
      simp
    · have e : lenB n ++ R = (128 + n / 16777216) :: (n / 65536 % 256) :: (n / 256 % 256) :: (n % 256) :: R := by rw [lenB, if_neg h1, if_neg h2]; rfl
      rw [e, lengthF, if_neg (by simp)]
      have h0 : (128 + n / 16777216) / 64 = 2 := by omega
      rw [lenF, h0, if_neg (by omega)]
      have e2 : numV ((128 + n / 16777216) % 64 :: (n / 65536 % 256 :: n / 256 % 256 :: n % 256 :: R).take (2 ^ 2 - 1)) = n := by simp [numV]; omega
      rw [e2, if_neg (by simp), if_pos (by rw [lenS4 (by omega) hn])]
      simp
theorem takeF_put (v R : List Nat) : takeF (v ++ R) 0 (v.length : Int) = (v, R, 0) := by
  rw [takeF, if_neg (by simp), if_neg (by omega), if_neg (by rw [List.length_append]; omega), Int.toNat_natCast]
  simp
theorem vecF_put {v : List Nat} (hv : v.length < 1073741824) (R : List Nat) : vecF (vecB v ++ R) 0 = (v, R, 0) := by
  rw [vecF, vecB, List.append_assoc, lengthF_put hv]
  simp only
  exact takeF_put v R
theorem takeF_le (L : List Nat) (er : Nat) (n : Int) : (takeF L er n).1.length ≤ n.toNat := by
  unfold takeF
  split
  · simp
  · split
    · simp
    · split
      · simp
      · simp; omega
theorem takeF_mem (L : List Nat) (er : Nat) (n : Int) : ∀ x ∈ (takeF L er n).1, x ∈ L := by
  intro x hx
  unfold takeF at hx
  split at hx
  · simp at hx
  · split at hx
    · simp at hx
    · split at hx
      · simp at hx
      · exact List.mem_of_mem_take hx
def numF (L : List Nat) (er : Nat) (s : Int) : List Nat × List Nat × Nat := takeF L er (if mayB s = true then s else -1)
def NumP (B : Nat) (w : World) (r : List Nat × List Nat × Nat) (e : Ending) (w' : World) : Prop := e = .returned (.int .u64 (numV r.1 : Nat)) ∧ RS w' B r.2.1 r.2.2 ∧ Only B w w'
set_option maxRecDepth 100000 in
set_option maxHeartbeats 1000000 in
theorem num_any (B : Nat) (L : List Nat) (er : Nat) (s : Int) (w : World) (h : RS w B L er) (hL : ∀ n ∈ L, n < 256) :
    Calls Tryz.prog 207 #[.pointer (some ⟨B, 0, none⟩), .int .i64 s] w (NumP B w (numF L er s)) := by
  have HM := Lib.hid (fun w => may_any s w)
  have hm8 : mayB s = true → 1 ≤ s ∧ s ≤ 8 := fun h => by have := of_decide_eq_true h; omega
  unfold numF
  obtain ⟨b, hb⟩ : ∃ b, b = mayB s := ⟨_, rfl⟩
  rw [← hb] at HM hm8 ⊢
  cases b with
  | true =>
    rw [if_pos rfl]
    have HT := Lib.hid (took_any B L er s w h)
    have hle := takeF_le L er s
    have hmem := takeF_mem L er s
    obtain ⟨r, hr⟩ : ∃ r, r = takeF L er s := ⟨_, rfl⟩
    rw [← hr] at HT hle hmem ⊢
    have h8 := hm8 rfl
    have HR := Lib.hid (show r.1.length ≤ 8 ∧ ∀ n ∈ r.1, n < 256 from ⟨by omega, fun n hn => hL n (hmem n hn)⟩)
    clear hle hmem hr h hL hm8 hb h8
    go_enter Tryz.func207, Tryz.ntmps207
    go_wp2_with fail
    refine (HM.out _).mono ?_
    rintro e w' ⟨rfl, rfl⟩
    go_wp2_with fail
    refine HT.out.mono ?_
    rintro e w1 ⟨v, b, rfl, h1, h2, h3⟩
    have HN := Lib.hid (number_any v r.1 w1 h1.rd HR.out.1 HR.out.2)
    have H2 := Lib.hid h2
    have H3 := Lib.hid h3
    clear h1 h2 h3
    go_wp2_with fail
    refine HN.out.mono ?_
    rintro e w' ⟨rfl, rfl⟩
    go_wp2_with fail
    go_ret
    exact ⟨rfl, H2.out, H3.out⟩
  | false =>
    rw [if_neg (by simp)]
    have HT := Lib.hid (took_any B L er (-1) w h)
    have hle := takeF_le L er (-1)
    have hmem := takeF_mem L er (-1)
    obtain ⟨r, hr⟩ : ∃ r, r = takeF L er (-1) := ⟨_, rfl⟩
    rw [← hr] at HT hle hmem ⊢
    have HR := Lib.hid (show r.1.length ≤ 8 ∧ ∀ n ∈ r.1, n < 256 from ⟨by omega, fun n hn => hL n (hmem n hn)⟩)
    clear hle hmem hr h hL hm8 hb
    go_enter Tryz.func207, Tryz.ntmps207
    go_wp2_with fail
    refine (HM.out _).mono ?_
    rintro e w' ⟨rfl, rfl⟩
    go_wp2_with fail
    refine HT.out.mono ?_
    rintro e w1 ⟨v, b, rfl, h1, h2, h3⟩
    have HN := Lib.hid (number_any v r.1 w1 h1.rd HR.out.1 HR.out.2)
    have H2 := Lib.hid h2
    have H3 := Lib.hid h3
    clear h1 h2 h3
    go_wp2_with fail
    refine HN.out.mono ?_
    rintro e w' ⟨rfl, rfl⟩
    go_wp2_with fail
    go_ret
    exact ⟨rfl, H2.out, H3.out⟩
theorem numF_put {s n : Nat} (hs : mayB (s : Int) = true) (R : List Nat) : numF (beN s n ++ R) 0 (s : Int) = (beN s n, R, 0) := by
  rw [numF, if_pos hs]
  have := takeF_put (beN s n) R
  rw [beN_len] at this
  exact this
set_option maxRecDepth 100000 in
set_option maxHeartbeats 1000000 in
theorem left_any (B : Nat) (L : List Nat) (er : Nat) (w : World) (h : RS w B L er) :
    Calls Tryz.prog 143 #[.pointer (some ⟨B, 0, none⟩)] w fun e w' => e = .returned (.int .i64 (L.length : Nat)) ∧ w = w' := by
  obtain ⟨v, hb, hr⟩ := h
  obtain ⟨a, cap, rfl, _⟩ := hr
  rw [bvs_len] at hb
  have k0 := hb.cell 0
  simp only [List.getElem?_toArray, List.getElem?_cons_zero] at k0
  clear hb
  go_enter Tryz.func143, Tryz.ntmps143
  go_wp2_with fail
  go_ret
  exact ⟨rfl, rfl⟩
def flagF (L : List Nat) (er : Nat) : Bool × List Nat × Nat :=
  if er ≠ 0 then (false, L, er) else match L with
    | [] => (false, [], 4)
    | b :: M => if 1 < b then (false, M, 3) else (b == 1, M, 0)
def FlagP (B : Nat) (w : World) (r : Bool × List Nat × Nat) (e : Ending) (w' : World) : Prop := e = .returned (.bool r.1) ∧ RS w' B r.2.1 r.2.2 ∧ Only B w w'
set_option maxRecDepth 100000 in
set_option maxHeartbeats 1000000 in
theorem flag_any (B : Nat) (L : List Nat) (er : Nat) (w : World) (h : RS w B L er) (hL : ∀ n ∈ L, n < 256) :
    Calls Tryz.prog 230 #[.pointer (some ⟨B, 0, none⟩)] w (FlagP B w (flagF L er)) := by
  by_cases he : er = 0
  · subst he
    cases L with
    | nil =>
      have HT := Lib.hid (take_end B [] 1 w h (by simp))
      clear h hL
      go_enter Tryz.func230, Tryz.ntmps230
      go_wp2_with fail
      refine HT.out.mono ?_
      rintro e w1 ⟨rfl, h1, h2, -⟩
      have H1 := Lib.hid h1
      have H2 := Lib.hid h2
      clear h1 h2
      go_wp2_with fail
      go_ret
      exact ⟨rfl, H1.out, H2.out⟩
    | cons b M =>
      have hb := hL b (by simp)
      have T := take_ok B (b :: M) 1 w h (by simp)
      simp only [List.take_succ_cons, List.take_zero, List.drop_succ_cons, List.drop_zero] at T
      have HT := Lib.hid T
      have hF : flagF (b :: M) 0 = if 1 < b then (false, M, 3) else (b == 1, M, 0) := by rw [flagF, if_neg (by simp)]
      rw [hF]
      clear T h hL hF
      by_cases h1b : 1 < b
      · rw [if_pos h1b]
        go_enter Tryz.func230, Tryz.ntmps230
        go_wp2_with fail
        refine HT.out.mono ?_
        rintro e w1 ⟨⟨v, rfl, hr⟩, h1, h2, -⟩
        obtain ⟨b1, o1, cap, rfl, c0⟩ : ∃ b1 o1 cap, v = .slice (some ⟨b1, o1, none⟩) 1 cap ∧ w1.cell? ⟨b1, o1, none⟩ = some (.int .u8 (b : Nat)) := by
          obtain ⟨a, cap, rfl, _, _, h | ⟨b1, o1, rfl, _, hc⟩⟩ := hr
          · exact absurd h.1 (by simp [bvs])
          · exact ⟨b1, o1, cap, rfl, hc 0 _ rfl⟩
        have HF := Lib.hid (fail_first B M 3 w1 h1 (by omega))
        have H2 := Lib.hid h2
        clear h1 h2 hr
        go_wp2_with fail
        refine HF.out.mono ?_
        rintro e w2 ⟨rfl, h1, h2, -⟩
        have H1 := Lib.hid h1
        have H3 := Lib.hid (H2.out.trans h2)
        clear h1 h2
        go_wp2_with fail
        go_ret
        exact ⟨rfl, H1.out, H3.out⟩
      · rw [if_neg h1b]
        go_enter Tryz.func230, Tryz.ntmps230
        go_wp2_with fail
        refine HT.out.mono ?_
        rintro e w1 ⟨⟨v, rfl, hr⟩, h1, h2, -⟩
        obtain ⟨b1, o1, cap, rfl, c0⟩ : ∃ b1 o1 cap, v = .slice (some ⟨b1, o1, none⟩) 1 cap ∧ w1.cell? ⟨b1, o1, none⟩ = some (.int .u8 (b : Nat)) := by
          obtain ⟨a, cap, rfl, _, _, h | ⟨b1, o1, rfl, _, hc⟩⟩ := hr
          · exact absurd h.1 (by simp [bvs])
          · exact ⟨b1, o1, cap, rfl, hc 0 _ rfl⟩
        have H1 := Lib.hid h1
        have H2 := Lib.hid h2
        have hbb : (b == 1) = ((b : Int) == 1) := by
          rw [Bool.eq_iff_iff, beq_iff_eq, beq_iff_eq]; omega
        have HBB := Lib.hid hbb
        clear h1 h2 hr hbb
        go_wp2_with fail
        go_ret
        exact ⟨ret_bool HBB.out.symm, H1.out, H2.out⟩
  · have hF : flagF L er = (false, L, er) := by unfold flagF; rw [if_pos he]
    rw [hF]
    have HT := Lib.hid (take_err B L er 1 w h he)
    have HR := Lib.hid h
    clear h he hL hF
    go_enter Tryz.func230, Tryz.ntmps230
    go_wp2_with fail
    refine HT.out.mono ?_
    rintro e w1 ⟨rfl, rfl⟩
    go_wp2_with fail
    go_ret
    exact ⟨rfl, HR.out, Only.refl _ _⟩
end Go.Proofs.YtngealmhgkoaiaaGreat
