/- Walks: a reader's length. -/
import Derived.Test.YtngealmhgkoaiaaGreatZTreeBytes05
import Derived.Test.YtngealmhgkoaiaaGreatZTreeBytes13
namespace Go.Proofs.YtngealmhgkoaiaaGreat
open Go.RowKit WireM
set_option linter.unusedVariables false
/-- a length that begins with b: it, what is left, the error -/
def lenF (b : Nat) (M : List Nat) : Option Nat × List Nat × Nat :=
  if b / 64 = 3 then (none, M, 3)
  else if M.length < 2 ^ (b / 64) - 1 then (none, M, 4)
  else if lenS (numV (b % 64 :: M.take (2 ^ (b / 64) - 1)) : Nat) = 2 ^ (b / 64) then (some (numV (b % 64 :: M.take (2 ^ (b / 64) - 1))), M.drop (2 ^ (b / 64) - 1), 0)
  else (none, M.drop (2 ^ (b / 64) - 1), 3)
def LenJ (B b k : Nat) (M : List Nat) (w : World) (a' : Act) (w' : World) : Prop :=
  ∃ (i : Nat) (v : Value) (sz kd : Int), i ≤ k ∧ RdK w' B v (bvs [b]) ∧ RS w' B M 0 ∧ Only B w w' ∧ sz = ((2 ^ i : Nat) : Int) ∧ kd = ((k - i : Nat) : Int) ∧
    ∃ (x1 x2 x3 x5 x8 x9 x10 x11 x12 x13 x14 x15 x16 x17 x18 x19 x20 x21 x22 x23 x24 x25 x26 x27 x28 x29 x30 x31 x32 x33 x34 x35 x36 x37 x38 x39 x40 x41 x42 x43 x44 x45 x46 x47 x48 x49 x50 x51 x52 x53 x54 x55 : Value), a' = { tmps := #[.pointer (some ⟨B, 0, none⟩), x1, x2, x3, v, x5, .int .i64 sz, .int .u8 kd, x8, x9, x10, x11, x12, x13, x14, x15, x16, x17, x18, x19, x20, x21, x22, x23, x24, x25, x26, x27, x28, x29, x30, x31, x32, x33, x34, x35, x36, x37, x38, x39, x40, x41, x42, x43, x44, x45, x46, x47, x48, x49, x50, x51, x52, x53, x54, x55], defers := [] }
/-- what comes of it -/
def LenP (B : Nat) (w : World) (r : Option Nat × List Nat × Nat) (e : Ending) (w' : World) : Prop :=
  e = .returned (.tuple #[.int .i64 ((r.1.getD 0 : Nat) : Int), .bool r.1.isSome]) ∧ RS w' B r.2.1 r.2.2 ∧ Only B w w'
set_option maxRecDepth 100000 in
set_option maxHeartbeats 4000000 in
theorem length_some (B b : Nat) (M : List Nat) (w : World) (h : RS w B (b :: M) 0) (hL : ∀ n ∈ b :: M, n < 256) :
    Calls Tryz.prog 140 #[.pointer (some ⟨B, 0, none⟩)] w (LenP B w (lenF b M)) := by
  have hb : b < 256 := hL b (by simp)
  have hM : ∀ n ∈ M, n < 256 := fun n hn => hL n (by simp [hn])
  have T1 := take_ok B (b :: M) 1 w h (by simp)
  simp only [List.take_succ_cons, List.take_zero, List.drop_succ_cons, List.drop_zero] at T1
  obtain ⟨k, hk⟩ : ∃ k, k = b / 64 := ⟨_, rfl⟩
  have hk3 : k ≤ 3 := by omega
  have hkz : (b : Int) / 64 = (k : Int) := by omega
  have and63 : bits .and .u8 (b : Int) 63 = ((b % 64 : Nat) : Int) := by
    have := u8_and_nat b 63 hb (by omega)
    rw [show (63 : Nat) = 2 ^ 6 - 1 from rfl, Nat.and_two_pow_sub_one_eq_mod] at this
    exact this
  have HT1 := Lib.hid T1
  have HAND := Lib.hid and63
  have HM := Lib.hid hM
  have HK := Lib.hid hk
  clear T1 hk hL h and63 hM
  go_enter Tryz.func140, Tryz.ntmps140
  go_wp2_with fail
  refine wp_scope_label' 0 (LenJ B b k M w) (fun ac _ => (intOf (ac.tmps.getD 7 undef)).toNat) rfl ?_ ?_
  · rintro ac wx ⟨i, v, sz, kd, hi, hrd, hrs, honly, hsz, hkd, hf⟩
    iterate 52 (obtain ⟨_, hf⟩ := hf)
    subst hf
    have HRD := Lib.hid hrd
    have HRS := Lib.hid hrs
    have HO := Lib.hid honly
    clear hrd hrs honly
    by_cases hik : i < k
    · have hp : 2 ^ i ≤ 2 ^ 2 := two_pow_le (by omega)
      have he : 2 ^ (i + 1) = 2 ^ i * 2 := Nat.pow_succ _ _
      obtain ⟨p, hpp⟩ : ∃ p, p = 2 ^ i := ⟨_, rfl⟩
      obtain ⟨j, hj⟩ : ∃ j, k - i = j + 1 := ⟨k - i - 1, by omega⟩
      rw [← hpp] at hp he hsz
      rw [hj] at hkd
      have hkd' : kd = (j : Int) + 1 := by omega
      have hj3 : j ≤ 3 := by omega
      subst hsz hkd'
      have HE := Lib.hid he
      have HJ := Lib.hid hj
      clear hpp he hj hkd
      go_wp2_with fail
      refine wp_goto ⟨rfl, ⟨i + 1, v, _, _, by omega, HRD.out, HRS.out, HO.out, ?c1, ?c2, _, _, _, _, _, _, _, _, _, _, _, _, _, _, _, _, _, _, _, _, _, _, _, _, _, _, _, _, _, _, _, _, _, _, _, _, _, _, _, _, _, _, _, _, _, _, _, _, _, _, _, _, rfl⟩, ?_⟩
      case c1 => rw [HE.out]; omega
      case c2 => have := HJ.out; omega
      show (j : Int).toNat < ((j : Int) + 1).toNat
      omega
    · obtain rfl : i = k := by omega
      have hkd' : kd = 0 := by omega
      subst hkd'
      clear hkd hik
      obtain ⟨b1, o1, c1, _, _, _, rfl, _, hc0⟩ : ∃ b1 o1 c1, 0 < (1 : Nat) ∧ 1 ≤ c1 ∧ c1 ≤ maxLen ∧ v = .slice (some ⟨b1, o1, none⟩) 1 c1 ∧ b1 < B ∧ wx.cell? ⟨b1, o1, none⟩ = some (.int .u8 (b : Nat)) := by
        obtain ⟨a', cap', e1, e2, e3, e4 | ⟨b1, o1, e4, e5, e6⟩⟩ := HRD.out
        · exact absurd e4.1 (by simp [bvs])
        · exact ⟨b1, o1, cap', by omega, by simpa using e2, e3, by rw [e1, e4]; rfl, e5, e6 0 _ rfl⟩
      by_cases h3 : i = 3
      · have e8 : sz = 8 := by rw [hsz, h3]; rfl
        subst e8
        have hF := Lib.hid (fail_first B M 3 wx HRS.out (by omega))
        have el : Hid (lenF b M = (none, M, 3)) := Lib.hid (by rw [lenF, if_pos (by have := HK.out; omega)])
        clear hsz h3
        go_wp2_with fail
        refine hF.out.mono ?_
        rintro e w2 ⟨rfl, h1, h2, -⟩
        have H1 := Lib.hid h1
        have H2 := Lib.hid h2
        clear h1 h2
        go_wp2_with fail
        simp only [Exit.jump]
        go_ret2
        rw [el.out]
        exact ⟨rfl, H1.out, HO.out.trans H2.out⟩
      · obtain ⟨s, hs⟩ : ∃ s, s = 2 ^ i - 1 := ⟨_, rfl⟩
        have hpi := two_pow_pos i
        have hp2 : 2 ^ i ≤ 2 ^ 2 := two_pow_le (by omega)
        have es : sz = (s : Int) + 1 := by omega
        have h2i : 2 ^ i = s + 1 := by omega
        subst es
        have hs3 : s ≤ 3 := by omega
        have hbk : ¬ b / 64 = 3 := by have := HK.out; omega
        have H2I := Lib.hid h2i
        have HS := Lib.hid hs
        have HBK := Lib.hid hbk
        clear hsz h3 hs hpi hp2 h2i hbk
        by_cases hMs : M.length < s
        · have hT := Lib.hid (take_end B M (s : Int) wx HRS.out (by omega))
          have el : Hid (lenF b M = (none, M, 4)) := Lib.hid (by rw [lenF, if_neg HBK.out, if_pos (by rw [← HK.out, ← HS.out]; exact hMs)])
          go_wp2_with fail
          refine hT.out.mono ?_
          rintro e w2 ⟨rfl, h1, h2, -⟩
          have H1 := Lib.hid h1
          have H2 := Lib.hid h2
          clear h1 h2
          go_wp2_with fail
          simp only [Exit.jump]
          go_ret2
          rw [el.out]
          exact ⟨rfl, H1.out, HO.out.trans H2.out⟩
        · have hT := Lib.hid (take_ok B M s wx HRS.out (by omega))
          go_wp2_with fail
          refine hT.out.mono ?_
          rintro e w2 ⟨⟨v2, rfl, hrd2⟩, h1, h2, hz⟩
          have hlt := HRS.out.lt
          have hc2 := (h2.cell (p := ⟨b1, o1, none⟩) (by assumption) (by omega)).trans hc0
          have H1 := Lib.hid h1
          have H2 := Lib.hid (HO.out.trans h2)
          have HRD2 := Lib.hid hrd2
          clear h1 h2 hrd2 hz hlt hc0
          have hand := HAND.out
          go_wp2_with (at_builtin; refine wpList_app rfl (.tmp 44) (.tmp 45) 25 rfl w2.heap.size 5 _ 1 bytesE _ [.int .u8 ((b % 64 : Nat) : Int)] rfl ?c1 _ (bvs (M.take s)) rfl (HRD2.out.rd.alloc _) (bvs_one _) ?c2 ?c3 ?_)
          case c1 => exact Own.full (cs := #[.int .u8 ((b % 64 : Nat) : Int)]) rfl (Nat.le_refl _) (by unfold maxLen; simp) rfl
          case c2 => simp [bvs_len]; omega
          case c3 => simp
          rintro v3 w3 hown3 - hb3
          have hb3' : Below w2.heap.size w2 w3 := ((Below.refl _ _).alloc (Nat.le_refl _) _).trans hb3
          have hM' := HM.out
          have hlen3 : (b % 64 :: M.take s).length = s + 1 := by rw [List.length_cons, List.length_take]; omega
          have hlt3 : ∀ n ∈ b % 64 :: M.take s, n < 256 := by
            intro n hn
            simp only [List.mem_cons] at hn
            rcases hn with rfl | hn
            · omega
            · exact hM' n (List.mem_of_mem_take hn)
          have hN := number_any v3 (b % 64 :: M.take s) w3 hown3.rd (by omega) hlt3
          have hnv := numV_lt (s + 1) _ hlen3 hlt3
          have hp4 : 256 ^ (s + 1) ≤ 256 ^ 4 := Nat.pow_le_pow_right (by omega) (by omega)
          obtain ⟨n', hn'⟩ : ∃ n', n' = numV (b % 64 :: M.take s) := ⟨_, rfl⟩
          rw [← hn'] at hN hnv
          have hn4 : n' ≤ 4294967295 := by omega
          have hS := lenSize_any (n' : Int)
          have el : Hid (lenF b M = if lenS (n' : Nat) = s + 1 then (some n', M.drop s, 0) else (none, M.drop s, 3)) := Lib.hid (by
            have e1 : 2 ^ (b / 64) = s + 1 := by rw [← HK.out, H2I.out]
            rw [lenF, if_neg HBK.out, e1, Nat.add_sub_cancel, if_neg hMs, ← hn'])
          obtain ⟨z, hz⟩ : ∃ z, z = lenS (n' : Int) := ⟨_, rfl⟩
          rw [← hz] at hS el
          have hz4 : z ≤ 4 := by rw [hz]; unfold lenS; split <;> (try split) <;> (try split) <;> omega
          have H3 := Lib.hid (H1.out.below hb3')
          have H4 := Lib.hid (H2.out.trans (Only.of hb3'))
          have HN := Lib.hid hN
          have HSz := Lib.hid hS
          clear hown3 hb3 hb3' hM' hlt3 hlen3 hN hnv hp4 hn' hS hz hand
          go_wp2_with fail
          refine HN.out.mono ?_
          rintro e w' ⟨rfl, rfl⟩
          go_wp2_with fail
          refine (HSz.out _).mono ?_
          rintro e w' ⟨rfl, rfl⟩
          by_cases hzs : z = s + 1
          · subst hzs
            go_wp2_with fail
            simp only [Exit.jump]
            go_ret2
            rw [el.out, if_pos trivial]
            exact ⟨rfl, H3.out, H4.out⟩
          · have hc : ((z : Int) != (s : Int) + 1) = true := by simp; omega
            have hF := Lib.hid (fail_first B (M.drop s) 3 _ H3.out (by omega))
            have HZS := Lib.hid hzs
            clear hzs
            go_wp2_with fail
            refine hF.out.mono ?_
            rintro e w5 ⟨rfl, h1, h2, -⟩
            have H5 := Lib.hid h1
            have H6 := Lib.hid h2
            clear h1 h2
            go_wp2_with fail
            simp only [Exit.jump]
            go_ret2
            rw [el.out, if_neg HZS.out]
            exact ⟨rfl, H5.out, H4.out.trans H6.out⟩
  · intro pass
    have HP := Lib.hid pass
    clear pass
    go_wp2_with fail
    refine HT1.out.mono ?_
    rintro e w1 ⟨⟨v1, rfl, hrd⟩, hrs, honly, hsz⟩
    have HRD := Lib.hid hrd
    have HRS := Lib.hid hrs
    have HO := Lib.hid honly
    obtain ⟨b1, o1, c1, _, _, _, rfl, _, hc0⟩ : ∃ b1 o1 c1, 0 < (1 : Nat) ∧ 1 ≤ c1 ∧ c1 ≤ maxLen ∧ v1 = .slice (some ⟨b1, o1, none⟩) 1 c1 ∧ b1 < w1.heap.size ∧ w1.cell? ⟨b1, o1, none⟩ = some (.int .u8 (b : Nat)) := by
      rcases hrd.rd.cases with ⟨_, _, _, h0⟩ | ⟨b1, o1, c1, h1, h2, h3, h4, h5, h6⟩
      · simp at h0
      · exact ⟨b1, o1, c1, h1, h2, h3, h4, h5, h6 0 (by simp)⟩
    clear hrd hrs honly hsz
    go_wp2_with fail
    go_step3
    simp only [Exit.then]
    apply_assumption
    refine HP.out _ _ ⟨0, _, _, _, by omega, HRD.out, HRS.out, HO.out, rfl, rfl, _, _, _, _, _, _, _, _, _, _, _, _, _, _, _, _, _, _, _, _, _, _, _, _, _, _, _, _, _, _, _, _, _, _, _, _, _, _, _, _, _, _, _, _, _, _, _, _, _, _, _, _, rfl⟩
end Go.Proofs.YtngealmhgkoaiaaGreat
/- Walks: a reader's length at any state, Take, Vec. -/
namespace Go.Proofs.YtngealmhgkoaiaaGreat
open Go.RowKit WireM
set_option linter.unusedVariables false
def lengthF (L : List Nat) (er : Nat) : Option Nat × List Nat × Nat :=
  if er ≠ 0 then (none, L, er) else match L with
    | [] => (none, [], 4)
    | b :: M => lenF b M
set_option maxRecDepth 100000 in
set_option maxHeartbeats 1000000 in
theorem length_any (B : Nat) (L : List Nat) (er : Nat) (w : World) (h : RS w B L er) (hL : ∀ n ∈ L, n < 256) :
    Calls Tryz.prog 140 #[.pointer (some ⟨B, 0, none⟩)] w (LenP B w (lengthF L er)) := by
  by_cases he : er = 0
  · subst he
    cases L with
    | cons b M =>
      rw [lengthF, if_neg (by simp)]
      exact length_some B b M w h hL
    | nil =>
      rw [lengthF, if_neg (by simp)]
      have HT := Lib.hid (take_end B [] 1 w h (by simp))
      clear h
      go_enter Tryz.func140, Tryz.ntmps140
      go_wp2_with fail
      go_step3
      go_wp2_with fail
      refine HT.out.mono ?_
      rintro e w1 ⟨rfl, h1, h2, -⟩
      have H1 := Lib.hid h1
      have H2 := Lib.hid h2
      clear h1 h2
      go_wp2_with fail
      simp only [Exit.noGoto]
      go_ret2
      exact ⟨rfl, H1.out, H2.out⟩
  · have e0 : lengthF L er = (none, L, er) := by unfold lengthF; rw [if_pos he]
    rw [e0]
    clear e0
    have HT := Lib.hid (take_err B L er 1 w h he)
    have HR := Lib.hid h
    clear h he
    go_enter Tryz.func140, Tryz.ntmps140
    go_wp2_with fail
    go_step3
    go_wp2_with fail
    refine HT.out.mono ?_
    rintro e w1 ⟨rfl, rfl⟩
    go_wp2_with fail
    simp only [Exit.noGoto]
    go_ret2
    exact ⟨rfl, HR.out, Only.refl _ _⟩
def takeF (L : List Nat) (er : Nat) (n : Int) : List Nat × List Nat × Nat :=
  if er ≠ 0 then ([], L, er) else if n < 0 then ([], L, 1) else if (L.length : Int) < n then ([], L, 4) else (L.take n.toNat, L.drop n.toNat, 0)
def TakeP (B : Nat) (w : World) (r : List Nat × List Nat × Nat) (e : Ending) (w' : World) : Prop :=
  ∃ v, e = .returned v ∧ Own w' w.heap.size 5 v (bvs r.1) ∧ RS w' B r.2.1 r.2.2 ∧ Only B w w'
def TookP (B : Nat) (w : World) (r : List Nat × List Nat × Nat) (e : Ending) (w' : World) : Prop :=
  ∃ v b, e = .returned (.tuple #[v, .bool b]) ∧ RdK w' B v (bvs r.1) ∧ RS w' B r.2.1 r.2.2 ∧ Only B w w'
theorem nil_rdk (w : World) (B : Nat) : RdK w B (.slice none 0 0) (bvs []) := ⟨none, 0, rfl, Nat.le_refl _, Nat.zero_le _, .inl ⟨rfl, fun _ => rfl⟩⟩
theorem took_any (B : Nat) (L : List Nat) (er : Nat) (n : Int) (w : World) (h : RS w B L er) :
    Calls Tryz.prog 204 #[.pointer (some ⟨B, 0, none⟩), .int .i64 n] w (TookP B w (takeF L er n)) := by
  unfold takeF
  by_cases he : er = 0
  · subst he
    rw [if_neg (by simp)]
    by_cases hn : n < 0
    · rw [if_pos hn]
      refine (take_neg B L n w h hn).mono ?_
      rintro e w' ⟨rfl, h1, h2, -⟩
      exact ⟨_, _, rfl, nil_rdk _ _, h1, h2⟩
    · rw [if_neg hn]
      by_cases hl : (L.length : Int) < n
      · rw [if_pos hl]
        refine (take_end B L n w h hl).mono ?_
        rintro e w' ⟨rfl, h1, h2, -⟩
        exact ⟨_, _, rfl, nil_rdk _ _, h1, h2⟩
      · rw [if_neg hl]
        obtain ⟨k, rfl⟩ : ∃ k : Nat, n = (k : Int) := ⟨n.toNat, by omega⟩
        refine (take_ok B L k w h (by omega)).mono ?_
        rintro e w' ⟨⟨v, rfl, hr⟩, h1, h2, -⟩
        exact ⟨_, _, rfl, hr, h1, h2⟩
  · rw [if_pos he]
    refine (take_err B L er n w h he).mono ?_
    rintro e w' ⟨rfl, rfl⟩
    exact ⟨_, _, rfl, nil_rdk _ _, h, Only.refl _ _⟩
theorem takeF_len (L : List Nat) (er : Nat) (n : Int) : (takeF L er n).1.length ≤ L.length := by
  unfold takeF
  split
  · simp
  · split
    · simp
    · split
      · simp
      · simp; omega
set_option maxRecDepth 100000 in
set_option maxHeartbeats 1000000 in
theorem taken_any (B : Nat) (L : List Nat) (er : Nat) (n : Int) (w : World) (h : RS w B L er) (hl : L.length < 1099511627776) :
    Calls Tryz.prog 141 #[.pointer (some ⟨B, 0, none⟩), .int .i64 n] w (TakeP B w (takeF L er n)) := by
  have HT := Lib.hid (took_any B L er n w h)
  have hlen := takeF_len L er n
  obtain ⟨r, hr⟩ : ∃ r, r = takeF L er n := ⟨_, rfl⟩
  rw [← hr] at HT hlen ⊢
  clear h hr
  go_enter Tryz.func141, Tryz.ntmps141
  go_wp2_with fail
  refine HT.out.mono ?_
  rintro e w1 ⟨v, b, rfl, h1, h2, h3⟩
  have HC := Lib.hid (bclone_any v r.1 w1 h1.rd (by omega))
  have H2 := Lib.hid h2
  have H3 := Lib.hid h3
  clear h1 h2 h3
  go_wp2_with fail
  refine HC.out.mono ?_
  rintro e w2 ⟨v2, rfl, hown, hb⟩
  have HO := Lib.hid hown
  have HB := Lib.hid hb
  clear hown hb
  go_wp2_with fail
  go_ret
  exact ⟨_, rfl, HO.out.mono H3.out.size, H2.out.below HB.out, H3.out.trans (Only.of HB.out)⟩
def vecF (L : List Nat) (er : Nat) : List Nat × List Nat × Nat :=
  match lengthF L er with
  | (none, M, e) => ([], M, e)
  | (some n, M, e) => takeF M e (n : Int)
theorem lenF_len (b : Nat) (M : List Nat) : (lenF b M).2.1.length ≤ M.length := by
  unfold lenF
  split
  · exact Nat.le_refl _
  · split
    · exact Nat.le_refl _
    · split <;> simp
theorem lengthF_len (L : List Nat) (er : Nat) : (lengthF L er).2.1.length ≤ L.length := by
  unfold lengthF
  split
  · exact Nat.le_refl _
  · split
    · exact Nat.le_refl _
    · rename_i b M
      have := lenF_len b M
      simp; omega
set_option maxRecDepth 100000 in
set_option maxHeartbeats 1000000 in
theorem vec_any (B : Nat) (L : List Nat) (er : Nat) (w : World) (h : RS w B L er) (hl : L.length < 1099511627776) (hL : ∀ n ∈ L, n < 256) :
    Calls Tryz.prog 76 #[.pointer (some ⟨B, 0, none⟩)] w (TakeP B w (vecF L er)) := by
  have HN := Lib.hid (length_any B L er w h hL)
  have hlen := lengthF_len L er
  unfold vecF
  obtain ⟨r, hr⟩ : ∃ r, r = lengthF L er := ⟨_, rfl⟩
  rw [← hr] at HN hlen ⊢
  clear h hr hL
  obtain ⟨o, M, e⟩ := r
  cases o with
  | none =>
    go_enter Tryz.func76, Tryz.ntmps76
    go_wp2_with fail
    refine HN.out.mono ?_
    rintro e' w1 ⟨rfl, h1, h2⟩
    have H1 := Lib.hid h1
    have H2 := Lib.hid h2
    clear h1 h2
    go_wp2_with fail
    go_ret
    exact ⟨_, rfl, Own.nil _ _ _, H1.out, H2.out⟩
  | some n =>
    have T := fun w h => taken_any B M e (n : Int) w h (by simp only at hlen; omega)
    have HT := Lib.hid T
    clear T
    go_enter Tryz.func76, Tryz.ntmps76
    go_wp2_with fail
    refine HN.out.mono ?_
    rintro e' w1 ⟨rfl, h1, h2⟩
    have H2 := Lib.hid h2
    have HT1 := Lib.hid (HT.out w1 h1)
    clear h1 h2
    go_wp2_with fail
    refine HT1.out.mono ?_
    rintro e' w2 ⟨v2, rfl, hown, h1, h3⟩
    have H1 := Lib.hid h1
    have H3 := Lib.hid h3
    have HO := Lib.hid hown
    clear h1 h3 hown
    go_wp2_with fail
    go_ret
    exact ⟨_, rfl, HO.out.mono H2.out.size, H1.out, H2.out.trans H3.out⟩
end Go.Proofs.YtngealmhgkoaiaaGreat
