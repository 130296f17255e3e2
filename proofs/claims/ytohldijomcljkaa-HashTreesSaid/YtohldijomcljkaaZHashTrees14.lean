/- Walks: cmp.Less, slices.BinarySearch of rising numbers. -/
import Derived.Test.YtohldijomcljkaaZHashTrees13
import Derived.Test.YtohldijomcljkaaZHashTrees12
import Derived.Test.YtohldijomcljkaaZHashTrees02
import Derived.Deep.QuietTactic
import Derived.BigQuiet
import Derived.IntWalk
namespace Go.Proofs.Ytohldijomcljkaa
open Go.RowKit WalkM
set_option linter.unusedVariables false
theorem retP {v : Value} {a b : Bool} (h : a = b) : Ending.returned (.tuple #[v, .bool b]) = .returned (.tuple #[v, .bool a]) := by rw [h]
theorem cnan_any (x : Int) (w : World) : Calls Try.prog 142 #[.int .i64 x] w fun e w' => e = .returned (.bool false) ∧ w' = w := by
  have h : (x != x) = false := by rw [bne_eq_false_iff_eq]
  go_enter Try.func142, Try.ntmps142
  go_wp2_with fail
  go_ret
  exact ⟨rfl, rfl⟩
theorem snan_any (x : Int) (w : World) : Calls Try.prog 112 #[.int .i64 x] w fun e w' => e = .returned (.bool false) ∧ w' = w := by
  have h : (x != x) = false := by rw [bne_eq_false_iff_eq]
  go_enter Try.func112, Try.ntmps112
  go_wp2_with fail
  go_ret
  exact ⟨rfl, rfl⟩
theorem cless_any (x y : Int) (w : World) : Calls Try.prog 111 #[.int .i64 x, .int .i64 y] w fun e w' => e = .returned (.bool (decide (x < y))) ∧ w' = w := by
  obtain ⟨b, hb⟩ : ∃ b, decide (x < y) = b := ⟨_, rfl⟩
  rw [hb]
  go_enter Try.func111, Try.ntmps111
  go_wp2_with fail
  refine (cnan_any x w).mono ?_
  rintro e w' ⟨rfl, rfl⟩
  go_wp2_with fail
  go_ret
  exact ⟨rfl, rfl⟩
/-- rising numbers -/
def SortI (L : List Int) : Prop := ∀ i j, i < j → j < L.length → L.getD i 0 < L.getD j 0
set_option maxRecDepth 100000 in
set_option maxHeartbeats 2000000 in
theorem bsearch_any (v : Value) (L : List Int) (x : Int) (w : World) (h : Rd w v (ivs .i64 L)) (hs : SortI L) (hl : L.length ≤ 1000000) :
    Calls Try.prog 72 #[v, .int .i64 x] w fun e w' => ∃ p : Nat, e = .returned (.tuple #[.int .i64 (p : Nat), .bool (decide (x ∈ L))]) ∧ p ≤ L.length ∧ (∀ k, k < p → L.getD k 0 < x) ∧ (∀ k, p ≤ k → k < L.length → x ≤ L.getD k 0) ∧ w' = w := by
  have hv : ∃ a c, v = .slice a L.length c := by obtain ⟨a, c, e, h1, h2, _⟩ := h; exact ⟨a, c, by rw [e]; simp [ivs]⟩
  obtain ⟨a, c, rfl⟩ := hv
  have G := fun (i : Nat) (hi : i < L.length) => h.at3 (u := .int .i64 (L.getD i 0)) (r := i) (by simp [ivs, List.getD_eq_getElem?_getD, hi])
  have hs2 : ∀ i j, i ≤ j → j < L.length → L.getD i 0 ≤ L.getD j 0 := by
    intro i j hij hj
    by_cases e : i = j
    · rw [e]; exact Int.le_refl _
    · exact Int.le_of_lt (hs i j (by omega) hj)
  have M1 := fun (i : Nat) (hi : i < L.length) (e : L.getD i 0 = x) => (show decide (x ∈ L) = true from decide_eq_true (by
    rw [List.getD_eq_getElem?_getD, List.getElem?_eq_getElem hi] at e
    have : L[i] = x := e
    rw [← this]; exact List.getElem_mem hi))
  have M2 := fun (hno : ∀ i, i < L.length → L.getD i 0 ≠ x) => (show decide (x ∈ L) = false from decide_eq_false (fun hm => by
    obtain ⟨i, hi, e⟩ := List.getElem_of_mem hm
    exact hno i hi (by rw [List.getD_eq_getElem?_getD, List.getElem?_eq_getElem hi]; exact e)))
  obtain ⟨n, hn⟩ : ∃ n, n = L.length := ⟨_, rfl⟩
  obtain ⟨R, hR⟩ : ∃ R, R = decide (x ∈ L) := ⟨_, rfl⟩
  rw [← hn] at G M1 M2 hs2 hl
  simp only [← hn]
  rw [← hR] at M1 M2 ⊢
  have HG := Lib.hid G
  have HM1 := Lib.hid M1
  have HM2 := Lib.hid M2
  have HS2 := Lib.hid hs2
  clear G M1 M2 h hn hR hs hs2
  go_enter Try.func72, Try.ntmps72
  go_wp2_with fail
  go_loopg [7, 8] n (fun q iv jv wr => ∃ i j : Nat, i + q = j ∧ j ≤ n ∧ iv = .int .i64 (i : Nat) ∧ jv = .int .i64 (j : Nat) ∧ (∀ k, k < i → L.getD k 0 < x) ∧ (∀ k, j ≤ k → k < n → x ≤ L.getD k 0) ∧ wr = w)
  case atStart => exact ⟨0, n, by omega, Nat.le_refl _, rfl, rfl, fun k hk => by omega, fun k h1 h2 => by omega, rfl⟩
  case round =>
    obtain ⟨i, j, hij, hjn, rfl, rfl, hlo, hhi, rfl⟩ := hrel
    have HIJ := Lib.hid hij
    have HLO := Lib.hid hlo
    have HHI := Lib.hid hhi
    clear hij hlo hhi
    by_cases hlt : i < j
    · have hlt' : decide (i < j) = true := decide_eq_true hlt
      obtain ⟨m, hm⟩ : ∃ m, m = (i + j) / 2 := ⟨_, rfl⟩
      obtain ⟨s, hs⟩ : ∃ s, s = i + j := ⟨_, rfl⟩
      have e1 : (i : Int) + (j : Int) = (s : Int) := by omega
      have e2 : IntKind.u64.wrap (s : Int) = (s : Int) := by rw [IntKind.wrap_u64]; omega
      have e3 : (s : Int) / 2 = (m : Int) := by omega
      have e4 : IntKind.i64.wrap (m : Int) = (m : Int) := by rw [IntKind.wrap_i64]; omega
      have hmn : m < n := by omega
      obtain ⟨b, off, rfl, hbl, hcell⟩ := HG.out m hmn
      obtain ⟨y, hy⟩ : ∃ y, y = L.getD m 0 := ⟨_, rfl⟩
      rw [← hy] at hcell
      have HY := Lib.hid hy
      have HMM := Lib.hid hm
      have HSS := Lib.hid hs
      have CL := cless_any y x wr
      by_cases hyx : y < x
      · rw [decide_eq_true hyx] at CL
        have HCL := Lib.hid CL
        have HYX := Lib.hid hyx
        clear hy hm hs CL hyx
        go_wp2_with fail
        refine (HCL.out).mono ?_
        rintro e w' ⟨rfl, rfl⟩
        go_wp2_with fail
        go_roundg (j - (m + 1))
        case measure => have := HIJ.out; have := HMM.out; omega
        case rel =>
          refine ⟨m + 1, j, by have := HMM.out; omega, hjn, by go_num, rfl, fun k hk => ?_, HHI.out, rfl⟩
          have := HS2.out k m (by omega) hmn
          have := HYX.out
          rw [HY.out] at this
          omega
      · rw [decide_eq_false hyx] at CL
        have HCL := Lib.hid CL
        have HYX := Lib.hid hyx
        clear hy hm hs CL hyx
        go_wp2_with fail
        refine (HCL.out).mono ?_
        rintro e w' ⟨rfl, rfl⟩
        go_wp2_with fail
        go_roundg (m - i)
        case measure => have := HIJ.out; have := HMM.out; omega
        case rel =>
          refine ⟨i, m, by have := HMM.out; omega, by omega, rfl, rfl, HLO.out, fun k h1 h2 => ?_, rfl⟩
          have := HS2.out m k h1 h2
          have := HYX.out
          rw [HY.out] at this
          omega
    · have hlt' : decide (i < j) = false := decide_eq_false hlt
      by_cases hin : i < n
      · have hin' : decide (i < n) = true := decide_eq_true hin
        obtain ⟨b, off, rfl, hbl, hcell⟩ := HG.out i hin
        obtain ⟨y, hy⟩ : ∃ y, y = L.getD i 0 := ⟨_, rfl⟩
        rw [← hy] at hcell
        have HY := Lib.hid hy
        clear hy
        by_cases he : y = x
        · have hq : (y == x) = true := by rw [beq_iff_eq]; exact he
          have HF := Lib.hid (HM1.out i hin (by rw [← HY.out]; exact he))
          clear he
          go_wp2_with fail
          go_ret2
          exact ⟨i, retP HF.out, by have := HIJ.out; omega, HLO.out, fun k h1 h2 => HHI.out k (by omega) h2, rfl⟩
        · have hq : (y == x) = false := by rw [beq_eq_false_iff_ne]; exact he
          have HF := Lib.hid (HM2.out (fun k hk e => by
            by_cases h1 : k < i
            · have := HLO.out k h1; omega
            · by_cases h2 : k = i
              · rw [h2] at e; exact he (HY.out.trans e)
              · have h3 := HS2.out i k (by omega) hk
                have h4 := HHI.out i (by omega) hin
                have := HY.out
                omega))
          clear he
          have N1 := Lib.hid (snan_any y wr)
          go_wp2_with fail
          refine (N1.out).mono ?_
          rintro e w' ⟨rfl, rfl⟩
          go_wp2_with fail
          go_ret2
          exact ⟨i, retP HF.out, by have := HIJ.out; omega, HLO.out, fun k h1 h2 => HHI.out k (by omega) h2, rfl⟩
      · have hin' : decide (i < n) = false := decide_eq_false hin
        have HF := Lib.hid (HM2.out (fun k hk e => by have := HLO.out k (by omega); omega))
        go_wp2_with fail
        go_ret2
        exact ⟨i, retP HF.out, by have := HIJ.out; omega, HLO.out, fun k h1 h2 => HHI.out k (by omega) h2, rfl⟩
end Go.Proofs.Ytohldijomcljkaa
/- Plain mathematics: the way down from the root: parts, halved. -/
namespace Go.Proofs.Ytohldijomcljkaa.WalkM

/-- the first number of the part of the level j in which x lies -/
def plo (x j : Nat) : Nat := x / 2 ^ (j + 1) * 2 ^ (j + 1)
/-- the last one -/
def phi (x j : Nat) : Nat := plo x j + (2 ^ (j + 1) - 2)
theorem anc_plo (x j : Nat) : anc x j = plo x j + (2 ^ j - 1) := rfl
theorem mid_eq (x j : Nat) : (plo x j + phi x j) / 2 = anc x j := by
  have := pow_pos' j
  unfold phi
  rw [anc_plo, Nat.pow_succ]
  omega
theorem halves (x j : Nat) : (plo x j = plo x (j + 1) ∧ phi x j + 1 = anc x (j + 1) ∧ x ≤ anc x (j + 1)) ∨ (plo x j = anc x (j + 1) + 1 ∧ phi x j = phi x (j + 1) ∧ anc x (j + 1) < x) := by
  have hb := anc_bounds x j
  have hp := pow_pos' j
  have e2 : x / 2 ^ (j + 1 + 1) = x / 2 ^ (j + 1) / 2 := by rw [Nat.pow_succ 2 (j + 1), Nat.div_div_eq_div_mul]
  have e3 : 2 ^ (j + 1 + 1) = 2 * 2 ^ (j + 1) := by rw [Nat.pow_succ 2 (j + 1)]; omega
  have e4 : 2 ^ (j + 1) = 2 * 2 ^ j := by rw [Nat.pow_succ]; omega
  have e5 : 2 ^ (j + 1 + 1) = 4 * 2 ^ j := by rw [e3, e4]; omega
  unfold phi
  rw [anc_plo]
  unfold plo
  rw [e2]
  obtain ⟨q, hq⟩ : ∃ q, q = x / 2 ^ (j + 1) := ⟨_, rfl⟩
  rw [← hq] at hb ⊢
  rcases Nat.mod_two_eq_zero_or_one q with h | h
  · obtain ⟨r, rfl⟩ : ∃ r, q = 2 * r := ⟨q / 2, by omega⟩
    left
    have e6 : 2 * r * 2 ^ (j + 1) = 2 * r / 2 * 2 ^ (j + 1 + 1) := by
      rw [Nat.mul_div_cancel_left _ (by omega), e3, ← Nat.mul_assoc, Nat.mul_comm r 2]
    rw [e6] at hb ⊢
    rw [e5, e4] at *
    refine ⟨rfl, ?_, ?_⟩ <;> omega
  · obtain ⟨r, rfl⟩ : ∃ r, q = 2 * r + 1 := ⟨q / 2, by omega⟩
    right
    have e6 : (2 * r + 1) * 2 ^ (j + 1) = (2 * r + 1) / 2 * 2 ^ (j + 1 + 1) + 2 ^ (j + 1) := by
      rw [show (2 * r + 1) / 2 = r by omega, Nat.add_mul, e3, Nat.one_mul, ← Nat.mul_assoc, Nat.mul_comm r 2]
    rw [e6] at hb ⊢
    rw [e5, e4] at *
    refine ⟨?_, ?_, ?_⟩ <;> omega
theorem plo_root {x d : Nat} (hx : x < 2 ^ (d + 1)) : plo x d = 0 := by
  unfold plo
  rw [Nat.div_eq_of_lt hx, Nat.zero_mul]
theorem phi_root {x d : Nat} (hx : x < 2 ^ (d + 1)) : phi x d = 2 ^ (d + 1) - 2 := by
  unfold phi
  rw [plo_root hx]
  omega
theorem phi_le {x d j : Nat} (hx : x < 2 ^ (d + 1)) (hj : j ≤ d) : phi x j + 2 ≤ 2 ^ (d + 1) := by
  have h := anc_le hx hj
  have hp := pow_pos' j
  have hq := pow_pos' (j + 1)
  obtain ⟨e, rfl⟩ : ∃ e, d = j + e := ⟨d - j, by omega⟩
  have h1 : x / 2 ^ (j + 1) < 2 ^ e := by
    rw [Nat.div_lt_iff_lt_mul hq, ← Nat.pow_add]
    rw [show e + (j + 1) = j + e + 1 by omega]; exact hx
  have h2 : (x / 2 ^ (j + 1) + 1) * 2 ^ (j + 1) ≤ 2 ^ e * 2 ^ (j + 1) := Nat.mul_le_mul_right _ h1
  rw [← Nat.pow_add, Nat.add_mul, Nat.one_mul, show e + (j + 1) = j + e + 1 by omega] at h2
  unfold phi plo
  have h3 : 2 ^ (j + 1) = 2 * 2 ^ j := by rw [Nat.pow_succ]; omega
  omega
theorem anc_ne {x j : Nat} (h : ¬ IsLev x j) : anc x j ≠ x := by
  intro e
  exact h (e ▸ anc_lev x j)
end Go.Proofs.Ytohldijomcljkaa.WalkM
/- Walks: the reference's Down. -/
namespace Go.Proofs.Ytohldijomcljkaa
open Go.RowKit WalkM
/-- the cells of the node of the level j on the way to x -/
def nodeC (x j : Nat) : List Value := [.int .i64 (anc x j : Nat), .int .i64 (plo x j : Nat), .int .i64 (phi x j : Nat)]
/-- the first k nodes of the way down -/
def dnodes (x d : Nat) : Nat → List Value
  | 0 => []
  | k + 1 => dnodes x d k ++ nodeC x (d - k)
theorem dnodes_len (x d : Nat) : ∀ k, (dnodes x d k).length = k * 3 := by
  intro k
  induction k with
  | zero => rfl
  | succ k ih => rw [dnodes, List.length_append, ih]; simp [nodeC]; omega
theorem dnodes_get (x d : Nat) : ∀ k i c, i < k → c < 3 → (dnodes x d k)[i * 3 + c]? = (nodeC x (d - i))[c]? := by
  intro k
  induction k with
  | zero => intro i c h; omega
  | succ k ih =>
    intro i c hi hc
    rw [dnodes]
    by_cases h : i < k
    · rw [List.getElem?_append_left (by rw [dnodes_len]; omega)]
      exact ih i c h hc
    · obtain rfl : i = k := by omega
      rw [List.getElem?_append_right (by rw [dnodes_len]; omega), dnodes_len]
      congr 1
      omega
theorem nodesE : ElemK Try.prog 111 85 (.agg #[.int .i64 0, .int .i64 0, .int .i64 0]) 3 24 := ⟨Try.underlying111, by kernel_rfl, rfl, by omega, by omega⟩
set_option maxRecDepth 100000 in
set_option maxHeartbeats 1000000 in
theorem down_on (x d : Nat) (hd : d ≤ 16) (hx : x + 1 < 2 ^ (d + 1)) (w : World) :
    Calls Try.prog 104 #[.int .i64 x, .int .i64 ((2 ^ d : Nat) : Int)] w fun e w' => ∃ v, e = .returned v ∧ OwnK w' w.heap.size 85 3 v (d - lev x + 1) (dnodes x d (d - lev x + 1)) ∧ Below w.heap.size w w' := by
  have h17 := two_pow_le (show d + 1 ≤ 17 by omega)
  have h16 := two_pow_le hd
  have hlev := lev_is (x := x) (by omega)
  have hl := (lev_root hx hlev).1
  have F := fun w => rfits_any ((2 ^ d : Nat) : Int) w
  rw [Int.toNat_natCast, (fits_iff _).2 ⟨d, hd, rfl⟩] at F
  have HF := Lib.hid F
  have hself := anc_self hlev
  have hne : ∀ j, j ≠ lev x → anc x j ≠ x := fun j hj => anc_ne fun h => hj (lev_unique h hlev)
  have he : 2 ^ (d + 1) = 2 * 2 ^ d := by rw [Nat.pow_succ]; omega
  have r1 := plo_root (show x < 2 ^ (d + 1) by omega)
  have r2 := phi_root (show x < 2 ^ (d + 1) by omega)
  have hpl : ∀ j, j ≤ d → phi x j + 2 ≤ 2 ^ (d + 1) := fun j hj => phi_le (by omega) hj
  obtain ⟨l, hl'⟩ : ∃ l, l = lev x := ⟨_, rfl⟩
  rw [← hl'] at hl hself hne ⊢
  obtain ⟨n, hn⟩ : ∃ n, n = 2 ^ d := ⟨_, rfl⟩
  rw [he] at hx r2 hpl h17
  rw [← hn] at HF h16 hx r2 hpl h17 ⊢
  have HSELF := Lib.hid hself
  have HNE := Lib.hid hne
  have R1 := Lib.hid r1
  have R2 := Lib.hid r2
  have HPL := Lib.hid hpl
  have hr2 : phi x d ≤ 131070 := by omega
  clear F hself hne r1 r2 hpl he hlev hl' hn
  go_enter Try.func104, Try.ntmps104
  go_wp2_with fail
  refine (HF.out _).mono ?_
  rintro e w' ⟨rfl, rfl⟩
  go_wp2_with fail
  go_loopg [5, 6, 7] (d - l) (fun k lo hi v wr => ∃ i : Nat, i + k = d - l ∧ lo = .int .i64 (plo x (d - i) : Nat) ∧ hi = .int .i64 (phi x (d - i) : Nat) ∧ OwnK wr w.heap.size 85 3 v i (dnodes x d i) ∧ Below w.heap.size w wr)
  case atStart =>
    refine ⟨0, by omega, ?_, ?_, OwnK.nil _ _ _ _, Below.refl _ _⟩
    · rw [Nat.sub_zero, R1.out]; rfl
    · rw [Nat.sub_zero, R2.out]; exact val_int (by omega)
  case round =>
    obtain ⟨i, hi, rfl, rfl, hown, hbel⟩ := hrel
    have HO := Lib.hid hown
    have HB := Lib.hid hbel
    have hsz := hbel.size
    clear hown hbel
    have hph := HPL.out (d - i) (by omega)
    have hm := mid_eq x (d - i)
    have hlt : plo x (d - i) ≤ phi x (d - i) := by unfold phi; omega
    obtain ⟨lo, hlo⟩ : ∃ a, a = plo x (d - i) := ⟨_, rfl⟩
    obtain ⟨hi', hhi⟩ : ∃ a, a = phi x (d - i) := ⟨_, rfl⟩
    obtain ⟨a, ha⟩ : ∃ a, a = anc x (d - i) := ⟨_, rfl⟩
    rw [← hlo, ← hhi] at hlt
    rw [← hhi] at hph
    rw [← hlo, ← hhi, ← ha] at hm
    rw [← hlo, ← hhi]
    have hm' : ((lo : Int) + (hi' : Int)) / 2 = (a : Int) := by rw [← hm]; omega
    have ha1 : a ≤ 131070 := by omega
    have HLO := Lib.hid hlo
    have HHI := Lib.hid hhi
    have HA := Lib.hid ha
    clear hm hlo hhi ha
    by_cases hxa : x = a
    · subst hxa
      have hil : d - i = l := by
        rcases Nat.decEq (d - i) l with h | h
        · exact absurd HA.out.symm (HNE.out _ h)
        · exact h
      have HIL := Lib.hid hil
      clear hil
      go_wp2_with (at_builtin; refine wpList_pushK rfl (.tmp 30) (.tmp 35) 111 rfl w.heap.size 85 _ 3 24 nodesE _ i _ rfl (HO.out.alloc _) wr.heap.size [.int .i64 (x : Nat), .int .i64 (lo : Nat), .int .i64 (hi' : Nat)] rfl rfl ?c1 ?c2 ?c3 ?c4 ?_)
      case c1 => exact cells_new rfl
      case c2 => intro u hu; simp at hu; rcases hu with rfl | rfl | rfl <;> rfl
      case c3 => omega
      case c4 => simp; omega
      rintro v' w1 hown1 hb1
      have hb2 := (HB.out.alloc hsz _).trans hb1
      have HO1 := Lib.hid hown1
      have HB1 := Lib.hid hb2
      clear hown1 hb1 hb2
      go_wp2_with fail
      go_ret
      refine ⟨_, rfl, ?_, HB1.out⟩
      have e1 : i = d - l := by have := HIL.out; omega
      have h := HO1.out
      rw [e1] at h
      rw [dnodes]
      have e2 : d - (d - l) = d - i := by rw [e1]
      rw [e2, nodeC, ← HA.out, ← HLO.out, ← HHI.out]
      exact h
    · have hlt' : i < d - l := by
        rcases Nat.lt_or_ge i (d - l) with h | h
        · exact h
        · exfalso
          have e1 : d - i = l := by omega
          apply hxa
          rw [HA.out, e1]
          exact HSELF.out.symm
      have HXA := Lib.hid hxa
      have hc : ((a : Int) == (x : Int)) = false := by rw [beq_eq_false_iff_ne]; omega
      have hh := halves x (d - (i + 1))
      rw [show d - (i + 1) + 1 = d - i by omega, ← HA.out, ← HHI.out, ← HLO.out] at hh
      have HH := Lib.hid hh
      clear hxa hh
      by_cases hxl : x < a
      all_goals
        go_wp2_with (at_builtin; refine wpList_pushK rfl (.tmp 30) (.tmp 35) 111 rfl w.heap.size 85 _ 3 24 nodesE _ i _ rfl (HO.out.alloc _) wr.heap.size [.int .i64 (a : Nat), .int .i64 (lo : Nat), .int .i64 (hi' : Nat)] rfl rfl ?c1 ?c2 ?c3 ?c4 ?_)
        case c1 => exact cells_new rfl
        case c2 => intro u hu; simp at hu; rcases hu with rfl | rfl | rfl <;> rfl
        case c3 => omega
        case c4 => simp; omega
        rintro v' w1 hown1 hb1
        have hb2 := (HB.out.alloc hsz _).trans hb1
        have HO1 := Lib.hid hown1
        have HB1 := Lib.hid hb2
        clear hown1 hb1 hb2
        go_wp2_with fail
        go_roundg (gk - 1)
        case measure => omega
        case rel =>
          refine ⟨i + 1, by omega, ?_, ?_, ?_, HB1.out⟩
          · refine val_int ?_
            have hx' := HXA.out
            rcases HH.out with ⟨h1, h2, h3⟩ | ⟨h1, h2, h3⟩ <;> omega
          · refine val_int ?_
            have hx' := HXA.out
            rcases HH.out with ⟨h1, h2, h3⟩ | ⟨h1, h2, h3⟩ <;> omega
          · rw [dnodes, nodeC, ← HA.out, ← HLO.out, ← HHI.out]
            exact HO1.out
set_option maxRecDepth 100000 in
set_option maxHeartbeats 1000000 in
theorem down_off (x n : Int) (w : World) (h1 : -9223372036854775808 ≤ n) (h2 : n ≤ 9223372036854775807) (ho : isOf x n = false) :
    Calls Try.prog 104 #[.int .i64 x, .int .i64 n] w fun e w' => e = .returned (.slice none 0 0) ∧ w = w' := by
  have F := fun w => rfits_any n w
  by_cases hf : fits n.toNat = true
  · have hs := fits_small hf
    rw [hf] at F
    have HF := Lib.hid F
    rw [isOf, hf, Bool.true_and] at ho
    have ho' := of_decide_eq_false ho
    have hn1 : 1 ≤ n := by omega
    have hn2 : n ≤ 65536 := by omega
    have hd : x < 0 ∨ (0 ≤ x ∧ 2 * n - 2 < x) := by omega
    clear F hf hs h1 h2 ho ho'
    rcases hd with h | ⟨h, h'⟩
    all_goals
      go_enter Try.func104, Try.ntmps104
      go_wp2_with fail
      refine (HF.out _).mono ?_
      rintro e w' ⟨rfl, rfl⟩
      go_wp2_with fail
      go_ret
      exact ⟨rfl, rfl⟩
  · have hf' : fits n.toNat = false := by rw [← Bool.not_eq_true]; exact hf
    rw [hf'] at F
    have HF := Lib.hid F
    clear F hf hf' h1 h2 ho
    go_enter Try.func104, Try.ntmps104
    go_wp2_with fail
    refine (HF.out _).mono ?_
    rintro e w' ⟨rfl, rfl⟩
    go_wp2_with fail
    go_ret
    exact ⟨rfl, rfl⟩
end Go.Proofs.Ytohldijomcljkaa
/- Walks: the reference's Last. -/
namespace Go.Proofs.Ytohldijomcljkaa
open Go.RowKit WalkM
/-- a block that was made ahead of a call stands behind it -/
theorem boxAt {w w' : World} {cs : Array Value} {e : TypeId} (hb : Below (w.alloc (.cells cs e)).heap.size (w.alloc (.cells cs e)) w') : w'.heap[w.heap.size]? = some (.cells cs e (0, 0)) :=
  (hb.block _ (by simp)).trans (heap_alloc_new w _)
set_option maxRecDepth 100000 in
set_option maxHeartbeats 1000000 in
theorem last_on (x d : Nat) (hd : d ≤ 16) (hx : x + 1 < 2 ^ (d + 1)) (w : World) :
    Calls Try.prog 64 #[.int .i64 x, .int .i64 ((2 ^ d : Nat) : Int)] w fun e w' => e = .returned (.tuple #[.agg #[.int .i64 x, .int .i64 (plo x (lev x) : Nat), .int .i64 (phi x (lev x) : Nat)], .bool true]) ∧ Below w.heap.size w w' := by
  have D := fun w => down_on x d hd hx w
  have h17 := two_pow_le (show d + 1 ≤ 17 by omega)
  have hlev := lev_is (x := x) (by omega)
  have hself := anc_self hlev
  have hl := (lev_root hx hlev).1
  have g0 := dnodes_get x d (d - lev x + 1) (d - lev x) 0 (by omega) (by omega)
  have g1 := dnodes_get x d (d - lev x + 1) (d - lev x) 1 (by omega) (by omega)
  have g2 := dnodes_get x d (d - lev x + 1) (d - lev x) 2 (by omega) (by omega)
  have e1 : d - (d - lev x) = lev x := by omega
  rw [e1, nodeC, hself] at g0 g1 g2
  obtain ⟨m, hm⟩ : ∃ m, m = d - lev x := ⟨_, rfl⟩
  have hm16 : m ≤ 16 := by omega
  rw [← hm] at D g0 g1 g2
  obtain ⟨lo, hlo⟩ : ∃ a, a = plo x (lev x) := ⟨_, rfl⟩
  obtain ⟨hi, hhi⟩ : ∃ a, a = phi x (lev x) := ⟨_, rfl⟩
  rw [← hlo, ← hhi] at g0 g1 g2 ⊢
  have G0 := Lib.hid g0
  have G1 := Lib.hid g1
  have G2 := Lib.hid g2
  have HD := Lib.hid D
  clear D g0 g1 g2 hm hlo hhi e1 hl hself hlev h17 hx
  go_enter Try.func64, Try.ntmps64
  go_wp2_with fail
  refine (HD.out _).mono ?_
  rintro e w' ⟨v, rfl, hown, hbel⟩
  obtain ⟨g, cap, rfl, hg, hgl, hn, hmx, hc, -⟩ := hown.out (by omega)
  have c0 := hc _ _ G0.out
  have c1 := hc _ _ G1.out
  have c2 := hc _ _ G2.out
  rw [Nat.add_zero] at c0
  have hb := boxAt hbel
  have HK : Hid (Blk w' w.heap.size 85 _) := Lib.hid hb
  have HB := Lib.hid hbel
  clear hc hown hbel hb
  go_wp2_with (refine wpList_store_blk rfl 85 (.tmp 4) (.tmp 19) rfl w.heap.size #[.int .i64 x, .int .i64 lo, .int .i64 hi] rfl rfl _ _ HK.out (by kernel_rfl) rfl rfl ?_)
  rintro w2 hk2 hb2 - -
  have HK2 := Lib.hid hk2
  have HB2 := Lib.hid (hb2 _ (Nat.le_refl _))
  clear hk2 hb2
  go_wp2_with fail
  refine bodyPost_ret (v := .tuple #[.agg #[.int .i64 x, .int .i64 lo, .int .i64 hi], .bool true]) (results_row2 Try.results64 _ _ w.heap.size _ _ _ rfl HK2.out Try.underlying85 rfl (by kernel_rfl)) rfl ⟨rfl, ?_⟩
  exact (((Below.refl _ _).alloc (Nat.le_refl _) _).trans (HB.out.mono (by simp))).trans HB2.out
end Go.Proofs.Ytohldijomcljkaa
/- Walks: the reference's Last of what is no node, Level, Children. -/
namespace Go.Proofs.Ytohldijomcljkaa
open Go.RowKit WalkM
set_option linter.unusedVariables false
set_option maxRecDepth 100000 in
set_option maxHeartbeats 1000000 in
theorem last_off (x n : Int) (w : World) (h1 : -9223372036854775808 ≤ n) (h2 : n ≤ 9223372036854775807) (ho : isOf x n = false) :
    Calls Try.prog 64 #[.int .i64 x, .int .i64 n] w fun e w' => e = .returned (.tuple #[.agg #[.int .i64 0, .int .i64 0, .int .i64 0], .bool false]) ∧ Below w.heap.size w w' := by
  have D := fun w => down_off x n w h1 h2 ho
  have HD := Lib.hid D
  clear D h1 h2 ho
  go_enter Try.func64, Try.ntmps64
  go_wp2_with fail
  refine (HD.out _).mono ?_
  rintro e w' ⟨rfl, rfl⟩
  go_wp2_with fail
  refine bodyPost_ret (v := .tuple #[.agg #[.int .i64 0, .int .i64 0, .int .i64 0], .bool false]) (results_row2 Try.results64 _ _ w.heap.size _ _ _ rfl (Blk.new _ _ _) Try.underlying85 rfl (by kernel_rfl)) rfl ⟨rfl, ?_⟩
  exact (Below.refl _ _).alloc (Nat.le_refl _) _
theorem isOf_most (x : Int) : isOf x 65536 = isNode x := by
  have h : fits (65536 : Int).toNat = true := by decide
  unfold isOf isNode
  rw [h, Bool.true_and]
  rfl
theorem last_most (x : Nat) (hx : x ≤ 131070) (w : World) :
    Calls Try.prog 64 #[.int .i64 x, .int .i64 65536] w fun e w' => e = .returned (.tuple #[.agg #[.int .i64 x, .int .i64 (plo x (lev x) : Nat), .int .i64 (phi x (lev x) : Nat)], .bool true]) ∧ Below w.heap.size w w' := by
  have h := last_on x 16 (by omega) (by omega) w
  have e : ((2 ^ 16 : Nat) : Int) = 65536 := by decide
  rw [e] at h
  exact h
theorem last_none (x : Int) (hx : isNode x = false) (w : World) :
    Calls Try.prog 64 #[.int .i64 x, .int .i64 65536] w fun e w' => e = .returned (.tuple #[.agg #[.int .i64 0, .int .i64 0, .int .i64 0], .bool false]) ∧ Below w.heap.size w w' :=
  last_off x 65536 w (by omega) (by omega) (by rw [isOf_most]; exact hx)
theorem half_pow {k : Nat} (h : 0 < k) : (((2 ^ (k + 1) - 1 : Nat) : Int)) / 2 = ((2 ^ k - 1 : Nat) : Int) := by
  have := pow_pos' k
  rw [Nat.pow_succ]; omega
end Go.Proofs.Ytohldijomcljkaa
/- Walks: the reference's Children. -/
namespace Go.Proofs.Ytohldijomcljkaa
open Go.RowKit WalkM
theorem kids_eq {x : Nat} (hx : x ≤ 131070) (h : 0 < lev x) : ((plo x (lev x) : Int) + x - 1) / 2 = leftZ x ∧ ((x : Int) + 1 + phi x (lev x)) / 2 = rightZ x ∧ plo x (lev x) < phi x (lev x) := by
  have hl := levZ_nat hx
  have hs := anc_self (lev_is hx)
  rw [anc_plo] at hs
  obtain ⟨k, hk⟩ : ∃ k, lev x = k + 1 := ⟨lev x - 1, by omega⟩
  have hh : halfZ x = ((2 ^ k : Nat) : Int) := by
    rw [halfZ, hl, if_pos (by omega), hk]
    simp
  have hp := pow_pos' k
  unfold leftZ rightZ phi
  rw [hh, if_neg (by omega), if_neg (by omega)]
  rw [hk] at hs ⊢
  have e1 : 2 ^ (k + 1) = 2 * 2 ^ k := by rw [Nat.pow_succ]; omega
  have e2 : 2 ^ (k + 1 + 1) = 4 * 2 ^ k := by rw [Nat.pow_succ, e1]; omega
  rw [e1] at hs
  rw [e2]
  refine ⟨?_, ?_, ?_⟩ <;> omega
theorem kids_none {x : Int} (h : ¬ 0 < levZ x) : leftZ x = -1 ∧ rightZ x = -1 := by
  have e : halfZ x = 0 := by rw [halfZ, if_neg h]
  unfold leftZ rightZ
  rw [e]
  exact ⟨rfl, rfl⟩
set_option maxRecDepth 100000 in
set_option maxHeartbeats 1000000 in
theorem kids_any (x : Int) (w : World) :
    Calls Try.prog 26 #[.int .i64 x] w fun e w' => e = .returned (.tuple #[.int .i64 (leftZ x), .int .i64 (rightZ x)]) ∧ Below w.heap.size w w' := by
  by_cases hx : 0 ≤ x ∧ x ≤ 131070
  · obtain ⟨m, rfl⟩ : ∃ m : Nat, x = (m : Int) := ⟨x.toNat, by omega⟩
    have hm : m ≤ 131070 := by omega
    have D := last_most m hm
    have hl16 := lev_le hm
    have hph := phi_le (x := m) (d := 16) (by omega) hl16
    by_cases hl : 0 < lev m
    · have hk := kids_eq hm hl
      obtain ⟨lo, hlo⟩ : ∃ a, a = plo m (lev m) := ⟨_, rfl⟩
      obtain ⟨hi, hhi⟩ : ∃ a, a = phi m (lev m) := ⟨_, rfl⟩
      rw [← hlo, ← hhi] at D hk
      rw [← hhi] at hph
      obtain ⟨k1, k2, k3⟩ := hk
      have hc : ((lo : Int) == (hi : Int)) = false := by rw [beq_eq_false_iff_ne]; omega
      have hhi17 : hi ≤ 131070 := by omega
      have hm1 : (1 : Int) ≤ (lo : Int) + (m : Int) := by
        rcases Nat.eq_zero_or_pos m with h | h
        · subst h; exact absurd hl (by decide)
        · omega
      rw [← k1, ← k2]
      have HD := Lib.hid D
      clear D hl hlo hhi hph k1 k2 hx hl16
      go_enter Try.func26, Try.ntmps26
      go_wp2_with fail
      refine (HD.out _).mono ?_
      rintro e w1 ⟨rfl, hb⟩
      have HB := Lib.hid hb
      clear hb
      go_wp2_with fail
      go_quiet (fail)
      go_wp2_with fail
      go_ret2
      exact ⟨rfl, below_drewN' (HB.out.alloc (by have := HB.out.size; omega) _) _⟩
    · have hlz := levZ_nat hm
      have hk := kids_none (x := (m : Int)) (by rw [hlz]; omega)
      have e0 : phi m (lev m) = plo m (lev m) := by unfold phi; rw [show lev m = 0 by omega]; rfl
      rw [hk.1, hk.2]
      obtain ⟨lo, hlo⟩ : ∃ a, a = plo m (lev m) := ⟨_, rfl⟩
      rw [e0, ← hlo] at D
      rw [e0, ← hlo] at hph
      have HD := Lib.hid D
      clear D hl hlo hk hx e0 hlz hl16
      go_enter Try.func26, Try.ntmps26
      go_wp2_with fail
      refine (HD.out _).mono ?_
      rintro e w1 ⟨rfl, hb⟩
      have HB := Lib.hid hb
      clear hb
      go_wp2_with fail
      go_ret2
      exact ⟨rfl, HB.out.alloc (by have := HB.out.size; omega) _⟩
  · have hn : isNode x = false := by rw [isNode, decide_eq_false]; exact hx
    have D := last_none x hn
    have e : levZ x = -1 := by rw [levZ, if_neg (by rw [hn]; simp)]
    have hk := kids_none (x := x) (by rw [e]; omega)
    rw [hk.1, hk.2]
    have HD := Lib.hid D
    clear D e hn hx hk
    go_enter Try.func26, Try.ntmps26
    go_wp2_with fail
    refine (HD.out _).mono ?_
    rintro e w1 ⟨rfl, hb⟩
    have HB := Lib.hid hb
    clear hb
    go_wp2_with fail
    go_ret2
    exact ⟨rfl, HB.out.alloc (by have := HB.out.size; omega) _⟩
end Go.Proofs.Ytohldijomcljkaa
/- Walks: the reference's Parent, Sibling. -/
namespace Go.Proofs.Ytohldijomcljkaa
open Go.RowKit WalkM
theorem dnodes_at (x d k i : Nat) (h : i < k) : (dnodes x d k)[i * 3]? = some (.int .i64 (anc x (d - i) : Nat)) := by
  have h := dnodes_get x d k i 0 h (by omega)
  rw [Nat.add_zero] at h
  exact h
set_option maxRecDepth 100000 in
set_option maxHeartbeats 1000000 in
theorem rparent_any (x n : Int) (w : World) (h1 : -9223372036854775808 ≤ n) (h2 : n ≤ 9223372036854775807) :
    Calls Try.prog 144 #[.int .i64 x, .int .i64 n] w fun e w' => e = .returned (.int .i64 (parZ x n)) ∧ Below w.heap.size w w' := by
  by_cases ho : isOf x n = true
  · obtain ⟨m, d, rfl, rfl, hd, hm⟩ := isOf_out ho
    have D := fun w => down_on m d hd hm w
    have h17 := two_pow_le (show d + 1 ≤ 17 by omega)
    have hl := (lev_root hm (lev_is (x := m) (by omega))).1
    rw [parZ_nat hd hm, nxt]
    have g0 := dnodes_at m d (d - lev m + 1) (d - lev m - 1)
    obtain ⟨l, hl'⟩ : ∃ l, l = lev m := ⟨_, rfl⟩
    rw [← hl'] at D hl g0 ⊢
    clear h17 hm h1 h2 ho hl'
    by_cases hlt : l < d
    · rw [if_pos hlt]
      have g := g0 (by omega)
      rw [show d - (d - l - 1) = l + 1 by omega] at g
      obtain ⟨k, hk⟩ : ∃ k, d - l = k + 1 := ⟨d - l - 1, by omega⟩
      rw [hk] at D g
      rw [show k + 1 - 1 = k by omega] at g
      have hk16 : k ≤ 16 := by omega
      obtain ⟨a, ha⟩ : ∃ a, a = anc m (l + 1) := ⟨_, rfl⟩
      rw [← ha] at g ⊢
      have G := Lib.hid g
      have HD := Lib.hid D
      clear D g g0 hlt hk ha hl
      go_enter Try.func144, Try.ntmps144
      go_wp2_with fail
      refine (HD.out _).mono ?_
      rintro e w1 ⟨v, rfl, hown, hb⟩
      obtain ⟨g, cap, rfl, hg, hgl, hn, hmx, hc, -⟩ := hown.out (by omega)
      have c0 := hc _ _ G.out
      have HB := Lib.hid hb
      clear hc hown hb
      go_wp2_with fail
      go_ret
      exact ⟨rfl, HB.out⟩
    · rw [if_neg hlt]
      obtain rfl : l = d := by omega
      have HD := Lib.hid D
      rw [show l - l = 0 by omega] at HD
      clear D g0 hlt
      go_enter Try.func144, Try.ntmps144
      go_wp2_with fail
      refine (HD.out _).mono ?_
      rintro e w1 ⟨v, rfl, hown, hb⟩
      obtain ⟨g, cap, rfl, hg, hgl, hn, hmx, hc, -⟩ := hown.out (by omega)
      have HB := Lib.hid hb
      clear hc hown hb
      go_wp2_with fail
      go_ret
      exact ⟨rfl, HB.out⟩
  · have hf : isOf x n = false := by rw [← Bool.not_eq_true]; exact ho
    have e : parZ x n = -1 := by rw [parZ, if_neg (by rw [hf]; simp)]
    rw [e]
    have HD := Lib.hid (fun w => down_off x n w h1 h2 hf)
    clear hf ho e h1 h2
    go_enter Try.func144, Try.ntmps144
    go_wp2_with fail
    refine (HD.out _).mono ?_
    rintro e w1 ⟨rfl, rfl⟩
    go_wp2_with fail
    go_ret
    exact ⟨rfl, Below.refl _ _⟩
/-- of a node's parent one child is the node itself -/
theorem kids_par {x n : Int} (h : 0 ≤ parZ x n) : (x < parZ x n → leftZ (parZ x n) = x) ∧ (¬ x < parZ x n → leftZ (parZ x n) ≠ x ∧ rightZ (parZ x n) = x) := by
  obtain ⟨ho, hr⟩ := (parZ_bd x n).2 h
  obtain ⟨m, d, rfl, rfl, hd, hm⟩ := isOf_out ho
  have h17 := two_pow_le (show d + 1 ≤ 17 by omega)
  have hlv := lev_is (x := m) (by omega)
  have hl := lev_root hm hlv
  have hs := anc_self hlv
  rw [parZ_nat hd hm, nxt]
  have hlt : lev m < d := by
    rcases Nat.lt_or_ge (lev m) d with h | h
    · exact h
    · exfalso
      apply hr
      have := hl.2.1 (by omega)
      have hp := pow_pos' d
      omega
  rw [if_pos hlt]
  have hh := halves m (lev m)
  have hal := anc_lev m (lev m + 1)
  have hle := anc_le (x := m) (d := d) (j := lev m + 1) (by omega) (by omega)
  rw [anc_plo] at hs
  obtain ⟨a, ha⟩ : ∃ a, a = anc m (lev m + 1) := ⟨_, rfl⟩
  rw [← ha] at hh hal hle ⊢
  have hla := lev_eq (by omega) hal
  have hz := levZ_nat (x := a) (by omega)
  have hp := pow_pos' (lev m)
  have e : halfZ (a : Int) = ((2 ^ lev m : Nat) : Int) := by
    rw [halfZ, hz, hla, if_pos (by omega)]
    simp
  unfold leftZ rightZ
  rw [e, if_neg (by omega), if_neg (by omega)]
  have he : phi m (lev m) = plo m (lev m) + (2 ^ (lev m + 1) - 2) := rfl
  rw [Nat.pow_succ] at he
  refine ⟨fun h => ?_, fun h => ⟨?_, ?_⟩⟩
  all_goals
    rcases hh with ⟨k1, k2, k3⟩ | ⟨k1, k2, k3⟩ <;> omega
set_option maxRecDepth 100000 in
set_option maxHeartbeats 1000000 in
theorem rsib_any (x n : Int) (w : World) (h1 : -9223372036854775808 ≤ n) (h2 : n ≤ 9223372036854775807) :
    Calls Try.prog 116 #[.int .i64 x, .int .i64 n] w fun e w' => e = .returned (.int .i64 (sibZ x n)) ∧ Below w.heap.size w w' := by
  have P := fun w => rparent_any x n w h1 h2
  have hk := @kids_par x n
  unfold sibZ
  obtain ⟨p, hp⟩ : ∃ p, p = parZ x n := ⟨_, rfl⟩
  rw [← hp] at P hk ⊢
  have K := fun w => kids_any p w
  have HP := Lib.hid P
  have HK := Lib.hid K
  clear P K hp h1 h2
  by_cases hn : p < 0
  · rw [if_pos hn]
    clear hk
    go_enter Try.func116, Try.ntmps116
    go_wp2_with fail
    refine (HP.out _).mono ?_
    rintro e w1 ⟨rfl, hb⟩
    have HB := Lib.hid hb
    clear hb
    go_wp2_with fail
    go_ret
    exact ⟨rfl, HB.out⟩
  · rw [if_neg hn]
    have hk := hk (by omega)
    obtain ⟨l, hl⟩ : ∃ l, l = leftZ p := ⟨_, rfl⟩
    obtain ⟨r, hr⟩ : ∃ r, r = rightZ p := ⟨_, rfl⟩
    rw [← hl, ← hr] at HK hk ⊢
    by_cases hx : x < p
    · rw [if_pos hx]
      obtain rfl := hk.1 hx
      clear hk hl hr hx
      go_enter Try.func116, Try.ntmps116
      go_wp2_with fail
      refine (HP.out _).mono ?_
      rintro e w1 ⟨rfl, hb⟩
      have HB := Lib.hid hb
      clear hb
      go_wp2_with fail
      refine (HK.out _).mono ?_
      rintro e w2 ⟨rfl, hb⟩
      have HB2 := Lib.hid hb
      clear hb
      go_wp2_with fail
      go_ret
      exact ⟨rfl, HB.out.trans (HB2.out.mono HB.out.size)⟩
    · rw [if_neg hx]
      have hc : (l == x) = false := by rw [beq_eq_false_iff_ne]; exact (hk.2 hx).1
      clear hk hl hr hx
      go_enter Try.func116, Try.ntmps116
      go_wp2_with fail
      refine (HP.out _).mono ?_
      rintro e w1 ⟨rfl, hb⟩
      have HB := Lib.hid hb
      clear hb
      go_wp2_with fail
      refine (HK.out _).mono ?_
      rintro e w2 ⟨rfl, hb⟩
      have HB2 := Lib.hid hb
      clear hb
      go_wp2_with fail
      go_ret
      exact ⟨rfl, HB.out.trans (HB2.out.mono HB.out.size)⟩
end Go.Proofs.Ytohldijomcljkaa
