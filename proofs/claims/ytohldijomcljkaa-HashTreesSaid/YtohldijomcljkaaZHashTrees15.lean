/- Walks: the reference's Under, walk.Span. -/
import Derived.Test.YtohldijomcljkaaZHashTrees14
import Derived.Test.YtohldijomcljkaaZHashTrees12
import Derived.Test.YtohldijomcljkaaZHashTrees13
namespace Go.Proofs.Ytohldijomcljkaa
open Go.RowKit WalkM
theorem wide_nat {y : Nat} (hy : y ≤ 131070) : wideZ (y : Int) = ((2 ^ lev y - 1 : Nat) : Int) := by
  have := pow_pos' (lev y)
  have e : (2 : Int) ^ lev y = ((2 ^ lev y : Nat) : Int) := by simp
  rw [wideZ, levZ_nat hy, Int.toNat_natCast, e]
  omega
theorem und_nat {x y : Nat} (hx : x ≤ 131070) (hy : y ≤ 131070) : undZ (x : Int) (y : Int) = decide (plo y (lev y) ≤ x ∧ x ≤ phi y (lev y)) := by
  have h1 : isNode (x : Int) = true := by rw [isNode, decide_eq_true]; omega
  have h2 : isNode (y : Int) = true := by rw [isNode, decide_eq_true]; omega
  have hs := anc_self (lev_is hy)
  rw [anc_plo] at hs
  have he : phi y (lev y) = plo y (lev y) + (2 ^ (lev y + 1) - 2) := rfl
  rw [Nat.pow_succ] at he
  have hp := pow_pos' (lev y)
  rw [undZ, h1, h2, wide_nat hy, Bool.true_and, Bool.true_and]
  apply decide_eq_decide.2
  constructor
  · rintro ⟨a, b⟩; omega
  · rintro ⟨a, b⟩; omega
set_option maxRecDepth 100000 in
set_option maxHeartbeats 1000000 in
theorem runder_any (x y : Int) (w : World) :
    Calls Try.prog 41 #[.int .i64 x, .int .i64 y] w fun e w' => e = .returned (.bool (undZ x y)) ∧ Below w.heap.size w w' := by
  by_cases hx : isNode x = true
  · have hx' := of_decide_eq_true hx
    obtain ⟨m, rfl⟩ : ∃ m : Nat, x = (m : Int) := ⟨x.toNat, by omega⟩
    have hm : m ≤ 131070 := by omega
    have D := last_most m hm
    by_cases hy : isNode y = true
    · have hy' := of_decide_eq_true hy
      obtain ⟨q, rfl⟩ : ∃ q : Nat, y = (q : Int) := ⟨y.toNat, by omega⟩
      have hq : q ≤ 131070 := by omega
      have E := last_most q hq
      rw [und_nat hm hq]
      obtain ⟨lo, hlo⟩ : ∃ a, a = plo q (lev q) := ⟨_, rfl⟩
      obtain ⟨hi, hhi⟩ : ∃ a, a = phi q (lev q) := ⟨_, rfl⟩
      rw [← hlo, ← hhi] at E ⊢
      have HD := Lib.hid D
      have HE := Lib.hid E
      clear D E hlo hhi hx hy hx' hy'
      have hd : (lo ≤ m ∧ m ≤ hi) ∨ (lo ≤ m ∧ ¬ m ≤ hi) ∨ ¬ lo ≤ m := by omega
      rcases hd with ⟨c1, c2⟩ | ⟨c1, c2⟩ | c1
      · rw [decide_eq_true ⟨c1, c2⟩]
        have c1' : decide ((lo : Int) ≤ (m : Int)) = true := by rw [decide_eq_true]; omega
        have c2' : decide ((m : Int) ≤ (hi : Int)) = true := by rw [decide_eq_true]; omega
        go_enter Try.func41, Try.ntmps41
        go_wp2_with fail
        refine (HD.out _).mono ?_
        rintro e w1 ⟨rfl, hb⟩
        have HB := Lib.hid hb
        clear hb
        go_wp2_with fail
        refine (HE.out _).mono ?_
        rintro e w2 ⟨rfl, hb⟩
        have hk := boxAt hb
        have HB2 := Lib.hid hb
        have k0 := cell_of_row _ _ 0 _ _ _ hk
        simp only [List.getElem?_toArray, List.getElem?_cons_zero] at k0
        have z1 := HB.out.size
        have z2 := HB2.out.size
        have hz : w1.heap.size < w2.heap.size := by simp at z2; omega
        clear hb hk z2
        go_wp2_with fail
        go_ret
        refine ⟨rfl, ?_⟩
        exact ((HB.out.alloc z1 _).trans (HB2.out.mono (by simp; omega))).alloc (by omega) _
      · have e : decide (lo ≤ m ∧ m ≤ hi) = false := by rw [decide_eq_false]; omega
        rw [e]
        clear e
        have c1' : decide ((lo : Int) ≤ (m : Int)) = true := by rw [decide_eq_true]; omega
        have c2' : decide ((m : Int) ≤ (hi : Int)) = false := by rw [decide_eq_false]; omega
        go_enter Try.func41, Try.ntmps41
        go_wp2_with fail
        refine (HD.out _).mono ?_
        rintro e w1 ⟨rfl, hb⟩
        have HB := Lib.hid hb
        clear hb
        go_wp2_with fail
        refine (HE.out _).mono ?_
        rintro e w2 ⟨rfl, hb⟩
        have hk := boxAt hb
        have HB2 := Lib.hid hb
        have k0 := cell_of_row _ _ 0 _ _ _ hk
        simp only [List.getElem?_toArray, List.getElem?_cons_zero] at k0
        have z1 := HB.out.size
        have z2 := HB2.out.size
        have hz : w1.heap.size < w2.heap.size := by simp at z2; omega
        clear hb hk z2
        go_wp2_with fail
        go_ret
        refine ⟨rfl, ?_⟩
        exact ((HB.out.alloc z1 _).trans (HB2.out.mono (by simp; omega))).alloc (by omega) _
      · have e : decide (lo ≤ m ∧ m ≤ hi) = false := by rw [decide_eq_false]; omega
        rw [e]
        clear e
        have c1' : decide ((lo : Int) ≤ (m : Int)) = false := by rw [decide_eq_false]; omega
        go_enter Try.func41, Try.ntmps41
        go_wp2_with fail
        refine (HD.out _).mono ?_
        rintro e w1 ⟨rfl, hb⟩
        have HB := Lib.hid hb
        clear hb
        go_wp2_with fail
        refine (HE.out _).mono ?_
        rintro e w2 ⟨rfl, hb⟩
        have hk := boxAt hb
        have HB2 := Lib.hid hb
        have k0 := cell_of_row _ _ 0 _ _ _ hk
        simp only [List.getElem?_toArray, List.getElem?_cons_zero] at k0
        have z1 := HB.out.size
        have z2 := HB2.out.size
        have hz : w1.heap.size < w2.heap.size := by simp at z2; omega
        clear hb hk z2
        go_wp2_with fail
        go_ret
        refine ⟨rfl, ?_⟩
        exact ((HB.out.alloc z1 _).trans (HB2.out.mono (by simp; omega))).alloc (by omega) _
    · have hf : isNode y = false := by rw [← Bool.not_eq_true]; exact hy
      have E := last_none y hf
      have e : undZ m y = false := by rw [undZ, hf, Bool.and_false, Bool.false_and]
      rw [e]
      have HD := Lib.hid D
      have HE := Lib.hid E
      clear D E e hx hy hx' hf
      go_enter Try.func41, Try.ntmps41
      go_wp2_with fail
      refine (HD.out _).mono ?_
      rintro e w1 ⟨rfl, hb⟩
      have HB := Lib.hid hb
      clear hb
      go_wp2_with fail
      refine (HE.out _).mono ?_
      rintro e w2 ⟨rfl, hb⟩
      have hk := boxAt hb
      have HB2 := Lib.hid hb
      have k0 := cell_of_row _ _ 0 _ _ _ hk
      simp only [List.getElem?_toArray, List.getElem?_cons_zero] at k0
      have z1 := HB.out.size
      have z2 := HB2.out.size
      have hz : w1.heap.size < w2.heap.size := by simp at z2; omega
      clear hb hk z2
      go_wp2_with fail
      go_ret
      refine ⟨rfl, ?_⟩
      exact ((HB.out.alloc z1 _).trans (HB2.out.mono (by simp; omega))).alloc (by omega) _
  · have hf : isNode x = false := by rw [← Bool.not_eq_true]; exact hx
    have D := last_none x hf
    have e : undZ x y = false := by rw [undZ, hf, Bool.false_and, Bool.false_and]
    rw [e]
    have HD := Lib.hid D
    clear D e hx hf
    by_cases hy : isNode y = true
    · have hy' := of_decide_eq_true hy
      obtain ⟨q, rfl⟩ : ∃ q : Nat, y = (q : Int) := ⟨y.toNat, by omega⟩
      have hq : q ≤ 131070 := by omega
      have E := last_most q hq
      have HE := Lib.hid E
      clear E hy hy'
      go_enter Try.func41, Try.ntmps41
      go_wp2_with fail
      refine (HD.out _).mono ?_
      rintro e w1 ⟨rfl, hb⟩
      have HB := Lib.hid hb
      clear hb
      go_wp2_with fail
      refine (HE.out _).mono ?_
      rintro e w2 ⟨rfl, hb⟩
      have hk := boxAt hb
      have HB2 := Lib.hid hb
      have k0 := cell_of_row _ _ 0 _ _ _ hk
      simp only [List.getElem?_toArray, List.getElem?_cons_zero] at k0
      have z1 := HB.out.size
      have z2 := HB2.out.size
      have hz : w1.heap.size < w2.heap.size := by simp at z2; omega
      clear hb hk z2
      go_wp2_with fail
      go_ret
      refine ⟨rfl, ?_⟩
      exact ((HB.out.alloc z1 _).trans (HB2.out.mono (by simp; omega))).alloc (by omega) _
    · have hf : isNode y = false := by rw [← Bool.not_eq_true]; exact hy
      have E := last_none y hf
      have HE := Lib.hid E
      clear E hy hf
      go_enter Try.func41, Try.ntmps41
      go_wp2_with fail
      refine (HD.out _).mono ?_
      rintro e w1 ⟨rfl, hb⟩
      have HB := Lib.hid hb
      clear hb
      go_wp2_with fail
      refine (HE.out _).mono ?_
      rintro e w2 ⟨rfl, hb⟩
      have hk := boxAt hb
      have HB2 := Lib.hid hb
      have k0 := cell_of_row _ _ 0 _ _ _ hk
      simp only [List.getElem?_toArray, List.getElem?_cons_zero] at k0
      have z1 := HB.out.size
      have z2 := HB2.out.size
      have hz : w1.heap.size < w2.heap.size := by simp at z2; omega
      clear hb hk z2
      go_wp2_with fail
      go_ret
      refine ⟨rfl, ?_⟩
      exact ((HB.out.alloc z1 _).trans (HB2.out.mono (by simp; omega))).alloc (by omega) _
def spanZ (x : Int) : Int × Int := if isNode x = true then ((x - wideZ x) / 2, (x + wideZ x) / 2) else (-1, -1)
end Go.Proofs.Ytohldijomcljkaa
/- Plain mathematics: the lowest node above two. -/
namespace Go.Proofs.Ytohldijomcljkaa
open Go.RowKit WalkM
/-- the level of the lowest node above both -/
def com (x y : Nat) : Nat := ((List.range 17).find? fun j => decide (lev x ≤ j) && (decide (lev y ≤ j) && (anc x j == anc y j))).getD 0
def IsCom (x y j : Nat) : Prop := lev x ≤ j ∧ lev y ≤ j ∧ anc x j = anc y j ∧ ∀ i, lev x ≤ i → lev y ≤ i → i < j → anc x i ≠ anc y i
theorem com_of {x y j : Nat} (hj : j ≤ 16) (h : IsCom x y j) : com x y = j := by
  obtain ⟨h1, h2, h3, h4⟩ := h
  have e : (List.range 17).find? (fun j => decide (lev x ≤ j) && (decide (lev y ≤ j) && (anc x j == anc y j))) = some j := by
    rw [List.find?_range_eq_some]
    refine ⟨by simp [h1, h2, h3], List.mem_range.2 (by omega), ?_⟩
    intro i hi
    by_cases a : lev x ≤ i
    · by_cases b : lev y ≤ i
      · simp [h4 i a b hi]
      · simp [b]
    · simp [a]
  rw [com, e]; rfl
theorem com_symm (x y : Nat) : com x y = com y x := by
  unfold com
  congr 2
  funext j
  rw [Bool.eq_iff_iff]
  simp only [Bool.and_eq_true, decide_eq_true_eq, beq_iff_eq]
  constructor
  · rintro ⟨a, b, c⟩; exact ⟨b, a, c.symm⟩
  · rintro ⟨a, b, c⟩; exact ⟨b, a, c.symm⟩
theorem anc_up {x y i j : Nat} (h : anc x i = anc y i) (hij : i ≤ j) : anc x j = anc y j := by
  rw [← anc_anc (x := x) hij, h, anc_anc hij]
/-- what is beneath an ancestor -/
theorem und_anc {x y d j : Nat} (hd : d ≤ 16) (hx : x + 1 < 2 ^ (d + 1)) (hy : y + 1 < 2 ^ (d + 1)) (hj : j ≤ d) : undZ (y : Int) (anc x j : Nat) = decide (lev y ≤ j ∧ anc x j = anc y j) := by
  have h17 := two_pow_le (show d + 1 ≤ 17 by omega)
  have hle := anc_le (show x < 2 ^ (d + 1) by omega) hj
  have hal := anc_lev x j
  have hyl := lev_is (x := y) (by omega)
  rw [und_nat (by omega) (by omega), lev_eq (by omega) hal]
  have e1 : plo (anc x j) j = plo x j := by unfold plo; rw [anc_div (Nat.le_refl j)]
  have e2 : phi (anc x j) j = phi x j := by unfold phi; rw [e1]
  rw [e1, e2]
  apply decide_eq_decide.2
  have hp := pow_pos' (j + 1)
  have hb := anc_bounds y j
  have hm := Nat.div_add_mod y (2 ^ (j + 1))
  have hm2 := Nat.mod_lt y hp
  constructor
  · rintro ⟨a, b⟩
    have hq : y / 2 ^ (j + 1) = x / 2 ^ (j + 1) := by
      unfold phi plo at b
      unfold plo at a
      refine (Nat.div_eq_of_lt_le ?_ ?_)
      · exact a
      · rw [Nat.add_mul, Nat.one_mul]
        have := pow_pos' j
        have e4 : 2 ^ (j + 1) = 2 * 2 ^ j := by rw [Nat.pow_succ]; omega
        omega
    refine ⟨?_, by unfold anc; rw [hq]⟩
    rcases Nat.lt_or_ge j (lev y) with hlt | hge
    · exfalso
      unfold IsLev at hyl
      have h1 : y % 2 ^ (j + 1) = 2 ^ (j + 1) - 1 := by
        have h2 : y % 2 ^ (lev y + 1) % 2 ^ (j + 1) = y % 2 ^ (j + 1) := Nat.mod_mod_of_dvd _ (Nat.pow_dvd_pow 2 (by omega))
        rw [hyl, ones_mod (by omega)] at h2
        exact h2.symm
      unfold phi plo at b
      rw [← hq, Nat.mul_comm] at b
      have := pow_pos' j
      have e4 : 2 ^ (j + 1) = 2 * 2 ^ j := by rw [Nat.pow_succ]; omega
      omega
    · exact hge
  · rintro ⟨a, b⟩
    have hq : x / 2 ^ (j + 1) = y / 2 ^ (j + 1) := by
      rw [← anc_div (x := x) (Nat.le_refl j), b, anc_div (Nat.le_refl j)]
    unfold phi plo
    rw [hq]
    refine ⟨hb.1, ?_⟩
    have e4 : 2 ^ (j + 1) = 2 * 2 ^ j := by rw [Nat.pow_succ]; omega
    have hpj := pow_pos' j
    have hne : y % 2 ^ (j + 1) ≠ 2 ^ (j + 1) - 1 := by
      intro h
      unfold IsLev at hyl
      have h2 : y % 2 ^ (j + 1) % 2 ^ (lev y + 1) = y % 2 ^ (lev y + 1) := Nat.mod_mod_of_dvd _ (Nat.pow_dvd_pow 2 (by omega))
      rw [h, ones_mod (by omega), hyl, Nat.pow_succ] at h2
      have := pow_pos' (lev y)
      omega
    rw [Nat.mul_comm] at hm
    omega
theorem com_ex {x y d : Nat} (hd : d ≤ 16) (hx : x + 1 < 2 ^ (d + 1)) (hy : y + 1 < 2 ^ (d + 1)) : IsCom x y (com x y) ∧ com x y ≤ d := by
  have h17 := two_pow_le (show d + 1 ≤ 17 by omega)
  have hlx := (lev_root hx (lev_is (by omega))).1
  have hly := (lev_root hy (lev_is (by omega))).1
  have hr : anc x d = anc y d := by rw [anc_root (by omega), anc_root (by omega)]
  -- the least one
  have key : ∀ k, (∃ j, j ≤ d ∧ IsCom x y j) ∨ ∀ i, i < k → ¬ (lev x ≤ i ∧ lev y ≤ i ∧ anc x i = anc y i ∧ i ≤ d) := by
    intro k
    induction k with
    | zero => right; intro i hi; omega
    | succ k ih =>
      rcases ih with h | h
      · exact .inl h
      · by_cases hk : lev x ≤ k ∧ lev y ≤ k ∧ anc x k = anc y k ∧ k ≤ d
        · left
          refine ⟨k, hk.2.2.2, hk.1, hk.2.1, hk.2.2.1, ?_⟩
          intro i h1 h2 hik h3
          exact h i hik ⟨h1, h2, h3, by omega⟩
        · right
          intro i hi
          by_cases e : i = k
          · subst e; exact hk
          · exact h i (by omega)
  rcases key (d + 1) with ⟨j, hj, h⟩ | h
  · rw [com_of (by omega) h]; exact ⟨h, hj⟩
  · exact absurd ⟨hlx, hly, hr, Nat.le_refl _⟩ (h d (by omega))
def comZ (x y n : Int) : Int := if (isOf x n && isOf y n) = true then (anc x.toNat (com x.toNat y.toNat) : Nat) else -1
theorem comZ_symm (x y n : Int) : comZ x y n = comZ y x n := by
  unfold comZ
  by_cases h : (isOf x n && isOf y n) = true
  · rw [if_pos h]
    rw [Bool.and_comm] at h
    rw [if_pos h]
    rw [Bool.and_eq_true] at h
    obtain ⟨m, d, rfl, rfl, hd, hm⟩ := isOf_out h.1
    have h2 := isOf_bd h.2
    obtain ⟨q, rfl⟩ : ∃ q : Nat, x = (q : Int) := ⟨x.toNat, by omega⟩
    have h3 := h.2
    rw [isOf_nat hd, decide_eq_true_eq] at h3
    rw [Int.toNat_natCast, Int.toNat_natCast]
    have hc := com_ex hd h3 hm
    rw [hc.1.2.2.1, com_symm]
  · rw [if_neg h]
    rw [Bool.and_comm] at h
    rw [if_neg h]
end Go.Proofs.Ytohldijomcljkaa
/- Plain: which late leaves a parent of a tree may have. -/
namespace Go.Proofs.Ytohldijomcljkaa
open Go.RowKit WalkM
set_option linter.unusedVariables false
/-- a late leaf of a node is late in all parents between -/
def LateP (t : List NodeD) (x : Nat) (u : Int) : Prop :=
  u < (leavesN t.length : Int) ∧ undZ (2 * u) (x : Int) = true ∧ (nd t (2 * u).toNat).kind ≠ 0 ∧ ∀ y, y < t.length → (nd t y).kind = 2 → undZ (2 * u) (y : Int) = true → undZ (y : Int) (x : Int) = true → u ∈ (nd t y).par.late
def lateUB (t : List NodeD) (x : Nat) (u : Int) : Bool :=
  decide (u < (leavesN t.length : Int)) && (undZ (2 * u) (x : Int) && (decide ((nd t (2 * u).toNat).kind ≠ 0) && (List.range t.length).all fun y => !(decide ((nd t y).kind = 2) && (undZ (2 * u) (y : Int) && undZ (y : Int) (x : Int))) || decide (u ∈ (nd t y).par.late)))
theorem lateUB_iff (t : List NodeD) (x : Nat) (u : Int) : lateUB t x u = true ↔ LateP t x u := by
  unfold lateUB LateP
  simp only [Bool.and_eq_true, decide_eq_true_iff, List.all_eq_true, List.mem_range, Bool.or_eq_true, Bool.not_eq_true', Bool.and_eq_false_imp]
  constructor
  · rintro ⟨h1, h2, h3, h4⟩
    refine ⟨h1, h2, h3, fun y hy k1 k2 k3 => ?_⟩
    rcases h4 y hy with h | h
    · have := h k1 k2; rw [k3] at this; cases this
    · exact h
  · rintro ⟨h1, h2, h3, h4⟩
    refine ⟨h1, h2, h3, fun y hy => ?_⟩
    by_cases hm : u ∈ (nd t y).par.late
    · exact .inr hm
    · refine .inl fun k1 k2 => ?_
      cases k3 : undZ (y : Int) (x : Int) with
      | false => rfl
      | true => exact absurd (h4 y hy k1 k2 k3) hm
def lateTB (t : List NodeD) (x : Nat) : Bool := (nd t x).par.late.all (lateUB t x)
theorem lateTB_yes {t : List NodeD} {x : Nat} (h : ∀ u ∈ (nd t x).par.late, LateP t x u) : lateTB t x = true := List.all_eq_true.2 fun u hu => (lateUB_iff t x u).2 (h u hu)
theorem lateTB_out {t : List NodeD} {x : Nat} (h : lateTB t x = true) : ∀ u ∈ (nd t x).par.late, LateP t x u := fun u hu => (lateUB_iff t x u).1 (List.all_eq_true.1 h u hu)
theorem lateTB_no {t : List NodeD} {x : Nat} {u : Int} (hu : u ∈ (nd t x).par.late) (h : ¬ LateP t x u) : lateTB t x = false := by
  cases hb : lateTB t x with
  | false => rfl
  | true => exact absurd (lateTB_out hb u hu) h
theorem right_kind {d : NodeD} (h : rightB d = true) : d.kind = 0 ∨ d.kind = 1 ∨ d.kind = 2 := by
  unfold rightB at h
  by_cases h0 : d.kind = 0
  · exact .inl h0
  · by_cases h1 : d.kind = 1
    · exact .inr (.inl h1)
    · by_cases h2 : d.kind = 2
      · exact .inr (.inr h2)
      · simp only [h0, h1, h2, if_false] at h; cases h
theorem right_nolate {d : NodeD} (h : rightB d = true) (hk : d.kind ≠ 2) : d.par.late = [] := by
  unfold rightB at h
  have key : npB d.par.box.length d.par.hash.length d.par.late.length = true → d.par.late = [] := by
    intro h
    have := of_decide_eq_true h
    exact List.eq_nil_of_length_eq_zero (by omega)
  rcases right_kind (d := d) (by unfold rightB; exact h) with h0 | h1 | h2
  · simp only [h0, if_true, Bool.and_eq_true] at h
    exact key h.2
  · simp only [h1, if_true, Nat.one_ne_zero, if_false, Bool.and_eq_true] at h
    exact key h.2
  · exact absurd h2 hk
theorem right_late {d : NodeD} (h : rightB d = true) : lateB d.par.late = true := by
  by_cases hk : d.kind = 2
  · have h' : (nlB d.leaf.box.length d.leaf.sign.length d.leaf.ident.length d.leaf.source d.leaf.par.length d.leaf.sig.length && rpB d.par.box.length d.par.hash.length d.par.late) = true := by
      have h2 := h
      unfold rightB at h2
      rw [hk] at h2
      exact h2
    rw [Bool.and_eq_true] at h'
    have h2 := h'.2
    unfold rpB at h2
    rw [Bool.and_eq_true] at h2
    exact h2.1
  · rw [right_nolate h hk]; rfl
theorem lateB_sort {L : List Int} (h : lateB L = true) : SortI L := by
  have hp := (lateB_iff L).1 h
  intro i j hij hj
  induction j with
  | zero => omega
  | succ j ih =>
    have h1 := (hp (j + 1) hj).1
    unfold prevZ at h1
    rw [if_neg (by omega), Nat.add_sub_cancel] at h1
    by_cases e : i = j
    · rw [e]; exact h1
    · have := ih (by omega) (by omega); omega
theorem lev_even {q : Nat} (h : q % 2 = 0) (hq : q ≤ 131070) : lev q = 0 := lev_eq hq (by unfold IsLev; simp; omega)
theorem lev_pos {q : Nat} (h : q % 2 = 1) (hq : q ≤ 131070) : 1 ≤ lev q := by
  rcases Nat.eq_zero_or_pos (lev q) with h0 | h0
  · have := lev_is hq
    rw [h0] at this
    unfold IsLev at this
    simp at this; omega
  · exact h0
theorem anc_odd (x : Nat) {j : Nat} (h : 1 ≤ j) : anc x j % 2 = 1 := by
  have h1 : 2 ^ (j + 1) % 2 = 0 := by rw [Nat.pow_succ]; omega
  have h2 : 2 ^ j % 2 = 0 := by
    obtain ⟨k, rfl⟩ : ∃ k, j = k + 1 := ⟨j - 1, by omega⟩
    rw [Nat.pow_succ]; omega
  have h3 := pow_pos' j
  unfold anc
  rw [Nat.add_mod, Nat.mul_mod, h1, Nat.mul_zero, Nat.zero_mod, Nat.zero_add, Nat.mod_mod]
  omega
/-- a leaf's place under a node: the node is on the leaf's way up -/
theorem und_leaf {q x d : Nat} (hd : d ≤ 16) (hq : q + 1 < 2 ^ (d + 1)) (hx : x + 1 < 2 ^ (d + 1)) (he : q % 2 = 0) : undZ (q : Int) (x : Int) = decide (x = anc q (lev x)) := by
  have h17 := two_pow_le (show d + 1 ≤ 17 by omega)
  have hx2 : x ≤ 131070 := by omega
  have hl := (lev_root hx (lev_is hx2)).1
  have e := und_anc hd hx hq hl
  rw [anc_self (lev_is hx2)] at e
  rw [e, lev_even he (by omega)]
  congr 1
  simp
end Go.Proofs.Ytohldijomcljkaa
/- Plain: the nodes between a leaf and a parent of it. -/
namespace Go.Proofs.Ytohldijomcljkaa
open Go.RowKit WalkM
set_option linter.unusedVariables false
theorem placed_at {t : List NodeD} (hp : placedB t = true) {x : Nat} (hx : x < t.length) : (nd t x).kind ≠ otherK x ∧ rightB (nd t x) = true := (placedB_iff t).1 hp x hx
theorem placed_two {t : List NodeD} (hp : placedB t = true) {x : Nat} (hx : x < t.length) (hk : (nd t x).kind = 2) : x % 2 = 1 := by
  rcases Nat.mod_two_eq_zero_or_one x with h | h
  · have := (placed_at hp hx).1
    rw [otherK_even h] at this
    exact absurd hk this
  · exact h
theorem placed_odd {t : List NodeD} (hp : placedB t = true) {x : Nat} (hx : x < t.length) (ho : x % 2 = 1) (hk : (nd t x).kind ≠ 0) : (nd t x).kind = 2 := by
  obtain ⟨h1, h2⟩ := placed_at hp hx
  rw [otherK_odd ho] at h1
  rcases right_kind h2 with h | h | h
  · exact absurd h hk
  · exact absurd h h1
  · exact h
theorem placed_late {t : List NodeD} (hp : placedB t = true) {x : Nat} (hx : x < t.length) {u : Int} (hu : u ∈ (nd t x).par.late) : (nd t x).kind = 2 ∧ ∃ m : Nat, u = (m : Int) ∧ m < 65536 := by
  obtain ⟨_, h2⟩ := placed_at hp hx
  refine ⟨?_, ?_⟩
  · by_cases hk : (nd t x).kind = 2
    · exact hk
    · rw [right_nolate h2 hk] at hu; cases hu
  · obtain ⟨h0, h1⟩ := late_bd (right_late h2) u hu
    exact ⟨u.toNat, by omega, by omega⟩
theorem way_iff {t : List NodeD} {d m x : Nat} (hd : d ≤ 16) (hl : t.length + 1 = 2 * 2 ^ d) (hp : placedB t = true) (hx : x < t.length) (hm : 2 * m < t.length) (hu : (m : Int) ∈ (nd t x).par.late) (hund : undZ ((2 * m : Nat) : Int) (x : Int) = true) :
    (∀ i, 1 ≤ i → i < lev x → (nd t (anc (2 * m) i)).kind ≠ 0 → (m : Int) ∈ (nd t (anc (2 * m) i)).par.late) ↔ (∀ y, y < t.length → (nd t y).kind = 2 → undZ ((2 * m : Nat) : Int) (y : Int) = true → undZ (y : Int) (x : Int) = true → (m : Int) ∈ (nd t y).par.late) := by
  have h17 := two_pow_le (show d + 1 ≤ 17 by omega)
  have e2 : 2 ^ (d + 1) = 2 * 2 ^ d := by rw [Nat.pow_succ]; omega
  have hx1 : x + 1 < 2 ^ (d + 1) := by omega
  have hm1 : 2 * m + 1 < 2 ^ (d + 1) := by omega
  have hx2 : x ≤ 131070 := by omega
  have hlx := (lev_root hx1 (lev_is hx2)).1
  rw [und_leaf hd hm1 hx1 (by omega), decide_eq_true_iff] at hund
  constructor
  · intro h y hy hk k1 k2
    have hy1 : y + 1 < 2 ^ (d + 1) := by omega
    have hy2 : y ≤ 131070 := by omega
    have hyo := placed_two hp hy hk
    have hly := lev_pos hyo hy2
    rw [und_leaf hd hm1 hy1 (by omega), decide_eq_true_iff] at k1
    have e := und_anc (x := 2 * m) hd hm1 hy1 hlx
    rw [← hund] at e
    rw [e, decide_eq_true_iff] at k2
    obtain ⟨q1, q2⟩ := k2
    by_cases hle : lev y = lev x
    · rw [← hle, anc_self (lev_is hy2)] at q2
      rw [← q2]
      exact hu
    · have := h (lev y) hly (by omega) (by rw [← k1, hk]; omega)
      rw [← k1] at this
      exact this
  · intro h i hi1 hi2 hk
    have hy1 := anc_le (show 2 * m < 2 ^ (d + 1) by omega) (show i ≤ d by omega)
    have hy2 : anc (2 * m) i ≤ 131070 := by omega
    have hyl : anc (2 * m) i < t.length := by omega
    have hlev : lev (anc (2 * m) i) = i := lev_eq hy2 (anc_lev _ _)
    refine h _ hyl (placed_odd hp hyl (anc_odd _ hi1) hk) ?_ ?_
    · rw [und_leaf hd hm1 hy1 (by omega), decide_eq_true_iff, hlev]
    · have e := und_anc (x := 2 * m) hd hm1 hy1 hlx
      rw [← hund] at e
      rw [e, decide_eq_true_iff, hlev]
      refine ⟨by omega, ?_⟩
      rw [anc_anc (by omega), ← hund]
theorem lateP_nat {t : List NodeD} {d m x : Nat} (hd : d ≤ 16) (hl : t.length + 1 = 2 * 2 ^ d) : LateP t x (m : Int) ↔ m < 2 ^ d ∧ undZ ((2 * m : Nat) : Int) (x : Int) = true ∧ (nd t (2 * m)).kind ≠ 0 ∧ ∀ y, y < t.length → (nd t y).kind = 2 → undZ ((2 * m : Nat) : Int) (y : Int) = true → undZ (y : Int) (x : Int) = true → (m : Int) ∈ (nd t y).par.late := by
  unfold LateP
  rw [leavesN_pow hd hl, show (2 : Int) * (m : Int) = ((2 * m : Nat) : Int) by omega, Int.toNat_natCast, Int.ofNat_lt]
end Go.Proofs.Ytohldijomcljkaa
