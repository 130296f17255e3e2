/- Walks: the reference's Under, walk.Span. -/
import Derived.Test.YtbjfacfphgnhpaaWalkRPar
import Derived.Test.YtbjfacfphgnhpaaWalkUnder
namespace Go.Proofs.Ytbjfacfphgnhpaa
open Go.RowKit WalkM
theorem wide_nat {y : Nat} (hy : y ≤ 131070) : wideZ (y : Int) = ((2 ^ lev y - 1 : Nat) : Int) := by
  have := pow_pos' (lev y)
  have e : (2 : Int) ^ lev y = ((2 ^ lev y : Nat) : Int) := by simp
  rw [wideZ, levZ_nat hy, Int.toNat_natCast, e]
  omega
theorem und_nat {x y : Nat} (hx : x ≤ 131070) (hy : y ≤ 131070) : undZ (x : Int) (y : Int) = decide (plo y (lev y) ≤ x ∧ x ≤ phi y (lev y)) := by
  have h1 : isNode (x : Int) = true := by rw [isNode, decide_eq_true]; omega
  have h2 : isNode (y : Int) = true := by rw [isNode, decide_eq_true]; omega
  have hs := anc_self (lev_is hy)
  rw [anc_plo] at hs
  have he : phi y (lev y) = plo y (lev y) + (2 ^ (lev y + 1) - 2) := rfl
  rw [Nat.pow_succ] at he
  have hp := pow_pos' (lev y)
  rw [undZ, h1, h2, wide_nat hy, Bool.true_and, Bool.true_and]
  apply decide_eq_decide.2
  constructor
  · rintro ⟨a, b⟩; omega
  · rintro ⟨a, b⟩; omega
set_option maxRecDepth 100000 in
set_option maxHeartbeats 1000000 in
theorem runder_any (x y : Int) (w : World) :
    Calls Try.prog 36 #[.int .i64 x, .int .i64 y] w fun e w' => e = .returned (.bool (undZ x y)) ∧ Below w.heap.size w w' := by
  by_cases hx : isNode x = true
  · have hx' := of_decide_eq_true hx
    obtain ⟨m, rfl⟩ : ∃ m : Nat, x = (m : Int) := ⟨x.toNat, by omega⟩
    have hm : m ≤ 131070 := by omega
    have D := last_most m hm
    by_cases hy : isNode y = true
    · have hy' := of_decide_eq_true hy
      obtain ⟨q, rfl⟩ : ∃ q : Nat, y = (q : Int) := ⟨y.toNat, by omega⟩
      have hq : q ≤ 131070 := by omega
      have E := last_most q hq
      rw [und_nat hm hq]
      obtain ⟨lo, hlo⟩ : ∃ a, a = plo q (lev q) := ⟨_, rfl⟩
      obtain ⟨hi, hhi⟩ : ∃ a, a = phi q (lev q) := ⟨_, rfl⟩
      rw [← hlo, ← hhi] at E ⊢
      have HD := Lib.hid D
      have HE := Lib.hid E
      clear D E hlo hhi hx hy hx' hy'
      have hd : (lo ≤ m ∧ m ≤ hi) ∨ (lo ≤ m ∧ ¬ m ≤ hi) ∨ ¬ lo ≤ m := by omega
      rcases hd with ⟨c1, c2⟩ | ⟨c1, c2⟩ | c1
      · rw [decide_eq_true ⟨c1, c2⟩]
        have c1' : decide ((lo : Int) ≤ (m : Int)) = true := by rw [decide_eq_true]; omega
        have c2' : decide ((m : Int) ≤ (hi : Int)) = true := by rw [decide_eq_true]; omega
        go_enter Try.func36, Try.ntmps36
        go_wp2_with fail
        refine (HD.out _).mono ?_
        rintro e w1 ⟨rfl, hb⟩
        have HB := Lib.hid hb
        clear hb
        go_wp2_with fail
        refine (HE.out _).mono ?_
        rintro e w2 ⟨rfl, hb⟩
        have hk := boxAt hb
        have HB2 := Lib.hid hb
        have k0 := cell_of_row _ _ 0 _ _ _ hk
        simp only [List.getElem?_toArray, List.getElem?_cons_zero] at k0
        have z1 := HB.out.size
        have z2 := HB2.out.size
        have hz : w1.heap.size < w2.heap.size := by simp at z2; omega
        clear hb hk z2
        go_wp2_with fail
        go_ret
        refine ⟨rfl, ?_⟩
        exact ((HB.out.alloc z1 _).trans (HB2.out.mono (by simp; omega))).alloc (by omega) _
      · have e : decide (lo ≤ m ∧ m ≤ hi) = false := by rw [decide_eq_false]; omega
        rw [e]
        clear e
        have c1' : decide ((lo : Int) ≤ (m : Int)) = true := by rw [decide_eq_true]; omega
        have c2' : decide ((m : Int) ≤ (hi : Int)) = false := by rw [decide_eq_false]; omega
        go_enter Try.func36, Try.ntmps36
        go_wp2_with fail
        refine (HD.out _).mono ?_
        rintro e w1 ⟨rfl, hb⟩
        have HB := Lib.hid hb
        clear hb
        go_wp2_with fail
        refine (HE.out _).mono ?_
        rintro e w2 ⟨rfl, hb⟩
        have hk := boxAt hb
        have HB2 := Lib.hid hb
        have k0 := cell_of_row _ _ 0 _ _ _ hk
        simp only [List.getElem?_toArray, List.getElem?_cons_zero] at k0
        have z1 := HB.out.size
        have z2 := HB2.out.size
        have hz : w1.heap.size < w2.heap.size := by simp at z2; omega
        clear hb hk z2
        go_wp2_with fail
        go_ret
        refine ⟨rfl, ?_⟩
        exact ((HB.out.alloc z1 _).trans (HB2.out.mono (by simp; omega))).alloc (by omega) _
      · have e : decide (lo ≤ m ∧ m ≤ hi) = false := by rw [decide_eq_false]; omega
        rw [e]
        clear e
        have c1' : decide ((lo : Int) ≤ (m : Int)) = false := by rw [decide_eq_false]; omega
        go_enter Try.func36, Try.ntmps36
        go_wp2_with fail
        refine (HD.out _).mono ?_
        rintro e w1 ⟨rfl, hb⟩
        have HB := Lib.hid hb
        clear hb
        go_wp2_with fail
        refine (HE.out _).mono ?_
        rintro e w2 ⟨rfl, hb⟩
        have hk := boxAt hb
        have HB2 := Lib.hid hb
        have k0 := cell_of_row _ _ 0 _ _ _ hk
        simp only [List.getElem?_toArray, List.getElem?_cons_zero] at k0
        have z1 := HB.out.size
        have z2 := HB2.out.size
        have hz : w1.heap.size < w2.heap.size := by simp at z2; omega
        clear hb hk z2
        go_wp2_with fail
        go_ret
        refine ⟨rfl, ?_⟩
        exact ((HB.out.alloc z1 _).trans (HB2.out.mono (by simp; omega))).alloc (by omega) _
    · have hf : isNode y = false := by rw [← Bool.not_eq_true]; exact hy
      have E := last_none y hf
      have e : undZ m y = false := by rw [undZ, hf, Bool.and_false, Bool.false_and]
      rw [e]
      have HD := Lib.hid D
      have HE := Lib.hid E
      clear D E e hx hy hx' hf
      go_enter Try.func36, Try.ntmps36
      go_wp2_with fail
      refine (HD.out _).mono ?_
      rintro e w1 ⟨rfl, hb⟩
      have HB := Lib.hid hb
      clear hb
      go_wp2_with fail
      refine (HE.out _).mono ?_
      rintro e w2 ⟨rfl, hb⟩
      have hk := boxAt hb
      have HB2 := Lib.hid hb
      have k0 := cell_of_row _ _ 0 _ _ _ hk
      simp only [List.getElem?_toArray, List.getElem?_cons_zero] at k0
      have z1 := HB.out.size
      have z2 := HB2.out.size
      have hz : w1.heap.size < w2.heap.size := by simp at z2; omega
      clear hb hk z2
      go_wp2_with fail
      go_ret
      refine ⟨rfl, ?_⟩
      exact ((HB.out.alloc z1 _).trans (HB2.out.mono (by simp; omega))).alloc (by omega) _
  · have hf : isNode x = false := by rw [← Bool.not_eq_true]; exact hx
    have D := last_none x hf
    have e : undZ x y = false := by rw [undZ, hf, Bool.false_and, Bool.false_and]
    rw [e]
    have HD := Lib.hid D
    clear D e hx hf
    by_cases hy : isNode y = true
    · have hy' := of_decide_eq_true hy
      obtain ⟨q, rfl⟩ : ∃ q : Nat, y = (q : Int) := ⟨y.toNat, by omega⟩
      have hq : q ≤ 131070 := by omega
      have E := last_most q hq
      have HE := Lib.hid E
      clear E hy hy'
      go_enter Try.func36, Try.ntmps36
      go_wp2_with fail
      refine (HD.out _).mono ?_
      rintro e w1 ⟨rfl, hb⟩
      have HB := Lib.hid hb
      clear hb
      go_wp2_with fail
      refine (HE.out _).mono ?_
      rintro e w2 ⟨rfl, hb⟩
      have hk := boxAt hb
      have HB2 := Lib.hid hb
      have k0 := cell_of_row _ _ 0 _ _ _ hk
      simp only [List.getElem?_toArray, List.getElem?_cons_zero] at k0
      have z1 := HB.out.size
      have z2 := HB2.out.size
      have hz : w1.heap.size < w2.heap.size := by simp at z2; omega
      clear hb hk z2
      go_wp2_with fail
      go_ret
      refine ⟨rfl, ?_⟩
      exact ((HB.out.alloc z1 _).trans (HB2.out.mono (by simp; omega))).alloc (by omega) _
    · have hf : isNode y = false := by rw [← Bool.not_eq_true]; exact hy
      have E := last_none y hf
      have HE := Lib.hid E
      clear E hy hf
      go_enter Try.func36, Try.ntmps36
      go_wp2_with fail
      refine (HD.out _).mono ?_
      rintro e w1 ⟨rfl, hb⟩
      have HB := Lib.hid hb
      clear hb
      go_wp2_with fail
      refine (HE.out _).mono ?_
      rintro e w2 ⟨rfl, hb⟩
      have hk := boxAt hb
      have HB2 := Lib.hid hb
      have k0 := cell_of_row _ _ 0 _ _ _ hk
      simp only [List.getElem?_toArray, List.getElem?_cons_zero] at k0
      have z1 := HB.out.size
      have z2 := HB2.out.size
      have hz : w1.heap.size < w2.heap.size := by simp at z2; omega
      clear hb hk z2
      go_wp2_with fail
      go_ret
      refine ⟨rfl, ?_⟩
      exact ((HB.out.alloc z1 _).trans (HB2.out.mono (by simp; omega))).alloc (by omega) _
def spanZ (x : Int) : Int × Int := if isNode x = true then ((x - wideZ x) / 2, (x + wideZ x) / 2) else (-1, -1)
set_option maxRecDepth 100000 in
set_option maxHeartbeats 1000000 in
theorem span_any (x : Int) (w : World) :
    Calls Try.prog 42 #[.int .i64 x] w fun e w' => e = .returned (.tuple #[.int .i64 (spanZ x).1, .int .i64 (spanZ x).2]) ∧ w = w' := by
  have L := level_any x
  by_cases hx : isNode x = true
  · have hx' := of_decide_eq_true hx
    obtain ⟨m, rfl⟩ : ∃ m : Nat, x = (m : Int) := ⟨x.toNat, by omega⟩
    have hm : m ≤ 131070 := by omega
    rw [levZ_nat hm] at L
    rw [spanZ, if_pos hx, wide_nat hm]
    have hs := anc_self (lev_is hm)
    rw [anc_plo] at hs
    have hl := lev_le hm
    have hp := pow_pos' (lev m)
    have hq := two_pow_le (show lev m ≤ 16 by omega)
    have hw := wrap_pow (show lev m ≤ 17 by omega)
    have hw' := wrap_pow' (show lev m ≤ 17 by omega)
    have hsub : ((2 ^ lev m - 1 : Nat) : Int) = ((2 ^ lev m : Nat) : Int) - 1 := by omega
    obtain ⟨p, hp'⟩ : ∃ p, p = 2 ^ lev m := ⟨_, rfl⟩
    rw [← hp'] at hw hw' hp hq hs
    rw [hsub, ← hp']
    obtain ⟨l, hl'⟩ : ∃ l, l = lev m := ⟨_, rfl⟩
    rw [← hl'] at L hw hw' hl
    have hmp : (p : Int) ≤ (m : Int) + 1 := by omega
    have hmp' : 0 ≤ (m : Int) - ((p : Int) - 1) := by omega
    have HL := Lib.hid L
    clear L hx hx' hs hp' hl' hsub
    go_enter Try.func42, Try.ntmps42
    go_wp2_with fail
    refine (HL.out _).mono ?_
    rintro e w' ⟨rfl, rfl⟩
    go_wp2_with fail
    go_ret2
    exact ⟨rfl, rfl⟩
  · have e : levZ x = -1 := by rw [levZ, if_neg hx]
    rw [e] at L
    rw [spanZ, if_neg hx]
    have HL := Lib.hid L
    clear L e hx
    go_enter Try.func42, Try.ntmps42
    go_wp2_with fail
    refine (HL.out _).mono ?_
    rintro e w' ⟨rfl, rfl⟩
    go_wp2_with fail
    go_ret2
    exact ⟨rfl, rfl⟩
end Go.Proofs.Ytbjfacfphgnhpaa
