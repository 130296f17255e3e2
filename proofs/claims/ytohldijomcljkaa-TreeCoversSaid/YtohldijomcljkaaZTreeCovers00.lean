/- Plain: what a node resolves to covers each member beneath it just once. -/
import Derived.Test.YtohldijomcljkaaZTreeResolves20
import Derived.Test.YtohldijomcljkaaZTreeRight00
import Derived.Test.YtohldijomcljkaaZTreeResolves18
namespace Go.Proofs.Ytohldijomcljkaa
open Go.RowKit WalkM WireM
set_option linter.unusedVariables false
/-- y lies beneath the node x of the level k -/
def inR (k x y : Nat) : Prop := x + 1 ≤ y + 2 ^ k ∧ y < x + 2 ^ k
instance decInR (k x y : Nat) : Decidable (inR k x y) := inferInstanceAs (Decidable (_ ∧ _))
theorem und_inR {x y k : Nat} (hx : x ≤ 131070) (hy : y ≤ 131070) (hl : IsLev x k) : undZ (y : Int) (x : Int) = true ↔ inR k x y := by
  have hlx := lev_eq hx hl
  rw [und_nat hy hx, hlx, decide_eq_true_iff]
  have hs := anc_self hl
  rw [anc_plo] at hs
  have e : phi x k = plo x k + (2 ^ (k + 1) - 2) := rfl
  have e1 : 2 ^ (k + 1) = 2 * 2 ^ k := by rw [Nat.pow_succ]; omega
  have hp : 0 < 2 ^ k := Nat.pos_of_ne_zero (by simp)
  unfold inR
  omega
/-- what one node that was resolved to counts for a member -/
def contr (t : List NodeD) (m : Nat) (r : Int) : Int :=
  if r = 2 * (m : Int) then 1 else if undZ (2 * (m : Int)) r = true then 1 - ((nd t r.toNat).par.late.count (m : Int) : Int) else 0
def covS (t : List NodeD) (m : Nat) (L : List Int) : Int := (L.map (contr t m)).sum
theorem covS_app (t : List NodeD) (m : Nat) (L M : List Int) : covS t m (L ++ M) = covS t m L + covS t m M := by
  unfold covS; rw [List.map_append, List.sum_append]
theorem covS_cons (t : List NodeD) (m : Nat) (r : Int) (L : List Int) : covS t m (r :: L) = contr t m r + covS t m L := by
  unfold covS; rw [List.map_cons, List.sum_cons]
/-- a late list rises: each leaf is in it once at most -/
theorem late_count {L : List Int} (h : L.Pairwise (· < ·)) (m : Int) : L.count m = if m ∈ L then 1 else 0 := by
  induction L with
  | nil => simp
  | cons x L ih =>
    rw [List.pairwise_cons] at h
    rw [List.count_cons, ih h.2]
    by_cases e : x = m
    · subst e
      have : x ∉ L := fun hx => by have := h.1 x hx; omega
      simp [this]
    · simp [Ne.symm e, show (x == m) = false from beq_eq_false_iff_ne.2 e]
theorem late_rises {L : List Int} (h : lateB L = true) : L.Pairwise (· < ·) := by
  rw [lateB_iff] at h
  have key : ∀ j, ∀ i, i < j → j < L.length → L.getD i 0 < L.getD j 0 := by
    intro j
    induction j with
    | zero => intro i hi; omega
    | succ j ih =>
      intro i hi hj
      have h1 := (h (j + 1) hj).1
      unfold prevZ at h1
      rw [if_neg (by omega), Nat.add_sub_cancel] at h1
      by_cases e : i = j
      · subst e; exact h1
      · have := ih i (by omega) (by omega); omega
  rw [List.pairwise_iff_getElem]
  intro i j hi hj hij
  have := key j i hij hj
  simpa [List.getD_eq_getElem?_getD, hi, hj] using this
/-- late leaves count where they are the member -/
theorem cov_late {t : List NodeD} {m : Nat} : ∀ (L : List Int), (∀ u ∈ L, ∃ i : Nat, u = (i : Int) ∧ (i ≠ m → undZ (2 * (m : Int)) (2 * u) = false)) → L.Pairwise (· < ·) → covS t m (L.map fun u => 2 * u) = if (m : Int) ∈ L then 1 else 0
  | [], _, _ => by simp [covS]
  | u :: L, h, hp => by
    rw [List.pairwise_cons] at hp
    have ih := cov_late (t := t) (m := m) L (fun v hv => h v (List.mem_cons_of_mem _ hv)) hp.2
    obtain ⟨i, rfl, hi⟩ := h u (List.mem_cons_self)
    rw [List.map_cons, covS_cons, ih]
    by_cases e : i = m
    · subst e
      have : (i : Int) ∉ L := fun hx => by have := hp.1 _ hx; omega
      unfold contr
      rw [if_pos rfl, if_neg this, if_pos List.mem_cons_self]; rfl
    · have hne : (m : Int) ≠ (i : Int) := by omega
      unfold contr
      rw [if_neg (by omega), hi e]
      simp [hne]
/-- late leaves of a tree that may be -/
theorem lates_in {t : List NodeD} (hr : rightT t = true) {x : Nat} (hx : x < t.length) : ∀ u ∈ (nd t x).par.late, ∃ m : Nat, u = (m : Int) ∧ 2 * m < t.length ∧ (nd t (2 * m)).kind ≠ 0 ∧ undZ (2 * (m : Int)) (x : Int) = true := by
  rw [rightT, Bool.and_eq_true, Bool.and_eq_true, Bool.and_eq_true] at hr
  obtain ⟨h1, hp, _, hl⟩ := hr
  obtain ⟨d, hd, hN, hlen⟩ := leavesN_pos (of_decide_eq_true h1)
  intro u hu
  obtain ⟨h2, m, rfl, hm⟩ := placed_late hp hx hu
  have hL := lateTB_out (latesB_out hl x hx) _ hu
  refine ⟨m, rfl, ?_, ?_, hL.2.1⟩
  · have := hL.1; rw [hN] at this; omega
  · have := hL.2.2.1
    rwa [show (2 * ((m : Nat) : Int)).toNat = 2 * m by omega] at this
theorem lev0_even {y : Nat} (h : y % 2 = 0) : IsLev y 0 := by unfold IsLev; simpa using h
theorem und2 (m x : Nat) : undZ (2 * (m : Int)) (x : Int) = undZ ((2 * m : Nat) : Int) (x : Int) := by rw [Int.natCast_mul]; rfl
theorem cov_full {t : List NodeD} (hs : t.length ≤ 1000) (hr : rightT t = true) {k x m : Nat} (hl : IsLev x k) (hx : x + 2 ^ k ≤ t.length) (hk : (nd t x).kind ≠ 0) (hm : 2 * m < t.length) :
    covS t m (fullR (nd t x) x) = if inR k x (2 * m) then 1 else 0 := by
  have hp1 : 0 < 2 ^ k := Nat.pos_of_ne_zero (by simp)
  have hxt : x < t.length := by omega
  have hp := right_placedT hr
  have hpl := placed_at hp hxt
  have hu := und_inR (x := x) (y := 2 * m) (by omega) (by omega) hl
  unfold fullR
  rw [covS_cons]
  have hc : contr t m (x : Int) = if x = 2 * m then 1 else if inR k x (2 * m) then 1 - ((nd t x).par.late.count (m : Int) : Int) else 0 := by
    unfold contr
    by_cases e : x = 2 * m
    · rw [if_pos (by omega), if_pos e]
    · rw [if_neg (by omega), if_neg e, und2, Int.toNat_natCast]
      by_cases h : inR k x (2 * m)
      · rw [if_pos (hu.2 h), if_pos h]
      · rw [if_neg (fun h2 => h (hu.1 h2)), if_neg h]
  rw [hc]
  by_cases hev : x % 2 = 0
  · have hk2 : (nd t x).kind ≠ 2 := by have := hpl.1; rwa [otherK_even hev] at this
    rw [right_nolate hpl.2 hk2]
    have hk0 : k = 0 := by
      have := lev_eq (by omega) hl
      rw [lev_even hev (by omega)] at this
      exact this.symm
    subst hk0
    simp only [covS, List.map_nil, List.sum_nil, List.count_nil, Int.add_zero]
    by_cases e : x = 2 * m
    · have h1 : inR 0 x (2 * m) := by unfold inR; simp; omega
      simp [e]
      rw [e] at h1
      exact h1
    · have h1 : ¬ inR 0 x (2 * m) := by unfold inR; simp; omega
      simp [e, h1]
  · have hne : x ≠ 2 * m := by omega
    have hlb := right_late hpl.2
    rw [if_neg hne, late_count (late_rises hlb), cov_late _ (fun u hu' => ?_) (late_rises hlb)]
    · by_cases hin : (m : Int) ∈ (nd t x).par.late
      · obtain ⟨i, e, _, _, hun⟩ := lates_in hr hxt _ hin
        have : i = m := by omega
        subst this
        rw [und2] at hun
        have hI := hu.1 hun
        simp [hI, hin]
      · simp [hin]
    · obtain ⟨i, e, hi, _, _⟩ := lates_in hr hxt u hu'
      refine ⟨i, e, fun hne' => ?_⟩
      have h2 := und_inR (x := 2 * i) (y := 2 * m) (k := 0) (by omega) (by omega) (lev0_even (by omega))
      rw [e, show (2 * ((i : Nat) : Int)) = ((2 * i : Nat) : Int) by rw [Int.natCast_mul]; rfl, und2, ← Bool.not_eq_true, h2]
      unfold inR
      simp
      omega
theorem all_full {t : List NodeD} (hs : t.length ≤ 1000) (hr : rightT t = true) {k x : Nat} (hl : IsLev x k) (hx : x + 2 ^ k ≤ t.length) (hk : (nd t x).kind ≠ 0) : ∀ r ∈ fullR (nd t x) x, ∃ y : Nat, r = (y : Int) ∧ y < t.length ∧ (nd t y).kind ≠ 0 ∧ inR k x y := by
  have hp1 : 0 < 2 ^ k := Nat.pos_of_ne_zero (by simp)
  have hxt : x < t.length := by omega
  intro r hr'
  unfold fullR at hr'
  rcases List.mem_cons.1 hr' with rfl | hr'
  · exact ⟨x, rfl, hxt, hk, by unfold inR; omega⟩
  · obtain ⟨u, hu, rfl⟩ := List.mem_map.1 hr'
    obtain ⟨i, rfl, h1, h2, h3⟩ := lates_in hr hxt u hu
    rw [und2, und_inR (by omega) (by omega) hl] at h3
    exact ⟨2 * i, by rw [Int.natCast_mul]; rfl, h1, h2, h3⟩
structure CovP (t : List NodeD) (k : Nat) : Prop where
  sum : ∀ x m, IsLev x k → x + 2 ^ k ≤ t.length → 2 * m < t.length → (nd t (2 * m)).kind = 1 → covS t m (resN (nd t) k x) = if inR k x (2 * m) then 1 else 0
  all : ∀ x, IsLev x k → x + 2 ^ k ≤ t.length → ∀ r ∈ resN (nd t) k x, ∃ y : Nat, r = (y : Int) ∧ y < t.length ∧ (nd t y).kind ≠ 0 ∧ inR k x y
theorem cov_lev {t : List NodeD} (hs : t.length ≤ 1000) (hr : rightT t = true) : ∀ k, CovP t k := by
  intro k
  induction k with
  | zero =>
    refine ⟨fun x m hl hx hm hk1 => ?_, fun x hl hx => ?_⟩
    · by_cases hk : (nd t x).kind = 0
      · rw [resN_zero hk, if_neg]
        · rfl
        · intro h
          unfold inR at h
          have : x = 2 * m := by simp at h; omega
          rw [this, hk1] at hk; cases hk
      · rw [resN_full hk]; exact cov_full hs hr hl hx hk hm
    · by_cases hk : (nd t x).kind = 0
      · rw [resN_zero hk]; intro r hr'; cases hr'
      · rw [resN_full hk]; exact all_full hs hr hl hx hk
  | succ k ih =>
    have hpw : 2 ^ (k + 1) = 2 * 2 ^ k := by rw [Nat.pow_succ]; omega
    have hp1 : 0 < 2 ^ k := Nat.pos_of_ne_zero (by simp)
    refine ⟨fun x m hl hx hm hk1 => ?_, fun x hl hx => ?_⟩
    · by_cases hk : (nd t x).kind = 0
      · obtain ⟨_, _, l1, l2, hkx⟩ := kids_lev (by omega) hl
        have hod := lev_succ hl
        rw [resN_succ hk, covS_app, ih.sum _ m l1 (by omega) hm hk1, ih.sum _ m l2 (by omega) hm hk1]
        have e1 : inR (k + 1) x (2 * m) ↔ inR k (x - 2 ^ k) (2 * m) ∨ inR k (x + 2 ^ k) (2 * m) := by unfold inR; omega
        by_cases h1 : inR k (x - 2 ^ k) (2 * m)
        · have h2 : ¬ inR k (x + 2 ^ k) (2 * m) := by unfold inR at h1 ⊢; omega
          simp [e1, h1, h2]
        · by_cases h2 : inR k (x + 2 ^ k) (2 * m)
          · simp [e1, h1, h2]
          · simp [e1, h1, h2]
      · rw [resN_full hk]; exact cov_full hs hr hl hx hk hm
    · by_cases hk : (nd t x).kind = 0
      · obtain ⟨_, _, l1, l2, hkx⟩ := kids_lev (by omega) hl
        rw [resN_succ hk]
        intro r hr'
        rcases List.mem_append.1 hr' with h | h
        · obtain ⟨y, e, h1, h2, h3⟩ := ih.all _ l1 (by omega) r h
          exact ⟨y, e, h1, h2, by unfold inR at h3 ⊢; omega⟩
        · obtain ⟨y, e, h1, h2, h3⟩ := ih.all _ l2 (by omega) r h
          exact ⟨y, e, h1, h2, by unfold inR at h3 ⊢; omega⟩
      · rw [resN_full hk]; exact all_full hs hr hl hx hk
end Go.Proofs.Ytohldijomcljkaa
/- Walks: the reference's Above; bounds of what is counted. -/
namespace Go.Proofs.Ytohldijomcljkaa
open Go.RowKit WalkM WireM
set_option linter.unusedVariables false
theorem wrap_inA {a : Int} (h : -9223372036854775808 ≤ a ∧ a ≤ 9223372036854775807) : wrap64 a = a := by unfold wrap64; omega
set_option maxRecDepth 100000 in
set_option maxHeartbeats 2000000 in
theorem rabove_any (y m : Nat) (w : World) (hm : m ≤ 100000) :
    Calls Try.prog 42 #[.int .i64 (y : Nat), .int .i64 (m : Nat)] w fun e w' => e = .returned (.bool (decide (y ≠ 2 * m) && undZ (2 * (m : Int)) (y : Int))) ∧ Below w.heap.size w w' := by
  have UN := fun (W : World) => runder_any (2 * (m : Int)) (y : Int) W
  have hw : wrap64 (2 * (m : Int)) = 2 * (m : Int) := wrap_inA (by omega)
  obtain ⟨R, hR⟩ : ∃ R, R = undZ (2 * (m : Int)) (y : Int) := ⟨_, rfl⟩
  rw [← hR] at UN ⊢
  have HUN := Lib.hid UN
  clear UN hR
  by_cases e : y = 2 * m
  · have h1 : ((y : Int) != 2 * (m : Int)) = false := by rw [bne_eq_false_iff_eq]; omega
    rw [decide_eq_false (fun h => h e), Bool.false_and]
    clear e
    go_enter Try.func42, Try.ntmps42
    go_wp2_with fail
    go_ret
    exact ⟨rfl, Below.refl _ _⟩
  · have h1 : ((y : Int) != 2 * (m : Int)) = true := by rw [bne_iff_ne]; omega
    rw [decide_eq_true e, Bool.true_and]
    clear e
    go_enter Try.func42, Try.ntmps42
    go_wp2_with fail
    refine (HUN.out _).mono ?_
    rintro e w1 ⟨rfl, hb⟩
    go_wp2_with fail
    go_ret
    exact ⟨rfl, hb⟩
theorem contr_bd {t : List NodeD} (hs : smallT t = true) (m : Nat) (r : Int) : -60 ≤ contr t m r ∧ contr t m r ≤ 1 := by
  unfold contr
  split
  · omega
  · split
    · have h := List.count_le_length (a := (m : Int)) (l := (nd t r.toNat).par.late)
      have := of_decide_eq_true (smallT_nd hs r.toNat)
      omega
    · omega
theorem covS_bd {t : List NodeD} (hs : smallT t = true) (m : Nat) : ∀ L : List Int, -60 * (L.length : Int) ≤ covS t m L ∧ covS t m L ≤ (L.length : Int)
  | [] => by simp [covS]
  | r :: L => by
    have h1 := contr_bd hs m r
    have h2 := covS_bd hs m L
    rw [covS_cons, List.length_cons]
    omega
theorem covS_take {t : List NodeD} {m : Nat} {L : List Int} {b : Nat} (h : b < L.length) : covS t m (L.take (b + 1)) = covS t m (L.take b) + contr t m (L.getD b 0) := by
  rw [List.take_succ_eq_append_getElem h, covS_app, List.getD_eq_getElem?_getD, List.getElem?_eq_getElem h]
  congr 1
  simp [covS]
theorem count_take {L : List Int} {m : Int} {j : Nat} (h : j < L.length) : (L.take (j + 1)).count m = (L.take j).count m + (if L.getD j 0 = m then 1 else 0) := by
  rw [List.take_succ_eq_append_getElem h, List.count_append, List.getD_eq_getElem?_getD, List.getElem?_eq_getElem h]
  congr 1
  simp [List.count_cons]
end Go.Proofs.Ytohldijomcljkaa
