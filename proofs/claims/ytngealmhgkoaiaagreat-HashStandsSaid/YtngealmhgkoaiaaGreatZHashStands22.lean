/- Walks: tree.Resolve, tree.Filtered. -/
import Derived.Test.YtngealmhgkoaiaaGreatZHashStands21
import Derived.Test.YtngealmhgkoaiaaGreatZHashStands17
import Derived.Test.YtngealmhgkoaiaaGreatZHashStands19
import Derived.Test.YtngealmhgkoaiaaGreatZHashStands07
namespace Go.Proofs.YtngealmhgkoaiaaGreat
open Go.RowKit WalkM WireM
set_option linter.unusedVariables false
theorem lev_inT {t : List NodeD} (hlen : t.length ≤ 100000) (hr : rightT t = true) {x : Nat} (hx : x < t.length) : IsLev x (lev x) ∧ x + 2 ^ lev x ≤ t.length := by
 have hln : leavesN t.length ≠ 0 := by
  rw [rightT, Bool.and_eq_true] at hr
  exact of_decide_eq_true hr.1
 obtain ⟨d, hd, hN, hl⟩ := leavesN_pos hln
 have e : 2 ^ (d + 1) = 2 * 2 ^ d := by rw [Nat.pow_succ]; omega
 exact ⟨lev_is (by omega), by have := under_in (x := x) (d := d) (by omega) hd; omega⟩
theorem right_placedT {t : List NodeD} (hr : rightT t = true) : placedB t = true := by
 rw [rightT, Bool.and_eq_true, Bool.and_eq_true] at hr
 exact hr.2.1
/-- what a node resolves to -/
def resX (t : List NodeD) (x : Nat) : List Int := resN (nd t) (lev x) x
theorem resolve_any (v : Value) (t : List NodeD) (x : Nat) (w : World) (h : TreeR w v t) (hs : smallT t = true) (hok : TreeOk t) (hr : rightT t = true) (hx : x < t.length) :
  Calls Tryz.prog 129 #[v, .int .i64 (x : Nat)] w fun e w' => ∃ v', e = .returned v' ∧ Own w' w.heap.size 3 v' (ivs .i64 (resX t x)) ∧ Below w.heap.size w w' := by
 have hl := lev_inT (by have := smallT_len hs; omega) hr hx
 exact res_lev t hs hok (right_placedT hr) (lev x) x v w h hl.1 hl.2
set_option maxRecDepth 100000 in
set_option maxHeartbeats 4000000 in
theorem tresolve_any (v : Value) (t : List NodeD) (x : Nat) (w : World) (h : TreeR w v t) (hs : smallT t = true) (hok : TreeOk t) (hr : rightT t = true) (hx : x < t.length) :
  Calls Tryz.prog 151 #[v, .int .i64 (x : Nat)] w fun e w' => ∃ v', e = .returned v' ∧ Own w' w.heap.size 3 v' (ivs .i64 (resX t x)) ∧ Below w.heap.size w w' := by
 have TR := tright_any v t w h hs hok
 rw [hr] at TR
 have RS1 := fun (W : World) (hw : Below w.heap.size w W) => resolve_any v t x W (h.below hw (Nat.le_refl _)) hs hok hr hx
 obtain ⟨a, c, rfl, hc, hc2⟩ := h.sl
 obtain ⟨L, hL⟩ : ∃ L, L = resX t x := ⟨_, rfl⟩
 rw [← hL] at RS1 ⊢
 obtain ⟨n, hn⟩ : ∃ n, n = t.length := ⟨_, rfl⟩
 rw [← hn] at TR RS1 hx hc ⊢
 have HT := Lib.hid TR
 have HR := Lib.hid RS1
 have h0' : decide ((x : Int) < 0) = false := decide_eq_false (by omega)
 have h1' : decide ((x : Int) ≥ (n : Int)) = false := decide_eq_false (by omega)
 have h2' : decide ((n : Int) ≤ (x : Int)) = false := decide_eq_false (by omega)
 clear TR RS1 h hs hok hr hn hL
 go_enter Tryz.func151, Tryz.ntmps151
 go_wp2_with fail
 refine (HT.out).mono ?_
 rintro e w1 ⟨rfl, hb⟩
 have HB := Lib.hid hb
 clear hb
 go_wp2_with fail
 refine (HR.out w1 HB.out).mono ?_
 rintro e w2 ⟨v2, rfl, hown, hb⟩
 have HO := Lib.hid (hown.mono HB.out.size)
 have HB2 := Lib.hid (HB.out.trans (hb.mono HB.out.size))
 clear hown hb
 go_wp2_with fail
 go_ret
 exact ⟨_, rfl, HO.out, HB2.out⟩
end Go.Proofs.YtngealmhgkoaiaaGreat
/- Walks: the reference's Members, Is; tree.member. -/
namespace Go.Proofs.YtngealmhgkoaiaaGreat
open Go.RowKit WalkM WireM
set_option linter.unusedVariables false
/-- the members among the first leaves -/
def rmemL (t : List NodeD) (m : Nat) : List Int := ((List.range m).filter fun i => (nd t (2 * i)).kind == 1).map fun i => ((i : Nat) : Int)
theorem mem_iff (t : List NodeD) (m : Nat) (i : Nat) : ((i : Nat) : Int) ∈ rmemL t m ↔ i < m ∧ (nd t (2 * i)).kind = 1 := by
 unfold rmemL
 simp only [List.mem_map, List.mem_filter, List.mem_range, beq_iff_eq]
 constructor
 ·rintro ⟨j, ⟨h1, h2⟩, e⟩
  have : j = i := by omega
  subst this
  exact ⟨h1, h2⟩
 ·rintro ⟨h1, h2⟩
  exact ⟨i, ⟨h1, h2⟩, rfl⟩
end Go.Proofs.YtngealmhgkoaiaaGreat
/- Plain: what a node resolves to covers each member beneath it just once. -/
namespace Go.Proofs.YtngealmhgkoaiaaGreat
open Go.RowKit WalkM WireM
set_option linter.unusedVariables false
/-- y lies beneath the node x of the level k -/
def inR (k x y : Nat) : Prop := x + 1 ≤ y + 2 ^ k ∧ y < x + 2 ^ k
instance decInR (k x y : Nat) : Decidable (inR k x y) := inferInstanceAs (Decidable (_ ∧ _))
theorem und_inR {x y k : Nat} (hx : x ≤ 131070) (hy : y ≤ 131070) (hl : IsLev x k) : undZ (y : Int) (x : Int) = true ↔ inR k x y := by
 have hlx := lev_eq hx hl
 rw [und_nat hy hx, hlx, decide_eq_true_iff]
 have hs := anc_self hl
 rw [anc_plo] at hs
 have e : phi x k = plo x k + (2 ^ (k + 1) - 2) := rfl
 have e1 : 2 ^ (k + 1) = 2 * 2 ^ k := by rw [Nat.pow_succ]; omega
 have hp : 0 < 2 ^ k := Nat.pos_of_ne_zero (by simp)
 unfold inR
 omega
/-- what one node that was resolved to counts for a member -/
def contr (t : List NodeD) (m : Nat) (r : Int) : Int :=
 if r = 2 * (m : Int) then 1 else if undZ (2 * (m : Int)) r = true then 1 - ((nd t r.toNat).par.late.count (m : Int) : Int) else 0
def covS (t : List NodeD) (m : Nat) (L : List Int) : Int := (L.map (contr t m)).sum
theorem covS_app (t : List NodeD) (m : Nat) (L M : List Int) : covS t m (L ++ M) = covS t m L + covS t m M := by
 unfold covS; rw [List.map_append, List.sum_append]
theorem covS_cons (t : List NodeD) (m : Nat) (r : Int) (L : List Int) : covS t m (r :: L) = contr t m r + covS t m L := by
 unfold covS; rw [List.map_cons, List.sum_cons]
/-- a late list rises: each leaf is in it once at most -/
theorem late_count {L : List Int} (h : L.Pairwise (· < ·)) (m : Int) : L.count m = if m ∈ L then 1 else 0 := by
 induction L with
 | nil => simp
 | cons x L ih =>
  rw [List.pairwise_cons] at h
  rw [List.count_cons, ih h.2]
  by_cases e : x = m
  ·subst e
   have : x ∉ L := fun hx => by have := h.1 x hx; omega
   simp [this]
  ·simp [Ne.symm e, show (x == m) = false from beq_eq_false_iff_ne.2 e]
theorem late_rises {L : List Int} (h : lateB L = true) : L.Pairwise (· < ·) := by
 rw [lateB_iff] at h
 have key : ∀ j, ∀ i, i < j → j < L.length → L.getD i 0 < L.getD j 0 := by
  intro j
  induction j with
  | zero => intro i hi; omega
  | succ j ih =>
   intro i hi hj
   have h1 := (h (j + 1) hj).1
   unfold prevZ at h1
   rw [if_neg (by omega), Nat.add_sub_cancel] at h1
   by_cases e : i = j
   ·subst e; exact h1
   ·have := ih i (by omega) (by omega); omega
 rw [List.pairwise_iff_getElem]
 intro i j hi hj hij
 have := key j i hij hj
 simpa [List.getD_eq_getElem?_getD, hi, hj] using this
/-- late leaves count where they are the member -/
theorem cov_late {t : List NodeD} {m : Nat} : ∀ (L : List Int), (∀ u ∈ L, ∃ i : Nat, u = (i : Int) ∧ (i ≠ m → undZ (2 * (m : Int)) (2 * u) = false)) → L.Pairwise (· < ·) → covS t m (L.map fun u => 2 * u) = if (m : Int) ∈ L then 1 else 0
 | [], _, _ => by simp [covS]
 | u :: L, h, hp => by
  rw [List.pairwise_cons] at hp
  have ih := cov_late (t := t) (m := m) L (fun v hv => h v (List.mem_cons_of_mem _ hv)) hp.2
  obtain ⟨i, rfl, hi⟩ := h u (List.mem_cons_self)
  rw [List.map_cons, covS_cons, ih]
  by_cases e : i = m
  ·subst e
   have : (i : Int) ∉ L := fun hx => by have := hp.1 _ hx; omega
   unfold contr
   rw [if_pos rfl, if_neg this, if_pos List.mem_cons_self]; rfl
  ·have hne : (m : Int) ≠ (i : Int) := by omega
   unfold contr
   rw [if_neg (by omega), hi e]
   simp [hne]
/-- late leaves of a tree that may be -/
theorem lates_in {t : List NodeD} (hr : rightT t = true) {x : Nat} (hx : x < t.length) : ∀ u ∈ (nd t x).par.late, ∃ m : Nat, u = (m : Int) ∧ 2 * m < t.length ∧ (nd t (2 * m)).kind ≠ 0 ∧ undZ (2 * (m : Int)) (x : Int) = true := by
 rw [rightT, Bool.and_eq_true, Bool.and_eq_true, Bool.and_eq_true] at hr
 obtain ⟨h1, hp, _, hl⟩ := hr
 obtain ⟨d, hd, hN, hlen⟩ := leavesN_pos (of_decide_eq_true h1)
 intro u hu
 obtain ⟨h2, m, rfl, hm⟩ := placed_late hp hx hu
 have hL := lateTB_out (latesB_out hl x hx) _ hu
 refine ⟨m, rfl, ?_, ?_, hL.2.1⟩
 ·have := hL.1; rw [hN] at this; omega
 ·have := hL.2.2.1
  rwa [show (2 * ((m : Nat) : Int)).toNat = 2 * m by omega] at this
theorem lev0_even {y : Nat} (h : y % 2 = 0) : IsLev y 0 := by unfold IsLev; simpa using h
theorem und2 (m x : Nat) : undZ (2 * (m : Int)) (x : Int) = undZ ((2 * m : Nat) : Int) (x : Int) := by rw [Int.natCast_mul]; rfl
theorem cov_full {t : List NodeD} (hs : t.length ≤ 1000) (hr : rightT t = true) {k x m : Nat} (hl : IsLev x k) (hx : x + 2 ^ k ≤ t.length) (hk : (nd t x).kind ≠ 0) (hm : 2 * m < t.length) :
  covS t m (fullR (nd t x) x) = if inR k x (2 * m) then 1 else 0 := by
 have hp1 : 0 < 2 ^ k := Nat.pos_of_ne_zero (by simp)
 have hxt : x < t.length := by omega
 have hp := right_placedT hr
 have hpl := placed_at hp hxt
 have hu := und_inR (x := x) (y := 2 * m) (by omega) (by omega) hl
 unfold fullR
 rw [covS_cons]
 have hc : contr t m (x : Int) = if x = 2 * m then 1 else if inR k x (2 * m) then 1 - ((nd t x).par.late.count (m : Int) : Int) else 0 := by
  unfold contr
  by_cases e : x = 2 * m
  ·rw [if_pos (by omega), if_pos e]
  ·rw [if_neg (by omega), if_neg e, und2, Int.toNat_natCast]
   by_cases h : inR k x (2 * m)
   ·rw [if_pos (hu.2 h), if_pos h]
   ·rw [if_neg (fun h2 => h (hu.1 h2)), if_neg h]
 rw [hc]
 by_cases hev : x % 2 = 0
 ·have hk2 : (nd t x).kind ≠ 2 := by have := hpl.1; rwa [otherK_even hev] at this
  rw [right_nolate hpl.2 hk2]
  have hk0 : k = 0 := by
   have := lev_eq (by omega) hl
   rw [lev_even hev (by omega)] at this
   exact this.symm
  subst hk0
  simp only [covS, List.map_nil, List.sum_nil, List.count_nil, Int.add_zero]
  by_cases e : x = 2 * m
  ·have h1 : inR 0 x (2 * m) := by unfold inR; simp; omega
   simp [e]
   rw [e] at h1
   exact h1
  ·have h1 : ¬ inR 0 x (2 * m) := by unfold inR; simp; omega
   simp [e, h1]
 ·have hne : x ≠ 2 * m := by omega
  have hlb := right_late hpl.2
  rw [if_neg hne, late_count (late_rises hlb), cov_late _ (fun u hu' => ?_) (late_rises hlb)]
  ·by_cases hin : (m : Int) ∈ (nd t x).par.late
   ·obtain ⟨i, e, _, _, hun⟩ := lates_in hr hxt _ hin
    have : i = m := by omega
    subst this
    rw [und2] at hun
    have hI := hu.1 hun
    simp [hI, hin]
   ·simp [hin]
  ·obtain ⟨i, e, hi, _, _⟩ := lates_in hr hxt u hu'
   refine ⟨i, e, fun hne' => ?_⟩
   have h2 := und_inR (x := 2 * i) (y := 2 * m) (k := 0) (by omega) (by omega) (lev0_even (by omega))
   rw [e, show (2 * ((i : Nat) : Int)) = ((2 * i : Nat) : Int) by rw [Int.natCast_mul]; rfl, und2, ← Bool.not_eq_true, h2]
   unfold inR
   simp
   omega
theorem all_full {t : List NodeD} (hs : t.length ≤ 1000) (hr : rightT t = true) {k x : Nat} (hl : IsLev x k) (hx : x + 2 ^ k ≤ t.length) (hk : (nd t x).kind ≠ 0) : ∀ r ∈ fullR (nd t x) x, ∃ y : Nat, r = (y : Int) ∧ y < t.length ∧ (nd t y).kind ≠ 0 ∧ inR k x y := by
 have hp1 : 0 < 2 ^ k := Nat.pos_of_ne_zero (by simp)
 have hxt : x < t.length := by omega
 intro r hr'
 unfold fullR at hr'
 rcases List.mem_cons.1 hr' with rfl | hr'
 ·exact ⟨x, rfl, hxt, hk, by unfold inR; omega⟩
 ·obtain ⟨u, hu, rfl⟩ := List.mem_map.1 hr'
  obtain ⟨i, rfl, h1, h2, h3⟩ := lates_in hr hxt u hu
  rw [und2, und_inR (by omega) (by omega) hl] at h3
  exact ⟨2 * i, by rw [Int.natCast_mul]; rfl, h1, h2, h3⟩
structure CovP (t : List NodeD) (k : Nat) : Prop where
 sum : ∀ x m, IsLev x k → x + 2 ^ k ≤ t.length → 2 * m < t.length → (nd t (2 * m)).kind = 1 → covS t m (resN (nd t) k x) = if inR k x (2 * m) then 1 else 0
 all : ∀ x, IsLev x k → x + 2 ^ k ≤ t.length → ∀ r ∈ resN (nd t) k x, ∃ y : Nat, r = (y : Int) ∧ y < t.length ∧ (nd t y).kind ≠ 0 ∧ inR k x y
theorem cov_lev {t : List NodeD} (hs : t.length ≤ 1000) (hr : rightT t = true) : ∀ k, CovP t k := by
 intro k
 induction k with
 | zero =>
  refine ⟨fun x m hl hx hm hk1 => ?_, fun x hl hx => ?_⟩
  ·by_cases hk : (nd t x).kind = 0
   ·rw [resN_zero hk, if_neg]
    ·rfl
    ·intro h
     unfold inR at h
     have : x = 2 * m := by simp at h; omega
     rw [this, hk1] at hk; cases hk
   ·rw [resN_full hk]; exact cov_full hs hr hl hx hk hm
  ·by_cases hk : (nd t x).kind = 0
   ·rw [resN_zero hk]; intro r hr'; cases hr'
   ·rw [resN_full hk]; exact all_full hs hr hl hx hk
 | succ k ih =>
  have hpw : 2 ^ (k + 1) = 2 * 2 ^ k := by rw [Nat.pow_succ]; omega
  have hp1 : 0 < 2 ^ k := Nat.pos_of_ne_zero (by simp)
  refine ⟨fun x m hl hx hm hk1 => ?_, fun x hl hx => ?_⟩
  ·by_cases hk : (nd t x).kind = 0
   ·obtain ⟨_, _, l1, l2, hkx⟩ := kids_lev (by omega) hl
    have hod := lev_succ hl
    rw [resN_succ hk, covS_app, ih.sum _ m l1 (by omega) hm hk1, ih.sum _ m l2 (by omega) hm hk1]
    have e1 : inR (k + 1) x (2 * m) ↔ inR k (x - 2 ^ k) (2 * m) ∨ inR k (x + 2 ^ k) (2 * m) := by unfold inR; omega
    by_cases h1 : inR k (x - 2 ^ k) (2 * m)
    ·have h2 : ¬ inR k (x + 2 ^ k) (2 * m) := by unfold inR at h1 ⊢; omega
     simp [e1, h1, h2]
    ·by_cases h2 : inR k (x + 2 ^ k) (2 * m)
     ·simp [e1, h1, h2]
     ·simp [e1, h1, h2]
   ·rw [resN_full hk]; exact cov_full hs hr hl hx hk hm
  ·by_cases hk : (nd t x).kind = 0
   ·obtain ⟨_, _, l1, l2, hkx⟩ := kids_lev (by omega) hl
    rw [resN_succ hk]
    intro r hr'
    rcases List.mem_append.1 hr' with h | h
    ·obtain ⟨y, e, h1, h2, h3⟩ := ih.all _ l1 (by omega) r h
     exact ⟨y, e, h1, h2, by unfold inR at h3 ⊢; omega⟩
    ·obtain ⟨y, e, h1, h2, h3⟩ := ih.all _ l2 (by omega) r h
     exact ⟨y, e, h1, h2, by unfold inR at h3 ⊢; omega⟩
   ·rw [resN_full hk]; exact all_full hs hr hl hx hk
end Go.Proofs.YtngealmhgkoaiaaGreat
/- Plain: which leaves count. -/
namespace Go.Proofs.YtngealmhgkoaiaaGreat
open Go.RowKit WalkM
set_option linter.unusedVariables false
/-- has one of the first r nodes that count a leaf? -/
def someU (t : List NodeD) (N r : Nat) : Bool := (List.range r).any fun i => (nd t i).kind == 1 && (N == 1 || decide (N ≤ i))
theorem someU_succ (t : List NodeD) (N r : Nat) : someU t N (r + 1) = (someU t N r || ((nd t r).kind == 1 && (N == 1 || decide (N ≤ r)))) := by
 unfold someU; rw [List.range_succ, List.any_append]; simp
theorem someU_all {t : List NodeD} {N : Nat} (h : leavesN t.length = N) (hN : N ≤ t.length) : someU t N t.length = someB t := by
 have key : someU t N t.length = true ↔ someB t = true := by
  unfold someU someB someK
  rw [h, List.any_eq_true]
  constructor
  ·rintro ⟨i, hi, hk⟩
   rw [List.mem_range] at hi
   rw [Bool.and_eq_true, beq_iff_eq, Bool.or_eq_true, beq_iff_eq, decide_eq_true_iff] at hk
   have hd : (nd t i) = t[i] := by rw [nd, List.getD_eq_getElem?_getD, List.getElem?_eq_getElem hi]; rfl
   by_cases h1 : N = 1
   ·rw [if_pos h1, List.any_eq_true]
    exact ⟨t[i], List.getElem_mem hi, by rw [← hd, beq_iff_eq]; exact hk.1⟩
   ·rw [if_neg h1, List.any_eq_true]
    have hni : N ≤ i := by rcases hk.2 with h2 | h2; exact absurd h2 h1; exact h2
    refine ⟨t[i], ?_, by rw [← hd, beq_iff_eq]; exact hk.1⟩
    rw [List.mem_drop_iff_getElem]
    exact ⟨i - N, by omega, by congr 1; omega⟩
  ·intro hs
   by_cases h1 : N = 1
   ·rw [if_pos h1, List.any_eq_true] at hs
    obtain ⟨d, hd, hk⟩ := hs
    obtain ⟨i, hi, rfl⟩ := List.getElem_of_mem hd
    refine ⟨i, List.mem_range.2 hi, ?_⟩
    have hd : (nd t i) = t[i] := by rw [nd, List.getD_eq_getElem?_getD, List.getElem?_eq_getElem hi]; rfl
    rw [hd, hk, h1]; rfl
   ·rw [if_neg h1, List.any_eq_true] at hs
    obtain ⟨d, hd, hk⟩ := hs
    obtain ⟨i, hi, e⟩ := List.mem_drop_iff_getElem.1 hd
    refine ⟨N + i, List.mem_range.2 (by omega), ?_⟩
    have hd : (nd t (N + i)) = d := by rw [nd, List.getD_eq_getElem?_getD, List.getElem?_eq_getElem (by omega), ← e]; rfl
    rw [hd, hk, Bool.true_and, Bool.or_eq_true, decide_eq_true_iff]
    exact .inr (by omega)
 cases h1 : someU t N t.length <;> cases h2 : someB t <;> simp_all
end Go.Proofs.YtngealmhgkoaiaaGreat
/- Walks: the reference's Resolve. -/
namespace Go.Proofs.YtngealmhgkoaiaaGreat
open Go.RowKit WalkM WireM
set_option linter.unusedVariables false
def RResP (t : List NodeD) (k : Nat) : Prop := ∀ (x : Nat) (v : Value) (w : World), TreeR w v t → IsLev x k → x + 2 ^ k ≤ t.length →
 Calls Tryz.prog 62 #[v, .int .i64 (x : Nat)] w fun e w' => ∃ v', e = .returned v' ∧ Own w' w.heap.size 3 v' (ivs .i64 (resN (nd t) k x)) ∧ Below w.heap.size w w'
theorem left_leaf {x : Nat} (hx : x ≤ 131070) (h : IsLev x 0) : leftZ (x : Int) = -1 ∧ rightZ (x : Int) = -1 := by
 have hl := lev_eq hx h
 have hz : levZ (x : Int) = 0 := by
  rw [levZ, if_pos (by unfold isNode; rw [decide_eq_true_iff]; omega), Int.toNat_natCast, hl]; rfl
 constructor
 ·rw [leftZ, halfZ, hz]; rfl
 ·rw [rightZ, halfZ, hz]; rfl
set_option maxRecDepth 100000 in
set_option maxHeartbeats 4000000 in
theorem rres_full (v : Value) (t : List NodeD) (x : Nat) (w : World) (h : TreeR w v t) (hs : smallT t = true) (hok : TreeOk t) (hp : placedB t = true) (hxt : x < t.length) (hk : (nd t x).kind ≠ 0) :
  Calls Tryz.prog 62 #[v, .int .i64 (x : Nat)] w fun e w' => ∃ v', e = .returned v' ∧ Own w' w.heap.size 3 v' (ivs .i64 (fullR (nd t x) x)) ∧ Below w.heap.size w w' := by
 have hlen := smallT_len hs
 obtain ⟨a, c, rfl, hc, hc2⟩ := h.sl
 obtain ⟨b, off, b3, e3, rfl, hbl, ck, cl, hlate⟩ := h.at hxt
 have hkd0 := (hok.nd x).kind
 have hlb := late_bd (right_late (placed_at hp hxt).2)
 have hl60 : (nd t x).par.late.length ≤ 60 := by have := of_decide_eq_true (smallT_nd hs x); omega
 unfold fullR
 obtain ⟨kd, hkd⟩ : ∃ k, k = (nd t x).kind := ⟨_, rfl⟩
 rw [← hkd] at hk hkd0 ck
 obtain ⟨L, hL⟩ : ∃ L, L = (nd t x).par.late := ⟨_, rfl⟩
 rw [← hL] at hlb hlate hl60 cl ⊢
 obtain ⟨l8, hl8⟩ : ∃ l, l = L.length := ⟨_, rfl⟩
 rw [← hl8] at hlate cl hl60
 have AT := fun (W : World) (hw : Below w.heap.size w W) (r : Nat) (hr : r < l8) => (hlate.below hw (Nat.le_refl _)).at3 (u := .int .i64 (L.getD r 0)) (r := r) (by rw [hl8] at hr; simp [ivs, List.getD_eq_getElem?_getD, hr])
 have BD := fun (r : Nat) (hr : r < l8) => (show 0 ≤ L.getD r 0 ∧ L.getD r 0 < 65536 from hlb _ (by rw [hl8] at hr; rw [List.getD_eq_getElem?_getD, List.getElem?_eq_getElem hr]; exact List.getElem_mem hr))
 have STEP := fun (r : Nat) (hr : r < l8) => fullR_step x L (r := r) (by omega)
 have FIN : ivs .i64 ((x : Int) :: (L.take l8).map fun u => 2 * u) = ivs .i64 ((x : Int) :: L.map fun u => 2 * u) := by rw [hl8, List.take_length]
 obtain ⟨G, hG⟩ : ∃ G : Nat → List Value, G = fun r => ivs .i64 ((x : Int) :: (L.take r).map fun u => 2 * u) := ⟨_, rfl⟩
 have hG' : ∀ r, ivs .i64 ((x : Int) :: (L.take r).map fun u => 2 * u) = G r := fun r => by rw [hG]
 have G0 : G 0 = [.int .i64 (x : Int)] := by rw [hG]; simp [ivs]
 have GL : ∀ r, r ≤ l8 → (G r).length ≤ 61 := fun r hr => by rw [hG]; simp [ivs]; omega
 simp only [hG'] at STEP FIN
 rw [← FIN]
 obtain ⟨U, hU⟩ : ∃ U : Nat → Int, U = fun r => L.getD r 0 := ⟨_, rfl⟩
 have hU' : ∀ r, L.getD r 0 = U r := fun r => by rw [hU]
 simp only [hU'] at AT BD STEP
 obtain ⟨n, hn⟩ : ∃ n, n = t.length := ⟨_, rfl⟩
 rw [← hn] at hc hlen hxt ⊢
 have HAT := Lib.hid AT
 have HBD := Lib.hid BD
 have HSTEP := Lib.hid STEP
 have HG0 := Lib.hid G0
 have HGL := Lib.hid GL
 have HCL := Lib.hid cl
 have hxI : (x : Int) < (n : Int) := by omega
 have hk1 : ((kd : Int) == 0) = false := by rw [beq_eq_false_iff_ne]; omega
 have hk2 : (kd : Int) ≠ 0 := by omega
 clear AT BD STEP G0 GL FIN hG hG' hU hU' hn hL hlb hl8 hlate h hs hok hp hkd hk
 go_enter Tryz.func62, Tryz.ntmps62
 go_wp2_with fail
 have HO0 := Lib.hid (show Own (w.alloc (.cells #[.int .i64 (x : Int)] 3)) w.heap.size 3 (.slice (some ⟨w.heap.size, 0, none⟩) 1 1) (G 0) from by
  rw [HG0.out]
  exact Own.full (B := w.heap.size) (cs := #[.int .i64 (x : Int)]) rfl (Nat.le_refl _) (by unfold maxLen; simp) rfl)
 have HB0 := Lib.hid (show Below w.heap.size w (w.alloc (.cells #[.int .i64 (x : Int)] 3)) from (Below.refl _ _).alloc (Nat.le_refl _) _)
 generalize hw2 : w.alloc (.cells #[.int .i64 (x : Int)] 3) = w2 at HO0 HB0 ⊢
 clear hw2 ck cl
 go_loopg [7, 8] l8 (fun q ov iv wr => ∃ r : Nat, r + q = l8 ∧ iv = .int .i64 (r : Nat) ∧ Own wr w.heap.size 3 ov (G r) ∧ Below w.heap.size w wr)
 case atStart => exact ⟨0, by omega, rfl, HO0.out, HB0.out⟩
 case round =>
  obtain ⟨r, hr, rfl, hown, hb⟩ := hrel
  have HR := Lib.hid hr
  have HO := Lib.hid hown
  have HB := Lib.hid hb
  have cl := (hb.cell (p := ⟨b, off + x * 10 + 9, none⟩) hbl).trans HCL.out
  by_cases hlt : r < l8
  ·have hlt' : decide (r < l8) = true := decide_eq_true hlt
   have hltI : (r : Int) < (l8 : Int) := by omega
   obtain ⟨bl, ol, rfl, hbl2, cu⟩ := HAT.out wr hb r hlt
   obtain ⟨hu0, hu1⟩ := HBD.out r hlt
   have HS := Lib.hid (HSTEP.out r hlt)
   have HGR := Lib.hid (HGL.out r (by omega))
   obtain ⟨u, hu⟩ : ∃ u, u = U r := ⟨_, rfl⟩
   rw [← hu] at cu hu0 hu1 HS
   have hw : wrap64 (2 * u) = 2 * u := by unfold wrap64; omega
   obtain ⟨p1, p2, p3, rfl⟩ := slOf hown
   clear hr hown hb hu
   go_wp2_with (at_builtin; refine wpList_push rfl (.tmp 44) (.tmp 55) 50 rfl w.heap.size 3 _ 8 intsE _ _ rfl (HO.out.alloc _) ⟨wr.heap.size, 0, none⟩ (.int .i64 (2 * u)) rfl ?c1 rfl ?c2 ?c3 ?_)
   case c1 => exact cell_new rfl
   case c2 => have := HGR.out; omega
   case c3 => have := HB.out.size; simp; omega
   rintro v' w1 hown1 - hb1
   have HO1 := Lib.hid hown1
   have HB1 := Lib.hid ((HB.out.alloc HB.out.size (.cells #[.int .i64 (2 * u)] 3)).trans hb1)
   clear hown1 hb1
   go_wp2_with fail
   go_roundg (gk - 1)
   case measure => have := HR.out; omega
   case rel => exact ⟨r + 1, by have := HR.out; omega, by go_num, by rw [HS.out]; exact HO1.out, HB1.out⟩
  ·obtain rfl : r = l8 := by omega
   have hlt' : decide (r < r) = false := decide_eq_false hlt
   clear hr hown hb hlt
   go_wp2_with fail
   go_ret
   exact ⟨_, rfl, HO.out, HB.out⟩
set_option maxRecDepth 100000 in
set_option maxHeartbeats 4000000 in
theorem rres_zero (t : List NodeD) (hs : smallT t = true) (hok : TreeOk t) (hp : placedB t = true) : RResP t 0 := by
 intro x v w h hlev hx
 have hxt : x < t.length := by have : (2 : Nat) ^ 0 = 1 := rfl; omega
 by_cases hk : (nd t x).kind = 0
 ·rw [resN_zero hk]
  have hlen := smallT_len hs
  have KD := fun (W : World) => kids_any (x : Int) W
  obtain ⟨hll, hrl⟩ := left_leaf (by omega) hlev
  rw [hll, hrl] at KD
  have HKD := Lib.hid KD
  obtain ⟨a, c, rfl, hc, hc2⟩ := h.sl
  obtain ⟨b, off, b3, e3, rfl, hbl, ck, -, -⟩ := h.at hxt
  rw [hk] at ck
  obtain ⟨n, hn⟩ : ∃ n, n = t.length := ⟨_, rfl⟩
  rw [← hn] at hc hlen hxt ⊢
  have hxI : (x : Int) < (n : Int) := by omega
  clear hn h hs hok hp hlev hx hk KD hll hrl
  go_enter Tryz.func62, Tryz.ntmps62
  go_wp2_with fail
  refine (HKD.out w).mono ?_
  rintro e w1 ⟨rfl, hb⟩
  go_wp2_with fail
  go_ret
  exact ⟨_, rfl, Own.nil _ _ _, hb⟩
 ·rw [resN_full hk]
  exact rres_full v t x w h hs hok hp hxt hk
set_option maxRecDepth 100000 in
set_option maxHeartbeats 4000000 in
theorem rres_succ (t : List NodeD) (hs : smallT t = true) (hok : TreeOk t) (hp : placedB t = true) (k : Nat) (IH : RResP t k) : RResP t (k + 1) := by
 intro x v w h hlev hx
 have hpw : 2 ^ (k + 1) = 2 * 2 ^ k := by rw [Nat.pow_succ]; omega
 have hp1 : 0 < 2 ^ k := Nat.pos_of_ne_zero (by simp)
 have hxt : x < t.length := by omega
 by_cases hk : (nd t x).kind = 0
 ·rw [resN_succ hk]
  have hlen := smallT_len hs
  obtain ⟨hkl, hkr, hl1', hl2', hkx⟩ := kids_lev (by omega) hlev
  have KD := fun (W : World) => kids_any (x : Int) W
  rw [hkl, hkr] at KD
  have R1 := fun (W : World) (hw : Below w.heap.size w W) => IH (x - 2 ^ k) v W (h.below hw (Nat.le_refl _)) hl1' (by omega)
  have R2 := fun (W : World) (hw : Below w.heap.size w W) => IH (x + 2 ^ k) v W (h.below hw (Nat.le_refl _)) hl2' (by omega)
  have n1 := resN_len (t := nd t) (smallT_nd hs) k (x - 2 ^ k)
  have n2 := resN_len (t := nd t) (smallT_nd hs) k (x + 2 ^ k)
  have one1 := ivs_one' (resN (nd t) k (x - 2 ^ k))
  have one2 := ivs_one' (resN (nd t) k (x + 2 ^ k))
  rw [ivs_app]
  obtain ⟨L1, hL1⟩ : ∃ L, L = resN (nd t) k (x - 2 ^ k) := ⟨_, rfl⟩
  obtain ⟨L2, hL2⟩ : ∃ L, L = resN (nd t) k (x + 2 ^ k) := ⟨_, rfl⟩
  rw [← hL1] at R1 n1 one1 ⊢
  rw [← hL2] at R2 n2 one2 ⊢
  have h40 : 2 ^ k ≤ 40 := by omega
  have hn1 : L1.length ≤ 3000 := by omega
  have hn2 : L2.length ≤ 3000 := by omega
  obtain ⟨a, c, rfl, hc, hc2⟩ := h.sl
  obtain ⟨b, off, b3, e3, rfl, hbl, ck, -, -⟩ := h.at hxt
  rw [hk] at ck
  obtain ⟨n, hn⟩ : ∃ n, n = t.length := ⟨_, rfl⟩
  rw [← hn] at R1 R2 hc hlen hxt ⊢
  obtain ⟨xl, hxl⟩ : ∃ y, y = x - 2 ^ k := ⟨_, rfl⟩
  obtain ⟨xr, hxr⟩ : ∃ y, y = x + 2 ^ k := ⟨_, rfl⟩
  rw [← hxl] at KD R1
  rw [← hxr] at KD R2
  have HKD := Lib.hid KD
  have HR1 := Lib.hid R1
  have HR2 := Lib.hid R2
  have HN1 := Lib.hid hn1
  have HN2 := Lib.hid hn2
  have HON1 := Lib.hid one1
  have HON2 := Lib.hid one2
  have hxI : (x : Int) < (n : Int) := by omega
  have hxl0 : decide ((xl : Int) < 0) = false := decide_eq_false (by omega)
  clear hn h hs hok hp hk hlev hx KD R1 R2 hL1 hL2 n1 n2 one1 one2 hn1 hn2 h40 hkl hkr hl1' hl2' hkx hxl hxr hpw hp1 IH
  go_enter Tryz.func62, Tryz.ntmps62
  go_wp2_with fail
  refine (HKD.out w).mono ?_
  rintro e w0 ⟨rfl, hb⟩
  have HB0 := Lib.hid hb
  clear hb
  go_wp2_with fail
  have HBL := Lib.hid (HB0.out.alloc HB0.out.size (.cells #[] 3))
  have HOL := Lib.hid (Own.lit0 (w := w0) (B := w.heap.size) (e := 3) rfl HB0.out.size)
  refine (HR1.out _ HBL.out).mono ?_
  rintro e w1 ⟨v1, rfl, hown1, hb1⟩
  have HO1 := Lib.hid hown1.rd
  have HOL1 := Lib.hid (HOL.out.below hb1 (Nat.le_refl _))
  have HB1 := Lib.hid (HBL.out.trans (hb1.mono HBL.out.size))
  obtain ⟨p1, p2, p3, rfl⟩ := slOf hown1
  clear hown1 hb1
  go_wp2_with (at_builtin; refine wpList_app rfl (.tmp 22) (.tmp 25) 50 rfl w.heap.size 3 _ 8 intsE _ [] rfl HOL1.out _ (ivs .i64 L1) rfl HO1.out HON1.out ?c2 ?c3 ?_)
  case c2 => rw [ivs_len']; have := HN1.out; simp; omega
  case c3 => exact HB1.out.size
  rintro v3 w3 hown3 - hb3
  have HO3 := Lib.hid hown3
  have HB3 := Lib.hid (HB1.out.trans hb3)
  obtain ⟨s1, s2, s3, rfl⟩ := slOf hown3
  clear hown3 hb3
  go_wp2_with fail
  refine (HR2.out _ HB3.out).mono ?_
  rintro e w4 ⟨v4, rfl, hown4, hb4⟩
  have HO4 := Lib.hid hown4.rd
  have HO34 := Lib.hid (HO3.out.below hb4 (Nat.le_refl _))
  have HB4 := Lib.hid (HB3.out.trans (hb4.mono HB3.out.size))
  obtain ⟨q1, q2, q3, rfl⟩ := slOf hown4
  clear hown4 hb4
  go_wp2_with (at_builtin; refine wpList_app rfl (.tmp 26) (.tmp 29) 50 rfl w.heap.size 3 _ 8 intsE _ _ rfl HO34.out _ (ivs .i64 L2) rfl HO4.out HON2.out ?d2 ?d3 ?_)
  case d2 => rw [ivs_len', ivs_len']; have := HN1.out; have := HN2.out; omega
  case d3 => exact HB4.out.size
  rintro v' w5 hown - hb
  have HO := Lib.hid hown
  have HB := Lib.hid (HB4.out.trans hb)
  clear hown hb
  go_wp2_with fail
  go_ret
  exact ⟨_, rfl, HO.out, HB.out⟩
 ·rw [resN_full hk]
  exact rres_full v t x w h hs hok hp hxt hk
theorem rres_lev (t : List NodeD) (hs : smallT t = true) (hok : TreeOk t) (hp : placedB t = true) : ∀ k, RResP t k := by
 intro k
 induction k with
 | zero => exact rres_zero t hs hok hp
 | succ k ih => exact rres_succ t hs hok hp k ih
end Go.Proofs.YtngealmhgkoaiaaGreat
/- Walks: the reference's Filtered, and tree.Filtered of no leaf's place. -/
namespace Go.Proofs.YtngealmhgkoaiaaGreat
open Go.RowKit WalkM WireM
set_option linter.unusedVariables false
end Go.Proofs.YtngealmhgkoaiaaGreat
