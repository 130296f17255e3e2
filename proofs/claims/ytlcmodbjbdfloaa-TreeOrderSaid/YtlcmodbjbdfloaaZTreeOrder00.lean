/- Members that are added one by one: what the tree is then; Add and Remove of such a tree. -/
import Derived.Test.YtlcmodbjbdfloaaZTreeChanges01
namespace Go.Proofs.Ytlcmodbjbdfloaa
open Go.RowKit WalkM WireM
set_option linter.unusedVariables false
/-- the least power of two above a number -/
def IsLg (k e : Nat) : Prop := k < 2 ^ e ∧ (e = 0 ∨ 2 ^ e ≤ 2 * k)
theorem isLg_ex : ∀ k : Nat, ∃ e, IsLg k e
  | 0 => ⟨0, by unfold IsLg; simp⟩
  | k + 1 => by
    obtain ⟨e, h1, h2⟩ := isLg_ex k
    rcases Nat.lt_or_ge (k + 1) (2 ^ e) with h | h
    · exact ⟨e, h, by rcases h2 with h2 | h2; exact .inl h2; exact .inr (by omega)⟩
    · have e2 : 2 ^ (e + 1) = 2 * 2 ^ e := by rw [Nat.pow_succ]; omega
      exact ⟨e + 1, by omega, .inr (by omega)⟩
theorem isLg_step {k e : Nat} (h : IsLg k e) (hlt : k + 1 < 2 ^ e) : IsLg (k + 1) e := ⟨hlt, by
  rcases h.2 with h2 | h2
  · exact .inl h2
  · exact .inr (by omega)⟩
theorem isLg_full {k e : Nat} (h : IsLg k e) (hf : ¬ k + 1 < 2 ^ e) : k + 1 = 2 ^ e ∧ IsLg (k + 1) (e + 1) := by
  have h1 := h.1
  have e2 : 2 ^ (e + 1) = 2 * 2 ^ e := by rw [Nat.pow_succ]; omega
  exact ⟨by omega, by omega, .inr (by omega)⟩
theorem isLg_le {k e e' : Nat} (h : IsLg (k + 1) e) (h' : IsLg k e') : e' ≤ e := by
  rcases Nat.lt_or_ge e e' with hl | hl
  · have h1 := h.1
    have h2 : 2 ^ (e + 1) ≤ 2 ^ e' := Nat.pow_le_pow_right (by omega) hl
    have e2 : 2 ^ (e + 1) = 2 * 2 ^ e := by rw [Nat.pow_succ]; omega
    rcases h'.2 with h3 | h3 <;> omega
  · exact hl
theorem isLg_five {k e : Nat} (h : IsLg k e) (hk : k ≤ 20) : e ≤ 5 := by
  rcases Nat.lt_or_ge 5 e with hl | hl
  · have h2 : 2 ^ 6 ≤ 2 ^ e := Nat.pow_le_pow_right (by omega) hl
    rcases h.2 with h3 | h3 <;> omega
  · exact hl
/-- so many members at the first places -/
def ordF (ls : List LeafD) (k x : Nat) : NodeD := if x % 2 = 0 ∧ x / 2 ≤ k then (if x = 0 then oneD else heldD (ls.getD (x / 2 - 1) noLeafD)) else noNodeD
theorem ordF_kind (ls : List LeafD) (k x : Nat) : (ordF ls k x).kind = if x % 2 = 0 ∧ x / 2 ≤ k then 1 else 0 := by
  unfold ordF
  split
  · split <;> rfl
  · rfl
theorem ordF_late (ls : List LeafD) (k x : Nat) : (ordF ls k x).par.late = [] := by
  unfold ordF
  split
  · split <;> rfl
  · rfl
theorem ordT_nd (ls : List LeafD) {k e : Nat} (h : IsLg k e) (x : Nat) : nd (listT (2 * 2 ^ e - 1) (ordF ls k)) x = ordF ls k x := by
  have h1 := h.1
  rcases Nat.lt_or_ge x (2 * 2 ^ e - 1) with hx | hx
  · exact listT_nd hx
  · rw [nd_out (by rw [listT_len]; exact hx)]
    unfold ordF
    rw [if_neg (by omega)]
theorem ordT_len (ls : List LeafD) (k e : Nat) : (listT (2 * 2 ^ e - 1) (ordF ls k)).length + 1 = 2 * 2 ^ e := by
  have := pow_pos' e
  rw [listT_len]; omega
def LsOk (ls : List LeafD) (k : Nat) : Prop := ∀ j, j < k → leafOkB (ls.getD j noLeafD) = true
theorem heldD_right {l : LeafD} (h : leafOkB l = true) : rightB (heldD l) = true := by
  unfold leafOkB at h
  unfold rightB
  simp [heldD, noParD, h, npB]
theorem ordF_right {ls : List LeafD} {k : Nat} (h : LsOk ls k) (x : Nat) : rightB (ordF ls k x) = true := by
  unfold ordF
  split
  · rename_i hx
    split
    · decide +kernel
    · exact heldD_right (h _ (by omega))
  · decide +kernel
theorem ordT_right {ls : List LeafD} {k e : Nat} (h : LsOk ls k) (hl : IsLg k e) (he : e ≤ 15) : rightT (listT (2 * 2 ^ e - 1) (ordF ls k)) = true := by
  have hlen := ordT_len ls k e
  have hN := leavesN_pow (d := e) (by omega) hlen
  have hp := pow_pos' e
  rw [rightT, Bool.and_eq_true, Bool.and_eq_true, Bool.and_eq_true]
  refine ⟨decide_eq_true (by omega), ?_, ?_, ?_⟩
  · refine listT_placed fun x _ => ⟨?_, ordF_right h x⟩
    rw [ordF_kind]
    unfold otherK
    split <;> split <;> omega
  · unfold someB
    rw [hN]
    rcases hl.2 with h0 | h2
    · subst h0
      rw [if_pos rfl]
      refine someK_yes (i := 0) (by rw [listT_len]; decide) ?_
      rw [ordT_nd ls hl, ordF_kind, if_pos (by omega)]
    · have : 1 < 2 ^ e := by
        rcases Nat.eq_zero_or_pos e with h0 | h0
        · subst h0
          have := hl.1
          omega
        · have : 2 ^ 1 ≤ 2 ^ e := Nat.pow_le_pow_right (by omega) h0
          omega
      rw [if_neg (by omega)]
      have hk := hl.1
      exact (halfS_iff (ordF ls k) e).2 ⟨2 * k, h2, by omega, by rw [ordF_kind, if_pos (by omega)]⟩
  · refine latesB_yes fun x _ => lateTB_yes fun u hu => ?_
    rw [ordT_nd ls hl, ordF_late] at hu
    cases hu
theorem ordF_small {ls : List LeafD} {k : Nat} (h : LsOk ls k) (x : Nat) : smallB (ordF ls k x) = true := by
  unfold ordF
  split
  · split
    · decide +kernel
    · have := leafOk_small (h (x / 2 - 1) (by omega))
      exact decide_eq_true ⟨this.1, this.2.1, this.2.2.1, this.2.2.2.1, this.2.2.2.2, by simp [heldD, noParD], by simp [heldD, noParD], by simp [heldD, noParD]⟩
  · decide
theorem ordT_med {ls : List LeafD} {k e : Nat} (h : LsOk ls k) (he : e ≤ 5) : medT (listT (2 * 2 ^ e - 1) (ordF ls k)) = true := by
  have h32 : 2 ^ e ≤ 2 ^ 5 := Nat.pow_le_pow_right (by omega) he
  refine medT_of (by rw [listT_len]; omega) fun i hi => ?_
  rw [listT_len] at hi
  rw [listT_nd hi]
  exact ordF_small h i
theorem ordT_ok {ls : List LeafD} (hok : ∀ j, LeafOk (ls.getD j noLeafD)) (k m : Nat) : TreeOk (listT m (ordF ls k)) := listT_ok fun x _ => by
  unfold ordF
  split
  · split
    · exact one_ok _ (by simp)
    · exact held_ok (hok _)
  · exact noNode_ok
theorem ord_addF {ls : List LeafD} {k e : Nat} (hl : IsLg k e) (x : Nat) : addF (listT (2 * 2 ^ e - 1) (ordF ls k)) (ls.getD k noLeafD) (k + 1) x = ordF ls (k + 1) x := by
  unfold addF
  rw [ordT_nd ls hl, if_neg (show ¬ ((ordF ls k x).kind = 2 ∧ x = anc (2 * (k + 1)) (lev x)) by rw [ordF_kind]; split <;> (rintro ⟨h, _⟩; omega))]
  by_cases e : x = 2 * (k + 1)
  · rw [if_pos e]
    unfold ordF
    rw [if_pos (by omega), if_neg (by omega), show x / 2 - 1 = k by omega]
  · rw [if_neg e]
    unfold ordF
    by_cases c : x % 2 = 0 ∧ x / 2 ≤ k
    · have c2 : x % 2 = 0 ∧ x / 2 ≤ k + 1 := by omega
      rw [if_pos c, if_pos c2]
    · rw [if_neg c, if_neg (by omega)]
theorem ord_free {ls : List LeafD} {k e : Nat} (hl : IsLg k e) : freeLeaf (listT (2 * 2 ^ e - 1) (ordF ls k)) (2 ^ e) (k + 1) := by
  have h1 := hl.1
  refine ⟨by omega, fun j hj => ?_, fun _ => ?_⟩
  · rw [ordT_nd ls hl, ordF_kind, if_pos (by omega)]
  · rw [ordT_nd ls hl, ordF_kind, if_neg (by omega)]; decide
theorem ord_setF {ls : List LeafD} {k e : Nat} (hl : IsLg (k + 1) e) (hk : k ≤ 1000) : setF (listT (2 * 2 ^ e - 1) (ordF ls (k + 1))) (k + 1) noNodeD = ordF ls k := by
  funext x
  unfold setF
  rw [ordT_nd ls hl]
  by_cases e1 : x = 2 * (k + 1)
  · rw [if_pos e1]
    unfold ordF
    rw [if_neg (by omega)]
  · rw [if_neg e1]
    by_cases c : x % 2 = 0 ∧ x / 2 ≤ k
    · have hlev := lev_even c.1 (show x ≤ 131070 by omega)
      rw [if_neg]
      · unfold ordF
        rw [if_pos c, if_pos (by omega)]
      · rw [hlev]
        have h2 : IsLev (2 * (k + 1)) 0 := by unfold IsLev; simp
        rw [anc_self h2]
        exact e1
    · have : ordF ls k x = noNodeD := by unfold ordF; rw [if_neg c]
      rw [this]
      split
      · rfl
      · unfold ordF
        rw [if_neg (by omega)]
theorem ord_add (v : Value) (c : Array Value) (ls : List LeafD) (k e : Nat) (w : World) (h : TreeR w v (listT (2 * 2 ^ e - 1) (ordF ls k))) (hc : LeafC w (ls.getD k noLeafD) c) (hok : ∀ j, LeafOk (ls.getD j noLeafD)) (hls : LsOk ls (k + 1)) (hl : IsLg k e) (hk : k ≤ 19) :
    Calls Try.prog 10 #[v, .agg c] w fun x w' => ∃ v' e', x = .returned (.tuple #[v', .int .i64 (k + 1 : Nat), .int .u8 0]) ∧ IsLg (k + 1) e' ∧ TreeR w' v' (listT (2 * 2 ^ e' - 1) (ordF ls (k + 1))) ∧ Below w.heap.size w w' := by
  have he := isLg_five hl (by omega)
  have hls' : LsOk ls k := fun j hj => hls j (by omega)
  have hm := ordT_med hls' he
  have hr := ordT_right hls' hl (by omega)
  have hlen := ordT_len ls k e
  have hokT := ordT_ok hok k (2 * 2 ^ e - 1)
  have hlk := hls k (by omega)
  by_cases hlt : k + 1 < 2 ^ e
  · refine (add_room v c _ _ e (k + 1) w h hc hm hokT hr (leafOk_small hlk) (hok k).source hlk hlen (ord_free hl) hlt (by omega)).mono ?_
    rintro x w' ⟨v', rfl, ht, hb⟩
    refine ⟨v', e, rfl, isLg_step hl hlt, ?_, hb⟩
    have := ht.r
    rwa [listT_congr fun x _ => ord_addF hl x] at this
  · obtain ⟨hf, hl2⟩ := isLg_full hl hlt
    have hfl : ∀ i, i = k + 1 → freeLeaf (listT (2 * 2 ^ e - 1) (ordF ls k)) (2 ^ e) i := by rintro i rfl; exact ord_free hl
    have key : ∀ x i, i = k + 1 → addF (listT (2 * 2 ^ e - 1) (ordF ls k)) (ls.getD k noLeafD) i x = ordF ls (k + 1) x := by rintro x i rfl; exact ord_addF hl x
    refine (add_full v c _ (ls.getD k noLeafD) e w h hc hm hokT hr (leafOk_small hlk) (hok k).source hlk hlen (hfl _ hf.symm) (by omega)).mono ?_
    rintro x w' ⟨v', rfl, ht, hb⟩
    refine ⟨v', e + 1, by rw [hf], hl2, ?_, hb⟩
    have := ht.r
    rwa [listT_congr fun x _ => key x _ hf.symm] at this
theorem ord_rem (v : Value) (ls : List LeafD) (k e : Nat) (w : World) (h : TreeR w v (listT (2 * 2 ^ e - 1) (ordF ls (k + 1)))) (hok : ∀ j, LeafOk (ls.getD j noLeafD)) (hls : LsOk ls (k + 1)) (hl : IsLg (k + 1) e) (hk : k ≤ 19) :
    Calls Try.prog 16 #[v, .int .i64 (k + 1 : Nat)] w fun x w' => ∃ v' e', x = .returned (.tuple #[v', .int .u8 0]) ∧ IsLg k e' ∧ TreeR w' v' (listT (2 * 2 ^ e' - 1) (ordF ls k)) ∧ Below w.heap.size w w' := by
  have he := isLg_five hl (by omega)
  have hm := ordT_med hls he
  have hr := ordT_right hls hl (by omega)
  have hlen := ordT_len ls (k + 1) e
  have hokT := ordT_ok hok (k + 1) (2 * 2 ^ e - 1)
  have h1 := hl.1
  have hp := pow_pos' e
  have hkk : (nd (listT (2 * 2 ^ e - 1) (ordF ls (k + 1))) (2 * (k + 1))).kind = 1 := by rw [ordT_nd ls hl, ordF_kind, if_pos (by omega)]
  have hm1 : (memL (listT (2 * 2 ^ e - 1) (ordF ls (k + 1))) (listT (2 * 2 ^ e - 1) (ordF ls (k + 1))).length).length ≠ 1 := by
    have hll : (listT (2 * 2 ^ e - 1) (ordF ls (k + 1))).length = 2 * (2 ^ e - 1) + 1 := by rw [listT_len]; omega
    conv => lhs; rw [hll]
    rw [mem_eq (rightT_placed hr) (2 ^ e - 1) (by omega), show 2 ^ e - 1 + 1 = 2 ^ e by omega]
    intro h1'
    have a := (mem_iff (listT (2 * 2 ^ e - 1) (ordF ls (k + 1))) (2 ^ e) 0).2 ⟨by omega, by rw [ordT_nd ls hl, ordF_kind, if_pos (by omega)]⟩
    have b := (mem_iff (listT (2 * 2 ^ e - 1) (ordF ls (k + 1))) (2 ^ e) 1).2 ⟨by omega, by rw [ordT_nd ls hl, ordF_kind, if_pos (by omega)]⟩
    obtain ⟨z, hz⟩ := List.length_eq_one_iff.1 h1'
    rw [hz, List.mem_singleton] at a b
    omega
  obtain ⟨e', hl'⟩ := isLg_ex k
  refine (trem_yes v _ (k + 1) e w h hm hokT hr hlen (by omega) h1 hkk hm1).mono ?_
  rintro x w' ⟨v', rfl, ht, hb⟩
  refine ⟨v', e', rfl, hl', ?_, hb⟩
  rw [ord_setF hl (by omega)] at ht
  have hcut : cutK (ordF ls k) e = e' := cutK_eq (L := k) (by rw [ordF_kind, if_pos (by omega)]) hl'.1 hl'.2 (fun x hx => by rw [ordF_kind, if_neg (by omega)]; decide) e (isLg_le hl hl') fun m _ hm2 => by
    rw [ordF_kind] at hm2
    split at hm2
    · omega
    · cases hm2
  rwa [hcut] at ht
end Go.Proofs.Ytlcmodbjbdfloaa
