/- What the law TreeKeeps asks of the trees that are made: contracts and facts in one place. -/
import Derived.Test.YtlcmodbjbdfloaaZTreeKeeps01
namespace Go.Proofs.Ytlcmodbjbdfloaa
open Go.RowKit WalkM WireM
set_option linter.unusedVariables false
/-- where a leaf comes, and how great the tree is then -/
structure KeepE (t : List NodeD) (d e i : Nat) : Prop where
  right : rightT t = true
  ok : TreeOk t
  med : medT t = true
  len : t.length + 1 = 2 * 2 ^ d
  de : d ≤ e
  e5 : e ≤ 5
  hi : i < 2 ^ e
  free : (nd t (2 * i)).kind ≠ 1
  hse : e = d ∨ 2 ^ e ≤ 2 * i
def keepU (t : List NodeD) (l : LeafD) (e i : Nat) : List NodeD := listT (2 * 2 ^ e - 1) (addF t l i)
def keepV (t : List NodeD) (l : LeafD) (e i : Nat) : List NodeD := listT (2 * 2 ^ cutK (setF (keepU t l e i) i noNodeD) e - 1) (setF (keepU t l e i) i noNodeD)
section
variable {t : List NodeD} {d e i : Nat} {l : LeafD}
theorem KeepE.pow (h : KeepE t d e i) : 2 ^ e ≤ 32 ∧ 0 < 2 ^ e ∧ 2 ^ d ≤ 2 ^ e ∧ 0 < 2 ^ d := ⟨by have := Nat.pow_le_pow_right (show 0 < 2 by omega) h.e5; omega, pow_pos' e, Nat.pow_le_pow_right (by omega) h.de, pow_pos' d⟩
theorem keepU_nd (h : KeepE t d e i) {x : Nat} (hx : x < 2 * 2 ^ e - 1) : nd (keepU t l e i) x = addF t l i x := listT_nd hx
theorem keepU_len (h : KeepE t d e i) : (keepU t l e i).length + 1 = 2 * 2 ^ e := by
  have := h.pow
  unfold keepU; rw [listT_len]; omega
theorem keepU_right (h : KeepE t d e i) (hl : leafOkB l = true) : rightT (keepU t l e i) = true := right_add h.right hl (by have := h.e5; omega) h.de h.len h.hi h.free h.hse
theorem keepU_med (h : KeepE t d e i) (hl : leafOkB l = true) : medT (keepU t l e i) = true := right_med (keepU_right h hl) (by have := keepU_len (l := l) h; have := h.pow; omega)
theorem keepU_ok (h : KeepE t d e i) (hlk : LeafOk l) : TreeOk (keepU t l e i) := addF_ok h.ok hlk (by have := h.hi; have := h.pow; omega)
theorem keepU_even (h : KeepE t d e i) (j : Nat) : (nd (keepU t l e i) (2 * j)).kind = if j = i then 1 else (nd t (2 * j)).kind := by
  have hp := h.pow
  have hlen := h.len
  rcases Nat.lt_or_ge (2 * j) (2 * 2 ^ e - 1) with hx | hx
  · rw [keepU_nd h hx, addF_kind]
    by_cases c : j = i
    · rw [if_pos (by omega), if_pos c]
    · rw [if_neg (by omega), if_neg c]
  · have hi := h.hi
    rw [if_neg (by omega), nd_out (by have := keepU_len (l := l) h; omega), nd_out (t := t) (by omega)]
theorem keepT_up (h : KeepE t d e i) : rmemL t (2 ^ e) = rmemL t (2 ^ d) := rmem_upto h.pow.2.2.1 fun j h1 h2 => by
  rw [nd_out (by have := h.len; omega)]; decide
theorem memL_of {T : List NodeD} (hr : rightT T = true) {k : Nat} (hlen : T.length + 1 = 2 * 2 ^ k) : memL T T.length = rmemL T (2 ^ k) := by
  have hp := pow_pos' k
  have e1 : T.length = 2 * (2 ^ k - 1) + 1 := by omega
  conv => lhs; rw [e1]
  rw [mem_eq (rightT_placed hr) (2 ^ k - 1) (by omega), show 2 ^ k - 1 + 1 = 2 ^ k by omega]
theorem keepU_mem (h : KeepE t d e i) (hl : leafOkB l = true) : (memL (keepU t l e i) (keepU t l e i).length).length = (memL t t.length).length + 1 := by
  rw [memL_of (keepU_right h hl) (keepU_len h), memL_of h.right h.len, ← keepT_up h]
  have := rmem_count (t := t) (u := keepU t l e i) (i := i) h.free (by rw [keepU_even h, if_pos rfl]) (fun j hj => by rw [keepU_even h, if_neg hj]) (2 ^ e)
  rw [this, if_pos h.hi]
theorem keep_some (h : KeepE t d e i) : ∃ p, p < 2 ^ d ∧ (d = 0 ∨ 2 ^ d ≤ 2 * p) ∧ (nd t (2 * p)).kind = 1 := by
  have hp := h.pow
  have hlen := h.len
  have h5 := h.e5
  have hde := h.de
  obtain ⟨x, h1, h2, h3⟩ := (someB_iff (by omega) h.len).1 (right_parts h.right).2
  have hpl := (placed_at (right_parts h.right).1 h1).1
  by_cases ho : x % 2 = 1
  · rw [otherK_odd ho] at hpl
    exact absurd h3 hpl
  · exact ⟨x / 2, by omega, by omega, by rw [show 2 * (x / 2) = x by omega]; exact h3⟩
theorem keepU_ne1 (h : KeepE t d e i) (hl : leafOkB l = true) : (memL (keepU t l e i) (keepU t l e i).length).length ≠ 1 := by
  rw [keepU_mem h hl, memL_of h.right h.len]
  obtain ⟨p, h1, _, h2⟩ := keep_some h
  have := List.length_pos_of_mem ((mem_iff t (2 ^ d) p).2 ⟨h1, h2⟩)
  omega
/-- the greatest member behind the removal, and the cut -/
theorem keep_last (h : KeepE t d e i) (hl : leafOkB l = true) : ∃ L, (setF (keepU t l e i) i noNodeD (2 * L)).kind = 1 ∧ L < 2 ^ cutK (setF (keepU t l e i) i noNodeD) e ∧ (cutK (setF (keepU t l e i) i noNodeD) e = 0 ∨ 2 ^ cutK (setF (keepU t l e i) i noNodeD) e ≤ 2 * L) ∧
    ∀ m, m < 2 ^ e → (setF (keepU t l e i) i noNodeD (2 * m)).kind = 1 → m ≤ L := by
  have hp := h.pow
  obtain ⟨F, hF⟩ : ∃ F, F = setF (keepU t l e i) i noNodeD := ⟨_, rfl⟩
  have hpl := rightT_placed (keepU_right h hl)
  obtain ⟨p, h1, _, h2⟩ := keep_some h
  have hpi : p ≠ i := fun hh => h.free (by rw [← hh]; exact h2)
  have hmF : ∀ m, m < 2 ^ e → nd (listT (2 * 2 ^ e - 1) F) (2 * m) = F (2 * m) := fun m hm => listT_nd (by omega)
  have hpm : ((p : Nat) : Int) ∈ rmemL (listT (2 * 2 ^ e - 1) F) (2 ^ e) := (mem_iff _ _ p).2 ⟨by omega, by
    rw [hmF p (by omega), hF, setF_even _ i _ (by omega) hpi, keepU_even h, if_neg hpi]; exact h2⟩
  have hne : rmemL (listT (2 * 2 ^ e - 1) F) (2 ^ e) ≠ [] := fun hh => by rw [hh] at hpm; cases hpm
  obtain ⟨L, _, hL2, hL3⟩ := rmemL_last hne
  obtain ⟨hLe, hLk⟩ := (mem_iff _ _ L).1 hL2
  rw [hmF L hLe] at hLk
  have hmax : ∀ m, m < 2 ^ e → (F (2 * m)).kind = 1 → m ≤ L := fun m hm1 hm2 => hL3 m ((mem_iff _ _ m).2 ⟨hm1, by rw [hmF m hm1]; exact hm2⟩)
  obtain ⟨k, hk⟩ := isLg_ex L
  have hke : k ≤ e := by
    rcases Nat.lt_or_ge e k with c | c
    · have e2 : 2 ^ (e + 1) = 2 * 2 ^ e := by rw [Nat.pow_succ]; omega
      have h3 : 2 ^ (e + 1) ≤ 2 ^ k := Nat.pow_le_pow_right (by omega) c
      rcases hk.2 with h4 | h4 <;> omega
    · exact c
  have hcut : cutK F e = k := cutK_eq hLk hk.1 hk.2 (fun x hx => by rw [hF]; exact setF_kind1 hpl i hx) e hke hmax
  rw [← hF, hcut]
  exact ⟨L, hLk, hk.1, hk.2, hmax⟩
theorem keepV_len (h : KeepE t d e i) : (keepV t l e i).length + 1 = 2 * 2 ^ cutK (setF (keepU t l e i) i noNodeD) e := by
  have := pow_pos' (cutK (setF (keepU t l e i) i noNodeD) e)
  unfold keepV; rw [listT_len]; omega
theorem keepV_le (h : KeepE t d e i) : (keepV t l e i).length ≤ (keepU t l e i).length := by
  have h1 := keepV_len (l := l) h
  have h2 := keepU_len (l := l) h
  have h3 : 2 ^ cutK (setF (keepU t l e i) i noNodeD) e ≤ 2 ^ e := Nat.pow_le_pow_right (by omega) (cutK_le _ e)
  omega
theorem keepV_right (h : KeepE t d e i) (hl : leafOkB l = true) : rightT (keepV t l e i) = true := by
  obtain ⟨L, h1, h2, h3, _⟩ := keep_last h hl
  exact right_set (keepU_right h hl) (.inl rfl) (by have := h.e5; omega) (cutK_le _ e) (keepU_len h) h.hi ⟨2 * L, by omega, h3, h1⟩
theorem keepV_med (h : KeepE t d e i) (hl : leafOkB l = true) : medT (keepV t l e i) = true := right_med (keepV_right h hl) (by have := keepV_le (l := l) h; have := keepU_len (l := l) h; have := h.pow; omega)
theorem keepV_ok (h : KeepE t d e i) (hlk : LeafOk l) : TreeOk (keepV t l e i) := setF_ok (keepU_ok h hlk) i noNode_ok _
theorem keepV_mem (h : KeepE t d e i) (hl : leafOkB l = true) : memL (keepV t l e i) (keepV t l e i).length = memL t t.length := by
  have hp := h.pow
  rw [memL_of (keepV_right h hl) (keepV_len h), memL_of h.right h.len]
  obtain ⟨L, h1, h2, h3, h4⟩ := keep_last h hl
  have hke : 2 ^ cutK (setF (keepU t l e i) i noNodeD) e ≤ 2 ^ e := Nat.pow_le_pow_right (by omega) (cutK_le _ e)
  have hF : ∀ j, j < 2 ^ e → ((setF (keepU t l e i) i noNodeD (2 * j)).kind = 1 ↔ (nd t (2 * j)).kind = 1) := fun j hj => by
    by_cases c : j = i
    · subst c
      rw [setF_leaf]
      exact ⟨fun hh => (by cases hh), fun hh => absurd hh h.free⟩
    · rw [setF_even _ i _ (by omega) c, keepU_even h, if_neg c]
  have e1 : rmemL (keepV t l e i) (2 ^ cutK (setF (keepU t l e i) i noNodeD) e) = rmemL t (2 ^ cutK (setF (keepU t l e i) i noNodeD) e) := rmem_congr fun j hj => by
    have : nd (keepV t l e i) (2 * j) = setF (keepU t l e i) i noNodeD (2 * j) := listT_nd (by omega)
    rw [this]
    exact hF j (by omega)
  have e2 : rmemL t (2 ^ e) = rmemL t (2 ^ cutK (setF (keepU t l e i) i noNodeD) e) := rmem_upto hke fun j j1 j2 hh => by
    have := h4 j j2 ((hF j j2).2 hh)
    omega
  rw [e1, ← e2, keepT_up h]
/-- a member's leaf changed -/
theorem keepW_right (h : KeepE t d e i) (hl : leafOkB l = true) {p : Nat} (hp : p < 2 ^ d) (hk : (nd t (2 * p)).kind = 1) : rightT (listT t.length (setF t p (heldD l))) = true := by
  have hpw := h.pow
  have hlen := h.len
  have h5 := h.e5
  have hde := h.de
  obtain ⟨q, q1, q2, q3⟩ := keep_some h
  have := right_set h.right (.inr ⟨l, hl, rfl⟩) (k := d) (by omega) (Nat.le_refl _) h.len hp ⟨2 * q, by omega, q2, by
    by_cases c : q = p
    · subst c; rw [setF_leaf]; rfl
    · rw [setF_even _ p _ (by omega) c]; exact q3⟩
  rwa [show 2 * 2 ^ d - 1 = t.length by omega] at this
theorem keepW_mem (h : KeepE t d e i) (hl : leafOkB l = true) {p : Nat} (hp : p < 2 ^ d) (hk : (nd t (2 * p)).kind = 1) : memL (listT t.length (setF t p (heldD l))) t.length = memL t t.length := by
  have hpw := h.pow
  have hlen := h.len
  have e1 := memL_of (keepW_right h hl hp hk) (k := d) (by rw [listT_len]; exact hlen)
  rw [listT_len] at e1
  rw [e1, memL_of h.right h.len]
  refine rmem_congr fun j hj => ?_
  have : nd (listT t.length (setF t p (heldD l))) (2 * j) = setF t p (heldD l) (2 * j) := listT_nd (by omega)
  rw [this]
  by_cases c : j = p
  · subst c
    rw [setF_leaf]
    exact ⟨fun _ => hk, fun _ => rfl⟩
  · rw [setF_even _ p _ (by omega) c]
end
theorem keep_add {t : List NodeD} {d : Nat} (hr : rightT t = true) (hok : TreeOk t) (hs : smallT t = true) (hlen : t.length + 1 = 2 * 2 ^ d) (l : LeafD) (hls : SmallL l) (hsrc : l.source < 256) (hf : leafOkB l = true) :
    ∃ e i, KeepE t d e i ∧ ∀ (v : Value) (c : Array Value) (w : World), TreeR w v t → LeafC w l c → Calls Try.prog 10 #[v, .agg c] w fun x w' => ∃ v', x = .returned (.tuple #[v', .int .i64 (i : Nat), .int .u8 0]) ∧ TreeR w' v' (keepU t l e i) ∧ Below w.heap.size w w' := by
  have hl40 := smallT_len hs
  have hm := smallT_med hs
  have hd4 : d ≤ 4 := by
    rcases Nat.lt_or_ge 4 d with h | h
    · have := Nat.pow_le_pow_right (show 0 < 2 by omega) (show 5 ≤ d by omega)
      omega
    · exact h
  have hp := pow_pos' d
  obtain ⟨i, hfl⟩ := freeLeaf_is t (2 ^ d)
  rcases Nat.lt_or_ge i (2 ^ d) with hi | hi
  · refine ⟨d, i, ⟨hr, hok, hm, hlen, Nat.le_refl _, by omega, hi, hfl.2.2 hi, .inl rfl⟩, fun v c w h hc => (add_room v c t l d i w h hc hm hok hr hls hsrc hf hlen hfl hi (by omega)).mono ?_⟩
    rintro x w' ⟨v', rfl, ht, hb⟩
    exact ⟨v', rfl, ht.r, hb⟩
  · obtain rfl : i = 2 ^ d := by have := hfl.1; omega
    have e2 : 2 ^ (d + 1) = 2 * 2 ^ d := by rw [Nat.pow_succ]; omega
    refine ⟨d + 1, 2 ^ d, ⟨hr, hok, hm, hlen, by omega, by omega, by omega, by rw [nd_out (by omega)]; decide, .inr (by omega)⟩, fun v c w h hc => (add_full v c t l d w h hc hm hok hr hls hsrc hf hlen hfl (by omega)).mono ?_⟩
    rintro x w' ⟨v', rfl, ht, hb⟩
    exact ⟨v', rfl, ht.r, hb⟩
end Go.Proofs.Ytlcmodbjbdfloaa
