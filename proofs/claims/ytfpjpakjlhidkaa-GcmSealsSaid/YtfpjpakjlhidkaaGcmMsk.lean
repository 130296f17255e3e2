/- Plain: a text held against masks, part by part. -/
import Derived.Test.YtfpjpakjlhidkaaGcmChunk
import Derived.Test.YtfpjpakjlhidkaaGcmMask
import Derived.Test.YtfpjpakjlhidkaaGrid
namespace Go.Proofs.Ytfpjpakjlhidkaa
open Go.RowKit AesM GcmM GcmB
set_option linter.unusedVariables false
/-- a part of a list held against a mask -/
def xorAt (L : List Nat) (x m : Nat) (M : List Nat) : List Nat := (List.range L.length).map fun j => if x ≤ j ∧ j < x + m then L.getD j 0 ^^^ M.getD (j - x) 0 else L.getD j 0
theorem xorAt_len (L : List Nat) (x m : Nat) (M : List Nat) : (xorAt L x m M).length = L.length := by simp [xorAt]
theorem xorAt_get {L : List Nat} {x m : Nat} {M : List Nat} {j : Nat} (hj : j < L.length) : (xorAt L x m M).getD j 0 = if x ≤ j ∧ j < x + m then L.getD j 0 ^^^ M.getD (j - x) 0 else L.getD j 0 := by
  simp [xorAt, List.getD_eq_getElem?_getD, hj]
theorem ext_getD {A B : List Nat} (hl : A.length = B.length) (h : ∀ j, j < A.length → A.getD j 0 = B.getD j 0) : A = B := by
  apply List.ext_getElem hl
  intro i h1 h2
  have := h i h1
  simpa [List.getD_eq_getElem?_getD, List.getElem?_eq_getElem h1, List.getElem?_eq_getElem h2] using this
theorem xorAt_zero (L : List Nat) (x : Nat) (M : List Nat) : xorAt L x 0 M = L := by
  refine ext_getD (xorAt_len _ _ _ _) fun j hj => ?_
  rw [xorAt_len] at hj
  rw [xorAt_get hj, if_neg (by omega)]
theorem set_getD {L : List Nat} {i j d : Nat} : (L.set i d).getD j 0 = if i = j ∧ j < L.length then d else L.getD j 0 := by
  rw [List.getD_eq_getElem?_getD, List.getElem?_set]
  by_cases h : i = j
  · subst h
    by_cases h2 : i < L.length
    · simp [h2]
    · simp [h2]
  · simp [h, List.getD_eq_getElem?_getD]
theorem xorAt_step {L : List Nat} {x i : Nat} {M : List Nat} (h : x + i < L.length) : (xorAt L x i M).set (x + i) (L.getD (x + i) 0 ^^^ M.getD i 0) = xorAt L x (i + 1) M := by
  refine ext_getD (by rw [List.length_set, xorAt_len, xorAt_len]) fun j hj => ?_
  rw [List.length_set, xorAt_len] at hj
  rw [set_getD, xorAt_len, xorAt_get hj, xorAt_get hj]
  by_cases h1 : x + i = j
  · rw [if_pos ⟨h1, hj⟩, if_pos (by omega), ← h1]
    congr 2; omega
  · rw [if_neg (by omega)]
    by_cases h2 : x ≤ j ∧ j < x + i
    · rw [if_pos h2, if_pos (by omega)]
    · rw [if_neg h2, if_neg (by omega)]
theorem xorAt_old {L : List Nat} {x i : Nat} {M : List Nat} (h : x + i < L.length) : (xorAt L x i M).getD (x + i) 0 = L.getD (x + i) 0 := by
  rw [xorAt_get h, if_neg (by omega)]
theorem xorAt_lt {L : List Nat} {x m : Nat} {M : List Nat} (hL : ∀ n ∈ L, n < 256) (hM : ∀ n ∈ M, n < 256) : ∀ n ∈ xorAt L x m M, n < 256 := by
  intro n hn
  simp only [xorAt, List.mem_map, List.mem_range] at hn
  obtain ⟨j, hj, rfl⟩ := hn
  have h1 := getD_lt hL (by omega) j
  have h2 := getD_lt hM (by omega) (j - x)
  split
  · exact Nat.xor_lt_two_pow (n := 8) h1 h2
  · exact h1
/-- the n-th mask -/
def mk (K N : List Nat) (n : Nat) : List Nat := blk K (N ++ beN 4 n)
def stp {len : Nat} (K N : List Nat) (s : List Nat × Nat) (x : Off len) : List Nat × Nat := (xorAt s.1 x.1 (min 16 (len - x.1)) (mk K N (s.2 + 1)), s.2 + 1)
def foldM {len : Nat} (K N T : List Nat) (pre : List (Off len)) : List Nat × Nat := pre.foldl (stp K N) (T, 1)
theorem foldM_snoc {len : Nat} (K N T : List Nat) (pre : List (Off len)) (x : Off len) : foldM K N T (pre ++ [x]) = stp K N (foldM K N T pre) x := by simp [foldM]
theorem foldM_cnt {len : Nat} (K N T : List Nat) (pre : List (Off len)) : (foldM K N T pre).2 = pre.length + 1 := by
  unfold foldM
  have : ∀ (pre : List (Off len)) (s : List Nat × Nat), (pre.foldl (stp K N) s).2 = pre.length + s.2 := by
    intro pre
    induction pre with
    | nil => intro s; simp
    | cons x pre ih => intro s; rw [List.foldl_cons, ih]; simp [stp]; omega
  rw [this]
theorem foldM_len {len : Nat} (K N T : List Nat) (pre : List (Off len)) : (foldM K N T pre).1.length = T.length := by
  unfold foldM
  have : ∀ (pre : List (Off len)) (s : List Nat × Nat), (pre.foldl (stp K N) s).1.length = s.1.length := by
    intro pre
    induction pre with
    | nil => intro s; rfl
    | cons x pre ih => intro s; rw [List.foldl_cons, ih]; simp [stp, xorAt_len]
  exact this pre (T, 1)
theorem foldM_lt {len : Nat} {K N T : List Nat} (hT : ∀ n ∈ T, n < 256) (hm : ∀ n, ∀ x ∈ mk K N n, x < 256) (pre : List (Off len)) : ∀ n ∈ (foldM K N T pre).1, n < 256 := by
  unfold foldM
  have : ∀ (pre : List (Off len)) (s : List Nat × Nat), (∀ n ∈ s.1, n < 256) → ∀ n ∈ (pre.foldl (stp K N) s).1, n < 256 := by
    intro pre
    induction pre with
    | nil => intro s h; exact h
    | cons x pre ih => intro s h; rw [List.foldl_cons]; exact ih _ (xorAt_lt h (hm _))
  exact this pre (T, 1) hT
/-- a text held against its masks -/
def maskF (K N T : List Nat) : List Nat := (List.range T.length).map fun j => T.getD j 0 ^^^ (mk K N (j / 16 + 2)).getD (j % 16) 0
theorem foldM_all {len : Nat} (K N T : List Nat) (hl : T.length = len) : ∀ (k : Nat) (pre : List (Off len)), pre.map (·.1) = (List.range k).map (16 * ·) →
    (foldM K N T pre).1 = (List.range T.length).map fun j => if j < 16 * k then T.getD j 0 ^^^ (mk K N (j / 16 + 2)).getD (j % 16) 0 else T.getD j 0 := by
  intro k
  induction k with
  | zero =>
    intro pre h
    have : pre = [] := List.eq_nil_of_length_eq_zero (by simpa using congrArg List.length h)
    subst this
    refine ext_getD (by simp [foldM]) fun j hj => ?_
    have hj' : j < T.length := by simpa [foldM] using hj
    simp [foldM, List.getD_eq_getElem?_getD, hj']
  | succ k ih =>
    intro pre h
    rw [List.range_succ, List.map_append] at h
    obtain ⟨p1, p2, rfl, h1, h2⟩ := List.map_eq_append_iff.1 h
    obtain ⟨x, rfl⟩ : ∃ x, p2 = [x] := by
      cases p2 with
      | nil => simp at h2
      | cons x p2 => cases p2 with
        | nil => exact ⟨x, rfl⟩
        | cons y p2 => simp at h2
    have hx : x.1 = 16 * k := by simpa using h2
    have hlen : p1.length = k := by simpa using congrArg List.length h1
    rw [foldM_snoc]
    have hcnt := foldM_cnt K N T p1
    have hfl := foldM_len K N T p1
    refine ext_getD (by simp [stp, xorAt_len, hfl]) fun j hj => ?_
    have hj' : j < T.length := by simpa [stp, xorAt_len, hfl] using hj
    show (xorAt (foldM K N T p1).1 x.1 (min 16 (len - x.1)) (mk K N ((foldM K N T p1).2 + 1))).getD j 0 = _
    rw [xorAt_get (by rw [hfl]; exact hj'), ih p1 h1, hcnt, hlen, hx]
    simp only [List.getD_eq_getElem?_getD, List.getElem?_map, List.getElem?_range hj', Option.map_some, Option.getD_some]
    by_cases c : 16 * k ≤ j ∧ j < 16 * k + min 16 (len - 16 * k)
    · rw [if_pos c, if_neg (by omega), if_pos (by omega), show j / 16 = k by omega, show j - 16 * k = j % 16 by omega]
    · rw [if_neg c]
      by_cases c2 : j < 16 * k
      · rw [if_pos c2, if_pos (by omega)]
      · rw [if_neg c2, if_neg (by omega)]
theorem foldM_end {len : Nat} (K N T : List Nat) (hl : T.length = len) (pre : List (Off len)) (h : pre.map (·.1) = (List.range ((len + 15) / 16)).map (16 * ·)) : (foldM K N T pre).1 = maskF K N T := by
  rw [foldM_all K N T hl _ pre h]
  unfold maskF
  apply List.map_congr_left
  intro j hj
  rw [if_pos (by have := List.mem_range.1 hj; omega)]
theorem blk_kept {A B : World} {row : Option Nat} {g : Nat} {t : TypeId} {cs : Array Value} (h : Blk A g t cs) (hg : A.grownBy B row) (hr : ∀ r, row = some r → ∃ o : Obj, A.heap[r]? = some o ∧ o.isCells = false) : Blk B g t cs :=
  (hg.block g h.lt (by
    intro e
    obtain ⟨o, ho, hc⟩ := hr g e.symm
    unfold Blk at h
    rw [h] at ho
    cases ho
    cases hc)).trans h
theorem own_kept {A B : World} {row : Option Nat} {b : Nat} {e : TypeId} {v : Value} {xs : List Value} (h : Own A b e v xs) (hg : A.grownBy B row) (hr : ∀ r, row = some r → ∃ o : Obj, A.heap[r]? = some o ∧ o.isCells = false) : Own B b e v xs := by
  refine World.ownsRow.kept h hg ?_
  rcases h.form with rfl | ⟨g, cap, rfl⟩
  · exact .inl rfl
  · right
    intro e
    obtain ⟨cur, hcur⟩ := h.ty
    obtain ⟨o, ho, hc⟩ := hr g (by simpa [Value.ownBlock] using e.symm)
    rw [hcur] at ho
    cases ho
    cases hc
theorem keepsFrom_below {B : Nat} {A C : World} (h : Below A.heap.size A C) : KeepsFrom B A C :=
  ⟨h.size, fun k o _ hk _ => by rw [h.block k (by exact (Array.getElem?_eq_some_iff.1 hk).1)]; exact hk⟩
theorem kpB_below {Bs B : Nat} {A C : World} (h : Below B A C) (hB : Bs + 2 ≤ B) : KpB Bs A C := ⟨h.block Bs (by omega), h.block (Bs + 1) (by omega)⟩
theorem kpB_set {Bs : Nat} (A : World) (p : Addr) (u : Value) (h1 : p.block ≠ Bs) (h2 : p.block ≠ Bs + 1) : KpB Bs A (A.setCell p u) :=
  ⟨Below.heap_setCell A p u Bs (fun e => h1 e.symm), Below.heap_setCell A p u (Bs + 1) (fun e => h2 e.symm)⟩
/-- the state inside a round, i bytes of the part done -/
structure InI (w W : World) (nb : Nat) (v1 v2 : Value) (ct g p len cap h c B5 : Nat) (L M : List Nat) (i : Nat) (wr : World) : Prop where
  k1 : Blk wr w.heap.size 28 #[v1]
  k2 : Blk wr (w.heap.size + 1) 28 #[v2]
  k3 : Blk wr nb 64 #[.int .u32 (ct : Nat)]
  own : Own wr (w.heap.size + 2) 5 (.slice (some ⟨g, 0, none⟩) len cap) (bvs (xorAt L p i M))
  ownM : Own wr B5 5 (.slice (some ⟨h, 0, none⟩) 16 c) (bvs M)
  low : Below w.heap.size w wr
  keeps : KeepsFrom (nb + 3) W wr
  kp : KpB (nb + 1) W wr
  size : nb + 3 ≤ wr.heap.size
theorem InI.below {w W : World} {nb : Nat} {v1 v2 : Value} {ct g p len cap h c B5 : Nat} {L M : List Nat} {i : Nat} {wr wx : World} (s : InI w W nb v1 v2 ct g p len cap h c B5 L M i wr) (hb : Below wr.heap.size wr wx) : InI w W nb v1 v2 ct g p len cap h c B5 L M i wx where
  k1 := s.k1.below hb s.k1.lt
  k2 := s.k2.below hb s.k2.lt
  k3 := s.k3.below hb s.k3.lt
  own := s.own.below hb (Nat.le_refl _)
  ownM := s.ownM.below hb (Nat.le_refl _)
  low := s.low.trans (hb.mono s.low.size)
  keeps := s.keeps.trans (keepsFrom_below hb)
  kp := kpB_t s.kp (kpB_below hb (by have := s.size; omega))
  size := Nat.le_trans s.size hb.size
theorem InI.set {w W : World} {nb : Nat} {v1 v2 : Value} {ct g p len cap h c B5 : Nat} {L M : List Nat} {i : Nat} {wr : World} (s : InI w W nb v1 v2 ct g p len cap h c B5 L M i wr)
    (hg1 : w.heap.size + 2 ≤ g) (hg2 : g < nb) (hh : nb + 3 ≤ h) (hi : p + i < L.length) : InI w W nb v1 v2 ct g p len cap h c B5 L M (i + 1) (wr.setCell ⟨g, p + i, none⟩ (.int .u8 ((L.getD (p + i) 0 ^^^ M.getD i 0 : Nat)))) where
  k1 := s.k1.far (by simp only []; omega) _
  k2 := s.k2.far (by simp only []; omega) _
  k3 := s.k3.far (by simp only []; omega) _
  own := by
    have := s.own.set (p + i) (.int .u8 ((L.getD (p + i) 0 ^^^ M.getD i 0 : Nat)))
    rw [← bvs_set', xorAt_step hi] at this
    exact this
  ownM := s.ownM.setOther (by simp only [Value.ownBlock, ne_eq, Option.some.injEq]; omega) _
  low := s.low.setCell (by simp only []; omega) _
  keeps := s.keeps.trans ((KeepsOthers.setCell _ _ _).from _)
  kp := kpB_t s.kp (kpB_set _ _ _ (by simp only []; omega) (by simp only []; omega))
  size := by simpa using s.size
end Go.Proofs.Ytfpjpakjlhidkaa
