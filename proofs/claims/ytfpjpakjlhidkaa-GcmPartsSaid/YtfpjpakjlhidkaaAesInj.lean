/- Plain mathematics: a block is told by its sealed one. -/
import Derived.Test.YtfpjpakjlhidkaaAesField
import Derived.Test.YtfpjpakjlhidkaaAesBlock
namespace Go.Proofs.Ytfpjpakjlhidkaa.AesM

theorem tms_two {a : Nat} (_ha : a < 256) : tms a 2 = xt a := by
  rw [tms_sm]; simp [sm, xtn]
theorem xx (a b : Nat) : a ^^^ (a ^^^ b) = b := by rw [← Nat.xor_assoc, Nat.xor_self, Nat.zero_xor]
theorem xlc (a b c : Nat) : a ^^^ (b ^^^ c) = b ^^^ (a ^^^ c) := by rw [← Nat.xor_assoc, Nat.xor_comm a b, Nat.xor_assoc]
/-- one place of a mixed column -/
def mc (c0 c1 c2 c3 : Nat) : Nat := c0 ^^^ (c0 ^^^ c1 ^^^ c2 ^^^ c3 ^^^ xt (c0 ^^^ c1))
theorem mc_lt {a b c d : Nat} (ha : a < 256) (hb : b < 256) (hc : c < 256) (hd : d < 256) : mc a b c d < 256 :=
  xor_lt ha (xor_lt (xor_lt (xor_lt (xor_lt ha hb) hc) hd) (xt_lt (xor_lt ha hb)))
theorem xtx {x y : Nat} (hx : x < 256) (hy : y < 256) : xt (x ^^^ y) = xt x ^^^ xt y := xt_xor x hx y hy
/-- mixed twice -/
theorem mc2 {a b c d : Nat} (ha : a < 256) (hb : b < 256) (hc : c < 256) (hd : d < 256) :
    mc (mc a b c d) (mc b c d a) (mc c d a b) (mc d a b c) = a ^^^ (xt (xt a) ^^^ xt (xt c)) := by
  have xa := xt_lt ha
  have xb := xt_lt hb
  have xc := xt_lt hc
  have xd := xt_lt hd
  have e : ∀ {p q r s : Nat}, p < 256 → q < 256 → r < 256 → s < 256 → mc p q r s = q ^^^ (r ^^^ (s ^^^ (xt p ^^^ xt q))) := by
    intro p q r s hp hq hr hs
    unfold mc
    rw [xtx hp hq]
    simp only [Nat.xor_assoc]
    rw [xx]
  have e1 := e ha hb hc hd
  have e2 := e hb hc hd ha
  have e3 := e hc hd ha hb
  have e4 := e hd ha hb hc
  rw [e (mc_lt ha hb hc hd) (mc_lt hb hc hd ha) (mc_lt hc hd ha hb) (mc_lt hd ha hb hc), e1, e2, e3, e4]
  have b1 : a ^^^ (xt c ^^^ xt d) < 256 := xor_lt ha (xor_lt xc xd)
  have l1 : xt (b ^^^ (c ^^^ (d ^^^ (xt a ^^^ xt b)))) = xt b ^^^ (xt c ^^^ (xt d ^^^ (xt (xt a) ^^^ xt (xt b)))) := by
    rw [xtx hb (xor_lt hc (xor_lt hd (xor_lt xa xb))), xtx hc (xor_lt hd (xor_lt xa xb)), xtx hd (xor_lt xa xb), xtx xa xb]
  have l2 : xt (c ^^^ (d ^^^ (a ^^^ (xt b ^^^ xt c)))) = xt c ^^^ (xt d ^^^ (xt a ^^^ (xt (xt b) ^^^ xt (xt c)))) := by
    rw [xtx hc (xor_lt hd (xor_lt ha (xor_lt xb xc))), xtx hd (xor_lt ha (xor_lt xb xc)), xtx ha (xor_lt xb xc), xtx xb xc]
  rw [l1, l2]
  generalize xt (xt a) = A2
  generalize xt (xt b) = B2
  generalize xt (xt c) = C2
  generalize xt a = A1
  generalize xt b = B1
  generalize xt c = C1
  generalize xt d = D1
  simp only [Nat.xor_comm, xlc, xx, Nat.xor_self, Nat.xor_zero]
theorem mc4 {a b c d a' b' c' d' : Nat} (ha : a < 256) (hb : b < 256) (hc : c < 256) (hd : d < 256) (ha' : a' < 256) (hb' : b' < 256) (hc' : c' < 256) (hd' : d' < 256)
    (h1 : mc a b c d = mc a' b' c' d') (h2 : mc b c d a = mc b' c' d' a') (h3 : mc c d a b = mc c' d' a' b') (h4 : mc d a b c = mc d' a' b' c') : a = a' := by
  -- mixed twice, at two places; then the same once more
  have p := mc2 ha hb hc hd
  have p' := mc2 ha' hb' hc' hd'
  have q := mc2 hc hd ha hb
  have q' := mc2 hc' hd' ha' hb'
  rw [h1, h2, h3, h4, p'] at p
  rw [h1, h2, h3, h4, q'] at q
  have back : ∀ {x z : Nat}, x < 256 → z < 256 → (x ^^^ (xt (xt x) ^^^ xt (xt z))) ^^^ (xt (xt (x ^^^ (xt (xt x) ^^^ xt (xt z)))) ^^^ xt (xt (z ^^^ (xt (xt z) ^^^ xt (xt x))))) = x := by
    intro x z hx hz
    have X1 := xt_lt hx
    have X2 := xt_lt X1
    have Z1 := xt_lt hz
    have Z2 := xt_lt Z1
    have X3 := xt_lt X2
    have Z3 := xt_lt Z2
    have m1 : xt (xt (x ^^^ (xt (xt x) ^^^ xt (xt z)))) = xt (xt x) ^^^ (xt (xt (xt (xt x))) ^^^ xt (xt (xt (xt z)))) := by
      rw [xtx hx (xor_lt X2 Z2), xtx X2 Z2, xtx X1 (xor_lt X3 Z3), xtx X3 Z3]
    have m2 : xt (xt (z ^^^ (xt (xt z) ^^^ xt (xt x)))) = xt (xt z) ^^^ (xt (xt (xt (xt z))) ^^^ xt (xt (xt (xt x)))) := by
      rw [xtx hz (xor_lt Z2 X2), xtx Z2 X2, xtx Z1 (xor_lt Z3 X3), xtx Z3 X3]
    rw [m1, m2]
    generalize xt (xt (xt (xt x))) = a4
    generalize xt (xt (xt (xt z))) = b4
    generalize xt (xt x) = a2
    generalize xt (xt z) = b2
    simp only [Nat.xor_comm, xlc, xx, Nat.xor_self, Nat.xor_zero]
  have r := back ha hc
  have r' := back ha' hc'
  rw [← p, ← q, r'] at r
  exact r.symm

theorem ext_getD {A B : List Nat} (hl : A.length = B.length) (h : ∀ i, i < A.length → A.getD i 0 = B.getD i 0) : A = B := by
  apply List.ext_getElem hl
  intro i h1 h2
  have := h i h1
  simpa [List.getD_eq_getElem?_getD, h1, h2] using this
theorem getD_zip {A B : List Nat} {i : Nat} (ha : i < A.length) (hb : i < B.length) : (List.zipWith (· ^^^ ·) A B).getD i 0 = A.getD i 0 ^^^ B.getD i 0 := by
  have hz : i < (List.zipWith (· ^^^ ·) A B).length := by rw [List.length_zipWith]; omega
  simp only [List.getD_eq_getElem?_getD]
  rw [List.getElem?_eq_getElem hz, List.getElem?_eq_getElem ha, List.getElem?_eq_getElem hb, Option.getD_some, Option.getD_some, Option.getD_some, List.getElem_zipWith]
theorem zip_inj {A A' B : List Nat} (h1 : A.length = A'.length) (h2 : A.length ≤ B.length) (h : List.zipWith (· ^^^ ·) A B = List.zipWith (· ^^^ ·) A' B) : A = A' := by
  refine ext_getD h1 ?_
  intro i hi
  have := congrArg (fun l : List Nat => l.getD i 0) h
  try simp only at this
  rw [getD_zip hi (by omega), getD_zip (by omega) (by omega)] at this
  have e := congrArg (fun x => x ^^^ B.getD i 0) this
  simpa [Nat.xor_assoc, Nat.xor_self] using e
theorem subRow_getD (S : List Nat) {i : Nat} (hi : i < 16) : (subRow S).getD i 0 = boxL.getD (S.getD ((i + i % 4 * 4) % 16) 0) 0 := by
  simp [subRow, List.getD_eq_getElem?_getD, hi]
theorem rows_all : ∀ p, p < 16 → ∃ i, i < 16 ∧ (i + i % 4 * 4) % 16 = p := by decide
theorem subRow_inj {S S' : List Nat} (h1 : S.length = 16) (h2 : S'.length = 16) (hs : ∀ x ∈ S, x < 256) (hs' : ∀ x ∈ S', x < 256) (h : subRow S = subRow S') : S = S' := by
  refine ext_getD (by omega) ?_
  intro p hp
  obtain ⟨i, hi, e⟩ := rows_all p (by omega)
  have := congrArg (fun l : List Nat => l.getD i 0) h
  try simp only at this
  rw [subRow_getD S hi, subRow_getD S' hi, e] at this
  exact boxL_inj _ (getD_lt hs (by omega) p) _ (getD_lt hs' (by omega) p) this
theorem getD_set (L : List Nat) (i j v : Nat) : (L.set i v).getD j 0 = if i = j ∧ i < L.length then v else L.getD j 0 := by
  simp only [List.getD_eq_getElem?_getD, List.getElem?_set]
  by_cases h : i = j
  · subst h
    by_cases h2 : i < L.length
    · simp [h2]
    · simp [h2]
  · simp [h]
theorem mixN_out (N : List Nat) (off : Nat) : ∀ i j, (j < off ∨ off + i ≤ j) → (mixN N off i).getD j 0 = N.getD j 0 := by
  intro i
  induction i with
  | zero => intro j _; rfl
  | succ i ih =>
    intro j hj
    rw [mixN, getD_set, if_neg (by omega)]
    exact ih j (by omega)
theorem mixN_in (N : List Nat) (off : Nat) : ∀ i j, j < i → off + i ≤ N.length → (mixN N off i).getD (off + j) 0 = mixv N off j := by
  intro i
  induction i with
  | zero => intro j h; omega
  | succ i ih =>
    intro j hj hl
    rw [mixN, getD_set, mixN_len]
    by_cases h : j = i
    · subst h; rw [if_pos (by omega)]
    · rw [if_neg (by omega)]; exact ih j (by omega) (by omega)
theorem mixN_inj {N N' : List Nat} {off : Nat} (h1 : N.length = N'.length) (ho : off + 4 ≤ N.length) (hn : ∀ x ∈ N, x < 256) (hn' : ∀ x ∈ N', x < 256) (h : mixN N off 4 = mixN N' off 4) : N = N' := by
  have g := fun i => getD_lt hn (by omega) i
  have g' := fun i => getD_lt hn' (by omega) i
  have hv : ∀ j, j < 4 → mixv N off j = mixv N' off j := by
    intro j hj
    have := congrArg (fun l : List Nat => l.getD (off + j) 0) h
    try simp only at this
    rw [mixN_in N off 4 j hj ho, mixN_in N' off 4 j hj (by omega)] at this
    exact this
  have tl : ∀ {M : List Nat}, (∀ x ∈ M, x < 256) → mixv M off 0 = mc (M.getD off 0) (M.getD (off + 1) 0) (M.getD (off + 2) 0) (M.getD (off + 3) 0) ∧ mixv M off 1 = mc (M.getD (off + 1) 0) (M.getD (off + 2) 0) (M.getD (off + 3) 0) (M.getD off 0) ∧
      mixv M off 2 = mc (M.getD (off + 2) 0) (M.getD (off + 3) 0) (M.getD off 0) (M.getD (off + 1) 0) ∧ mixv M off 3 = mc (M.getD (off + 3) 0) (M.getD off 0) (M.getD (off + 1) 0) (M.getD (off + 2) 0) := by
    intro M hm
    have gm := fun i => getD_lt hm (by omega) i
    have t2 := fun i j => tms_two (xor_lt (gm i) (gm j))
    unfold mixv mc
    simp only [Nat.reduceAdd, Nat.reduceMod, Nat.add_zero, t2]
    simp only [Nat.xor_assoc, Nat.xor_comm, xlc, and_self]
  obtain ⟨a1, a2, a3, a4⟩ := tl hn
  obtain ⟨b1, b2, b3, b4⟩ := tl hn'
  have e0 := hv 0 (by omega)
  have e1 := hv 1 (by omega)
  have e2 := hv 2 (by omega)
  have e3 := hv 3 (by omega)
  rw [a1, b1] at e0
  rw [a2, b2] at e1
  rw [a3, b3] at e2
  rw [a4, b4] at e3
  refine ext_getD h1 ?_
  intro p _
  by_cases hp : p < off ∨ off + 4 ≤ p
  · have := congrArg (fun l : List Nat => l.getD p 0) h
    try simp only at this
    rw [mixN_out N off 4 p hp, mixN_out N' off 4 p hp] at this
    exact this
  · obtain rfl | rfl | rfl | rfl : p = off ∨ p = off + 1 ∨ p = off + 2 ∨ p = off + 3 := by omega
    · exact mc4 (g _) (g _) (g _) (g _) (g' _) (g' _) (g' _) (g' _) e0 e1 e2 e3
    · exact mc4 (g _) (g _) (g _) (g _) (g' _) (g' _) (g' _) (g' _) e1 e2 e3 e0
    · exact mc4 (g _) (g _) (g _) (g _) (g' _) (g' _) (g' _) (g' _) e2 e3 e0 e1
    · exact mc4 (g _) (g _) (g _) (g _) (g' _) (g' _) (g' _) (g' _) e3 e0 e1 e2
theorem mixS_inj {N N' : List Nat} (h1 : N.length = 16) (h2 : N'.length = 16) (hn : ∀ x ∈ N, x < 256) (hn' : ∀ x ∈ N', x < 256) : ∀ j, j ≤ 4 → mixS N j = mixS N' j → N = N' := by
  intro j
  induction j with
  | zero => intro _ h; exact h
  | succ j ih =>
    intro hj h
    have o := mixS_ok hn j
    have o' := mixS_ok hn' j
    exact ih (by omega) (mixN_inj (by omega) (by omega) o.2 o'.2 h)
theorem blkN_inj {W M M' : List Nat} (hW : ∀ x ∈ W, x < 256) (hl : W.length = 176) (hm : ∀ x ∈ M, x < 256) (hm' : ∀ x ∈ M', x < 256) (h1 : M.length = 16) (h2 : M'.length = 16) : ∀ n, n ≤ 10 → blkN W M n = blkN W M' n → M = M' := by
  intro n
  induction n with
  | zero => intro _ h; exact h
  | succ n ih =>
    intro hn h
    have o := blkN_ok W hm h1 n (by omega)
    have o' := blkN_ok W hm' h2 n (by omega)
    have r := addRK_ok (n := n) hW (by omega) o.2 o.1
    have r' := addRK_ok (n := n) hW (by omega) o'.2 o'.1
    have s := subRow_ok (addRK (blkN W M n) W n)
    have s' := subRow_ok (addRK (blkN W M' n) W n)
    have key : subRow (addRK (blkN W M n) W n) = subRow (addRK (blkN W M' n) W n) := by
      simp only [blkN] at h
      split at h
      · exact mixS_inj s.1 s'.1 s.2 s'.2 4 (Nat.le_refl _) h
      · exact h
    have k2 := subRow_inj r.1 r'.1 r.2 r'.2 key
    exact ih (by omega) (zip_inj (by omega) (by rw [List.length_drop]; omega) k2)
theorem blk_inj {K M M' : List Nat} (hK : ∀ x ∈ K, x < 256) (hk : K.length = 16) (hm : ∀ x ∈ M, x < 256) (hm' : ∀ x ∈ M', x < 256) (h1 : M.length = 16) (h2 : M'.length = 16) (h : blk K M = blk K M') : M = M' := by
  have hl : (kwords K).length = 176 := (exN_ok boxL_lt hK hk 40).1
  have hw : ∀ x ∈ kwords K, x < 256 := (exN_ok boxL_lt hK hk 40).2.1
  have o := blkN_ok (kwords K) hm h1 10 (by omega)
  have o' := blkN_ok (kwords K) hm' h2 10 (by omega)
  exact blkN_inj hw hl hm hm' h1 h2 10 (by omega) (zip_inj (by omega) (by rw [List.length_drop]; omega) h)
theorem blk_lt {K M : List Nat} (hK : ∀ x ∈ K, x < 256) (hk : K.length = 16) (hm : ∀ x ∈ M, x < 256) (h1 : M.length = 16) : (blk K M).length = 16 ∧ ∀ x ∈ blk K M, x < 256 := by
  have hl : (kwords K).length = 176 := (exN_ok boxL_lt hK hk 40).1
  have hw : ∀ x ∈ kwords K, x < 256 := (exN_ok boxL_lt hK hk 40).2.1
  have o := blkN_ok (kwords K) hm h1 10 (by omega)
  exact addRK_ok hw (by omega) o.2 o.1
end Go.Proofs.Ytfpjpakjlhidkaa.AesM
