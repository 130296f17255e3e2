/- Plain: when a parent leads on from a child: as the program asks, and as the document does. -/
import Derived.Test.YtngealmhgkoaiaaGreatZHashStands22
import Derived.Test.YtngealmhgkoaiaaGreatZHashStands23
import Derived.Test.YtngealmhgkoaiaaGreatZHashStands36
namespace Go.Proofs.YtngealmhgkoaiaaGreat
open Go.RowKit WalkM ShaM
set_option linter.unusedVariables false
theorem nodup_full {t : List NodeD} (hs : t.length ≤ 1000) (hr : rightT t = true) {k x : Nat} (hl : IsLev x k) (hx : x + 2 ^ k ≤ t.length) : (fullR (nd t x) x).Nodup := by
 have hp : 0 < 2 ^ k := Nat.two_pow_pos k
 have hxt : x < t.length := by omega
 have hpl := (placedB_iff t).1 (right_placedT hr) x hxt
 unfold fullR
 rw [List.nodup_cons]
 have hrise := late_rises (right_late hpl.2)
 refine ⟨fun hm => ?_, ?_⟩
 ·rw [List.mem_map] at hm
  obtain ⟨u, hu, e⟩ := hm
  obtain ⟨m, rfl, h1, h2, h3⟩ := lates_in hr hxt u hu
  have he : x % 2 = 0 := by omega
  have hk2 : (nd t x).kind ≠ 2 := by have := hpl.1; rw [otherK_even he] at this; exact this
  have hrb := hpl.2
  unfold rightB at hrb
  simp only [if_neg hk2] at hrb
  split at hrb
  ·rw [Bool.and_eq_true] at hrb
   have := of_decide_eq_true hrb.2
   have h0 : (nd t x).par.late = [] := List.eq_nil_of_length_eq_zero (by omega)
   rw [h0] at hu; cases hu
  ·split at hrb
   ·rw [Bool.and_eq_true] at hrb
    have := of_decide_eq_true hrb.2
    have h0 : (nd t x).par.late = [] := List.eq_nil_of_length_eq_zero (by omega)
    rw [h0] at hu; cases hu
   ·cases hrb
 ·rw [List.nodup_iff_pairwise_ne, List.pairwise_map]
  exact hrise.imp fun h => by omega
theorem nodup_lev {t : List NodeD} (hs : t.length ≤ 1000) (hr : rightT t = true) : ∀ k x, IsLev x k → x + 2 ^ k ≤ t.length → (resN (nd t) k x).Nodup := by
 intro k
 induction k with
 | zero =>
  intro x hl hx
  by_cases h0 : (nd t x).kind = 0
  ·rw [resN_zero h0]; exact List.nodup_nil
  ·rw [resN_full h0]; exact nodup_full hs hr hl hx
 | succ k ih =>
  intro x hl hx
  by_cases h0 : (nd t x).kind = 0
  ·rw [resN_succ h0]
   have hp : 0 < 2 ^ k := Nat.two_pow_pos k
   have e2 : 2 ^ (k + 1) = 2 * 2 ^ k := by rw [Nat.pow_succ]; omega
   obtain ⟨k1, k2, k3, k4, k5⟩ := kids_lev (by omega) hl
   rw [List.nodup_append]
   refine ⟨ih _ k3 (by omega), ih _ k4 (by omega), ?_⟩
   intro a ha b hb e
   subst e
   obtain ⟨y, rfl, h1, h2, h3⟩ := (cov_lev hs hr k).all _ k3 (by omega) _ ha
   obtain ⟨z, e, h4, h5, h6⟩ := (cov_lev hs hr k).all _ k4 (by omega) _ hb
   obtain rfl : y = z := by omega
   unfold inR at h3 h6
   omega
  ·rw [resN_full h0]; exact nodup_full hs hr hl hx
/-- the late leaves of p beneath c -/
def lateU (t : List NodeD) (p c : Nat) : List Int := ((nd t p).par.late.filter fun u => undZ (2 * u) (c : Int)).map fun u => 2 * u
/-- the parent hash that a node bears -/
def bearsD (d : NodeD) : List Nat := if d.kind = 1 then d.leaf.par else d.par.hash
/-- as the program asks, at the i-th of those that c resolves to -/
def linkAt (t : List NodeD) (p c o i : Nat) : Bool :=
 decide (bearsD (nd t ((resX t c).getD i 0).toNat) = shaF (seenT t p o)) && decide (sortL ((resX t c).eraseIdx i) = lateU t p c)
def linkB (t : List NodeD) (p c o : Nat) : Bool := (List.range (resX t c).length).any (linkAt t p c o)
/-- as the document asks -/
def rbearB (t : List NodeD) (p c o i : Nat) : Bool := decide (shaF (seenT t p o) = (nd t ((resX t c).getD i 0).toNat).leaf.par) || decide (shaF (seenT t p o) = (nd t ((resX t c).getD i 0).toNat).par.hash)
def oddOut (t : List NodeD) (p c i k : Nat) : Bool := decide (k ≠ i) && (decide ((resX t c).getD k 0 % 2 = 1) || !decide ((resX t c).getD k 0 / 2 ∈ (nd t p).par.late))
def lateOut (t : List NodeD) (p c i k : Nat) : Bool :=
 let u := 2 * (nd t p).par.late.getD k 0
 undZ u (c : Int) && (decide (u = (resX t c).getD i 0) || !decide (u ∈ resX t c))
def rlinkAt (t : List NodeD) (p c o i : Nat) : Bool :=
 rbearB t p c o i && ((List.range (resX t c).length).all (fun k => !oddOut t p c i k) && (List.range (nd t p).par.late.length).all fun k => !lateOut t p c i k)
theorem eraseIdx_mem {α : Type} {L : List α} {i : Nat} {x : α} : x ∈ L.eraseIdx i ↔ ∃ k, k ≠ i ∧ L[k]? = some x := by
 rw [List.mem_eraseIdx_iff_getElem?]
theorem sorted_eq {L M : List Int} (h1 : L.Perm M) (h2 : M.Pairwise (· < ·)) : sortL L = M := by
 have hp : (sortL L).Perm M := (List.mergeSort_perm L _).trans h1
 have hs : (sortL L).Pairwise fun a b => decide (a ≤ b) = true := List.pairwise_mergeSort (fun a b c h1 h2 => by simp at *; omega) (fun a b => by simp; omega) L
 have hm : M.Pairwise fun a b => decide (a ≤ b) = true := h2.imp fun h => by simp; omega
 refine List.Perm.eq_of_pairwise (le := fun a b => decide (a ≤ b) = true) ?_ hs hm hp
 intro a b _ _ h3 h4
 simp at h3 h4; omega
theorem lateU_mem {t : List NodeD} {p c : Nat} {x : Int} : x ∈ lateU t p c ↔ ∃ u ∈ (nd t p).par.late, undZ (2 * u) (c : Int) = true ∧ x = 2 * u := by
 unfold lateU
 rw [List.mem_map]
 constructor
 ·rintro ⟨u, hu, e⟩
  rw [List.mem_filter] at hu
  exact ⟨u, hu.1, hu.2, e.symm⟩
 ·rintro ⟨u, hu, h1, e⟩
  exact ⟨u, List.mem_filter.2 ⟨hu, h1⟩, e.symm⟩
theorem lateU_rises {t : List NodeD} (hr : rightT t = true) {p : Nat} (hp : p < t.length) (c : Nat) : (lateU t p c).Pairwise (· < ·) := by
 have hpl := (placedB_iff t).1 (right_placedT hr) p hp
 unfold lateU
 rw [List.pairwise_map]
 exact ((late_rises (right_late hpl.2)).filter _).imp fun h => by omega
theorem getD_some {L : List Int} {i : Nat} (h : i < L.length) : L[i]? = some (L.getD i 0) := by
 rw [List.getD_eq_getElem?_getD, List.getElem?_eq_getElem h]; rfl
theorem res_all {t : List NodeD} (hs : t.length ≤ 1000) (hr : rightT t = true) {c : Nat} (hc : c < t.length) : ∀ r ∈ resX t c, ∃ y : Nat, r = (y : Int) ∧ y < t.length ∧ (nd t y).kind ≠ 0 ∧ undZ (y : Int) (c : Int) = true := by
 obtain ⟨hl, hx⟩ := lev_inT (by omega) hr hc
 intro r hrm
 obtain ⟨y, e, h1, h2, h3⟩ := (cov_lev hs hr _).all c hl hx r hrm
 exact ⟨y, e, h1, h2, (und_inR (by omega) (by omega) hl).2 h3⟩
theorem res_nodup {t : List NodeD} (hs : t.length ≤ 1000) (hr : rightT t = true) {c : Nat} (hc : c < t.length) : (resX t c).Nodup := by
 obtain ⟨hl, hx⟩ := lev_inT (by omega) hr hc
 exact nodup_lev hs hr _ c hl hx
theorem rest_iff {t : List NodeD} (hs : t.length ≤ 1000) (hr : rightT t = true) {p c i : Nat} (hp : p < t.length) (hc : c < t.length) (hi : i < (resX t c).length) :
  sortL ((resX t c).eraseIdx i) = lateU t p c ↔ ((List.range (resX t c).length).all (fun k => !oddOut t p c i k) && (List.range (nd t p).par.late.length).all fun k => !lateOut t p c i k) = true := by
 have hall := res_all hs hr hc
 have hnd := res_nodup hs hr hc
 have hdi := getD_some hi
 have hdm : (resX t c).getD i 0 ∈ resX t c := List.mem_iff_getElem?.2 ⟨i, hdi⟩
 obtain ⟨D, hD⟩ : ∃ D, D = resX t c := ⟨_, rfl⟩
 obtain ⟨L, hL⟩ : ∃ L, L = (nd t p).par.late := ⟨_, rfl⟩
 have hodd : ∀ k, oddOut t p c i k = (decide (k ≠ i) && (decide (D.getD k 0 % 2 = 1) || !decide (D.getD k 0 / 2 ∈ L))) := fun k => by rw [hD, hL]; rfl
 have hlo : ∀ k, lateOut t p c i k = (undZ (2 * L.getD k 0) (c : Int) && (decide (2 * L.getD k 0 = D.getD i 0) || !decide (2 * L.getD k 0 ∈ D))) := fun k => by rw [hD, hL]; rfl
 have hlm : ∀ x, x ∈ lateU t p c ↔ ∃ u ∈ L, undZ (2 * u) (c : Int) = true ∧ x = 2 * u := fun x => by rw [hL]; exact lateU_mem
 rw [← hD] at hall hnd hdi hdm hi ⊢
 rw [← hL]
 have hun : ∀ x, x ∈ D.eraseIdx i ↔ x ∈ D ∧ x ≠ D.getD i 0 := by
  intro x
  rw [eraseIdx_mem]
  constructor
  ·rintro ⟨k, hk, e⟩
   refine ⟨List.mem_iff_getElem?.2 ⟨k, e⟩, fun ex => hk ?_⟩
   rw [ex] at e
   have hkl : k < D.length := (List.getElem?_eq_some_iff.1 e).1
   exact (List.getElem?_inj hkl hnd).1 (e.trans hdi.symm)
  ·rintro ⟨hm, hne⟩
   obtain ⟨k, e⟩ := List.mem_iff_getElem?.1 hm
   exact ⟨k, fun ek => hne (by rw [ek, hdi] at e; exact (Option.some.inj e).symm), e⟩
 rw [Bool.and_eq_true, List.all_eq_true, List.all_eq_true]
 constructor
 ·intro h
  have hmem : ∀ x, x ∈ D.eraseIdx i ↔ x ∈ lateU t p c := by
   intro x
   rw [← h]
   exact ((List.mergeSort_perm (D.eraseIdx i) _).mem_iff).symm
  refine ⟨fun k hk => ?_, fun k hk => ?_⟩
  ·rw [List.mem_range] at hk
   rw [hodd, Bool.not_eq_true', Bool.and_eq_false_imp, Bool.or_eq_false_iff]
   intro hki
   have hki := of_decide_eq_true hki
   have hm : D.getD k 0 ∈ D.eraseIdx i := eraseIdx_mem.2 ⟨k, hki, getD_some hk⟩
   obtain ⟨u, hu, h1, e⟩ := (hlm _).1 ((hmem _).1 hm)
   rw [e]
   refine ⟨decide_eq_false (by omega), ?_⟩
   rw [show 2 * u / 2 = u by omega, decide_eq_true hu]; rfl
  ·rw [List.mem_range] at hk
   rw [hlo, Bool.not_eq_true', Bool.and_eq_false_imp, Bool.or_eq_false_iff]
   intro h1
   have hu : L.getD k 0 ∈ L := List.mem_iff_getElem?.2 ⟨k, getD_some hk⟩
   have hm := (hun _).1 ((hmem _).2 ((hlm _).2 ⟨_, hu, h1, rfl⟩))
   refine ⟨decide_eq_false hm.2, ?_⟩
   rw [decide_eq_true hm.1]; rfl
 ·rintro ⟨h1, h2⟩
  refine sorted_eq ?_ (lateU_rises hr hp c)
  refine (List.perm_ext_iff_of_nodup (hnd.eraseIdx i) ?_).2 fun x => ?_
  ·exact (lateU_rises hr hp c).imp fun h e => by omega
  ·constructor
   ·intro hx
    obtain ⟨k, hk, e⟩ := eraseIdx_mem.1 hx
    have hkl : k < D.length := (List.getElem?_eq_some_iff.1 e).1
    have := h1 k (List.mem_range.2 hkl)
    rw [hodd, Bool.not_eq_true', Bool.and_eq_false_imp, Bool.or_eq_false_iff] at this
    obtain ⟨a1, a2⟩ := this (decide_eq_true hk)
    have ex : D.getD k 0 = x := by rw [List.getD_eq_getElem?_getD, e]; rfl
    rw [ex] at a1 a2
    have a3 : x / 2 ∈ L := by
     have : decide (x / 2 ∈ L) = true := by simpa using a2
     exact of_decide_eq_true this
    have a4 := of_decide_eq_false a1
    obtain ⟨y, rfl, h3, h4, h5⟩ := hall x ((hun x).1 hx).1
    have e2 : 2 * ((y : Int) / 2) = (y : Int) := by omega
    exact (hlm _).2 ⟨_, a3, by rw [e2]; exact h5, e2.symm⟩
   ·intro hx
    obtain ⟨u, hu, h3, e⟩ := (hlm _).1 hx
    obtain ⟨k, hk⟩ := List.mem_iff_getElem?.1 hu
    have hkl : k < L.length := (List.getElem?_eq_some_iff.1 hk).1
    have := h2 k (List.mem_range.2 hkl)
    have eu : L.getD k 0 = u := by rw [List.getD_eq_getElem?_getD, hk]; rfl
    rw [hlo, Bool.not_eq_true', Bool.and_eq_false_imp, Bool.or_eq_false_iff, eu] at this
    obtain ⟨b1, b2⟩ := this h3
    have b3 : 2 * u ∈ D := by
     have : decide (2 * u ∈ D) = true := by simpa using b2
     exact of_decide_eq_true this
    rw [e]
    exact (hun _).2 ⟨b3, of_decide_eq_false b1⟩
theorem bears_eq {t : List NodeD} (hs : t.length ≤ 1000) (hr : rightT t = true) {p c o i : Nat} (hc : c < t.length) (hi : i < (resX t c).length) :
  decide (bearsD (nd t ((resX t c).getD i 0).toNat) = shaF (seenT t p o)) = rbearB t p c o i := by
 have hdm : (resX t c).getD i 0 ∈ resX t c := List.mem_iff_getElem?.2 ⟨i, getD_some hi⟩
 obtain ⟨y, e, h1, h2, h3⟩ := res_all hs hr hc _ hdm
 unfold rbearB
 rw [e, Int.toNat_natCast]
 have h32 := shaF_len (seenT t p o)
 obtain ⟨S, hS⟩ : ∃ S, S = shaF (seenT t p o) := ⟨_, rfl⟩
 rw [← hS] at h32 ⊢
 have hrb := ((placedB_iff t).1 (right_placedT hr) y h1).2
 obtain ⟨d, hd⟩ : ∃ d, d = nd t y := ⟨_, rfl⟩
 rw [← hd] at hrb h2 ⊢
 unfold rightB at hrb
 simp only [if_neg h2] at hrb
 unfold bearsD
 by_cases hk : d.kind = 1
 ·rw [if_pos hk] at hrb ⊢
  rw [Bool.and_eq_true] at hrb
  have := of_decide_eq_true hrb.2
  have h0 : d.par.hash = [] := List.eq_nil_of_length_eq_zero (by omega)
  have hne : ¬ (S = d.par.hash) := fun e => by rw [h0] at e; rw [e] at h32; cases h32
  rw [decide_eq_false hne, Bool.or_false]
  exact decide_eq_decide.2 eq_comm
 ·rw [if_neg hk] at hrb ⊢
  split at hrb
  ·rw [Bool.and_eq_true] at hrb
   have := of_decide_eq_true hrb.1
   have h0 : d.leaf.par = [] := List.eq_nil_of_length_eq_zero (by omega)
   have hne : ¬ (S = d.leaf.par) := fun e => by rw [h0] at e; rw [e] at h32; cases h32
   rw [decide_eq_false hne, Bool.false_or]
   exact decide_eq_decide.2 eq_comm
  ·cases hrb
theorem link_eq {t : List NodeD} (hs : t.length ≤ 1000) (hr : rightT t = true) {p c o : Nat} (hp : p < t.length) (hc : c < t.length) :
  linkB t p c o = (List.range (resX t c).length).any (rlinkAt t p c o) := by
 unfold linkB
 rw [Bool.eq_iff_iff, List.any_eq_true, List.any_eq_true]
 have h : ∀ i, i ∈ List.range (resX t c).length → linkAt t p c o i = rlinkAt t p c o i := by
  intro i hi
  rw [List.mem_range] at hi
  unfold linkAt rlinkAt
  rw [bears_eq hs hr hc hi]
  congr 1
  rw [Bool.eq_iff_iff, decide_eq_true_iff]
  exact rest_iff hs hr hp hc hi
 constructor
 ·rintro ⟨i, hi, e⟩; exact ⟨i, hi, by rw [← h i hi]; exact e⟩
 ·rintro ⟨i, hi, e⟩; exact ⟨i, hi, by rw [h i hi]; exact e⟩
end Go.Proofs.YtngealmhgkoaiaaGreat
