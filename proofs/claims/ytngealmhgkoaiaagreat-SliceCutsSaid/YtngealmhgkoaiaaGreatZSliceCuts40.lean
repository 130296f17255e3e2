/- Plain: what slice.opens opens and shuts, in order; what the document's Opens tells. -/
import Derived.Test.YtngealmhgkoaiaaGreatZSliceCutsB
import Derived.Test.YtngealmhgkoaiaaGreatZSliceCuts30
import Derived.Test.YtngealmhgkoaiaaGreatZSliceCuts32
import Derived.Test.YtngealmhgkoaiaaGreatZSliceCuts37
import Derived.Test.YtngealmhgkoaiaaGreatZSliceCuts24
open Nat renaming two_pow_pos → fA, pow_succ → aN, pow_le_pow_right → aY, sub_zero → fU, lt_or_ge → aB, div_add_mod → aU, mul_add → fV, mul_le_mul_left → aC
open List renaming append_assoc → bW, pairwise_append → fQ, singleton_append → fR, mem_cons → aE, mem_append → eY, mem_singleton → fW, not_mem_nil → eZ, nodup_append → fX, mem_append_left → fY, mem_map → eW, mem_flatMap → fZ, range → aF, pairwise_flatMap → gA, nodup_cons → gC, all_eq_true → gD, perm_ext_iff_of_nodup → gE
open Bool renaming and_eq_true → cE, eq_iff_iff → gF, or_eq_true → cF, not_eq_true → bL
set_option linter.unusedVariables false
set_option maxRecDepth 100000
set_option maxHeartbeats 40000000
namespace Go.Proofs.YtngealmhgkoaiaaGreat
open Go.RowKit WalkM WireM
def Ox (k x : Nat) (L : List Int) : Prop := ∀ y ∈ L, ∃ m : Nat, y = (m : Int) ∧ inR k x m
theorem Ec (k x : Nat) : inR k x x := by have := fA k; unfold inR; omega
theorem Ba {k x y : Nat} (h : 2 ^ k ≤ x) : inR (k + 1) x y ↔ y = x ∨ inR k (x - 2 ^ k) y ∨ inR k (x + 2 ^ k) y := by
 have e : 2 ^ (k + 1) = 2 * 2 ^ k := (by rw [aN]; omega); have hp := fA k; unfold inR; omega
theorem Hn {k x y : Nat} (h : 2 ^ k ≤ x) (hy : inR k (x - 2 ^ k) y) : y < x := by unfold inR at hy; omega
theorem Ft {k x y : Nat} (hy : inR k (x + 2 ^ k) y) : x < y := by unfold inR at hy; omega
structure SpanR (k x : Nat) (r : List Int × List Int × Bool) : Prop where
 op : Ox k x r.1
 sh : Ox k x r.2.1
 opr : r.1.Pairwise (· < ·)
 shr : r.2.1.Pairwise (· < ·)
theorem Kw {V : Nat → Nat → List Int → List Int × List Int × Bool} {i : Nat} {only : Bool} {c k how : Nat} {d : NodeD} {late : List Int} (h : ∀ how late, SpanR k c (V c how late)) : SpanR k c (Gj V i only c how d late) := by
 have hs : SpanR k c ([], [(c : Int)], true) := ⟨fun y hy => by simp at hy, fun y hy => ⟨c, by simpa using hy, Ec k c⟩, by simp, by simp⟩; unfold Gj
 split
 ·exact h _ _
 ·split
  ·exact hs
  ·split
   ·exact h _ _
   ·split
    ·exact h _ _
    ·exact hs
theorem Rg {k x : Nat} {A B : List Int} (hx : 2 ^ k ≤ x) (hA : Ox k (x - 2 ^ k) A) (hB : Ox k (x + 2 ^ k) B) (ra : A.Pairwise (· < ·)) (rb : B.Pairwise (· < ·)) :
  (A ++ [(x : Int)] ++ B).Pairwise (· < ·) ∧ (A ++ B).Pairwise (· < ·) ∧ Ox (k + 1) x (A ++ [(x : Int)] ++ B) ∧ Ox (k + 1) x (A ++ B) := by
 have lA : ∀ y ∈ A, y < (x : Int) := fun y hy => (by obtain ⟨m, e, h⟩ := hA y hy; have := Hn hx h; omega); have lB : ∀ y ∈ B, (x : Int) < y := fun y hy => (by obtain ⟨m, e, h⟩ := hB y hy; have := Ft h; omega); have iA : Ox (k + 1) x A := fun y hy => (by obtain ⟨m, e, h⟩ := hA y hy; exact ⟨m, e, (Ba hx).2 (.inr (.inl h))⟩); have iB : Ox (k + 1) x B := fun y hy => (by obtain ⟨m, e, h⟩ := hB y hy; exact ⟨m, e, (Ba hx).2 (.inr (.inr h))⟩); refine ⟨?_, ?_, ?_, ?_⟩
 ·rw [bW, fQ]; refine ⟨ra, ?_, ?_⟩
  ·rw [fR, List.pairwise_cons]; exact ⟨lB, rb⟩
  ·intro a ha b hb; simp only [fR, aE] at hb; rcases hb with rfl | hb
   ·exact lA a ha
   ·have := lA a ha; have := lB b hb; omega
 ·rw [fQ]; exact ⟨ra, rb, fun a ha b hb => by have := lA a ha; have := lB b hb; omega⟩
 ·intro y hy; simp only [eY, fW] at hy; rcases hy with (h | h) | h
  ·exact iA y h
  ·exact ⟨x, h, Ec _ _⟩
  ·exact iB y h
 ·intro y hy; rw [eY] at hy; rcases hy with h | h
  ·exact iA y h
  ·exact iB y h
theorem En {x k M : Nat} (hl : IsLev x (k + 1)) (hx : x + 2 ^ (k + 1) ≤ M) (hM : M ≤ 131071) : IsLev (x - 2 ^ k) k ∧ IsLev (x + 2 ^ k) k ∧ 2 ^ k ≤ x ∧ x - 2 ^ k + 2 ^ k ≤ M ∧ x + 2 ^ k + 2 ^ k ≤ M ∧ Dm (x : Int) = ((x - 2 ^ k : Nat) : Int) ∧ Bq (x : Int) = ((x + 2 ^ k : Nat) : Int) := by
 have hp := fA k; have e : 2 ^ (k + 1) = 2 * 2 ^ k := (by rw [aN]; omega); obtain ⟨h1, h2, h3, h4, h5⟩ := Go.Proofs.YtngealmhgkoaiaaGreat.kids_lev (by omega) hl; exact ⟨h3, h4, h5, by omega, by omega, h1, h2⟩
theorem Dl {F : Nat → Option NodeD} {i : Nat} {only : Bool} : ∀ (k x how : Nat) (late : List Int), IsLev x k → x + 2 ^ k ≤ 131071 → SpanR k x (Cf F i only k x how late) := by
 intro k
 induction k with
 | zero =>
  intro x how late hl hx; cases hF : F x with
  | none => rw [By hF]; exact ⟨fun y hy => by simp at hy, fun y hy => by simp at hy, by simp, by simp⟩
  | some d => rw [Eu hF]; exact ⟨fun y hy => ⟨x, by simpa using hy, Ec _ _⟩, fun y hy => by simp at hy, by simp, by simp⟩
 | succ k ih =>
  intro x how late hl hx; cases hF : F x with
  | none => rw [By hF]; exact ⟨fun y hy => by simp at hy, fun y hy => by simp at hy, by simp, by simp⟩
  | some d =>
   rw [Ee hF]; obtain ⟨l1, l2, h0, h1, h2, -, -⟩ := En hl hx lR; have A := Kw (i := i) (only := only) (how := how) (d := d) (late := if how = 1 then d.par.late else late) fun a b => ih (x - 2 ^ k) a b l1 h1; have B := Kw (i := i) (only := only) (how := how) (d := d) (late := if how = 1 then d.par.late else late) fun a b => ih (x + 2 ^ k) a b l2 h2; obtain ⟨j1, -, j3, -⟩ := Rg h0 A.op B.op A.opr B.opr; obtain ⟨-, j2, -, j4⟩ := Rg h0 A.sh B.sh A.shr B.shr; exact ⟨j3, j4, j1, j2⟩
def Mp (z y : Int) : Prop := 0 ≤ y ∧ (y = Dm z ∨ y = Bq z)
def Zfm (r : List Int × List Int × Bool) : Prop := ∀ y, y ∈ r.2.1 ↔ (∃ z ∈ r.1, Mp z y) ∧ y ∉ r.1
theorem Oy {x : Nat} (hx : x ≤ 131070) (hl : IsLev x 0) : Dm (x : Int) = -1 ∧ Bq (x : Int) = -1 := by
 have h := Lj (x := (x : Int)) (by
  have e : Kc (x : Int) = 0 := by
   rw [Kc, if_pos (by unfold Bb; rw [decide_eq_true_iff]; omega), Int.toNat_natCast, lev_eq hx hl]; rfl
  omega)
 exact h
def Zhr (c : Nat) (r : List Int × List Int × Bool) : Prop := r.2.2 = true → ((c : Int) ∈ r.1 ∧ Zfm r) ∨ (r.1 = [] ∧ r.2.1 = [(c : Int)])
theorem Rh {V : Nat → Nat → List Int → List Int × List Int × Bool} {i : Nat} {only : Bool} {c how : Nat} {d : NodeD} {late : List Int} (h : ∀ how late, (V c how late).2.2 = true → (c : Int) ∈ (V c how late).1 ∧ Zfm (V c how late)) : Zhr c (Gj V i only c how d late) := by
 unfold Gj
 split
 ·exact fun ho => .inl (h _ _ ho)
 ·split
  ·exact fun _ => .inr ⟨rfl, rfl⟩
  ·split
   ·exact fun ho => .inl (h _ _ ho)
   ·split
    ·exact fun ho => .inl (h _ _ ho)
    ·exact fun _ => .inr ⟨rfl, rfl⟩
theorem Zav {F : Nat → Option NodeD} {i : Nat} {only : Bool} : ∀ (k x how : Nat) (late : List Int), IsLev x k → x + 2 ^ k ≤ 131071 → (Cf F i only k x how late).2.2 = true → (x : Int) ∈ (Cf F i only k x how late).1 ∧ Zfm (Cf F i only k x how late) := by
 intro k
 induction k with
 | zero =>
  intro x how late hl hx; have hp := fA 0; cases hF : F x with
  | none => rw [By hF]; intro h; cases h
  | some d =>
   rw [Eu hF]; intro _; refine ⟨by simp, fun y => ?_⟩; obtain ⟨e1, e2⟩ := Oy (by omega) hl; simp only [eZ, fW, false_iff, not_and]; rintro ⟨z, rfl, h0, h1 | h1⟩
   ·rw [e1] at h1; omega
   ·rw [e2] at h1; omega
 | succ k ih =>
  intro x how late hl hx; cases hF : F x with
  | none => rw [By hF]; intro h; cases h
  | some d =>
   rw [Ee hF]; obtain ⟨l1, l2, h0, h1, h2, kl, kr⟩ := En hl hx lR; have A := Kw (i := i) (only := only) (how := how) (d := d) (late := if how = 1 then d.par.late else late) fun a b => Dl (F := F) (i := i) (only := only) k (x - 2 ^ k) a b l1 h1; have B := Kw (i := i) (only := only) (how := how) (d := d) (late := if how = 1 then d.par.late else late) fun a b => Dl (F := F) (i := i) (only := only) k (x + 2 ^ k) a b l2 h2; have PA := Rh (i := i) (only := only) (how := how) (d := d) (late := if how = 1 then d.par.late else late) fun a b => ih (x - 2 ^ k) a b l1 h1; have PB := Rh (i := i) (only := only) (how := how) (d := d) (late := if how = 1 then d.par.late else late) fun a b => ih (x + 2 ^ k) a b l2 h2; generalize Gj (Cf F i only k) i only (x - 2 ^ k) how d (if how = 1 then d.par.late else late) = a at A PA ⊢; generalize Gj (Cf F i only k) i only (x + 2 ^ k) how d (if how = 1 then d.par.late else late) = b at B PB ⊢; intro hok; have hok' : (a.2.2 && b.2.2) = true := hok; rw [cE] at hok'; refine ⟨by simp [Te], fun y => ?_⟩; show y ∈ a.2.1 ++ b.2.1 ↔ (∃ z ∈ a.1 ++ [(x : Int)] ++ b.1, Mp z y) ∧ y ∉ a.1 ++ [(x : Int)] ++ b.1; simp only [eY, fW]; have la : ∀ y ∈ a.1, y < (x : Int) := fun y hy => (by obtain ⟨m, e, h⟩ := A.op y hy; have := Hn h0 h; omega); have lb : ∀ y ∈ b.1, (x : Int) < y := fun y hy => (by obtain ⟨m, e, h⟩ := B.op y hy; have := Ft h; omega); have sa : ∀ y ∈ a.2.1, y < (x : Int) := fun y hy => (by obtain ⟨m, e, h⟩ := A.sh y hy; have := Hn h0 h; omega); have sb : ∀ y ∈ b.2.1, (x : Int) < y := fun y hy => (by obtain ⟨m, e, h⟩ := B.sh y hy; have := Ft h; omega); have hp := fA k; have kx : ∀ y, Mp (x : Int) y ↔ y = ((x - 2 ^ k : Nat) : Int) ∨ y = ((x + 2 ^ k : Nat) : Int) := by
    intro y; unfold Mp; rw [kl, kr]; constructor
    ·rintro ⟨_, h⟩; exact h
    ·rintro (h | h) <;> omega
   constructor
   ·rintro (hy | hy)
    ·have hlt := sa y hy; rcases PA hok'.1 with ⟨_, hs⟩ | ⟨e1, e2⟩
     ·obtain ⟨⟨z, hz, hk⟩, hn⟩ := (hs y).1 hy; refine ⟨⟨z, .inl (.inl hz), hk⟩, ?_⟩; rintro ((h | h) | h)
      ·exact hn h
      ·omega
      ·have := lb y h; omega
     ·rw [e2, fW] at hy; refine ⟨⟨x, .inl (.inr rfl), (kx y).2 (.inl hy)⟩, ?_⟩; rintro ((h | h) | h)
      ·rw [e1] at h; cases h
      ·omega
      ·have := lb y h; omega
    ·have hlt := sb y hy; rcases PB hok'.2 with ⟨_, hs⟩ | ⟨e1, e2⟩
     ·obtain ⟨⟨z, hz, hk⟩, hn⟩ := (hs y).1 hy; refine ⟨⟨z, .inr hz, hk⟩, ?_⟩; rintro ((h | h) | h)
      ·have := la y h; omega
      ·omega
      ·exact hn h
     ·rw [e2, fW] at hy; refine ⟨⟨x, .inl (.inr rfl), (kx y).2 (.inr hy)⟩, ?_⟩; rintro ((h | h) | h)
      ·have := la y h; omega
      ·omega
      ·rw [e1] at h; cases h
   ·rintro ⟨⟨z, hz, hk⟩, hn⟩; rcases hz with (hz | hz) | hz
    ·rcases PA hok'.1 with ⟨_, hs⟩ | ⟨e1, e2⟩
     ·exact .inl ((hs y).2 ⟨⟨z, hz, hk⟩, fun h => hn (.inl (.inl h))⟩)
     ·rw [e1] at hz; cases hz
    ·rw [hz] at hk; rcases (kx y).1 hk with e | e
     ·rcases PA hok'.1 with ⟨h3, hs⟩ | ⟨e1, e2⟩
      ·rw [e] at hn; exact absurd (.inl (.inl h3)) hn
      ·rw [e2, e]; exact .inl (by simp)
     ·rcases PB hok'.2 with ⟨h3, hs⟩ | ⟨e1, e2⟩
      ·rw [e] at hn; exact absurd (.inr h3) hn
      ·rw [e2, e]; exact .inr (by simp)
    ·rcases PB hok'.2 with ⟨_, hs⟩ | ⟨e1, e2⟩
     ·exact .inr ((hs y).2 ⟨⟨z, hz, hk⟩, fun h => hn (.inr h)⟩)
     ·rw [e1] at hz; cases hz
section
def upL (d : Nat) (u : Int) : List Int := (2 * u) :: (Ml (2 * u) ((2 ^ d : Nat) : Int)).map fun n : Nat => (n : Int)
def Xv (FI : Int → Option NodeD) (x : Int) (s : List Int × Bool) (y : Int) : List Int × Bool :=
 if y ≠ x ∧ Bl y x = true ∧ y ∉ s.1 then (s.1 ++ [y], s.2 && (FI y).isSome) else s
def Lv (FI : Int → Option NodeD) (x : Int) (s : List Int × Bool) (ys : List Int) : List Int × Bool := ys.foldl (Xv FI x) s
def Gz (FI : Int → Option NodeD) (d : Nat) (x : Int) (late : List Int) : List Int × Bool := Lv FI x ([x], true) (late.flatMap (upL d))
def Ay (FI : Int → Option NodeD) (d : Nat) : Nat → Nat → List Int × Bool
 | 0, x => match FI (x : Int) with
  | none => ([], false)
  | some y => Gz FI d x y.par.late
 | k + 1, x => match FI (x : Int) with
  | none => ([], false)
  | some y => if y.kind = 0 then ([(x : Int)] ++ (Ay FI d k (x - 2 ^ k)).1 ++ (Ay FI d k (x + 2 ^ k)).1, (Ay FI d k (x - 2 ^ k)).2 && (Ay FI d k (x + 2 ^ k)).2)
   else Gz FI d x y.par.late
theorem Ew {FI : Int → Option NodeD} {d k x : Nat} (h : FI (x : Int) = none) : Ay FI d k x = ([], false) := by
 cases k <;> simp only [Ay, h]
theorem Gd {FI : Int → Option NodeD} {d x : Nat} {y : NodeD} (h : FI (x : Int) = some y) : Ay FI d 0 x = Gz FI d x y.par.late := by simp only [Ay, h]
theorem Ia {FI : Int → Option NodeD} {d k x : Nat} {y : NodeD} (h : FI (x : Int) = some y) (hk : y.kind ≠ 0) : Ay FI d k x = Gz FI d x y.par.late := by
 cases k with
 | zero => exact Gd h
 | succ k => simp only [Ay, h]; rw [if_neg hk]
theorem Ha {FI : Int → Option NodeD} {d k x : Nat} {y : NodeD} (h : FI (x : Int) = some y) (hk : y.kind = 0) :
  Ay FI d (k + 1) x = ([(x : Int)] ++ (Ay FI d k (x - 2 ^ k)).1 ++ (Ay FI d k (x + 2 ^ k)).1, (Ay FI d k (x - 2 ^ k)).2 && (Ay FI d k (x + 2 ^ k)).2) := by
 simp only [Ay, h]; rw [if_pos hk]
structure AddWP (FI : Int → Option NodeD) (x : Int) (ys : List Int) (s : List Int × Bool) : Prop where
 nd : s.1.Nodup
 mem : ∀ y, y ∈ s.1 ↔ y = x ∨ (y ∈ ys ∧ y ≠ x ∧ Bl y x = true)
 ok : s.2 = true ↔ ∀ y ∈ ys, y ≠ x → Bl y x = true → (FI y).isSome = true
theorem Zaw {FI : Int → Option NodeD} {x y : Int} {ys : List Int} {s : List Int × Bool} (h : AddWP FI x ys s) : AddWP FI x (ys ++ [y]) (Xv FI x s y) := by
 unfold Xv
 split
 ·rename_i hc
  obtain ⟨c1, c2, c3⟩ := hc; refine ⟨?_, fun z => ?_, ?_⟩
  ·rw [fX]; exact ⟨h.nd, by simp, fun a ha b hb e => by rw [fW] at hb; subst e hb; exact c3 ha⟩
  ·simp only [eY, fW, h.mem z]; constructor
   ·rintro ((e | ⟨a, b, c⟩) | e)
    ·exact .inl e
    ·exact .inr ⟨.inl a, b, c⟩
    ·subst e; exact .inr ⟨.inr rfl, c1, c2⟩
   ·rintro (e | ⟨a | a, b, c⟩)
    ·exact .inl (.inl e)
    ·exact .inl (.inr ⟨a, b, c⟩)
    ·exact .inr a
  ·show (s.2 && (FI y).isSome) = true ↔ _; rw [cE, h.ok]; constructor
   ·rintro ⟨a, b⟩ z hz; rw [eY, fW] at hz; rcases hz with hz | rfl
    ·exact a z hz
    ·exact fun _ _ => b
   ·intro a; exact ⟨fun z hz => a z (fY _ hz), a y (by simp) c1 c2⟩
 ·rename_i hc
  have hin : y ≠ x → Bl y x = true → y ∈ s.1 := fun a b => Decidable.byContradiction fun c => hc ⟨a, b, c⟩; refine ⟨h.nd, fun z => ?_, ?_⟩
  ·rw [h.mem z]; simp only [eY, fW]; constructor
   ·rintro (e | ⟨a, b, c⟩)
    ·exact .inl e
    ·exact .inr ⟨.inl a, b, c⟩
   ·rintro (e | ⟨a | a, b, c⟩)
    ·exact .inl e
    ·exact .inr ⟨a, b, c⟩
    ·subst a; exact (h.mem z).1 (hin b c)
  ·rw [h.ok]; constructor
   ·intro a z hz b c; rw [eY, fW] at hz; rcases hz with hz | rfl
    ·exact a z hz b c
    ·rcases (h.mem z).1 (hin b c) with e | ⟨e, _, _⟩
     ·exact absurd e b
     ·exact a z e b c
   ·exact fun a z hz => a z (fY _ hz)
theorem Zdq {FI : Int → Option NodeD} {x : Int} : ∀ (zs ys : List Int) (s : List Int × Bool), AddWP FI x ys s → AddWP FI x (ys ++ zs) (Lv FI x s zs) := by
 intro zs
 induction zs with
 | nil => intro ys s h; simpa [Lv] using h
 | cons z zs ih =>
  intro ys s h; have := ih (ys ++ [z]) _ (Zaw (y := z) h); rw [bW, fR] at this; exact this
theorem Zfn (FI : Int → Option NodeD) (d : Nat) (x : Int) (late : List Int) : AddWP FI x (late.flatMap (upL d)) (Gz FI d x late) := by
 have h0 : AddWP FI x [] ([x], true) := ⟨by simp, fun y => by simp, by simp⟩; have := Zdq (late.flatMap (upL d)) [] _ h0
 rwa [List.nil_append] at this
theorem Oz {z : Nat} : ∀ (k j : Nat) (y : Nat), y ∈ ups z j k ↔ ∃ l, j < l ∧ l ≤ j + k ∧ y = anc z l := by
 intro k
 induction k with
 | zero =>
  intro j y; simp only [ups, eZ, false_iff, not_exists, not_and]; intro l h1 h2; omega
 | succ k ih =>
  intro j y; rw [ups, aE, ih]; constructor
  ·rintro (e | ⟨l, h1, h2, e⟩)
   ·exact ⟨j + 1, by omega, by omega, e⟩
   ·exact ⟨l, by omega, by omega, e⟩
  ·rintro ⟨l, h1, h2, e⟩
   by_cases hl : l = j + 1
   ·subst hl; exact .inl e
   ·exact .inr ⟨l, by omega, by omega, e⟩
theorem Jq {d m : Nat} (hd : d ≤ 16) (hm : 2 * m + 1 < 2 ^ (d + 1)) (y : Int) : y ∈ upL d (m : Int) ↔ ∃ j, j ≤ d ∧ y = ((anc (2 * m) j : Nat) : Int) := by
 have h17 : 2 ^ (d + 1) ≤ 2 ^ 17 := aY (by omega) (by omega); have h17' : (2 : Nat) ^ 17 = 131072 := rfl; have hl := Hl (q := 2 * m) (by omega) (by omega); have ha : anc (2 * m) 0 = 2 * m := anc_self (by unfold IsLev; simp); have e2 : 2 * (m : Int) = ((2 * m : Nat) : Int) := (by omega); unfold upL; rw [e2, Og hd hm, hl, fU, aE, eW]; constructor
 ·rintro (e | ⟨n, hn, e⟩)
  ·exact ⟨0, by omega, by rw [ha]; exact e⟩
  ·obtain ⟨l, h1, h2, e3⟩ := (Oz _ _ _).1 hn; exact ⟨l, by omega, by rw [← e, e3]⟩
 ·rintro ⟨j, hj, e⟩
  by_cases h0 : j = 0
  ·subst h0; rw [ha] at e; exact .inl e
  ·exact .inr ⟨anc (2 * m) j, (Oz _ _ _).2 ⟨j, by omega, by omega, rfl⟩, e.symm⟩
def Ib (d : Nat) (late : List Int) : Prop := ∀ u ∈ late, ∃ m : Nat, u = (m : Int) ∧ 2 * m + 1 < 2 ^ (d + 1)
theorem Zax {d m x : Nat} (hd : d ≤ 16) (hm : 2 * m + 1 < 2 ^ (d + 1)) (hx : x + 1 < 2 ^ (d + 1)) : Bl (2 * (m : Int)) (x : Int) = decide (x = anc (2 * m) (lev x)) := by
 rw [Zhl]; exact Iq hd hm hx (by omega)
theorem Kx {d x : Nat} {late : List Int} (hd : d ≤ 16) (hl : Ib d late) (hx : x + 1 < 2 ^ (d + 1)) : Ik late (x : Int) = true ↔ ∃ m : Nat, (m : Int) ∈ late ∧ 2 * m + 1 < 2 ^ (d + 1) ∧ x = anc (2 * m) (lev x) := by
 unfold Ik; rw [List.any_eq_true]; constructor
 ·rintro ⟨u, hu, h⟩; obtain ⟨m, rfl, hm⟩ := hl u hu; rw [Zax hd hm hx, decide_eq_true_iff] at h; exact ⟨m, hu, hm, h⟩
 ·rintro ⟨m, hu, hm, h⟩; refine ⟨m, hu, ?_⟩; rw [Zax hd hm hx, decide_eq_true_iff]; exact h
theorem Tj {x k y : Nat} (hl : IsLev x k) (hy : inR k x y) : anc y k = x := by
 have hs := anc_self hl; have e1 : 2 ^ (k + 1) = 2 * 2 ^ k := (by rw [aN]; omega); have hp := fA k; have hq : y / 2 ^ (k + 1) = x / 2 ^ (k + 1) := by
  unfold anc at hs; refine Nat.div_eq_of_lt_le ?_ ?_
  ·unfold inR at hy; omega
  ·rw [Nat.add_mul, Nat.one_mul]; unfold inR at hy; omega
 unfold anc; rw [hq]; exact hs
theorem Zeg {x k y l : Nat} (hl : IsLev x k) (hm : IsLev y l) (hy : inR k x y) : l ≤ k := by
 rcases aB k l with h | h
 ·exfalso; have e1 : 2 ^ (k + 1) = 2 * 2 ^ k := (by rw [aN]; omega); have hp := fA k; have hp2 := fA l; have e2 : 2 ^ (l + 1) = 2 * 2 ^ l := (by rw [aN]; omega); have d1 : 2 ^ (k + 1) ∣ y + 1 := by
   unfold IsLev at hm; have hd := aU y (2 ^ (l + 1)); rw [hm] at hd; have e3 : y + 1 = 2 ^ l * (2 * (y / 2 ^ (l + 1)) + 1) := by
    rw [fV, ← Nat.mul_assoc, Nat.mul_comm (2 ^ l) 2, ← e2]; omega
   rw [e3]; exact Nat.dvd_trans (Nat.pow_dvd_pow 2 (by omega)) (Nat.dvd_mul_right _ _)
  obtain ⟨c, hc⟩ := d1; unfold IsLev at hl; have hd := aU x (2 ^ (k + 1)); rw [hl] at hd; unfold inR at hy; rcases Nat.lt_trichotomy c (x / 2 ^ (k + 1) + 1) with h3 | h3 | h3
  ·have := aC (2 ^ (k + 1)) (show c ≤ x / 2 ^ (k + 1) by omega); omega
  ·rw [h3, fV] at hc; omega
  ·have := aC (2 ^ (k + 1)) (show x / 2 ^ (k + 1) + 1 + 1 ≤ c by omega); rw [fV, fV] at this; omega
 ·exact h
theorem Zfo {d c k y : Nat} {late : List Int} (hd : d ≤ 16) (hl : Ib d late) (hc : c + 1 < 2 ^ (d + 1)) (hy1 : y + 1 < 2 ^ (d + 1)) (hlc : IsLev c k) (hy : inR k c y) (h : Ik late (y : Int) = true) : Ik late (c : Int) = true := by
 have h17 : 2 ^ (d + 1) ≤ 2 ^ 17 := aY (by omega) (by omega); have h17' : (2 : Nat) ^ 17 = 131072 := rfl; obtain ⟨m, hm, hm2, e⟩ := (Kx hd hl hy1).1 h; refine (Kx hd hl hc).2 ⟨m, hm, hm2, ?_⟩; have hly := lev_is (x := y) (by omega); have hle := Zeg hlc hly hy; rw [lev_eq (by omega) hlc, ← anc_anc hle, ← e]; exact (Tj hlc hy).symm
section
variable {F : Nat → Option NodeD} {i d : Nat} {only : Bool}
structure BetwP (F : Nat → Option NodeD) (k c : Nat) (late : List Int) (r : List Int × List Int × Bool) : Prop where
 ok : r.2.2 = true ↔ ∀ y : Nat, inR k c y → Ik late (y : Int) = true → (F y).isSome = true
 mem : r.2.2 = true → ∀ y : Int, y ∈ r.1 ↔ ∃ m : Nat, y = (m : Int) ∧ inR k c m ∧ Ik late (m : Int) = true
theorem Tk {k c y M : Nat} (hc : c + 2 ^ k ≤ M) (hy : inR k c y) : y + 1 ≤ M := by unfold inR at hy; omega
theorem Ky {k c : Nat} {D : NodeD} {late : List Int} (hd : d ≤ 16) (hl : Ib d late) (hlc : IsLev c k) (hc : c + 2 ^ k ≤ 2 * 2 ^ d - 1)
  (ih : Ik late (c : Int) = true → BetwP F k c late (Cf F i only k c 2 late)) : BetwP F k c late (Gj (Cf F i only k) i only c 2 D late) := by
 have e2 : 2 ^ (d + 1) = 2 * 2 ^ d := (by rw [aN]; omega); have hp := fA k; have ek : Gj (Cf F i only k) i only c 2 D late = if Ik late (c : Int) = true then Cf F i only k c 2 late else ([], [(c : Int)], true) := by
  unfold Gj; rw [if_neg (by omega), if_neg (by omega), if_neg (by omega)]
 rw [ek]
 by_cases h : Ik late (c : Int) = true
 ·rw [if_pos h]; exact ih h
 ·rw [if_neg h]; have hno : ∀ y : Nat, inR k c y → ¬ Ik late (y : Int) = true := fun y hy hs => h (Zfo hd hl (by omega) (by have := Tk hc hy; omega) hlc hy hs); exact ⟨⟨fun _ y hy hs => absurd hs (hno y hy), fun _ => rfl⟩, fun _ y => ⟨fun hy => (by cases hy), fun ⟨m, _, h1, h2⟩ => absurd h2 (hno m h1)⟩⟩
theorem Zay {k c : Nat} {D : NodeD} {late : List Int} {a b : List Int × List Int × Bool} (hx : 2 ^ k ≤ c) (hF : F c = some D) (hs : Ik late (c : Int) = true) (ha : BetwP F k (c - 2 ^ k) late a) (hb : BetwP F k (c + 2 ^ k) late b) : BetwP F (k + 1) c late (Te a c b) := by
 constructor
 ·show (a.2.2 && b.2.2) = true ↔ _; rw [cE, ha.ok, hb.ok]; constructor
  ·rintro ⟨h1, h2⟩ y hy hsy; rcases (Ba hx).1 hy with rfl | h | h
   ·rw [hF]; rfl
   ·exact h1 y h hsy
   ·exact h2 y h hsy
  ·intro h; exact ⟨fun y hy => h y ((Ba hx).2 (.inr (.inl hy))), fun y hy => h y ((Ba hx).2 (.inr (.inr hy)))⟩
 ·intro hok y; have hok' : (a.2.2 && b.2.2) = true := hok; rw [cE] at hok'; show y ∈ a.1 ++ [(c : Int)] ++ b.1 ↔ _; simp only [eY, fW, ha.mem hok'.1 y, hb.mem hok'.2 y]; constructor
  ·rintro ((⟨m, e, h1, h2⟩ | e) | ⟨m, e, h1, h2⟩)
   ·exact ⟨m, e, (Ba hx).2 (.inr (.inl h1)), h2⟩
   ·exact ⟨c, e, Ec _ _, hs⟩
   ·exact ⟨m, e, (Ba hx).2 (.inr (.inr h1)), h2⟩
  ·rintro ⟨m, e, h1, h2⟩; rcases (Ba hx).1 h1 with rfl | h | h
   ·exact .inl (.inr e)
   ·exact .inl (.inl ⟨m, e, h, h2⟩)
   ·exact .inr ⟨m, e, h, h2⟩
theorem Zhm (hd : d ≤ 16) {late : List Int} (hl : Ib d late) : ∀ (k c : Nat), IsLev c k → c + 2 ^ k ≤ 2 * 2 ^ d - 1 → Ik late (c : Int) = true → BetwP F k c late (Cf F i only k c 2 late) := by
 have hM : 2 * 2 ^ d - 1 ≤ 131071 := by
  have h17 : 2 ^ d ≤ 2 ^ 16 := aY (by omega) hd; have h17' : (2 : Nat) ^ 16 = 65536 := rfl; omega
 intro k
 induction k with
 | zero =>
  intro c hlc hc hs; have h0 : ∀ y, inR 0 c y ↔ y = c := fun y => (by have e : 2 ^ 0 = 1 := rfl; unfold inR; omega); cases hF : F c with
  | none =>
   rw [By hF]; exact ⟨⟨fun h => (by cases h), fun h => by have := h c ((h0 c).2 rfl) hs; rw [hF] at this; cases this⟩, fun h => by cases h⟩
  | some D =>
   rw [Eu hF]; refine ⟨⟨fun _ y hy _ => by rw [(h0 y).1 hy, hF]; rfl, fun _ => rfl⟩, fun _ y => ?_⟩; simp only [fW]; exact ⟨fun e => ⟨c, e, (h0 c).2 rfl, hs⟩, fun ⟨m, e, h, _⟩ => by rw [e, (h0 m).1 h]⟩
 | succ k ih =>
  intro c hlc hc hs; cases hF : F c with
  | none =>
   rw [By hF]; exact ⟨⟨fun h => (by cases h), fun h => by have := h c (Ec _ _) hs; rw [hF] at this; cases this⟩, fun h => by cases h⟩
  | some D =>
   obtain ⟨l1, l2, h0, h1, h2, -, -⟩ := En hlc hc hM; rw [Ee hF, if_neg (by omega)]; exact Zay h0 hF hs (Ky hd hl l1 h1 (ih _ l1 h1)) (Ky hd hl l2 h2 (ih _ l2 h2))
def Cb (F : Nat → Option NodeD) : Prop := ∀ x D, F x = some D → ∀ u ∈ D.par.late, ∃ m : Nat, u = (m : Int) ∧ m < 65536 ∧ Bl (2 * (m : Int)) (x : Int) = true
theorem Iv (hd : d ≤ 16) (hu : Cb F) {x k : Nat} {D : NodeD} (hF : F x = some D) (hl : IsLev x k) (hx : x + 2 ^ k ≤ 2 * 2 ^ d - 1) : Ib d D.par.late ∧ ∀ m : Nat, (m : Int) ∈ D.par.late → inR k x (2 * m) := by
 have e2 : 2 ^ (d + 1) = 2 * 2 ^ d := (by rw [aN]; omega); have hM : 2 * 2 ^ d - 1 ≤ 131071 := by
  have h17 : 2 ^ d ≤ 2 ^ 16 := aY (by omega) hd; have h17' : (2 : Nat) ^ 16 = 65536 := rfl; omega
 have hp := fA k; have key : ∀ m : Nat, (m : Int) ∈ D.par.late → inR k x (2 * m) := by
  intro m hm; obtain ⟨m', e, h1, h2⟩ := hu x D hF _ hm; have : m' = m := (by omega); subst this; rw [Zhl] at h2; exact (Tg (by omega) (by omega) hl).1 h2
 refine ⟨fun u hm => ?_, key⟩; obtain ⟨m, rfl, -, -⟩ := hu x D hF u hm; have := Tk hx (key m hm); exact ⟨m, rfl, by omega⟩
theorem Zgr (hd : d ≤ 16) {late : List Int} (hl : Ib d late) {k x : Nat} (hlx : IsLev x k) (hx : x + 2 ^ k ≤ 2 * 2 ^ d - 1) (y : Int) :
  (y ∈ late.flatMap (upL d) ∧ Bl y (x : Int) = true) ↔ ∃ m : Nat, y = (m : Int) ∧ inR k x m ∧ Ik late (m : Int) = true := by
 have e2 : 2 ^ (d + 1) = 2 * 2 ^ d := (by rw [aN]; omega); have hM : 2 * 2 ^ d - 1 ≤ 131071 := by
  have h17 : 2 ^ d ≤ 2 ^ 16 := aY (by omega) hd; have h17' : (2 : Nat) ^ 16 = 65536 := rfl; omega
 have hp := fA k; rw [fZ]; constructor
 ·rintro ⟨⟨u, hu, hy⟩, hund⟩; obtain ⟨m, rfl, hm⟩ := hl u hu; obtain ⟨j, hj, rfl⟩ := (Jq hd hm y).1 hy; have hat : anc (2 * m) j + 1 < 2 ^ (d + 1) := anc_le (by omega) hj; refine ⟨_, rfl, (Tg (by omega) (by omega) hlx).1 hund, (Kx hd hl hat).2 ⟨m, hu, hm, ?_⟩⟩; rw [lev_eq (by omega) (anc_lev _ _)]
 ·rintro ⟨n, rfl, h1, h2⟩; have hn : n + 1 < 2 ^ (d + 1) := (by have := Tk hx h1; omega); obtain ⟨m, hm, hm2, e⟩ := (Kx hd hl hn).1 h2; have hlv := (lev_root hn (lev_is (x := n) (by omega))).1; exact ⟨⟨m, hm, (Jq hd hm2 _).2 ⟨lev n, hlv, by rw [← e]⟩⟩, (Tg (by omega) (by omega) hlx).2 h1⟩
end
end
section
structure WholeP (v : List Int × List Int × Bool) (w : List Int × Bool) : Prop where
 ok : v.2.2 = w.2
 nd : w.2 = true → w.1.Nodup
 mem : w.2 = true → ∀ y, y ∈ w.1 ↔ y ∈ v.1
theorem Zaz {V : Nat → Nat → List Int → List Int × List Int × Bool} {i c : Nat} {only : Bool} {D : NodeD} {late : List Int} (hk : D.kind ≠ 0) : Gj V i only c 1 D late = Gj V i only c 2 D late := by
 have e1 : Gj V i only c 1 D late = if Ik late (c : Int) = true then V c 2 late else ([], [(c : Int)], true) := by
  unfold Gj; rw [if_neg (by omega), if_neg (by omega), if_neg (by omega)]
 have e2 : Gj V i only c 2 D late = if Ik late (c : Int) = true then V c 2 late else ([], [(c : Int)], true) := by
  unfold Gj; rw [if_neg (by omega), if_neg (by omega), if_neg (by omega)]
 rw [e1, e2]
theorem Za0 {V : Nat → Nat → List Int → List Int × List Int × Bool} {i c : Nat} {only : Bool} {D : NodeD} {late : List Int} (hk : D.kind = 0) : Gj V i only c 1 D late = V c 1 [] := by
 unfold Gj; rw [if_neg (by omega), if_neg (by omega), if_pos (.inr ⟨rfl, hk⟩)]
section
variable {FI : Int → Option NodeD} {F : Nat → Option NodeD} {i d : Nat} {only : Bool}
theorem Cx (hd : d ≤ 16) : 2 * 2 ^ d - 1 ≤ 131071 ∧ 2 ^ (d + 1) = 2 * 2 ^ d := by
 have h17 : 2 ^ d ≤ 2 ^ 16 := aY (by omega) hd; have h17' : (2 : Nat) ^ 16 = 65536 := rfl; exact ⟨by omega, by rw [aN]; omega⟩
theorem Nl (hd : d ≤ 16) (hFI : ∀ n : Nat, F n = FI (n : Int)) {k x : Nat} {D : NodeD} {v : List Int × List Int × Bool} (hl : IsLev x k) (hx : x + 2 ^ k ≤ 2 * 2 ^ d - 1) (hlt : Ib d D.par.late) (hF : F x = some D)
  (hok : v.2.2 = true ↔ ∀ y : Nat, inR k x y → y ≠ x → Ik D.par.late (y : Int) = true → (F y).isSome = true)
  (hmem : v.2.2 = true → ∀ y : Int, y ∈ v.1 ↔ y = (x : Int) ∨ ∃ m : Nat, y = (m : Int) ∧ inR k x m ∧ m ≠ x ∧ Ik D.par.late (m : Int) = true) : WholeP v (Gz FI d x D.par.late) := by
 have P := Zfn FI d (x : Int) D.par.late; have U := Zgr hd hlt hl hx; have e : v.2.2 = (Gz FI d x D.par.late).2 := by
  rw [gF, hok, P.ok]; constructor
  ·intro h y hy hne hund; obtain ⟨m, rfl, h1, h2⟩ := (U y).1 ⟨hy, hund⟩; rw [← hFI]; exact h m h1 (fun e => hne (by rw [e])) h2
  ·intro h y h1 hne h2; obtain ⟨h3, h4⟩ := (U (y : Int)).2 ⟨y, rfl, h1, h2⟩; rw [hFI]; exact h _ h3 (fun e => hne (by omega)) h4
 refine ⟨e, fun _ => P.nd, fun h y => ?_⟩; rw [P.mem y, hmem (by rw [e]; exact h) y]; constructor
 ·rintro (h1 | ⟨h1, h2, h3⟩)
  ·exact .inl h1
  ·obtain ⟨m, rfl, h4, h5⟩ := (U y).1 ⟨h1, h3⟩; exact .inr ⟨m, rfl, h4, fun e => h2 (by rw [e]), h5⟩
 ·rintro (h1 | ⟨m, rfl, h4, h6, h5⟩)
  ·exact .inl h1
  ·obtain ⟨h3, h2⟩ := (U (m : Int)).2 ⟨m, rfl, h4, h5⟩; exact .inr ⟨h3, fun e => h6 (by omega), h2⟩
theorem Ve (hd : d ≤ 16) (hFI : ∀ n : Nat, F n = FI (n : Int)) (hu : Cb F) : ∀ (k x : Nat) (late : List Int), IsLev x k → x + 2 ^ k ≤ 2 * 2 ^ d - 1 → WholeP (Cf F i only k x 1 late) (Ay FI d k x) := by
 obtain ⟨hM, e2⟩ := Cx hd; intro k
 induction k with
 | zero =>
  intro x late hl hx; cases hF : F x with
  | none => rw [By hF, Ew (by rw [← hFI]; exact hF)]; exact ⟨rfl, fun h => (by cases h), fun h => (by cases h)⟩
  | some D =>
   have h0 : ∀ y, inR 0 x y ↔ y = x := fun y => (by have e : 2 ^ 0 = 1 := rfl; unfold inR; omega); rw [Eu hF, Gd (y := D) (by rw [← hFI]; exact hF)]; refine Nl hd hFI hl hx (Iv hd hu hF hl hx).1 hF ⟨fun _ y hy hne _ => absurd ((h0 y).1 hy) hne, fun _ => rfl⟩ fun _ y => ?_; simp only [fW]; refine ⟨fun e => .inl e, fun h => ?_⟩; rcases h with e | ⟨m, e, h1, h2, _⟩
   ·exact e
   ·exact absurd ((h0 m).1 h1) h2
 | succ k ih =>
  intro x late hl hx; obtain ⟨l1, l2, h0, h1, h2, -, -⟩ := En hl hx hM; cases hF : F x with
  | none => rw [By hF, Ew (by rw [← hFI]; exact hF)]; exact ⟨rfl, fun h => (by cases h), fun h => (by cases h)⟩
  | some D =>
   rw [Ee hF, if_pos rfl]
   by_cases hk : D.kind = 0
   ·rw [Ha (y := D) (by rw [← hFI]; exact hF) hk, Za0 hk, Za0 hk]; have A := ih (x - 2 ^ k) [] l1 h1; have B := ih (x + 2 ^ k) [] l2 h2; have SA := Dl (F := F) (i := i) (only := only) k (x - 2 ^ k) 1 [] l1 (by omega); have SB := Dl (F := F) (i := i) (only := only) k (x + 2 ^ k) 1 [] l2 (by omega); generalize Cf F i only k (x - 2 ^ k) 1 [] = a at A SA ⊢; generalize Cf F i only k (x + 2 ^ k) 1 [] = b at B SB ⊢; generalize Ay FI d k (x - 2 ^ k) = p at A ⊢; generalize Ay FI d k (x + 2 ^ k) = q at B ⊢; refine ⟨by show (a.2.2 && b.2.2) = (p.2 && q.2); rw [A.ok, B.ok], fun hh => ?_, fun hh y => ?_⟩
    ·have hh' : (p.2 && q.2) = true := hh; rw [cE] at hh'; show ([(x : Int)] ++ p.1 ++ q.1).Nodup; have la : ∀ y ∈ p.1, y < (x : Int) := fun y hy => (by obtain ⟨m, e, h⟩ := SA.op y ((A.mem hh'.1 y).1 hy); have := Hn h0 h; omega); have lb : ∀ y ∈ q.1, (x : Int) < y := fun y hy => (by obtain ⟨m, e, h⟩ := SB.op y ((B.mem hh'.2 y).1 hy); have := Ft h; omega); rw [fX, fX]; refine ⟨⟨by simp, A.nd hh'.1, fun s hs t ht => ?_⟩, B.nd hh'.2, fun s hs t ht => ?_⟩
     ·rw [fW] at hs; have := la t ht; omega
     ·have := lb t ht; rw [eY, fW] at hs; rcases hs with hs | hs
      ·omega
      ·have := la s hs; omega
    ·have hh' : (p.2 && q.2) = true := hh; rw [cE] at hh'; show y ∈ [(x : Int)] ++ p.1 ++ q.1 ↔ y ∈ a.1 ++ [(x : Int)] ++ b.1; simp only [eY, fW, A.mem hh'.1 y, B.mem hh'.2 y]; constructor
     ·rintro ((h | h) | h)
      ·exact .inl (.inr h)
      ·exact .inl (.inl h)
      ·exact .inr h
     ·rintro ((h | h) | h)
      ·exact .inl (.inr h)
      ·exact .inl (.inl h)
      ·exact .inr h
   ·rw [Ia (y := D) (by rw [← hFI]; exact hF) hk, Zaz hk, Zaz hk]; have LI := (Iv hd hu hF hl hx).1; have A := Ky (F := F) (i := i) (only := only) (D := D) hd LI l1 h1 (Zhm hd LI k _ l1 h1); have B := Ky (F := F) (i := i) (only := only) (D := D) hd LI l2 h2 (Zhm hd LI k _ l2 h2); generalize Gj (Cf F i only k) i only (x - 2 ^ k) 2 D D.par.late = a at A ⊢; generalize Gj (Cf F i only k) i only (x + 2 ^ k) 2 D D.par.late = b at B ⊢; have hp := fA k; refine Nl hd hFI hl hx LI hF ?_ fun hok y => ?_
    ·show (a.2.2 && b.2.2) = true ↔ _; rw [cE, A.ok, B.ok]; constructor
     ·rintro ⟨g1, g2⟩ y hy hne hs; rcases (Ba h0).1 hy with e | h | h
      ·exact absurd e hne
      ·exact g1 y h hs
      ·exact g2 y h hs
     ·intro h; exact ⟨fun y hy hs => h y ((Ba h0).2 (.inr (.inl hy))) (by have := Hn h0 hy; omega) hs, fun y hy hs => h y ((Ba h0).2 (.inr (.inr hy))) (by have := Ft hy; omega) hs⟩
    ·have hok' : (a.2.2 && b.2.2) = true := hok; rw [cE] at hok'; show y ∈ a.1 ++ [(x : Int)] ++ b.1 ↔ _; simp only [eY, fW, A.mem hok'.1 y, B.mem hok'.2 y]; constructor
     ·rintro ((⟨m, e, g1, g2⟩ | e) | ⟨m, e, g1, g2⟩)
      ·exact .inr ⟨m, e, (Ba h0).2 (.inr (.inl g1)), by have := Hn h0 g1; omega, g2⟩
      ·exact .inl e
      ·exact .inr ⟨m, e, (Ba h0).2 (.inr (.inr g1)), by have := Ft g1; omega, g2⟩
     ·rintro (e | ⟨m, e, g1, g3, g2⟩)
      ·exact .inl (.inr e)
      ·rcases (Ba h0).1 g1 with h | h | h
       ·exact absurd h g3
       ·exact .inl (.inl ⟨m, e, h, g2⟩)
       ·exact .inr ⟨m, e, h, g2⟩
def Ic (z j : Nat) : Nat := if anc z j < anc z (j + 1) then anc z (j + 1) + 2 ^ j else anc z (j + 1) - 2 ^ j
theorem Pa (z j : Nat) : 2 ^ j ≤ anc z (j + 1) ∧ ((anc z j = anc z (j + 1) - 2 ^ j ∧ Ic z j = anc z (j + 1) + 2 ^ j) ∨ (anc z j = anc z (j + 1) + 2 ^ j ∧ Ic z j = anc z (j + 1) - 2 ^ j)) := by
 have h := halves z j; have e0 := anc_plo z j; have e1 := anc_plo z (j + 1); have p0 : phi z j = plo z j + (2 ^ (j + 1) - 2) := rfl; have hp := fA j; have ee : 2 ^ (j + 1) = 2 * 2 ^ j := (by rw [aN]; omega); refine ⟨by omega, ?_⟩; unfold Ic; rcases h with ⟨h1, h2, h3⟩ | ⟨h1, h2, h3⟩
 ·left; rw [if_pos (by omega)]; omega
 ·right; rw [if_neg (by omega)]; omega
theorem Pb (z j y : Nat) : inR (j + 1) (anc z (j + 1)) y ↔ y = anc z (j + 1) ∨ inR j (anc z j) y ∨ inR j (Ic z j) y := by
 obtain ⟨h0, h⟩ := Pa z j; rw [Ba h0]; rcases h with ⟨h1, h2⟩ | ⟨h1, h2⟩ <;> rw [h1, h2]
 rw [or_comm (a := inR j (anc z (j + 1) - 2 ^ j) y)]
theorem Tl (z j y : Nat) (h : inR j (Ic z j) y) : ¬ inR j (anc z j) y ∧ y ≠ anc z (j + 1) := by
 obtain ⟨h0, h1⟩ := Pa z j; unfold inR at h ⊢; omega
theorem Vf (z y : Nat) : ∀ (n j : Nat), inR j (anc z j) y → inR (j + n) (anc z (j + n)) y := by
 intro n
 induction n with
 | zero => intro j h; exact h
 | succ n ih =>
  intro j h; have := (Pb z (j + n) y).2 (.inr (.inl (ih j h))); exact this
theorem Za1 {z j l y : Nat} (hjl : j < l) (h : inR j (Ic z j) y) : ¬ inR l (Ic z l) y := by
 intro h2; have h3 := Vf z y (l - (j + 1)) (j + 1) ((Pb z j y).2 (.inr (.inr h))); rw [show j + 1 + (l - (j + 1)) = l by omega] at h3; exact (Tl z l y h2).1 h3
theorem Zfp {z j l : Nat} (h : inR j (Ic z j) (anc z l)) : False := by
 rcases aB j l with hl | hl
 ·have h1 := (Pb z j (anc z l)).2 (.inr (.inr h)); have h2 := Zeg (anc_lev z (j + 1)) (anc_lev z l) h1; have : l = j + 1 := (by omega); subst this; exact (Tl z j _ h).2 rfl
 ·have h1 := Vf z (anc z l) (j - l) l (Ec _ _); rw [show l + (j - l) = j by omega] at h1; exact (Tl z j _ h).1 h1
theorem Lw (hd : d ≤ 16) {z j : Nat} (hz : z + 1 < 2 ^ (d + 1)) (hj : j < d) : IsLev (Ic z j) j ∧ Ic z j + 2 ^ j ≤ 2 * 2 ^ d - 1 := by
 obtain ⟨hM, e2⟩ := Cx hd; obtain ⟨h0, h⟩ := Pa z j; have hl := anc_lev z (j + 1); have ha := anc_le (x := z) (d := d) (j := j + 1) (by omega) (by omega); have hu := Om ha hd; rw [lev_eq (by omega) hl] at hu; obtain ⟨l1, l2, -, b1, b2, -, -⟩ := En (M := 2 * 2 ^ d - 1) hl (by omega) hM; rcases h with ⟨h1, h2⟩ | ⟨h1, h2⟩
 ·rw [h2]; exact ⟨l2, b2⟩
 ·rw [h2]; exact ⟨l1, b1⟩
theorem Zgs (hd : d ≤ 16) {z j : Nat} (hz : z + 1 < 2 ^ (d + 1)) (hj : j ≤ d) : anc z j + 2 ^ j ≤ 2 * 2 ^ d - 1 := by
 obtain ⟨hM, e2⟩ := Cx hd; have ha := anc_le (x := z) (d := d) (j := j) (by omega) hj; have hu := Om ha hd; rw [lev_eq (by omega) (anc_lev z j)] at hu; omega
structure OwnS (FI : Int → Option NodeD) (d z : Nat) (only : Bool) (k : Nat) (v : List Int × List Int × Bool) : Prop where
 ok : v.2.2 = true ↔ (∀ j, j ≤ k → (FI (anc z j : Nat)).isSome = true) ∧ (only = false → ∀ j, j < k → (Ay FI d j (Ic z j)).2 = true)
 mem : v.2.2 = true → ∀ y : Int, y ∈ v.1 ↔ (∃ j, j ≤ k ∧ y = (anc z j : Nat)) ∨ (only = false ∧ ∃ j, j < k ∧ y ∈ (Ay FI d j (Ic z j)).1)
theorem Vg {z k : Nat} {v a b : List Int × List Int × Bool} (hF : (FI (anc z (k + 1) : Nat)).isSome = true) (hv : v.2.2 = (a.2.2 && b.2.2)) (hm : ∀ y : Int, y ∈ v.1 ↔ y ∈ a.1 ∨ y = (anc z (k + 1) : Nat) ∨ y ∈ b.1) (ha : OwnS FI d z only k a)
  (hb : b.2.2 = (only || (Ay FI d k (Ic z k)).2)) (hbm : b.2.2 = true → ∀ y, y ∈ b.1 ↔ only = false ∧ y ∈ (Ay FI d k (Ic z k)).1) : OwnS FI d z only (k + 1) v := by
 constructor
 ·rw [hv, cE, ha.ok, hb, cF]; constructor
  ·rintro ⟨⟨h1, h2⟩, h3⟩; refine ⟨fun j hj => ?_, fun ho j hj => ?_⟩
   ·by_cases e : j = k + 1
    ·rw [e]; exact hF
    ·exact h1 j (by omega)
   ·by_cases e : j = k
    ·rw [e]; rcases h3 with h3 | h3
     ·rw [ho] at h3; cases h3
     ·exact h3
    ·exact h2 ho j (by omega)
  ·rintro ⟨h1, h2⟩; refine ⟨⟨fun j hj => h1 j (by omega), fun ho j hj => h2 ho j (by omega)⟩, ?_⟩; cases ho : only with
   | true => exact .inl rfl
   | false => exact .inr (h2 ho k (by omega))
 ·intro hok y; rw [hv, cE] at hok; rw [hm y, ha.mem hok.1 y, hbm hok.2 y]; constructor
  ·rintro ((⟨j, hj, e⟩ | ⟨ho, j, hj, e⟩) | e | ⟨ho, e⟩)
   ·exact .inl ⟨j, by omega, e⟩
   ·exact .inr ⟨ho, j, by omega, e⟩
   ·exact .inl ⟨k + 1, lR, e⟩
   ·exact .inr ⟨ho, k, by omega, e⟩
  ·rintro (⟨j, hj, e⟩ | ⟨ho, j, hj, e⟩)
   ·by_cases ej : j = k + 1
    ·subst ej; exact .inr (.inl e)
    ·exact .inl (.inl ⟨j, by omega, e⟩)
   ·by_cases ej : j = k
    ·subst ej; exact .inr (.inr ⟨ho, e⟩)
    ·exact .inl (.inr ⟨ho, j, by omega, e⟩)
theorem Ri (hd : d ≤ 16) {k c : Nat} {V : Nat → Nat → List Int → List Int × List Int × Bool} {D : NodeD} {late : List Int} (hi : 2 * i + 1 < 2 ^ (d + 1)) (hl : IsLev c k) (hc : c + 2 ^ k ≤ 2 * 2 ^ d - 1) :
  Gj V i only c 0 D late = if c = anc (2 * i) k then V c 0 [] else if only = true then ([], [(c : Int)], true) else V c 1 [] := by
 obtain ⟨hM, e2⟩ := Cx hd; have hp := fA k; have hu := Zax hd hi (x := c) (by omega); rw [lev_eq (by omega) hl] at hu; unfold Gj; rw [hu]
 by_cases h : c = anc (2 * i) k
 ·rw [if_pos ⟨rfl, decide_eq_true h⟩, if_pos h]
 ·rw [if_neg (by rintro ⟨_, h2⟩; exact h (of_decide_eq_true h2)), if_neg h]
  by_cases ho : only = true
  ·rw [if_pos ⟨rfl, ho⟩, if_pos ho]
  ·rw [if_neg (by rintro ⟨_, h2⟩; exact ho h2), if_neg ho, if_pos (.inl rfl)]
theorem Za2 (hd : d ≤ 16) (hFI : ∀ n : Nat, F n = FI (n : Int)) (hu : Cb F) {k c : Nat} (hl : IsLev c k) (hc : c + 2 ^ k ≤ 2 * 2 ^ d - 1) :
  let b : List Int × List Int × Bool := if only = true then ([], [(c : Int)], true) else Cf F i only k c 1 []
  b.2.2 = (only || (Ay FI d k c).2) ∧ (b.2.2 = true → ∀ y, y ∈ b.1 ↔ only = false ∧ y ∈ (Ay FI d k c).1) := by
 intro b; have W := Ve (i := i) (only := only) hd hFI hu k c [] hl hc; cases ho : only with
 | true =>
  have e : b = ([], [(c : Int)], true) := (by show (if only = true then _ else _) = _; rw [if_pos ho]); rw [e]; exact ⟨rfl, fun _ y => by simp⟩
 | false =>
  have e : b = Cf F i only k c 1 [] := (by show (if only = true then _ else _) = _; rw [if_neg (by rw [ho]; simp)]); rw [e]; refine ⟨by rw [W.ok, Bool.false_or], fun h y => ?_⟩; rw [W.ok] at h; rw [← W.mem h y]; exact ⟨fun h => ⟨rfl, h⟩, fun h => h.2⟩
theorem Zeh (hd : d ≤ 16) (hFI : ∀ n : Nat, F n = FI (n : Int)) (hu : Cb F) (hi : 2 * i + 1 < 2 ^ (d + 1)) : ∀ k, k ≤ d → OwnS FI d (2 * i) only k (Cf F i only k (anc (2 * i) k) 0 []) := by
 obtain ⟨hM, e2⟩ := Cx hd; intro k
 induction k with
 | zero =>
  intro _; cases hF : F (anc (2 * i) 0) with
  | none =>
   rw [By hF]; refine ⟨⟨fun h => (by cases h), fun h => ?_⟩, fun h => by cases h⟩; have := h.1 0 lR; rw [← hFI, hF] at this; cases this
  | some D =>
   rw [Eu hF]; refine ⟨⟨fun _ => ⟨fun j hj => ?_, fun _ j hj => by omega⟩, fun _ => rfl⟩, fun _ y => ?_⟩
   ·obtain rfl : j = 0 := (by omega); rw [← hFI, hF]; rfl
   ·simp only [fW]; constructor
    ·exact fun e => .inl ⟨0, lR, e⟩
    ·rintro (⟨j, hj, e⟩ | ⟨_, j, hj, _⟩)
     ·obtain rfl : j = 0 := (by omega); exact e
     ·omega
 | succ k ih =>
  intro hk; have hl := anc_lev (2 * i) (k + 1); have hb := Zgs hd (z := 2 * i) (j := k + 1) (by omega) hk; obtain ⟨l1, l2, h0, h1, h2, -, -⟩ := En hl hb hM; cases hF : F (anc (2 * i) (k + 1)) with
  | none =>
   rw [By hF]; refine ⟨⟨fun h => (by cases h), fun h => ?_⟩, fun h => by cases h⟩; have := h.1 (k + 1) lR; rw [← hFI, hF] at this; cases this
  | some D =>
   rw [Ee hF, if_neg (by omega)]; have HF : (FI (anc (2 * i) (k + 1) : Nat)).isSome = true := (by rw [← hFI, hF]; rfl); have A := ih (by omega); rw [Ri hd hi l1 h1, Ri hd hi l2 h2]; have hp := fA k; rcases (Pa (2 * i) k).2 with ⟨c1, c2⟩ | ⟨c1, c2⟩
   ·rw [if_pos c1.symm, if_neg (by omega), ← c1, ← c2]; have hs := Lw hd (z := 2 * i) (j := k) (by omega) (by omega); obtain ⟨s1, s2⟩ := Za2 (F := F) (FI := FI) (i := i) (only := only) hd hFI hu hs.1 hs.2; refine Vg HF rfl (fun y => ?_) A s1 s2; simp only [Te, eY, fW]; rw [or_assoc]
   ·rw [if_neg (by omega), if_pos c1.symm, ← c1, ← c2]; have hs := Lw hd (z := 2 * i) (j := k) (by omega) (by omega); obtain ⟨s1, s2⟩ := Za2 (F := F) (FI := FI) (i := i) (only := only) hd hFI hu hs.1 hs.2; refine Vg HF (Bool.and_comm _ _) (fun y => ?_) A s1 s2; simp only [Te, eY, fW]; constructor
    ·rintro ((h | h) | h)
     ·exact .inr (.inr h)
     ·exact .inr (.inl h)
     ·exact .inl h
    ·rintro (h | h | h)
     ·exact .inr h
     ·exact .inl (.inr h)
     ·exact .inl (.inl h)
end
def Ac (FI : Int → Option NodeD) (d i : Nat) (only : Bool) (r : Nat) : List Int := upL d (i : Int) ++ if only = true then [] else (aF r).flatMap fun j => (Ay FI d j (Ic (2 * i) j)).1
def Bs (FI : Int → Option NodeD) (d i : Nat) (only : Bool) (r : Nat) : Bool := ((upL d (i : Int)).all fun y => (FI y).isSome) && (only || (aF r).all fun j => (Ay FI d j (Ic (2 * i) j)).2)
def Lx (out : List Int) (z : Int) : List Int := (if 0 ≤ Dm z ∧ Dm z ∉ out then [Dm z] else []) ++ (if 0 ≤ Bq z ∧ Bq z ∉ out then [Bq z] else [])
def Dy (out : List Int) : List Int := out.flatMap (Lx out)
def Za3 (FI : Int → Option NodeD) (d i : Nat) (only : Bool) : List Int × List Int × Bool := (Em (Ac FI d i only d), Em (Dy (Ac FI d i only d)), Bs FI d i only d)
theorem Ho {out : List Int} {z y : Int} : y ∈ Lx out z ↔ Mp z y ∧ y ∉ out := by
 unfold Lx Mp; rw [eY]; constructor
 ·rintro (h | h)
  ·split at h
   ·rename_i hc; rw [fW] at h; subst h; exact ⟨⟨hc.1, .inl rfl⟩, hc.2⟩
   ·cases h
  ·split at h
   ·rename_i hc; rw [fW] at h; subst h; exact ⟨⟨hc.1, .inr rfl⟩, hc.2⟩
   ·cases h
 ·rintro ⟨⟨h0, rfl | rfl⟩, h2⟩
  ·left; rw [if_pos ⟨h0, h2⟩]; simp
  ·right; rw [if_pos ⟨h0, h2⟩]; simp
theorem Tm {out : List Int} {y : Int} : y ∈ Dy out ↔ (∃ z ∈ out, Mp z y) ∧ y ∉ out := by
 unfold Dy; rw [fZ]; constructor
 ·rintro ⟨z, hz, h⟩; obtain ⟨h1, h2⟩ := Ho.1 h; exact ⟨⟨z, hz, h1⟩, h2⟩
 ·rintro ⟨⟨z, hz, h1⟩, h2⟩; exact ⟨z, hz, Ho.2 ⟨h1, h2⟩⟩
theorem Nm {z : Nat} {y : Int} (hz : z ≤ 131070) (h : Mp (z : Int) y) : ∃ m k : Nat, y = (m : Int) ∧ IsLev m k ∧ anc m (k + 1) = z := by
 obtain ⟨h0, h⟩ := h; have hl := lev_is hz; cases hk : lev z with
 | zero =>
  rw [hk] at hl; obtain ⟨e1, e2⟩ := Oy hz hl; rw [e1, e2] at h; omega
 | succ k =>
  rw [hk] at hl; obtain ⟨e1, e2, l1, l2, hx⟩ := Go.Proofs.YtngealmhgkoaiaaGreat.kids_lev hz hl; have hp := fA k; rw [e1, e2] at h; rcases h with h | h
  ·exact ⟨_, k, h, l1, Tj hl ((Ba hx).2 (.inr (.inl (Ec _ _))))⟩
  ·exact ⟨_, k, h, l2, Tj hl ((Ba hx).2 (.inr (.inr (Ec _ _))))⟩
theorem Zfq {z z' : Nat} {y : Int} (hz : z ≤ 131070) (hz' : z' ≤ 131070) (h : Mp (z : Int) y) (h' : Mp (z' : Int) y) : z = z' := by
 obtain ⟨m, k, rfl, hl, e⟩ := Nm hz h; obtain ⟨m', k', e1, hl', e'⟩ := Nm hz' h'; obtain rfl : m = m' := (by omega); have := lev_unique hl hl'; rw [← e, ← e', this]
theorem Xc {out : List Int} {z : Nat} (hz : z ≤ 131070) : (Lx out (z : Int)).Nodup := by
 unfold Lx; rw [fX]; refine ⟨by split <;> simp, by split <;> simp, fun a ha b hb e => ?_⟩
 split at ha
 ·split at hb
  ·rename_i c1 c2
   rw [fW] at ha hb; have hl := lev_is hz; cases hk : lev z with
   | zero =>
    rw [hk] at hl; obtain ⟨e1, e2⟩ := Oy hz hl; omega
   | succ k =>
    rw [hk] at hl; obtain ⟨e1, e2, l1, l2, hx⟩ := Go.Proofs.YtngealmhgkoaiaaGreat.kids_lev hz hl; have hp := fA k; omega
  ·cases hb
 ·cases ha
theorem Xd {out : List Int} (hn : out.Nodup) (ho : ∀ z ∈ out, ∃ n : Nat, z = (n : Int) ∧ n ≤ 131070) : (Dy out).Nodup := by
 unfold Dy List.Nodup; rw [gA]; refine ⟨fun z hz => ?_, ?_⟩
 ·obtain ⟨n, rfl, h⟩ := ho z hz; exact Xc h
 ·refine List.Pairwise.imp_of_mem (fun {a b} ha hb hne x hx y hy e => ?_) hn; obtain ⟨n, rfl, h1⟩ := ho a ha; obtain ⟨m, rfl, h2⟩ := ho b hb; subst e; exact hne (by rw [Zfq h1 h2 (Ho.1 hx).1 (Ho.1 hy).1])
theorem Nn {L : List Int} (h : L.Pairwise (· < ·)) : L.Nodup := by rw [List.nodup_iff_pairwise_ne]; exact h.imp fun h e => by omega
section
variable {FI : Int → Option NodeD} {F : Nat → Option NodeD} {i d : Nat} {only : Bool}
theorem Za4 (z : Nat) : ∀ (k j : Nat), (ups z j k).Nodup := by
 intro k
 induction k with
 | zero => intro j; simp [ups]
 | succ k ih =>
  intro j; rw [ups, gC]; refine ⟨fun h => ?_, ih _⟩; obtain ⟨l, h1, h2, e⟩ := (Oz _ _ _).1 h; have := lev_unique (anc_lev z (j + 1)) (by rw [e]; exact anc_lev z l); omega
theorem Za5 (hd : d ≤ 16) (hi : 2 * i + 1 < 2 ^ (d + 1)) : (upL d (i : Int)).Nodup := by
 obtain ⟨hM, e2⟩ := Cx hd; have hl := Hl (q := 2 * i) (by omega) (by omega); have e2 : 2 * (i : Int) = ((2 * i : Nat) : Int) := (by omega); unfold upL; rw [e2, Og hd hi, hl, fU, gC]; refine ⟨fun h => ?_, ?_⟩
 ·rw [eW] at h; obtain ⟨n, hn, e⟩ := h; obtain ⟨l, h1, h2, e3⟩ := (Oz _ _ _).1 hn; have h3 := anc_lev (2 * i) l; rw [← e3, show n = 2 * i by omega] at h3; have := lev_unique h3 (show IsLev (2 * i) 0 from by unfold IsLev; simp); omega
 ·have := Za4 (2 * i) d 0; unfold List.Nodup at this ⊢; rw [List.pairwise_map]; exact this.imp fun h e => h (by omega)
theorem Vh (hd : d ≤ 16) (hFI : ∀ n : Nat, F n = FI (n : Int)) (hu : Cb F) (hi : 2 * i + 1 < 2 ^ (d + 1)) : (Cf F i only d (2 ^ d - 1) 0 []).2.2 = Bs FI d i only d := by
 have O := Zeh (only := only) hd hFI hu hi d lR; rw [anc_root (by omega)] at O; rw [gF, O.ok]; unfold Bs; rw [cE, cF, gD, gD]; constructor
 ·rintro ⟨h1, h2⟩; refine ⟨fun y hy => ?_, ?_⟩
  ·obtain ⟨j, hj, rfl⟩ := (Jq hd hi y).1 hy; exact h1 j hj
  ·cases ho : only with
   | true => exact .inl rfl
   | false => exact .inr fun j hj => h2 ho j (List.mem_range.1 hj)
 ·rintro ⟨h1, h2⟩; refine ⟨fun j hj => h1 _ ((Jq hd hi _).2 ⟨j, hj, rfl⟩), fun ho j hj => ?_⟩; rcases h2 with h2 | h2
  ·rw [ho] at h2; cases h2
  ·exact h2 j (List.mem_range.2 hj)
theorem Rj (hd : d ≤ 16) (hFI : ∀ n : Nat, F n = FI (n : Int)) (hu : Cb F) (hi : 2 * i + 1 < 2 ^ (d + 1)) (hok : (Cf F i only d (2 ^ d - 1) 0 []).2.2 = true) :
  Em (Ac FI d i only d) = (Cf F i only d (2 ^ d - 1) 0 []).1 ∧ Em (Dy (Ac FI d i only d)) = (Cf F i only d (2 ^ d - 1) 0 []).2.1 := by
 obtain ⟨hM, e2⟩ := Cx hd; have hok2 := hok; rw [Vh hd hFI hu hi, Bs, cE, cF, gD, gD] at hok2; have O := Zeh (only := only) hd hFI hu hi d lR; rw [anc_root (by omega)] at O; have hroot : IsLev (2 ^ d - 1) d := by
  have := fA d; unfold IsLev; rw [aN]; have : (2 ^ d - 1) % (2 ^ d * 2) = 2 ^ d - 1 := Nat.mod_eq_of_lt (by omega); omega
 have hp := fA d; have SP := Dl (F := F) (i := i) (only := only) d (2 ^ d - 1) 0 [] hroot (by omega); have SH := (Zav (F := F) (i := i) (only := only) d (2 ^ d - 1) 0 [] hroot (by omega) hok).2; have OM := O.mem hok; generalize Cf F i only d (2 ^ d - 1) 0 [] = v at SP SH OM hok ⊢; have WH : only = false → ∀ j, j < d → (Ay FI d j (Ic (2 * i) j)).1.Nodup ∧ ∀ y ∈ (Ay FI d j (Ic (2 * i) j)).1, ∃ m : Nat, y = (m : Int) ∧ inR j (Ic (2 * i) j) m := by
  intro ho j hj; obtain ⟨s1, s2⟩ := Lw hd (z := 2 * i) (j := j) (by omega) hj; have W := Ve (i := i) (only := only) hd hFI hu j _ [] s1 s2; have wk : (Ay FI d j (Ic (2 * i) j)).2 = true := by
   rcases hok2.2 with h | h
   ·rw [ho] at h; cases h
   ·exact h j (List.mem_range.2 hj)
  exact ⟨W.nd wk, fun y hy => (Dl (F := F) (i := i) (only := only) j _ 1 [] s1 (by omega)).op y ((W.mem wk y).1 hy)⟩
 have hmem : ∀ y, y ∈ Ac FI d i only d ↔ y ∈ v.1 := by
  intro y; rw [OM y]; unfold Ac; rw [eY, Jq hd hi]; cases ho : only with
  | true => simp
  | false =>
   simp only [Bool.false_eq_true, if_false, fZ, List.mem_range, true_and]
 have hnd : (Ac FI d i only d).Nodup := by
  unfold Ac; rw [fX]; refine ⟨Za5 hd hi, ?_, ?_⟩
  ·split
   ·simp
   ·rename_i ho
    rw [bL] at ho; unfold List.Nodup; rw [gA]; refine ⟨fun j hj => (WH ho j (List.mem_range.1 hj)).1, ?_⟩; refine List.Pairwise.imp_of_mem (fun {a b} ha hb hlt x hx y hy e => ?_) List.pairwise_lt_range; obtain ⟨m, e1, h1⟩ := (WH ho a (List.mem_range.1 ha)).2 x hx; obtain ⟨m', e3, h3⟩ := (WH ho b (List.mem_range.1 hb)).2 y hy; obtain rfl : m = m' := (by omega); exact Za1 hlt h1 h3
  ·intro a ha b hb e
   split at hb
   ·cases hb
   ·rename_i ho
    rw [bL] at ho; rw [fZ] at hb; obtain ⟨j, hj, hb⟩ := hb; obtain ⟨m, e1, h1⟩ := (WH ho j (List.mem_range.1 hj)).2 b hb; obtain ⟨l, hl, e3⟩ := (Jq hd hi a).1 ha; have : m = anc (2 * i) l := (by omega); rw [this] at h1; exact Zfp h1
 have hvn := Nn SP.opr; have hvs := Nn SP.shr; refine ⟨Go.Proofs.YtngealmhgkoaiaaGreat.sortL_eq ((gE hnd hvn).2 hmem) SP.opr, Go.Proofs.YtngealmhgkoaiaaGreat.sortL_eq ((gE (Xd hnd fun z hz => ?_) hvs).2 fun y => ?_) SP.shr⟩
 ·obtain ⟨m, e, h⟩ := SP.op z ((hmem z).1 hz); exact ⟨m, e, by unfold inR at h; omega⟩
 ·rw [Tm, SH y, hmem y]; constructor
  ·rintro ⟨⟨z, hz, h1⟩, h2⟩; exact ⟨⟨z, (hmem z).1 hz, h1⟩, h2⟩
  ·rintro ⟨⟨z, hz, h1⟩, h2⟩; exact ⟨⟨z, (hmem z).2 hz, h1⟩, h2⟩
end
end
end Go.Proofs.YtngealmhgkoaiaaGreat
