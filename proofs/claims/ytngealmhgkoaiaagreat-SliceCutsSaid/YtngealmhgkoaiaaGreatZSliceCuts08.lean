/- A region that draws its order, whose operations make memory and change none: each operation is shown once, whatever ran ahead of it. -/
import Derived.Test.YtngealmhgkoaiaaGreatZSliceCutsB
import Derived.Test.YtngealmhgkoaiaaGreatZSliceCuts00
import Derived.RegionTactic
open List renaming range → aF, mem_filter → bY, getElem?_cons_succ → bV, getElem?_eq_none → aK, any_eq_true → bZ, contains_iff_mem → cA, mem_of_getElem? → cB, exists_mem_of_ne_nil → cC, count_set → cD, getD_eq_getElem?_getD → aH
open Bool renaming and_eq_true → cE, or_eq_true → cF
open Option renaming map_some → cG, getD_some → cH, bind_some → cI
open Array renaming all_eq_true_iff_forall_mem → cJ, getElem?_eq_getElem → cK, getElem?_toList → cL, getElem?_eq_none → aD, getD_eq_getD_getElem? → cM, size_setIfInBounds → cN, getElem?_setIfInBounds → cO, toList_setIfInBounds → cP, getElem?_replicate → cQ
open Nat renaming zero_add → cR, lt_or_ge → aB
set_option linter.unusedVariables false
set_option maxRecDepth 100000
set_option maxHeartbeats 40000000
namespace Go.Proofs.YtngealmhgkoaiaaGreat
open Go.RowKit
abbrev Dr := Value → World → Prop
def Zhi (sat : List Dr) (l : List Oper) (a : Act) (w : World) (i : Nat) : Prop :=
 match l[i]? with
 | some o => match o.dst with
  | some d => (sat.getD i (fun _ _ => True)) (a.tmps[d]?.getD undef) w
  | none => True
 | none => True
def Av (l : List Oper) : List Tmp := l.filterMap (·.dst)
def Ck (l : List Oper) (i : Nat) (s : Tmp) : Bool :=
 (aF l.length).all fun j => match l[j]? with
  | some o => o.dst != some s || j == i || o.after.toList.any fun e => Region.binds .any e && e.on == i
  | none => true
def Sf (sat : List Dr) : Prop := ∀ (i : Nat) v w w', (sat.getD i (fun _ _ => True)) v w → Below w.heap.size w w' → (sat.getD i (fun _ _ => True)) v w'
theorem Pu : Sf [] := fun i v w w' h _ => by simp
theorem Ds {s : Dr} {sat : List Dr} (h : ∀ v w w', s v w → Below w.heap.size w w' → s v w') (hs : Sf sat) : Sf (s :: sat) := by
 intro i v w w' hv hb; cases i with
 | zero => exact h v w w' hv hb
 | succ i => exact hs i v w w' hv hb
theorem Sg (a : Act) (d s : Tmp) (v : Value) (h : d ≠ s) : (a.put (some d) v).tmps[s]?.getD undef = a.tmps[s]?.getD undef := by
 show (a.tmps.setIfInBounds d v)[s]?.getD undef = _; simp [h]
theorem Sh (a : Act) (d : Tmp) (v : Value) (h : d < a.tmps.size) : (a.put (some d) v).tmps[d]?.getD undef = v := by
 show (a.tmps.setIfInBounds d v)[d]?.getD undef = v; simp [h]
theorem Jc {ops : Array Oper} {listed : Array Bool} {i : Nat} (h : i ∈ Region.ready .any ops listed) : ∃ o, ops[i]? = some o ∧ ∀ e ∈ o.after.toList, Region.binds .any e = true → listed.getD e.on false = true := by
 rw [Region.ready, bY] at h; obtain ⟨_, h⟩ := h; rw [cE] at h; cases ho : ops[i]? with
 | none => rw [ho] at h; simp at h
 | some o =>
  refine ⟨o, rfl, ?_⟩; intro e he hb; have h2 := h.2; rw [ho] at h2; simp only [cG, cH] at h2; rw [cJ] at h2; have := h2 e (by simpa using he); rw [hb] at this; simpa using this
def Ey (ds : List Tmp) (f : Nat → Value) : Nat → List Value → List Value
 | _, [] => []
 | s, x :: xs => (bif ds.contains s then f s else x) :: Ey ds f (s + 1) xs
def Ao (l : List Oper) (a : Act) (f : Nat → Value) : Act := { tmps := (Ey (Av l) f 0 a.tmps.toList).toArray, defers := a.defers }
theorem Zcf (ds : List Tmp) (f : Nat → Value) : ∀ (xs : List Value) (k i : Nat), (Ey ds f k xs)[i]? = (xs[i]?).map fun x => bif ds.contains (k + i) then f (k + i) else x := by
 intro xs
 induction xs with
 | nil => intro k i; simp [Ey]
 | cons x xs ih =>
  intro k i; cases i with
  | zero => simp [Ey]
  | succ i =>
   rw [Ey, bV, bV, ih, show k + 1 + i = k + (i + 1) by omega]
theorem Jd {l : List Oper} {a a' : Act} (hs : a'.tmps.size = a.tmps.size) (hd : a'.defers = a.defers) (ho : ∀ s, (Av l).contains s = false → a'.tmps[s]?.getD undef = a.tmps[s]?.getD undef) :
  a' = Ao l a (fun s => a'.tmps[s]?.getD undef) := by
 obtain ⟨t', d'⟩ := a'; obtain ⟨t, d⟩ := a; simp only at hs hd ho; subst hd; unfold Ao
 congr 1
 apply Array.ext_getElem?; intro i; have key : ∀ xs : List Value, ((Ey (Av l) (fun s => t'[s]?.getD undef) 0 xs).toArray)[i]? = (xs[i]?).map fun x => bif (Av l).contains i then t'[i]?.getD undef else x := by
  intro xs; rw [List.getElem?_toArray, Zcf, cR]
 show t'[i]? = ((Ey (Av l) (fun s => t'[s]?.getD undef) 0 t.toList).toArray)[i]?; rw [key]; rcases aB i t.size with h | h
 ·rw [cK (by omega), cL, cK h, cG]
  congr 1
  cases hc : (Av l).contains i with
  | true => simp
  | false =>
   have := ho i hc; rw [cK (by omega), cK h] at this; exact this
 ·rw [aD (by omega), cL, aD h, Option.map_none]
theorem Ah {o : Oper} {ops : Array Oper} {tmps : Array Value} {j : Nat} {b : Bool} {oj : Oper} {s : Tmp} (hg : o.guard = some (j, b)) (hj : ops[j]? = some oj) (hs : oj.dst = some s) (hv : tmps[s]?.getD undef = .bool b) : Region.wanted o (yielded ops tmps) = true := by
 cases ht : tmps[s]? with
 | none => rw [ht] at hv; cases hv
 | some x =>
  rw [ht] at hv; have hx : x = .bool b := hv; have hy : yielded ops tmps j = some b := by
   unfold yielded; rw [hj, cI, hs, cI, ht, hx]
  unfold Region.wanted; rw [hg]; simp [hy]
def Si (e : Edge) : Bool := Region.binds .any e && match e.ground with | .data => true | _ => false
theorem Sj {e : Edge} (h : Si e = true) : Region.binds .any e = true := by
 unfold Si at h; rw [cE] at h; exact h.1
def Zhj (l : List Oper) (j i : Nat) : Bool :=
 (aF l.length).all fun c => c == j || match l[c]? with
  | some o => !(o.after.toList.any fun e => Si e && e.on == i) || (match l[j]? with | some oj => oj.after.toList.any fun e => Region.binds .any e && e.on == c | none => false)
  | none => true
def Je (o : Oper) : Option Tmp := match o.dst with
 | some d => some d
 | none => match o.op with
  | .store _ (.tmp p) _ => some p
  | .mapUpdate _ (.tmp p) _ _ => some p
  | _ => none
theorem Zey {o : Oper} {d : Tmp} (h : o.dst = some d) : Je o = some d := by unfold Je; rw [h]
def Bu (sat : List Dr) (l : List Oper) (a : Act) (w : World) (i : Nat) : Prop :=
 match l[i]? with
 | some o => match Je o with
  | some d => (sat.getD i (fun _ _ => True)) (a.tmps[d]?.getD undef) w
  | none => True
 | none => True
def Fv (sat : List Dr) (l : List Oper) (a : Act) (w : World) : List Edge → Prop
 | [] => True
 | e :: es => (if Si e = true then Bu sat l a w e.on else True) ∧ Fv sat l a w es
theorem Sk {sat : List Dr} {l : List Oper} {a : Act} {w : World} : ∀ es : List Edge, (∀ e ∈ es, Si e = true → Bu sat l a w e.on) → Fv sat l a w es := by
 intro es
 induction es with
 | nil => intro _; trivial
 | cons e es ih =>
  intro h; refine ⟨?_, ih fun x hx => h x (by simp [hx])⟩
  split
  ·rename_i hb; exact h e (by simp) hb
  ·trivial
def Ih (l : List Oper) (n : Nat) : Bool :=
 ((aF l.length).all fun i => match l[i]? with
  | some o => (match Je o with | some d => decide (d < n) | none => false) && (aF l.length).all fun j => match l[j]? with
   | some o' => i == j || o'.dst.isNone || o'.dst != Je o || (o.dst.isNone && o.after.toList.any fun e => Region.binds .any e && e.on == j)
   | none => true
  | none => true)
theorem Hg {l : List Oper} {n : Nat} (h : Ih l n = true) {i : Nat} {o : Oper} (hi : l[i]? = some o) : ∃ d, Je o = some d ∧ d < n := by
 have hil : i < l.length := by
  rcases aB i l.length with h | h
  ·exact h
  ·rw [aK h] at hi; cases hi
 have := List.all_eq_true.1 h i (List.mem_range.2 hil); rw [hi] at this; simp only [cE] at this; have h1 := this.1; cases hd : Je o with
 | none => rw [hd] at h1; cases h1
 | some d => rw [hd] at h1; exact ⟨d, rfl, by simpa using h1⟩
theorem Yh {l : List Oper} {n : Nat} (h : Ih l n = true) {i j : Nat} {o o' : Oper} {d d' : Tmp} (hi : l[i]? = some o) (hj : l[j]? = some o') (ho : Je o = some d) (ho' : o'.dst = some d') (hne : i ≠ j) : d' ≠ d ∨ ∃ e ∈ o.after.toList, Region.binds .any e = true ∧ e.on = j := by
 have hil : i < l.length := by
  rcases aB i l.length with h | h
  ·exact h
  ·rw [aK h] at hi; cases hi
 have hjl : j < l.length := by
  rcases aB j l.length with h | h
  ·exact h
  ·rw [aK h] at hj; cases hj
 have := List.all_eq_true.1 h i (List.mem_range.2 hil); rw [hi] at this; simp only [cE] at this; have h2 := List.all_eq_true.1 this.2 j (List.mem_range.2 hjl); rw [hj] at h2; simp only [cF, beq_iff_eq, bne_iff_ne, cE, bZ] at h2; rcases h2 with ((h2 | h2) | h2) | ⟨_, e, he, hb, hej⟩
 ·exact absurd h2 hne
 ·rw [ho'] at h2; cases h2
 ·left
  intro e; rw [ho, ho', e] at h2; exact h2 rfl
 ·exact .inr ⟨e, he, hb, hej⟩
def Cl (o : Oper) (a : Act) (v : Value) : Value := match o.dst with
 | some _ => v
 | none => match Je o with
  | some p => a.tmps[p]?.getD undef
  | none => undef
def Zha (P : Program) (l : List Oper) (Q : Exit → Act → World → Prop) (sat : List Dr) (st : List Bool) (a0 : Act) (W : World) (i : Nat) (o : Oper) : Prop :=
 ∀ (a : Act) (w : World), Below W.heap.size W w → (∀ s, Ck l i s = true → a.tmps[s]?.getD undef = a0.tmps[s]?.getD undef) → Fv sat l a w o.after.toList →
  ∀ K : Act → World → Prop, (∀ v w', (sat.getD i (fun _ _ => True)) (Cl o a v) w' → Below (bif st.getD i true then w.heap.size else W.heap.size) w w' → K (a.put o.dst v) w') →
   if Region.wanted o (yielded l.toArray a.tmps) = true then Oper.wp P o a w K Q else K (a.put o.dst undef) w
def Zcg (P : Program) (l : List Oper) (Q : Exit → Act → World → Prop) (sat : List Dr) (st : List Bool) (a0 : Act) (W : World) : Nat → List Oper → Prop
 | _, [] => True
 | i, o :: os => Zha P l Q sat st a0 W i o ∧ Zcg P l Q sat st a0 W (i + 1) os
def Ei (l : List Oper) : Bool := (aF l.length).all fun i => match l[i]? with | some o => o.after.toList.all fun e => !Region.binds .any e || decide (e.on < i) | none => true
theorem Yi {l : List Oper} (h : Ei l = true) {i : Nat} {o : Oper} (hi : l[i]? = some o) : ∀ e ∈ o.after.toList, Region.binds .any e = true → e.on < i := by
 have hil : i < l.length := by
  rcases aB i l.length with h | h
  ·exact h
  ·rw [aK h] at hi; cases hi
 have := List.all_eq_true.1 h i (List.mem_range.2 hil); rw [hi] at this; intro e he hb; have h2 := List.all_eq_true.1 this e he; rw [hb] at h2; simpa using h2
theorem Hx {l : List Oper} (h : Ei l = true) {listed : Array Bool} (hs : listed.size = l.length) {i : Nat} (hi : i < l.length) (hf : listed.getD i false = false) : Region.ready .any l.toArray listed ≠ [] := by
 have : ∃ j, j < l.length ∧ listed.getD j false = false ∧ ∀ k, k < j → listed.getD k false = true := by
  induction i using Nat.strongRecOn with
  | ind i ih =>
   by_cases hall : ∀ k, k < i → listed.getD k false = true
   ·exact ⟨i, hi, hf, hall⟩
   ·have : ∃ k, k < i ∧ listed.getD k false = false := by
     refine Classical.byContradiction fun hn => hall fun k hk => ?_; cases hb : listed.getD k false with
     | true => rfl
     | false => exact absurd ⟨k, hk, hb⟩ hn
    obtain ⟨k, hk, hb⟩ := this; exact ih k hk (by omega) hb
 obtain ⟨j, hj, hjf, hjl⟩ := this; obtain ⟨o, ho⟩ : ∃ o, l[j]? = some o := ⟨l[j], List.getElem?_eq_getElem hj⟩; have hm : j ∈ Region.ready .any l.toArray listed := by
  rw [Region.ready, bY]; refine ⟨by simpa using hj, ?_⟩; rw [cE]; constructor
  ·have : listed.getD j true = false := by
    rw [cM] at hjf ⊢; rw [cK (by omega)] at hjf ⊢; exact hjf
   rw [this]; rfl
  ·have ho' : l.toArray[j]? = some o := (by simpa using ho); rw [ho', cG, cH, cJ]; intro e he; cases hb : Region.binds .any e with
   | false => rfl
   | true =>
    rw [cF]
    right
    exact hjl _ (Yi h ho e (by simpa using he) hb)
 intro e; rw [e] at hm; cases hm
theorem Ob (a : Act) (d : Option Tmp) (v : Value) : (a.put d v).tmps.size = a.tmps.size := by
 cases d with
 | none => rfl
 | some d => show (a.tmps.setIfInBounds d v).size = _; rw [cN]
theorem Jf (a : Act) (d : Option Tmp) (v : Value) : (a.put d v).defers = a.defers := by cases d <;> rfl
theorem Mu (a : Act) (d : Option Tmp) (s : Tmp) (v : Value) (h : d ≠ some s) : (a.put d v).tmps[s]?.getD undef = a.tmps[s]?.getD undef := by
 cases d with
 | none => rfl
 | some d => exact Sg a d s v (fun e => h (by rw [e]))
theorem Sl (a : Act) {o : Oper} {d : Tmp} (h : Je o = some d) (v : Value) (hd : d < a.tmps.size) : (a.put o.dst v).tmps[d]?.getD undef = Cl o a v := by
 unfold Cl; cases ho : o.dst with
 | none => simp only [h]; rfl
 | some d' =>
  have := Zey ho; rw [h] at this; cases this; exact Sh a d v hd
def Fl (sat : List Dr) (fin : List Bool) (f : Nat → Value) (w : World) : Nat → List Oper → Prop
 | _, [] => True
 | i, o :: os => (bif fin.getD i false then (match Je o with | some d => (sat.getD i (fun _ _ => True)) (f d) w | none => True) else True) ∧ Fl sat fin f w (i + 1) os
theorem Gt {sat : List Dr} {fin : List Bool} {f : Nat → Value} {w : World} : ∀ (os : List Oper) (k : Nat), (∀ i o d, os[i]? = some o → Je o = some d → fin.getD (k + i) false = true → (sat.getD (k + i) (fun _ _ => True)) (f d) w) → Fl sat fin f w k os := by
 intro os
 induction os with
 | nil => intro k _; trivial
 | cons o os ih =>
  intro k h; refine ⟨?_, ih (k + 1) fun i o' d ho hd hfi => ?_⟩
  ·cases hfi : fin.getD k false with
   | false => trivial
   | true =>
    cases hd : Je o with
    | none => trivial
    | some d => exact h 0 o d rfl hd hfi
  ·have e1 : k + 1 + i = k + (i + 1) := (by omega); rw [e1] at hfi ⊢; exact h (i + 1) o' d (by simpa using ho) hd hfi
def Bk (sat : List Dr) (l : List Oper) (a : Act) (w : World) : List Edge → Prop
 | [] => True
 | e :: es => (if Region.binds .any e = true then Bu sat l a w e.on else True) ∧ Bk sat l a w es
theorem Lf {sat : List Dr} {l : List Oper} {a : Act} {w : World} : ∀ es : List Edge, (∀ e ∈ es, Region.binds .any e = true → Bu sat l a w e.on) → Bk sat l a w es := by
 intro es
 induction es with
 | nil => intro _; trivial
 | cons e es ih =>
  intro h; refine ⟨?_, ih fun x hx => h x (by simp [hx])⟩
  split
  ·rename_i hb; exact h e (by simp) hb
  ·trivial
def Gg (S : World → World → Prop) (q : Option Nat) (i : Nat) (x y : World) : Prop := bif some i == q then S x y else Below x.heap.size x y
theorem Ag {S : World → World → Prop} {q : Option Nat} {i : Nat} {x y : World} (h : (some i == q) = false) (hb : Below x.heap.size x y) : Gg S q i x y := by unfold Gg; rw [h]; exact hb
theorem Dh {S : World → World → Prop} {q : Option Nat} {i : Nat} {x y : World} (h : (some i == q) = true) (hs : S x y) : Gg S q i x y := by unfold Gg; rw [h]; exact hs
def Fb (l : List Oper) (q : Option Nat) (i : Nat) : Bool := match q with
 | none => true
 | some j => i == j || match l[j]? with
  | some oj => oj.after.toList.any fun e => Region.binds .any e && e.on == i
  | none => false
def Cm (I : World → Prop) (S : World → World → Prop) : Option Nat → List Dr → Prop
 | _, [] => True
 | none, s :: sat => (∀ v x y, s v x → I x → S x y → s v y) ∧ Cm I S none sat
 | some 0, s :: sat => (∀ v x y, s v x → I x → Below x.heap.size x y → s v y) ∧ Cm I S none sat
 | some (q + 1), s :: sat => (∀ v x y, s v x → I x → S x y → s v y) ∧ Cm I S (some q) sat
theorem Ae {I : World → Prop} {S : World → World → Prop} {q : Option Nat} : Cm I S q [] := by cases q with
 | none => trivial
 | some q => cases q <;> trivial
theorem Am {I : World → Prop} {S : World → World → Prop} {s : Dr} {sat : List Dr} (h : ∀ v x y, s v x → I x → S x y → s v y) (t : Cm I S none sat) : Cm I S none (s :: sat) := ⟨h, t⟩
theorem Ej {I : World → Prop} {S : World → World → Prop} {s : Dr} {sat : List Dr} (h : ∀ v x y, s v x → I x → Below x.heap.size x y → s v y) (t : Cm I S none sat) : Cm I S (some 0) (s :: sat) := ⟨h, t⟩
theorem Ce {I : World → Prop} {S : World → World → Prop} {q : Nat} {s : Dr} {sat : List Dr} (h : ∀ v x y, s v x → I x → S x y → s v y) (t : Cm I S (some q) sat) : Cm I S (some (q + 1)) (s :: sat) := ⟨h, t⟩
theorem Hh {I : World → Prop} {S : World → World → Prop} : ∀ (sat : List Dr) (q : Option Nat), Cm I S q sat →
  (∀ i v x y, some i ≠ q → (sat.getD i (fun _ _ => True)) v x → I x → S x y → (sat.getD i (fun _ _ => True)) v y) ∧
  (∀ i v x y, some i = q → (sat.getD i (fun _ _ => True)) v x → I x → Below x.heap.size x y → (sat.getD i (fun _ _ => True)) v y) := by
 intro sat
 induction sat with
 | nil => intro q _; exact ⟨fun i v x y _ _ _ _ => by simp, fun i v x y _ _ _ _ => by simp⟩
 | cons s sat ih =>
  intro q h
  match q, h with
  | none, h =>
   refine ⟨fun i v x y hq hv hi hs => ?_, fun i v x y hq => by cases hq⟩; cases i with
   | zero => exact h.1 v x y hv hi hs
   | succ i => exact (ih none h.2).1 i v x y (by simp) hv hi hs
  | some 0, h =>
   refine ⟨fun i v x y hq hv hi hs => ?_, fun i v x y hq hv hi hs => ?_⟩
   ·cases i with
    | zero => exact absurd rfl hq
    | succ i => exact (ih none h.2).1 i v x y (by simp) hv hi hs
   ·cases i with
    | zero => exact h.1 v x y hv hi hs
    | succ i => cases hq
  | some (q + 1), h =>
   refine ⟨fun i v x y hq hv hi hs => ?_, fun i v x y hq hv hi hs => ?_⟩
   ·cases i with
    | zero => exact h.1 v x y hv hi hs
    | succ i => exact (ih (some q) h.2).1 i v x y (fun e => hq (by simp at e; rw [e])) hv hi hs
   ·cases i with
    | zero => cases hq
    | succ i => exact (ih (some q) h.2).2 i v x y (by simp at hq; rw [hq]) hv hi hs
def Yj (P : Program) (l : List Oper) (Q : Exit → Act → World → Prop) (sat : List Dr) (I : World → Prop) (S : World → World → Prop) (q : Option Nat) (a0 : Act) (W : World) (i : Nat) (o : Oper) : Prop :=
 ∀ (a : Act) (w : World), I w → (Fb l q i = true → Below W.heap.size W w) → (∀ s, Ck l i s = true → a.tmps[s]?.getD undef = a0.tmps[s]?.getD undef) → Bk sat l a w o.after.toList →
  ∀ K : Act → World → Prop, (∀ v w', (sat.getD i (fun _ _ => True)) (Cl o a v) w' → Gg S q i w w' → K (a.put o.dst v) w') →
   if Region.wanted o (yielded l.toArray a.tmps) = true then Oper.wp P o a w K Q else K (a.put o.dst undef) w
def OwedAll7 (P : Program) (l : List Oper) (Q : Exit → Act → World → Prop) (sat : List Dr) (I : World → Prop) (S : World → World → Prop) (q : Option Nat) (a0 : Act) (W : World) : Nat → List Oper → Prop
 | _, [] => True
 | i, o :: os => Yj P l Q sat I S q a0 W i o ∧ OwedAll7 P l Q sat I S q a0 W (i + 1) os
theorem OwedAll7.nil {P : Program} {l : List Oper} {Q : Exit → Act → World → Prop} {sat : List Dr} {I : World → Prop} {S : World → World → Prop} {q : Option Nat} {a0 : Act} {W : World} {i : Nat} : OwedAll7 P l Q sat I S q a0 W i [] := trivial
theorem OwedAll7.cons {P : Program} {l : List Oper} {Q : Exit → Act → World → Prop} {sat : List Dr} {I : World → Prop} {S : World → World → Prop} {q : Option Nat} {a0 : Act} {W : World} {i : Nat} {o : Oper} {os : List Oper} (h : Yj P l Q sat I S q a0 W i o) (t : OwedAll7 P l Q sat I S q a0 W (i + 1) os) : OwedAll7 P l Q sat I S q a0 W i (o :: os) := ⟨h, t⟩
theorem Pv {P : Program} {l : List Oper} {Q : Exit → Act → World → Prop} {sat : List Dr} {I : World → Prop} {S : World → World → Prop} {q : Option Nat} {a0 : Act} {W : World} : ∀ (os : List Oper) (k : Nat), OwedAll7 P l Q sat I S q a0 W k os → ∀ i o, os[i]? = some o → Yj P l Q sat I S q a0 W (k + i) o := by
 intro os
 induction os with
 | nil => intro k _ i o h; simp at h
 | cons x os ih =>
  intro k h i o ho; cases i with
  | zero => simp at ho; subst ho; exact h.1
  | succ i =>
   have := ih (k + 1) h.2 i o (by simpa using ho); rw [show k + (i + 1) = k + 1 + i by omega]; exact this
structure OnceJ7 (l : List Oper) (sat : List Dr) (I : World → Prop) (q : Option Nat) (a0 : Act) (W : World) (listed : Array Bool) (a : Act) (w : World) : Prop where
 size : a.tmps.size = a0.tmps.size
 defers : a.defers = a0.defers
 out : ∀ s, (∀ j o, listed.getD j false = true → l[j]? = some o → o.dst ≠ some s) → a.tmps[s]?.getD undef = a0.tmps[s]?.getD undef
 closed : ∀ j o, listed.getD j false = true → l[j]? = some o → ∀ e ∈ o.after.toList, Region.binds .any e = true → listed.getD e.on false = true
 low : I w
 pre : (∀ j, q = some j → listed.getD j false = false) → Below W.heap.size W w
 facts : ∀ i, listed.getD i false = true → Bu sat l a w i
 lsize : listed.size = l.length
theorem Yk {P : Program} {l : List Oper} {Q : Exit → Act → World → Prop} {sat : List Dr} {I : World → Prop} {S : World → World → Prop} {q : Option Nat} {a0 : Act} {W : World} (hk : Cm I S q sat) (h12 : ∀ x y, I x → Below x.heap.size x y → S x y) (hIS : ∀ x y, I x → S x y → I y) (hd : Ih l a0.tmps.size = true) (he : Ei l = true)
  (hops : OwedAll7 P l Q sat I S q a0 W 0 l)
  (hend : ∀ (a : Act) (w : World), a.tmps.size = a0.tmps.size → a.defers = a0.defers → (∀ s, (Av l).contains s = false → a.tmps[s]?.getD undef = a0.tmps[s]?.getD undef) → I w → (∀ i, i < l.length → Bu sat l a w i) → Q .normal a w) :
  ∀ (fuel : Nat) (listed : Array Bool) (a : Act) (w : World), OnceJ7 l sat I q a0 W listed a w → listed.toList.count false ≤ fuel → wpAny P .any l.toArray Q fuel listed a w := by
 intro fuel; have hfin : ∀ (listed : Array Bool) (a : Act) (w : World), OnceJ7 l sat I q a0 W listed a w → Region.ready .any l.toArray listed = [] → Q .normal a w := by
  intro listed a w J hr; refine hend a w J.size J.defers (fun s hs => J.out s fun j o _ ho hd' => ?_) J.low fun i hi => J.facts i ?_
  ·have : (Av l).contains s = true := by
    rw [cA]; exact List.mem_filterMap.2 ⟨o, cB ho, hd'⟩
   rw [this] at hs; cases hs
  cases hb : listed.getD i false with
  | true => rfl
  | false => exact absurd hr (Hx he J.lsize hi hb)
 induction fuel with
 | zero =>
  intro listed a w J hc; have hr : Region.ready .any l.toArray listed = [] := by
   refine Classical.byContradiction fun hn => ?_; obtain ⟨i, hi⟩ := cC _ hn; have h1 := (mem_ready.1 hi).1; have hlt : i < listed.size := by
    rcases aB i listed.size with h | h
    ·exact h
    ·rw [cM, aD h] at h1; simp at h1
   rw [cM, cK hlt] at h1; have h2 : false ∈ listed.toList := by
    rw [← show listed[i] = false from h1]; simp
   have := List.count_pos_iff.2 h2; omega
  exact ⟨hr, hfin listed a w J hr⟩
 | succ fuel ih =>
  intro listed a w J hc; refine ⟨hfin listed a w J, ?_⟩; intro i hi; obtain ⟨o, ho, hdep⟩ := Jc hi; have h1 := (mem_ready.1 hi).1; have hol : l[i]? = some o := (by simpa using ho); have hil : i < l.length := by
   rcases aB i l.length with h | h
   ·exact h
   ·rw [aK h] at hol; cases hol
  have hlt : i < listed.size := (by rw [J.lsize]; exact hil); obtain ⟨d, hob, hdn⟩ := Hg hd hol; refine wpOp_step ho ?_; intro K' hK'; have hO := Pv l 0 hops i o hol; rw [cR] at hO; have h1f : listed.getD i false = false := by
   rw [cM, cK hlt] at h1 ⊢; exact h1
  have hfree : ∀ s, Ck l i s = true → a.tmps[s]?.getD undef = a0.tmps[s]?.getD undef := by
   intro s hs; refine J.out s fun j o' hj hoj hds => ?_; have hjl : j < l.length := by
    rcases aB j l.length with h | h
    ·exact h
    ·rw [aK h] at hoj; cases hoj
   have := List.all_eq_true.1 hs j (List.mem_range.2 hjl); rw [hoj] at this; simp only [cF, bne_iff_ne, beq_iff_eq, bZ, cE] at this; rcases this with (h | h) | ⟨e, he, hb, hei⟩
   ·exact h hds
   ·subst h; rw [h1f] at hj; cases hj
   ·have := J.closed j o' hj hoj e he hb; rw [hei, h1f] at this; cases this
  refine hO a w J.low (fun hqi => J.pre fun j hj => by
   subst hj; unfold Fb at hqi; simp only [cF, beq_iff_eq] at hqi; rcases hqi with rfl | hqi
   ·exact h1f
   ·cases hoj : l[j]? with
    | none => rw [hoj] at hqi; cases hqi
    | some oj =>
     rw [hoj] at hqi; simp only [bZ, cE, beq_iff_eq] at hqi; obtain ⟨e, he, hb, hei⟩ := hqi; cases hl : listed.getD j false with
     | false => rfl
     | true =>
      have := J.closed j oj hl hoj e he hb; rw [hei, h1f] at this; cases this) hfree (Lf _ fun e hm hb => J.facts _ (hdep e hm hb)) K' ?_
  intro v w' hv hbw; have hS : S w w' := by
   unfold Gg at hbw; cases hq : some i == q with
   | true => rw [hq] at hbw; exact hbw
   | false => rw [hq] at hbw; exact h12 _ _ J.low hbw
  refine hK' _ _ (ih _ _ _ ?_ ?_)
  ·constructor
   ·rw [Ob]; exact J.size
   ·rw [Jf]; exact J.defers
   ·intro s hs; have hii : (listed.setIfInBounds i true).getD i false = true := by
     rw [cM, cO, if_pos rfl, if_pos hlt]; rfl
    rw [Mu a o.dst s v (hs i o hii hol)]; refine J.out s fun j o' hj hoj => hs j o' ?_ hoj
    by_cases hji : j = i
    ·subst hji; exact hii
    ·rw [cM, cO, if_neg (fun e => hji e.symm), ← cM]; exact hj
   ·intro j o' hj hoj e hem hb; have hstep : ∀ m, listed.getD m false = true → (listed.setIfInBounds i true).getD m false = true := by
     intro m hm
     by_cases hmi : m = i
     ·subst hmi; rw [cM, cO, if_pos rfl, if_pos hlt]; rfl
     ·rw [cM, cO, if_neg (fun e => hmi e.symm), ← cM]; exact hm
    by_cases hji : j = i
    ·subst hji; rw [hol] at hoj; cases hoj; exact hstep _ (hdep e hem hb)
    ·refine hstep _ (J.closed j o' ?_ hoj e hem hb); rw [cM, cO, if_neg (fun e => hji e.symm)] at hj; rw [cM]; exact hj
   ·exact hIS _ _ J.low hS
   ·intro hpre; have hne : (some i == q) = false := by
     rw [beq_eq_false_iff_ne]; intro e; have := hpre i e.symm; rw [cM, cO, if_pos rfl, if_pos hlt] at this; cases this
    have hbw2 : Below w.heap.size w w' := (by unfold Gg at hbw; rw [hne] at hbw; exact hbw); have hpr : Below W.heap.size W w := J.pre fun j hj => by
     have := hpre j hj
     by_cases hji : j = i
     ·subst hji; exact h1f
     ·rw [cM, cO, if_neg (fun e => hji e.symm), ← cM] at this; exact this
    exact hpr.trans (hbw2.mono hpr.size)
   ·intro j hj; unfold Bu; cases hoj : l[j]? with
    | none => trivial
    | some o' =>
     obtain ⟨d', hd', _⟩ := Hg hd hoj; simp only [hd']
     by_cases hji : j = i
     ·subst hji; rw [hol] at hoj; cases hoj; rw [hob] at hd'; cases hd'; rw [Sl a hob v (by rw [J.size]; exact hdn)]; exact hv
     ·rw [Mu a o.dst d' v (by
       intro hdd; rcases Yh hd hoj hol hd' hdd hji with h | ⟨e, he, hb, hei⟩
       ·exact h rfl
       ·have := J.closed j o' (by
         rw [cM, cO, if_neg (fun e => hji e.symm)] at hj; rw [cM]; exact hj) hoj e he hb
        rw [hei, h1f] at this; cases this)]
      have hjl : listed.getD j false = true := by
       rw [cM, cO, if_neg (fun e => hji e.symm)] at hj; rw [cM]; exact hj
      have := J.facts j hjl; unfold Bu at this; rw [hoj] at this; simp only [hd'] at this
      by_cases hjq : some j = q
      ·unfold Gg at hbw; rw [show (some i == q) = false from by rw [beq_eq_false_iff_ne, ← hjq]; intro e; exact hji (by simpa using e.symm)] at hbw; exact (Hh sat q hk).2 j _ _ _ hjq this J.low hbw
      ·exact (Hh sat q hk).1 j _ _ _ hjq this J.low hS
   ·rw [cN]; exact J.lsize
  ·rw [cP, cD (by simpa using hlt)]; have h2 : listed.toList[i]'(by simpa using hlt) = false := by
    rw [cM, cK hlt] at h1; simpa using h1
   rw [h2, if_pos (show (false == false) = true from rfl), if_neg (by decide)]; omega
theorem Cj {P : Program} {id : Nat} {l : List Oper} {Q : Exit → Act → World → Prop} {a : Act} {w : World} (sat : List Dr) (fin : List Bool) (I : World → Prop) (S : World → World → Prop) (q : Option Nat) (hm : P.follows .mixedOrders = true) (hk : Cm I S q sat) (h0 : I w.drew) (h12 : ∀ x y, I x → Below x.heap.size x y → S x y) (hIS : ∀ x y, I x → S x y → I y) (hd : Ih l a.tmps.size = true) (he : Ei l = true)
  (hops : OwedAll7 P l Q sat I S q a w 0 l)
  (hend : ∀ (f : Nat → Value) (w' : World), I w' → Fl sat fin f w' 0 l → Q .normal (Ao l a f) w') :
  (Code.region id l.toArray true).wp P Q a w := by
 refine wp_region_any hm (Yk hk h12 hIS hd he hops ?_ _ _ _ _ ⟨rfl, rfl, fun _ _ => rfl, ?_, h0, fun _ => ⟨rfl, rfl, rfl, lR, fun _ _ => rfl⟩, ?_, by simp⟩ ?_)
 ·intro a' w' h1 h2 h3 h4 h5; rw [Jd h1 h2 h3]; refine hend _ w' h4 (Gt l 0 ?_); intro i o d ho hdd hfi; have hil : i < l.length := by
   rcases aB i l.length with h | h
   ·exact h
   ·rw [aK h] at ho; cases ho
  have := h5 i hil; unfold Bu at this; rw [ho] at this; simp only [hdd] at this; rw [cR]; exact this
 ·intro i _ hi; exfalso; rw [cM, cQ] at hi
  split at hi <;> simp at hi
 ·intro i hi; exfalso; rw [cM, cQ] at hi
  split at hi <;> simp at hi
 ·simp
theorem Zch {P : Program} {l : List Oper} {Q : Exit → Act → World → Prop} {sat : List Dr} {I : World → Prop} {S : World → World → Prop} {q : Option Nat} {a0 : Act} {W : World} {i : Nat} {o : Oper}
  (h : ∀ (a : Act) (w : World), I w → (Fb l q i = true → Below W.heap.size W w) → (∀ s, Ck l i s = true → a.tmps[s]?.getD undef = a0.tmps[s]?.getD undef) → Bk sat l a w o.after.toList →
   Region.wanted o (yielded l.toArray a.tmps) = true ∧ ∀ K : Act → World → Prop, (∀ v w', (sat.getD i (fun _ _ => True)) (Cl o a v) w' → Gg S q i w w' → K (a.put o.dst v) w') → Oper.wp P o a w K Q) : Yj P l Q sat I S q a0 W i o := by
 intro a w hb hq ho hf K hK; rw [if_pos (h a w hb hq ho hf).1]; exact (h a w hb hq ho hf).2 K hK
theorem Sm {o : Oper} {ops : Array Oper} {tmps : Array Value} {j : Nat} {b : Bool} {oj : Oper} {s : Tmp} {v : Value} (hg : o.guard = some (j, b)) (hj : ops[j]? = some oj) (hs : oj.dst = some s) (hv : tmps[s]?.getD undef = v) (hne : v ≠ .bool b) : Region.wanted o (yielded ops tmps) = false := by
 have hy : yielded ops tmps j ≠ some b := by
  unfold yielded; rw [hj, cI, hs, cI]; cases ht : tmps[s]? with
  | none => simp
  | some x =>
   rw [ht] at hv; have hx : x = v := hv; subst hx; intro h; cases x <;> simp_all
 unfold Region.wanted; rw [hg]; simp [hy]
theorem Yl {P : Program} {l : List Oper} {Q : Exit → Act → World → Prop} {sat : List Dr} {I : World → Prop} {S : World → World → Prop} {q : Option Nat} {a0 : Act} {W : World} {i : Nat} {o : Oper} {d : Tmp} (hd : o.dst = some d) (hs : sat.getD i (fun _ _ => True) = fun v _ => v = undef) (hq : (some i == q) = false)
  (h : ∀ (a : Act) (w : World), Bk sat l a w o.after.toList → Region.wanted o (yielded l.toArray a.tmps) = false) : Yj P l Q sat I S q a0 W i o := by
 intro a w hb _ ho hf K hK; rw [if_neg (by rw [h a w hf]; simp)]; exact hK undef w (by rw [hs]; unfold Cl; rw [hd]) (Ag hq bR)
def Ym (l : List Oper) (fin : List Bool) (z : Nat) : Bool :=
 decide (z + 1 = l.length) && (aF l.length).all fun i => i == z || (!fin.getD i false && (aF l.length).any fun j => decide (i < j) && match l[j]? with | some o => o.after.toList.any fun e => Region.binds .any e && e.on == i | none => false)
theorem Pw {l : List Oper} {fin : List Bool} {z : Nat} (h : Ym l fin z = true) : z + 1 = l.length ∧ ∀ i, i < l.length → i ≠ z → fin.getD i false = false ∧ ∃ j o, i < j ∧ j < l.length ∧ l[j]? = some o ∧ ∃ e ∈ o.after.toList, Region.binds .any e = true ∧ e.on = i := by
 unfold Ym at h; rw [cE, decide_eq_true_iff] at h; refine ⟨h.1, fun i hi hne => ?_⟩; have h2 := List.all_eq_true.1 h.2 i (List.mem_range.2 hi); rw [cF, beq_iff_eq, cE, Bool.not_eq_true'] at h2; rcases h2 with h2 | ⟨h2, h3⟩
 ·exact absurd h2 hne
 ·refine ⟨h2, ?_⟩; obtain ⟨j, hj, h3⟩ := List.any_eq_true.1 h3; rw [cE, decide_eq_true_iff] at h3; obtain ⟨hij, h3⟩ := h3; cases ho : l[j]? with
  | none => rw [ho] at h3; cases h3
  | some o =>
   rw [ho] at h3; simp only [bZ, cE, beq_iff_eq] at h3; obtain ⟨e, he, hb, hei⟩ := h3; exact ⟨j, o, hij, List.mem_range.1 hj, ho, e, he, hb, hei⟩
theorem Yn {l : List Oper} {fin : List Bool} {z : Nat} (h : Ym l fin z = true) {listed : Array Bool} (hc : ∀ j o, listed.getD j false = true → l[j]? = some o → ∀ e ∈ o.after.toList, Region.binds .any e = true → listed.getD e.on false = true) (hz : listed.getD z false = true) :
  ∀ n i, l.length - i ≤ n → i < l.length → listed.getD i false = true := by
 intro n
 induction n with
 | zero => intro i h1 h2; omega
 | succ n ih =>
  intro i h1 h2
  by_cases hiz : i = z
  ·rw [hiz]; exact hz
  ·obtain ⟨_, j, o, hij, hj, ho, e, he, hb, hei⟩ := (Pw h).2 i h2 hiz; have := hc j o (ih j (by omega) hj) ho e he hb; rw [hei] at this; exact this
def Zci (P : Program) (l : List Oper) (Q : Exit → Act → World → Prop) (sat : List Dr) (I : World → Prop) (S : World → World → Prop) (q : Option Nat) (z : Nat) (a0 : Act) (W : World) (i : Nat) (o : Oper) : Prop :=
 ∀ (a : Act) (w : World), I w → (Fb l q i = true → Below W.heap.size W w) → (∀ s, Ck l i s = true → a.tmps[s]?.getD undef = a0.tmps[s]?.getD undef) → Bk sat l a w o.after.toList →
  ∀ K : Act → World → Prop, (∀ v w', (sat.getD i (fun _ _ => True)) (Cl o a v) w' → (i ≠ z → Gg S q i w w') → K (a.put o.dst v) w') →
   if Region.wanted o (yielded l.toArray a.tmps) = true then Oper.wp P o a w K Q else K (a.put o.dst undef) w
def OwedAll8 (P : Program) (l : List Oper) (Q : Exit → Act → World → Prop) (sat : List Dr) (I : World → Prop) (S : World → World → Prop) (q : Option Nat) (z : Nat) (a0 : Act) (W : World) : Nat → List Oper → Prop
 | _, [] => True
 | i, o :: os => Zci P l Q sat I S q z a0 W i o ∧ OwedAll8 P l Q sat I S q z a0 W (i + 1) os
theorem OwedAll8.nil {P : Program} {l : List Oper} {Q : Exit → Act → World → Prop} {sat : List Dr} {I : World → Prop} {S : World → World → Prop} {q : Option Nat} {z : Nat} {a0 : Act} {W : World} {i : Nat} : OwedAll8 P l Q sat I S q z a0 W i [] := trivial
theorem OwedAll8.cons {P : Program} {l : List Oper} {Q : Exit → Act → World → Prop} {sat : List Dr} {I : World → Prop} {S : World → World → Prop} {q : Option Nat} {z : Nat} {a0 : Act} {W : World} {i : Nat} {o : Oper} {os : List Oper} (h : Zci P l Q sat I S q z a0 W i o) (t : OwedAll8 P l Q sat I S q z a0 W (i + 1) os) : OwedAll8 P l Q sat I S q z a0 W i (o :: os) := ⟨h, t⟩
theorem Px {P : Program} {l : List Oper} {Q : Exit → Act → World → Prop} {sat : List Dr} {I : World → Prop} {S : World → World → Prop} {q : Option Nat} {z : Nat} {a0 : Act} {W : World} : ∀ (os : List Oper) (k : Nat), OwedAll8 P l Q sat I S q z a0 W k os → ∀ i o, os[i]? = some o → Zci P l Q sat I S q z a0 W (k + i) o := by
 intro os
 induction os with
 | nil => intro k _ i o h; simp at h
 | cons x os ih =>
  intro k h i o ho; cases i with
  | zero => simp at ho; subst ho; exact h.1
  | succ i =>
   have := ih (k + 1) h.2 i o (by simpa using ho); rw [show k + (i + 1) = k + 1 + i by omega]; exact this
structure OnceJ8 (l : List Oper) (sat : List Dr) (I : World → Prop) (q : Option Nat) (z : Nat) (a0 : Act) (W : World) (listed : Array Bool) (a : Act) (w : World) : Prop where
 size : a.tmps.size = a0.tmps.size
 defers : a.defers = a0.defers
 out : ∀ s, (∀ j o, listed.getD j false = true → l[j]? = some o → o.dst ≠ some s) → a.tmps[s]?.getD undef = a0.tmps[s]?.getD undef
 closed : ∀ j o, listed.getD j false = true → l[j]? = some o → ∀ e ∈ o.after.toList, Region.binds .any e = true → listed.getD e.on false = true
 low : listed.getD z false = false → I w
 pre : listed.getD z false = false → (∀ j, q = some j → listed.getD j false = false) → Below W.heap.size W w
 facts : ∀ i, listed.getD i false = true → (i = z ∨ listed.getD z false = false) → Bu sat l a w i
 lsize : listed.size = l.length
theorem Yo {P : Program} {l : List Oper} {Q : Exit → Act → World → Prop} {sat : List Dr} {fin : List Bool} {I : World → Prop} {S : World → World → Prop} {q : Option Nat} {z : Nat} {a0 : Act} {W : World} (hk : Cm I S q (sat.set z fun _ _ => True)) (h12 : ∀ x y, I x → Below x.heap.size x y → S x y) (hIS : ∀ x y, I x → S x y → I y) (hd : Ih l a0.tmps.size = true) (he : Ei l = true) (hla : Ym l fin z = true)
  (hops : OwedAll8 P l Q sat I S q z a0 W 0 l)
  (hend : ∀ (a : Act) (w : World), a.tmps.size = a0.tmps.size → a.defers = a0.defers → (∀ s, (Av l).contains s = false → a.tmps[s]?.getD undef = a0.tmps[s]?.getD undef) → (∀ i, i < l.length → fin.getD i false = true → Bu sat l a w i) → Q .normal a w) :
  ∀ (fuel : Nat) (listed : Array Bool) (a : Act) (w : World), OnceJ8 l sat I q z a0 W listed a w → listed.toList.count false ≤ fuel → wpAny P .any l.toArray Q fuel listed a w := by
 intro fuel; have hfin : ∀ (listed : Array Bool) (a : Act) (w : World), OnceJ8 l sat I q z a0 W listed a w → Region.ready .any l.toArray listed = [] → Q .normal a w := by
  intro listed a w J hr; refine hend a w J.size J.defers (fun s hs => J.out s fun j o _ ho hd' => ?_) fun i hi hfi => J.facts i ?_ (.inl (Classical.byContradiction fun hne => by rw [((Pw hla).2 i hi hne).1] at hfi; cases hfi))
  ·have : (Av l).contains s = true := by
    rw [cA]; exact List.mem_filterMap.2 ⟨o, cB ho, hd'⟩
   rw [this] at hs; cases hs
  cases hb : listed.getD i false with
  | true => rfl
  | false => exact absurd hr (Hx he J.lsize hi hb)
 induction fuel with
 | zero =>
  intro listed a w J hc; have hr : Region.ready .any l.toArray listed = [] := by
   refine Classical.byContradiction fun hn => ?_; obtain ⟨i, hi⟩ := cC _ hn; have h1 := (mem_ready.1 hi).1; have hlt : i < listed.size := by
    rcases aB i listed.size with h | h
    ·exact h
    ·rw [cM, aD h] at h1; simp at h1
   rw [cM, cK hlt] at h1; have h2 : false ∈ listed.toList := by
    rw [← show listed[i] = false from h1]; simp
   have := List.count_pos_iff.2 h2; omega
  exact ⟨hr, hfin listed a w J hr⟩
 | succ fuel ih =>
  intro listed a w J hc; refine ⟨hfin listed a w J, ?_⟩; intro i hi; obtain ⟨o, ho, hdep⟩ := Jc hi; have h1 := (mem_ready.1 hi).1; have hol : l[i]? = some o := (by simpa using ho); have hil : i < l.length := by
   rcases aB i l.length with h | h
   ·exact h
   ·rw [aK h] at hol; cases hol
  have hlt : i < listed.size := (by rw [J.lsize]; exact hil); obtain ⟨d, hob, hdn⟩ := Hg hd hol; refine wpOp_step ho ?_; intro K' hK'; have hO := Px l 0 hops i o hol; rw [cR] at hO; have h1f : listed.getD i false = false := by
   rw [cM, cK hlt] at h1 ⊢; exact h1
  have hfree : ∀ s, Ck l i s = true → a.tmps[s]?.getD undef = a0.tmps[s]?.getD undef := by
   intro s hs; refine J.out s fun j o' hj hoj hds => ?_; have hjl : j < l.length := by
    rcases aB j l.length with h | h
    ·exact h
    ·rw [aK h] at hoj; cases hoj
   have := List.all_eq_true.1 hs j (List.mem_range.2 hjl); rw [hoj] at this; simp only [cF, bne_iff_ne, beq_iff_eq, bZ, cE] at this; rcases this with (h | h) | ⟨e, he, hb, hei⟩
   ·exact h hds
   ·subst h; rw [h1f] at hj; cases hj
   ·have := J.closed j o' hj hoj e he hb; rw [hei, h1f] at this; cases this
  have hz : listed.getD z false = false := by
   cases hl : listed.getD z false with
   | false => rfl
   | true =>
    have := Yn hla J.closed hl _ i lR hil; rw [h1f] at this; cases this
  have hzn : (listed.setIfInBounds i true).getD z false = false → i ≠ z := by
   intro h e; subst e; rw [cM, cO, if_pos rfl, if_pos hlt] at h; cases h
  refine hO a w (J.low hz) (fun hqi => J.pre hz fun j hj => by
   subst hj; unfold Fb at hqi; simp only [cF, beq_iff_eq] at hqi; rcases hqi with rfl | hqi
   ·exact h1f
   ·cases hoj : l[j]? with
    | none => rw [hoj] at hqi; cases hqi
    | some oj =>
     rw [hoj] at hqi; simp only [bZ, cE, beq_iff_eq] at hqi; obtain ⟨e, he, hb, hei⟩ := hqi; cases hl : listed.getD j false with
     | false => rfl
     | true =>
      have := J.closed j oj hl hoj e he hb; rw [hei, h1f] at this; cases this) hfree (Lf _ fun e hm hb => J.facts _ (hdep e hm hb) (.inr hz)) K' ?_
  intro v w' hv hbw; have hS : i ≠ z → S w w' := by
   intro hiz; have hbw := hbw hiz; unfold Gg at hbw; cases hq : some i == q with
   | true => rw [hq] at hbw; exact hbw
   | false => rw [hq] at hbw; exact h12 _ _ (J.low hz) hbw
  refine hK' _ _ (ih _ _ _ ?_ ?_)
  ·constructor
   ·rw [Ob]; exact J.size
   ·rw [Jf]; exact J.defers
   ·intro s hs; have hii : (listed.setIfInBounds i true).getD i false = true := by
     rw [cM, cO, if_pos rfl, if_pos hlt]; rfl
    rw [Mu a o.dst s v (hs i o hii hol)]; refine J.out s fun j o' hj hoj => hs j o' ?_ hoj
    by_cases hji : j = i
    ·subst hji; exact hii
    ·rw [cM, cO, if_neg (fun e => hji e.symm), ← cM]; exact hj
   ·intro j o' hj hoj e hem hb; have hstep : ∀ m, listed.getD m false = true → (listed.setIfInBounds i true).getD m false = true := by
     intro m hm
     by_cases hmi : m = i
     ·subst hmi; rw [cM, cO, if_pos rfl, if_pos hlt]; rfl
     ·rw [cM, cO, if_neg (fun e => hmi e.symm), ← cM]; exact hm
    by_cases hji : j = i
    ·subst hji; rw [hol] at hoj; cases hoj; exact hstep _ (hdep e hem hb)
    ·refine hstep _ (J.closed j o' ?_ hoj e hem hb); rw [cM, cO, if_neg (fun e => hji e.symm)] at hj; rw [cM]; exact hj
   ·intro h; exact hIS _ _ (J.low hz) (hS (hzn h))
   ·intro hz2 hpre; have hbw := hbw (hzn hz2); have hne : (some i == q) = false := by
     rw [beq_eq_false_iff_ne]; intro e; have := hpre i e.symm; rw [cM, cO, if_pos rfl, if_pos hlt] at this; cases this
    have hbw2 : Below w.heap.size w w' := (by unfold Gg at hbw; rw [hne] at hbw; exact hbw); have hpr : Below W.heap.size W w := J.pre hz fun j hj => by
     have := hpre j hj
     by_cases hji : j = i
     ·subst hji; exact h1f
     ·rw [cM, cO, if_neg (fun e => hji e.symm), ← cM] at this; exact this
    exact hpr.trans (hbw2.mono hpr.size)
   ·intro j hj hjz; unfold Bu; cases hoj : l[j]? with
    | none => trivial
    | some o' =>
     obtain ⟨d', hd', _⟩ := Hg hd hoj; simp only [hd']
     by_cases hji : j = i
     ·subst hji; rw [hol] at hoj; cases hoj; rw [hob] at hd'; cases hd'; rw [Sl a hob v (by rw [J.size]; exact hdn)]; exact hv
     ·rw [Mu a o.dst d' v (by
       intro hdd; rcases Yh hd hoj hol hd' hdd hji with h | ⟨e, he, hb, hei⟩
       ·exact h rfl
       ·have := J.closed j o' (by
         rw [cM, cO, if_neg (fun e => hji e.symm)] at hj; rw [cM]; exact hj) hoj e he hb
        rw [hei, h1f] at this; cases this)]
      have hjl : listed.getD j false = true := by
       rw [cM, cO, if_neg (fun e => hji e.symm)] at hj; rw [cM]; exact hj
      have hiz : i ≠ z := by
       rcases hjz with h | h
       ·intro e; exact hji (by rw [h, e])
       ·exact hzn h
      have hbw := hbw hiz; have hS := hS hiz; have := J.facts j hjl (.inr hz); unfold Bu at this; rw [hoj] at this; simp only [hd'] at this; have hjz2 : j ≠ z := by
       intro e; rw [e, hz] at hjl; cases hjl
      have hset : (sat.set z fun _ _ => True).getD j (fun _ _ => True) = sat.getD j (fun _ _ => True) := by
       rw [aH, List.getElem?_set_ne (fun e => hjz2 e.symm), ← aH]
      by_cases hjq : some j = q
      ·unfold Gg at hbw; rw [show (some i == q) = false from by rw [beq_eq_false_iff_ne, ← hjq]; intro e; exact hji (by simpa using e.symm)] at hbw; exact hset ▸ (Hh _ q hk).2 j _ _ _ hjq (hset ▸ this) (J.low hz) hbw
      ·exact hset ▸ (Hh _ q hk).1 j _ _ _ hjq (hset ▸ this) (J.low hz) hS
   ·rw [cN]; exact J.lsize
  ·rw [cP, cD (by simpa using hlt)]; have h2 : listed.toList[i]'(by simpa using hlt) = false := by
    rw [cM, cK hlt] at h1; simpa using h1
   rw [h2, if_pos (show (false == false) = true from rfl), if_neg (by decide)]; omega
theorem At {P : Program} {id : Nat} {l : List Oper} {Q : Exit → Act → World → Prop} {a : Act} {w : World} (sat : List Dr) (fin : List Bool) (I : World → Prop) (S : World → World → Prop) (q : Option Nat) (z : Nat) (hm : P.follows .mixedOrders = true) (hk : Cm I S q (sat.set z fun _ _ => True)) (h0 : I w.drew) (h12 : ∀ x y, I x → Below x.heap.size x y → S x y) (hIS : ∀ x y, I x → S x y → I y) (hd : Ih l a.tmps.size = true) (he : Ei l = true) (hla : Ym l fin z = true)
  (hops : OwedAll8 P l Q sat I S q z a w 0 l)
  (hend : ∀ (f : Nat → Value) (w' : World), Fl sat fin f w' 0 l → Q .normal (Ao l a f) w') :
  (Code.region id l.toArray true).wp P Q a w := by
 refine wp_region_any hm (Yo hk h12 hIS hd he hla hops ?_ _ _ _ _ ⟨rfl, rfl, fun _ _ => rfl, ?_, fun _ => h0, fun _ _ => ⟨rfl, rfl, rfl, lR, fun _ _ => rfl⟩, ?_, by simp⟩ ?_)
 ·intro a' w' h1 h2 h3 h5; rw [Jd h1 h2 h3]; refine hend _ w' (Gt l 0 ?_); intro i o d ho hdd hfi; have hil : i < l.length := by
   rcases aB i l.length with h | h
   ·exact h
   ·rw [aK h] at ho; cases ho
  have := h5 i hil (by simpa using hfi); unfold Bu at this; rw [ho] at this; simp only [hdd] at this; rw [cR]; exact this
 ·intro i _ hi; exfalso; rw [cM, cQ] at hi
  split at hi <;> simp at hi
 ·intro i hi _; exfalso; rw [cM, cQ] at hi
  split at hi <;> simp at hi
 ·simp
theorem Kk {P : Program} {l : List Oper} {Q : Exit → Act → World → Prop} {sat : List Dr} {I : World → Prop} {S : World → World → Prop} {q : Option Nat} {z : Nat} {a0 : Act} {W : World} {i : Nat} {o : Oper}
  (h : ∀ (a : Act) (w : World), I w → (Fb l q i = true → Below W.heap.size W w) → (∀ s, Ck l i s = true → a.tmps[s]?.getD undef = a0.tmps[s]?.getD undef) → Bk sat l a w o.after.toList →
   Region.wanted o (yielded l.toArray a.tmps) = true ∧ ∀ K : Act → World → Prop, (∀ v w', (sat.getD i (fun _ _ => True)) (Cl o a v) w' → (i ≠ z → Gg S q i w w') → K (a.put o.dst v) w') → Oper.wp P o a w K Q) : Zci P l Q sat I S q z a0 W i o := by
 intro a w hb hq ho hf K hK; rw [if_pos (h a w hb hq ho hf).1]; exact (h a w hb hq ho hf).2 K hK
section
abbrev eF (x : Value) : Dr := fun v _ => v = x
theorem eqn {v x : Value} (h : v = x) : v = x := h
def isB (b : Bool) : Value → Bool
 | .bool c => c == b
 | _ => false
theorem Zgg {b : Bool} {v : Value} (h : isB b v = false) : v ≠ .bool b := by
 intro e; rw [e] at h; simp [isB] at h
section
variable {P : Program} {l : List Oper} {Q : Exit → Act → World → Prop} {sat : List Dr} {I : World → Prop} {S : World → World → Prop} {q : Option Nat} {a0 : Act} {W : World} {i : Nat} {o : Oper} {os : List Oper}
def dn : Option Nat → Option Nat
 | some (q + 1) => some q
 | _ => none
theorem kX {s : Dr} (h : ∀ v x y, s v x → I x → S x y → s v y) (h2 : ∀ v x y, s v x → I x → Below x.heap.size x y → s v y) (t : Cm I S (dn q) sat) : Cm I S q (s :: sat) := by
 match q, t with
 | none, t => exact ⟨h, t⟩
 | some 0, t => exact ⟨h2, t⟩
 | some (q + 1), t => exact ⟨h, t⟩
theorem kE {x : Value} (t : Cm I S (dn q) sat) : Cm I S q (eF x :: sat) := kX (fun _ _ _ h _ _ => h) (fun _ _ _ h _ _ => h) t
theorem gO (h : ∀ (a : Act) (w : World), I w → (Fb l q i = true → Below W.heap.size W w) → (∀ s, Ck l i s = true → a.tmps[s]?.getD undef = a0.tmps[s]?.getD undef) → Bk sat l a w o.after.toList →
      Region.wanted o (yielded l.toArray a.tmps) = true ∧ ∀ K : Act → World → Prop, (∀ v w', (sat.getD i (fun _ _ => True)) (Cl o a v) w' → Gg S q i w w' → K (a.put o.dst v) w') → Oper.wp P o a w K Q)
  (t : OwedAll7 P l Q sat I S q a0 W (i + 1) os) : OwedAll7 P l Q sat I S q a0 W i (o :: os) := .cons (Zch h) t
theorem gP (h : ∀ (a : Act) (w : World), I w → (Fb l q i = true → Below W.heap.size W w) → (∀ s, Ck l i s = true → a.tmps[s]?.getD undef = a0.tmps[s]?.getD undef) → Bk sat l a w o.after.toList →
      Region.wanted o (yielded l.toArray a.tmps) = true ∧ ∀ K : Act → World → Prop, (∀ v, (sat.getD i (fun _ _ => True)) (Cl o a v) w → K (a.put o.dst v) w) → Hid (Oper.wp P o a w K Q))
  (hn : (some i == q) = false) (t : OwedAll7 P l Q sat I S q a0 W (i + 1) os) : OwedAll7 P l Q sat I S q a0 W i (o :: os) :=
 gO (fun a w h1 h2 h3 h4 => ⟨(h a w h1 h2 h3 h4).1, fun K hK => ((h a w h1 h2 h3 h4).2 K fun v hv => hK v w hv (Ag hn bR)).out⟩) t
theorem fO {j : Nat} {b : Bool} {oj : Oper} {s : Tmp} {v : Value} {d : Tmp} (hd : o.dst = some d) (hs : sat.getD i (fun _ _ => True) = fun v _ => v = undef) (hn : (some i == q) = false) (hg : o.guard = some (j, b)) (hj : l.toArray[j]? = some oj) (ht : oj.dst = some s)
  (hv : ∀ (a : Act) (w : World), Bk sat l a w o.after.toList → a.tmps[s]?.getD undef = v) (hne : isB b v = false)
  (t : OwedAll7 P l Q sat I S q a0 W (i + 1) os) : OwedAll7 P l Q sat I S q a0 W i (o :: os) :=
 .cons (Yl hd hs hn fun a w hf => Sm hg hj ht (hv a w hf) (Zgg hne)) t
theorem gOw (hw : Fb l q i = true) (h : ∀ (a : Act) (w : World), I w → Below W.heap.size W w → (∀ s, Ck l i s = true → a.tmps[s]?.getD undef = a0.tmps[s]?.getD undef) → Bk sat l a w o.after.toList →
      Region.wanted o (yielded l.toArray a.tmps) = true ∧ ∀ K : Act → World → Prop, (∀ v w', (sat.getD i (fun _ _ => True)) (Cl o a v) w' → Gg S q i w w' → K (a.put o.dst v) w') → Oper.wp P o a w K Q)
  (t : OwedAll7 P l Q sat I S q a0 W (i + 1) os) : OwedAll7 P l Q sat I S q a0 W i (o :: os) := gO (fun a w h1 h2 => h a w h1 (h2 hw)) t
theorem gPw (hw : Fb l q i = true) (h : ∀ (a : Act) (w : World), I w → Below W.heap.size W w → (∀ s, Ck l i s = true → a.tmps[s]?.getD undef = a0.tmps[s]?.getD undef) → Bk sat l a w o.after.toList →
      Region.wanted o (yielded l.toArray a.tmps) = true ∧ ∀ K : Act → World → Prop, (∀ v, (sat.getD i (fun _ _ => True)) (Cl o a v) w → K (a.put o.dst v) w) → Hid (Oper.wp P o a w K Q))
  (hn : (some i == q) = false) (t : OwedAll7 P l Q sat I S q a0 W (i + 1) os) : OwedAll7 P l Q sat I S q a0 W i (o :: os) := gP (fun a w h1 h2 => h a w h1 (h2 hw)) hn t
theorem Co {id : Nat} {a : Act} {w : World} (sat : List Dr) (hm : P.follows .mixedOrders = true) (hd : Ih l a.tmps.size = true) (he : Ei l = true) (hk : Cm (fun x => Below w.heap.size w x) (fun x y => Below x.heap.size x y) none sat)
  (hops : OwedAll7 P l Q sat (fun x => Below w.heap.size w x) (fun x y => Below x.heap.size x y) none a w 0 l)
  (hend : ∀ (f : Nat → Value) (w' : World), Below w.heap.size w w' → Fl sat (List.replicate l.length true) f w' 0 l → Q .normal (Ao l a f) w') :
  (Code.region id l.toArray true).wp P Q a w :=
 Cj sat _ _ _ none hm hk ⟨rfl, rfl, rfl, lR, fun _ _ => rfl⟩ (fun _ _ _ h => h) (fun _ _ hx hs => hx.trans (hs.mono hx.size)) hd he hops hend
theorem bX {s : Dr} (h : ∀ v x y, s v x → Below x.heap.size x y → s v y) (t : Cm I (fun x y => Below x.heap.size x y) none sat) : Cm I (fun x y => Below x.heap.size x y) none (s :: sat) := ⟨fun v x y hv _ hs => h v x y hv hs, t⟩
theorem gB (h : ∀ (a : Act) (w : World), Below W.heap.size W w → (∀ s, Ck l i s = true → a.tmps[s]?.getD undef = a0.tmps[s]?.getD undef) → Bk sat l a w o.after.toList →
      Region.wanted o (yielded l.toArray a.tmps) = true ∧ ∀ K : Act → World → Prop, (∀ v w', (sat.getD i (fun _ _ => True)) (Cl o a v) w' → Below w.heap.size w w' → K (a.put o.dst v) w') → Oper.wp P o a w K Q)
  (t : OwedAll7 P l Q sat (fun x => Below W.heap.size W x) S none a0 W (i + 1) os) : OwedAll7 P l Q sat (fun x => Below W.heap.size W x) S none a0 W i (o :: os) :=
 gO (fun a w h1 _ h3 h4 => ⟨(h a w h1 h3 h4).1, fun K hK => (h a w h1 h3 h4).2 K fun v w' hv hb => hK v w' hv (Ag rfl hb)⟩) t
theorem gQ (h : ∀ (a : Act) (w : World), Below W.heap.size W w → (∀ s, Ck l i s = true → a.tmps[s]?.getD undef = a0.tmps[s]?.getD undef) → Bk sat l a w o.after.toList →
      Region.wanted o (yielded l.toArray a.tmps) = true ∧ ∀ K : Act → World → Prop, (∀ v, (sat.getD i (fun _ _ => True)) (Cl o a v) w → K (a.put o.dst v) w) → Hid (Oper.wp P o a w K Q))
  (t : OwedAll7 P l Q sat (fun x => Below W.heap.size W x) S none a0 W (i + 1) os) : OwedAll7 P l Q sat (fun x => Below W.heap.size W x) S none a0 W i (o :: os) :=
 gP (fun a w h1 _ h3 h4 => h a w h1 h3 h4) rfl t
variable {z : Nat}
theorem gO8 (h : ∀ (a : Act) (w : World), I w → (Fb l q i = true → Below W.heap.size W w) → (∀ s, Ck l i s = true → a.tmps[s]?.getD undef = a0.tmps[s]?.getD undef) → Bk sat l a w o.after.toList →
      Region.wanted o (yielded l.toArray a.tmps) = true ∧ ∀ K : Act → World → Prop, (∀ v w', (sat.getD i (fun _ _ => True)) (Cl o a v) w' → (i ≠ z → Gg S q i w w') → K (a.put o.dst v) w') → Oper.wp P o a w K Q)
  (t : OwedAll8 P l Q sat I S q z a0 W (i + 1) os) : OwedAll8 P l Q sat I S q z a0 W i (o :: os) := .cons (Kk h) t
theorem gP8 (h : ∀ (a : Act) (w : World), I w → (Fb l q i = true → Below W.heap.size W w) → (∀ s, Ck l i s = true → a.tmps[s]?.getD undef = a0.tmps[s]?.getD undef) → Bk sat l a w o.after.toList →
      Region.wanted o (yielded l.toArray a.tmps) = true ∧ ∀ K : Act → World → Prop, (∀ v, (sat.getD i (fun _ _ => True)) (Cl o a v) w → K (a.put o.dst v) w) → Hid (Oper.wp P o a w K Q))
  (hn : (some i == q) = false) (t : OwedAll8 P l Q sat I S q z a0 W (i + 1) os) : OwedAll8 P l Q sat I S q z a0 W i (o :: os) :=
 gO8 (fun a w h1 h2 h3 h4 => ⟨(h a w h1 h2 h3 h4).1, fun K hK => ((h a w h1 h2 h3 h4).2 K fun v hv => hK v w hv fun _ => Ag hn bR).out⟩) t
theorem Ke (hw : Fb l q i = true) (h : ∀ (a : Act) (w : World), I w → Below W.heap.size W w → (∀ s, Ck l i s = true → a.tmps[s]?.getD undef = a0.tmps[s]?.getD undef) → Bk sat l a w o.after.toList →
      Region.wanted o (yielded l.toArray a.tmps) = true ∧ ∀ K : Act → World → Prop, (∀ v w', (sat.getD i (fun _ _ => True)) (Cl o a v) w' → (i ≠ z → Gg S q i w w') → K (a.put o.dst v) w') → Oper.wp P o a w K Q)
  (t : OwedAll8 P l Q sat I S q z a0 W (i + 1) os) : OwedAll8 P l Q sat I S q z a0 W i (o :: os) := gO8 (fun a w h1 h2 => h a w h1 (h2 hw)) t
theorem Kl (hw : Fb l q i = true) (h : ∀ (a : Act) (w : World), I w → Below W.heap.size W w → (∀ s, Ck l i s = true → a.tmps[s]?.getD undef = a0.tmps[s]?.getD undef) → Bk sat l a w o.after.toList →
      Region.wanted o (yielded l.toArray a.tmps) = true ∧ ∀ K : Act → World → Prop, (∀ v, (sat.getD i (fun _ _ => True)) (Cl o a v) w → K (a.put o.dst v) w) → Hid (Oper.wp P o a w K Q))
  (hn : (some i == q) = false) (t : OwedAll8 P l Q sat I S q z a0 W (i + 1) os) : OwedAll8 P l Q sat I S q z a0 W i (o :: os) := gP8 (fun a w h1 h2 => h a w h1 (h2 hw)) hn t
end
end
end Go.Proofs.YtngealmhgkoaiaaGreat
