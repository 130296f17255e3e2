/- A region that draws its order, whose operations make memory and change none: each operation is shown once, whatever ran ahead of it. -/
import Derived.Test.YtngealmhgkoaiaaGreatZHashStands00
import Derived.RegionTactic
namespace Go.Proofs.YtngealmhgkoaiaaGreat
open Go.RowKit
set_option linter.unusedVariables false
abbrev Fact := Value → World → Prop
/-- what is known of the value that the operation i has left -/
def factAt (sat : List Fact) (l : List Oper) (a : Act) (w : World) (i : Nat) : Prop :=
 match l[i]? with
 | some o => match o.dst with
  | some d => (sat.getD i (fun _ _ => True)) (a.tmps[d]?.getD undef) w
  | none => True
 | none => True
def factsOf (sat : List Fact) (l : List Oper) (a : Act) (w : World) : List Edge → Prop
 | [] => True
 | e :: es => (if Region.binds .any e = true then factAt sat l a w e.on else True) ∧ factsOf sat l a w es
theorem factsOf_mk {sat : List Fact} {l : List Oper} {a : Act} {w : World} : ∀ es : List Edge, (∀ e ∈ es, Region.binds .any e = true → factAt sat l a w e.on) → factsOf sat l a w es := by
 intro es
 induction es with
 | nil => intro _; trivial
 | cons e es ih =>
  intro h
  refine ⟨?_, ih fun x hx => h x (by simp [hx])⟩
  split
  ·rename_i hb; exact h e (by simp) hb
  ·trivial
/-- which slots the region writes -/
def dstsOf (l : List Oper) : List Tmp := l.filterMap (·.dst)
/-- may the operation i read the slot s as it stood ahead of the region? -/
def freeAt (l : List Oper) (i : Nat) (s : Tmp) : Bool :=
 (List.range l.length).all fun j => match l[j]? with
  | some o => o.dst != some s || j == i || o.after.toList.any fun e => Region.binds .any e && e.on == i
  | none => true
/-- what is owed for one operation -/
def Owed (P : Program) (l : List Oper) (Q : Exit → Act → World → Prop) (sat : List Fact) (a0 : Act) (W : World) (i : Nat) (o : Oper) : Prop :=
 ∀ (a : Act) (w : World), Below W.heap.size W w → (∀ s, freeAt l i s = true → a.tmps[s]?.getD undef = a0.tmps[s]?.getD undef) → factsOf sat l a w o.after.toList →
  ∀ K : Act → World → Prop, (∀ v w', (sat.getD i (fun _ _ => True)) v w' → Below w.heap.size w w' → K (a.put o.dst v) w') →
   if Region.wanted o (yielded l.toArray a.tmps) = true then Oper.wp P o a w K Q else K (a.put o.dst undef) w
def OwedAll (P : Program) (l : List Oper) (Q : Exit → Act → World → Prop) (sat : List Fact) (a0 : Act) (W : World) : Nat → List Oper → Prop
 | _, [] => True
 | i, o :: os => Owed P l Q sat a0 W i o ∧ OwedAll P l Q sat a0 W (i + 1) os
theorem OwedAll.nil {P : Program} {l : List Oper} {Q : Exit → Act → World → Prop} {sat : List Fact} {a0 : Act} {W : World} {i : Nat} : OwedAll P l Q sat a0 W i [] := trivial
theorem OwedAll.cons {P : Program} {l : List Oper} {Q : Exit → Act → World → Prop} {sat : List Fact} {a0 : Act} {W : World} {i : Nat} {o : Oper} {os : List Oper} (h : Owed P l Q sat a0 W i o) (t : OwedAll P l Q sat a0 W (i + 1) os) : OwedAll P l Q sat a0 W i (o :: os) := ⟨h, t⟩
theorem owedAll_get {P : Program} {l : List Oper} {Q : Exit → Act → World → Prop} {sat : List Fact} {a0 : Act} {W : World} : ∀ (os : List Oper) (k : Nat), OwedAll P l Q sat a0 W k os → ∀ i o, os[i]? = some o → Owed P l Q sat a0 W (k + i) o := by
 intro os
 induction os with
 | nil => intro k _ i o h; simp at h
 | cons x os ih =>
  intro k h i o ho
  cases i with
  | zero => simp at ho; subst ho; exact h.1
  | succ i =>
   have := ih (k + 1) h.2 i o (by simpa using ho)
   rw [show k + (i + 1) = k + 1 + i by omega]; exact this
/-- the facts keep, whatever is laid behind -/
def Keeps (sat : List Fact) : Prop := ∀ (i : Nat) v w w', (sat.getD i (fun _ _ => True)) v w → Below w.heap.size w w' → (sat.getD i (fun _ _ => True)) v w'
theorem keeps_nil : Keeps [] := fun i v w w' h _ => by simp
theorem keeps_cons {s : Fact} {sat : List Fact} (h : ∀ v w w', s v w → Below w.heap.size w w' → s v w') (hs : Keeps sat) : Keeps (s :: sat) := by
 intro i v w w' hv hb
 cases i with
 | zero => exact h v w w' hv hb
 | succ i => exact hs i v w w' hv hb
structure OnceJ (l : List Oper) (sat : List Fact) (a0 : Act) (W : World) (listed : Array Bool) (a : Act) (w : World) : Prop where
 size : a.tmps.size = a0.tmps.size
 defers : a.defers = a0.defers
 out : ∀ s, (∀ j o, listed.getD j false = true → l[j]? = some o → o.dst ≠ some s) → a.tmps[s]?.getD undef = a0.tmps[s]?.getD undef
 closed : ∀ j o, listed.getD j false = true → l[j]? = some o → ∀ e ∈ o.after.toList, Region.binds .any e = true → listed.getD e.on false = true
 low : Below W.heap.size W w
 facts : ∀ i, listed.getD i false = true → factAt sat l a w i
 lsize : listed.size = l.length
theorem eval_put_ne (a : Act) (d s : Tmp) (v : Value) (h : d ≠ s) : (a.put (some d) v).tmps[s]?.getD undef = a.tmps[s]?.getD undef := by
 show (a.tmps.setIfInBounds d v)[s]?.getD undef = _
 simp [h]
theorem eval_put_eq (a : Act) (d : Tmp) (v : Value) (h : d < a.tmps.size) : (a.put (some d) v).tmps[d]?.getD undef = v := by
 show (a.tmps.setIfInBounds d v)[d]?.getD undef = v
 simp [h]
def dstOk (l : List Oper) (n : Nat) : Bool := l.all (fun o => match o.dst with | some d => decide (d < n) | none => false) && (dstsOf l).Nodup
theorem dst_ne {l : List Oper} {n : Nat} (h : dstOk l n = true) {i j : Nat} {o o' : Oper} {d d' : Tmp} (hi : l[i]? = some o) (hj : l[j]? = some o') (ho : o.dst = some d) (ho' : o'.dst = some d') (hne : i ≠ j) : d ≠ d' := by
 rw [dstOk, Bool.and_eq_true, decide_eq_true_iff] at h
 obtain ⟨hall, hnd⟩ := h
 have key : ∀ (l : List Oper), (l.all (fun o => match o.dst with | some d => decide (d < n) | none => false) = true) → dstsOf l = l.map (fun o => o.dst.getD 0) := by
  intro l
  induction l with
  | nil => intro _; rfl
  | cons x l ih =>
   intro h
   rw [List.all_cons, Bool.and_eq_true] at h
   have := ih h.2
   cases hx : x.dst with
   | none => rw [hx] at h; simp at h
   | some d => simp [dstsOf, hx] at this ⊢; exact this
 rw [key l hall] at hnd
 intro e
 have h1 : (l.map (fun o => o.dst.getD 0))[i]? = some d := by simp [hi, ho]
 have h2 : (l.map (fun o => o.dst.getD 0))[j]? = some d := by simp [hj, ho', e]
 have hil : i < (l.map (fun o => o.dst.getD 0)).length := by
  rcases Nat.lt_or_ge i (l.map (fun o => o.dst.getD 0)).length with h | h
  ·exact h
  ·rw [List.getElem?_eq_none h] at h1; cases h1
 have hjl : j < (l.map (fun o => o.dst.getD 0)).length := by
  rcases Nat.lt_or_ge j (l.map (fun o => o.dst.getD 0)).length with h | h
  ·exact h
  ·rw [List.getElem?_eq_none h] at h2; cases h2
 have := (List.getElem_inj hnd (i := i) (j := j) (h₀ := hil) (h₁ := hjl)).1 (by
  rw [List.getElem?_eq_getElem hil] at h1; rw [List.getElem?_eq_getElem hjl] at h2
  simp only [Option.some.injEq] at h1 h2
  rw [h1, h2])
 exact hne this
theorem dst_some {l : List Oper} {n : Nat} (h : dstOk l n = true) {i : Nat} {o : Oper} (hi : l[i]? = some o) : ∃ d, o.dst = some d ∧ d < n := by
 rw [dstOk, Bool.and_eq_true] at h
 have := List.all_eq_true.1 h.1 o (List.mem_of_getElem? hi)
 cases hd : o.dst with
 | none => rw [hd] at this; simp at this
 | some d => rw [hd] at this; exact ⟨d, rfl, by simpa using this⟩
theorem ready_spec {ops : Array Oper} {listed : Array Bool} {i : Nat} (h : i ∈ Region.ready .any ops listed) : ∃ o, ops[i]? = some o ∧ ∀ e ∈ o.after.toList, Region.binds .any e = true → listed.getD e.on false = true := by
 rw [Region.ready, List.mem_filter] at h
 obtain ⟨_, h⟩ := h
 rw [Bool.and_eq_true] at h
 cases ho : ops[i]? with
 | none => rw [ho] at h; simp at h
 | some o =>
  refine ⟨o, rfl, ?_⟩
  intro e he hb
  have h2 := h.2
  rw [ho] at h2
  simp only [Option.map_some, Option.getD_some] at h2
  rw [Array.all_eq_true_iff_forall_mem] at h2
  have := h2 e (by simpa using he)
  rw [hb] at this
  simpa using this
def edgesOk (l : List Oper) : Bool := (List.range l.length).all fun i => match l[i]? with | some o => o.after.toList.all fun e => decide (e.on < i) | none => true
theorem edges_lt {l : List Oper} (h : edgesOk l = true) {i : Nat} {o : Oper} (hi : l[i]? = some o) : ∀ e ∈ o.after.toList, e.on < i := by
 have hil : i < l.length := by
  rcases Nat.lt_or_ge i l.length with h | h
  ·exact h
  ·rw [List.getElem?_eq_none h] at hi; cases hi
 have := List.all_eq_true.1 h i (List.mem_range.2 hil)
 rw [hi] at this
 intro e he
 simpa using List.all_eq_true.1 this e he
theorem ready_some {l : List Oper} (h : edgesOk l = true) {listed : Array Bool} (hs : listed.size = l.length) {i : Nat} (hi : i < l.length) (hf : listed.getD i false = false) : Region.ready .any l.toArray listed ≠ [] := by
 have : ∃ j, j < l.length ∧ listed.getD j false = false ∧ ∀ k, k < j → listed.getD k false = true := by
  induction i using Nat.strongRecOn with
  | ind i ih =>
   by_cases hall : ∀ k, k < i → listed.getD k false = true
   ·exact ⟨i, hi, hf, hall⟩
   ·have : ∃ k, k < i ∧ listed.getD k false = false := by
     refine Classical.byContradiction fun hn => hall fun k hk => ?_
     cases hb : listed.getD k false with
     | true => rfl
     | false => exact absurd ⟨k, hk, hb⟩ hn
    obtain ⟨k, hk, hb⟩ := this
    exact ih k hk (by omega) hb
 obtain ⟨j, hj, hjf, hjl⟩ := this
 obtain ⟨o, ho⟩ : ∃ o, l[j]? = some o := ⟨l[j], List.getElem?_eq_getElem hj⟩
 have hm : j ∈ Region.ready .any l.toArray listed := by
  rw [Region.ready, List.mem_filter]
  refine ⟨by simpa using hj, ?_⟩
  rw [Bool.and_eq_true]
  constructor
  ·have : listed.getD j true = false := by
    rw [Array.getD_eq_getD_getElem?] at hjf ⊢
    rw [Array.getElem?_eq_getElem (by omega)] at hjf ⊢
    exact hjf
   rw [this]; rfl
  ·have ho' : l.toArray[j]? = some o := by simpa using ho
   rw [ho', Option.map_some, Option.getD_some, Array.all_eq_true_iff_forall_mem]
   intro e he
   rw [Bool.or_eq_true]
   right
   exact hjl _ (edges_lt h ho e (by simpa using he))
 intro e
 rw [e] at hm
 cases hm
theorem once_any {P : Program} {l : List Oper} {Q : Exit → Act → World → Prop} {sat : List Fact} {a0 : Act} {W : World} (hk : Keeps sat) (hd : dstOk l a0.tmps.size = true) (he : edgesOk l = true)
  (hops : OwedAll P l Q sat a0 W 0 l)
  (hend : ∀ (a : Act) (w : World), a.tmps.size = a0.tmps.size → a.defers = a0.defers → (∀ s, (dstsOf l).contains s = false → a.tmps[s]?.getD undef = a0.tmps[s]?.getD undef) → Below W.heap.size W w → (∀ i, i < l.length → factAt sat l a w i) → Q .normal a w) :
  ∀ (fuel : Nat) (listed : Array Bool) (a : Act) (w : World), OnceJ l sat a0 W listed a w → listed.toList.count false ≤ fuel → wpAny P .any l.toArray Q fuel listed a w := by
 intro fuel
 have fin : ∀ (listed : Array Bool) (a : Act) (w : World), OnceJ l sat a0 W listed a w → Region.ready .any l.toArray listed = [] → Q .normal a w := by
  intro listed a w J hr
  refine hend a w J.size J.defers (fun s hs => J.out s fun j o _ ho hd' => ?_) J.low fun i hi => J.facts i ?_
  ·have : (dstsOf l).contains s = true := by
    rw [List.contains_iff_mem]
    exact List.mem_filterMap.2 ⟨o, List.mem_of_getElem? ho, hd'⟩
   rw [this] at hs; cases hs
  cases hb : listed.getD i false with
  | true => rfl
  | false => exact absurd hr (ready_some he J.lsize hi hb)
 induction fuel with
 | zero =>
  intro listed a w J hc
  have hr : Region.ready .any l.toArray listed = [] := by
   refine Classical.byContradiction fun hn => ?_
   obtain ⟨i, hi⟩ := List.exists_mem_of_ne_nil _ hn
   have h1 := (mem_ready.1 hi).1
   have hlt : i < listed.size := by
    rcases Nat.lt_or_ge i listed.size with h | h
    ·exact h
    ·rw [Array.getD_eq_getD_getElem?, Array.getElem?_eq_none h] at h1; simp at h1
   rw [Array.getD_eq_getD_getElem?, Array.getElem?_eq_getElem hlt] at h1
   have h2 : false ∈ listed.toList := by
    rw [← show listed[i] = false from h1]
    simp
   have := List.count_pos_iff.2 h2
   omega
  exact ⟨hr, fin listed a w J hr⟩
 | succ fuel ih =>
  intro listed a w J hc
  refine ⟨fin listed a w J, ?_⟩
  intro i hi
  obtain ⟨o, ho, hdep⟩ := ready_spec hi
  have h1 := (mem_ready.1 hi).1
  have hol : l[i]? = some o := by simpa using ho
  have hil : i < l.length := by
   rcases Nat.lt_or_ge i l.length with h | h
   ·exact h
   ·rw [List.getElem?_eq_none h] at hol; cases hol
  have hlt : i < listed.size := by rw [J.lsize]; exact hil
  obtain ⟨d, hdd, hdn⟩ := dst_some hd hol
  refine wpOp_step ho ?_
  intro K' hK'
  have hO := owedAll_get l 0 hops i o hol
  rw [Nat.zero_add] at hO
  have h1f : listed.getD i false = false := by
   rw [Array.getD_eq_getD_getElem?, Array.getElem?_eq_getElem hlt] at h1 ⊢
   exact h1
  have hfree : ∀ s, freeAt l i s = true → a.tmps[s]?.getD undef = a0.tmps[s]?.getD undef := by
   intro s hs
   refine J.out s fun j o' hj hoj hds => ?_
   have hjl : j < l.length := by
    rcases Nat.lt_or_ge j l.length with h | h
    ·exact h
    ·rw [List.getElem?_eq_none h] at hoj; cases hoj
   have := List.all_eq_true.1 hs j (List.mem_range.2 hjl)
   rw [hoj] at this
   simp only [Bool.or_eq_true, bne_iff_ne, beq_iff_eq, List.any_eq_true, Bool.and_eq_true] at this
   rcases this with (h | h) | ⟨e, he, hb, hei⟩
   ·exact h hds
   ·subst h; rw [h1f] at hj; cases hj
   ·have := J.closed j o' hj hoj e he hb
    rw [hei, h1f] at this; cases this
  refine hO a w J.low hfree (factsOf_mk _ fun e hm hb => J.facts _ (hdep e hm hb)) K' ?_
  intro v w' hv hbw
  refine hK' _ _ (ih _ _ _ ?_ ?_)
  ·rw [hdd]
   constructor
   ·show (a.tmps.setIfInBounds d v).size = _
    rw [Array.size_setIfInBounds]; exact J.size
   ·exact J.defers
   ·intro s hs
    have hii : (listed.setIfInBounds i true).getD i false = true := by
     rw [Array.getD_eq_getD_getElem?, Array.getElem?_setIfInBounds, if_pos rfl, if_pos hlt]; rfl
    rw [eval_put_ne a d s v (fun e => hs i o hii hol (by rw [hdd, e]))]
    refine J.out s fun j o' hj hoj => hs j o' ?_ hoj
    by_cases hji : j = i
    ·subst hji; exact hii
    ·rw [Array.getD_eq_getD_getElem?, Array.getElem?_setIfInBounds, if_neg (fun e => hji e.symm), ← Array.getD_eq_getD_getElem?]; exact hj
   ·intro j o' hj hoj e hem hb
    have hstep : ∀ m, listed.getD m false = true → (listed.setIfInBounds i true).getD m false = true := by
     intro m hm
     by_cases hmi : m = i
     ·subst hmi; rw [Array.getD_eq_getD_getElem?, Array.getElem?_setIfInBounds, if_pos rfl, if_pos hlt]; rfl
     ·rw [Array.getD_eq_getD_getElem?, Array.getElem?_setIfInBounds, if_neg (fun e => hmi e.symm), ← Array.getD_eq_getD_getElem?]; exact hm
    by_cases hji : j = i
    ·subst hji
     rw [hol] at hoj
     cases hoj
     exact hstep _ (hdep e hem hb)
    ·refine hstep _ (J.closed j o' ?_ hoj e hem hb)
     rw [Array.getD_eq_getD_getElem?, Array.getElem?_setIfInBounds, if_neg (fun e => hji e.symm)] at hj
     rw [Array.getD_eq_getD_getElem?]; exact hj
   ·exact J.low.trans (hbw.mono J.low.size)
   ·intro j hj
    unfold factAt
    cases hoj : l[j]? with
    | none => trivial
    | some o' =>
     obtain ⟨d', hd', _⟩ := dst_some hd hoj
     simp only [hd']
     by_cases hji : j = i
     ·subst hji
      rw [hol] at hoj
      cases hoj
      rw [hdd] at hd'
      cases hd'
      rw [eval_put_eq a d v (by rw [J.size]; exact hdn)]
      exact hv
     ·rw [eval_put_ne a d d' v (dst_ne hd hol hoj hdd hd' (fun e => hji e.symm))]
      have hjl : listed.getD j false = true := by
       rw [Array.getD_eq_getD_getElem?, Array.getElem?_setIfInBounds, if_neg (fun e => hji e.symm)] at hj
       rw [Array.getD_eq_getD_getElem?]; exact hj
      have := J.facts j hjl
      unfold factAt at this
      rw [hoj] at this
      simp only [hd'] at this
      exact hk j _ _ _ this hbw
   ·rw [Array.size_setIfInBounds]; exact J.lsize
  ·rw [Array.toList_setIfInBounds, List.count_set (by simpa using hlt)]
   have h2 : listed.toList[i]'(by simpa using hlt) = false := by
    rw [Array.getD_eq_getD_getElem?, Array.getElem?_eq_getElem hlt] at h1
    simpa using h1
   rw [h2, if_pos (show (false == false) = true from rfl), if_neg (by decide)]
   omega
/-- the frame behind the region: what its operations have left, and what stood there -/
def zipF (ds : List Tmp) (f : Nat → Value) : Nat → List Value → List Value
 | _, [] => []
 | s, x :: xs => (bif ds.contains s then f s else x) :: zipF ds f (s + 1) xs
def frameOf (l : List Oper) (a : Act) (f : Nat → Value) : Act := { tmps := (zipF (dstsOf l) f 0 a.tmps.toList).toArray, defers := a.defers }
theorem zipF_get (ds : List Tmp) (f : Nat → Value) : ∀ (xs : List Value) (k i : Nat), (zipF ds f k xs)[i]? = (xs[i]?).map fun x => bif ds.contains (k + i) then f (k + i) else x := by
 intro xs
 induction xs with
 | nil => intro k i; simp [zipF]
 | cons x xs ih =>
  intro k i
  cases i with
  | zero => simp [zipF]
  | succ i =>
   rw [zipF, List.getElem?_cons_succ, List.getElem?_cons_succ, ih, show k + 1 + i = k + (i + 1) by omega]
theorem once_frame {l : List Oper} {a a' : Act} (hs : a'.tmps.size = a.tmps.size) (hd : a'.defers = a.defers) (ho : ∀ s, (dstsOf l).contains s = false → a'.tmps[s]?.getD undef = a.tmps[s]?.getD undef) :
  a' = frameOf l a (fun s => a'.tmps[s]?.getD undef) := by
 obtain ⟨t', d'⟩ := a'
 obtain ⟨t, d⟩ := a
 simp only at hs hd ho
 subst hd
 unfold frameOf
 congr 1
 apply Array.ext_getElem?
 intro i
 have key : ∀ xs : List Value, ((zipF (dstsOf l) (fun s => t'[s]?.getD undef) 0 xs).toArray)[i]? = (xs[i]?).map fun x => bif (dstsOf l).contains i then t'[i]?.getD undef else x := by
  intro xs
  rw [List.getElem?_toArray, zipF_get, Nat.zero_add]
 show t'[i]? = ((zipF (dstsOf l) (fun s => t'[s]?.getD undef) 0 t.toList).toArray)[i]?
 rw [key]
 rcases Nat.lt_or_ge i t.size with h | h
 ·rw [Array.getElem?_eq_getElem (by omega), Array.getElem?_toList, Array.getElem?_eq_getElem h, Option.map_some]
  congr 1
  cases hc : (dstsOf l).contains i with
  | true => simp
  | false =>
   have := ho i hc
   rw [Array.getElem?_eq_getElem (by omega), Array.getElem?_eq_getElem h] at this
   exact this
 ·rw [Array.getElem?_eq_none (by omega), Array.getElem?_toList, Array.getElem?_eq_none h, Option.map_none]
def factsAll (sat : List Fact) (f : Nat → Value) (w : World) : Nat → List Oper → Prop
 | _, [] => True
 | i, o :: os => (match o.dst with | some d => (sat.getD i (fun _ _ => True)) (f d) w | none => True) ∧ factsAll sat f w (i + 1) os
theorem factsAll_mk {sat : List Fact} {f : Nat → Value} {w : World} : ∀ (os : List Oper) (k : Nat), (∀ i o d, os[i]? = some o → o.dst = some d → (sat.getD (k + i) (fun _ _ => True)) (f d) w) → factsAll sat f w k os := by
 intro os
 induction os with
 | nil => intro k _; trivial
 | cons o os ih =>
  intro k h
  refine ⟨?_, ih (k + 1) fun i o' d ho hd => ?_⟩
  ·cases hd : o.dst with
   | none => trivial
   | some d => exact h 0 o d rfl hd
  ·have := h (i + 1) o' d (by simpa using ho) hd
   rw [show k + 1 + i = k + (i + 1) by omega]; exact this
theorem wp_region_once {P : Program} {id : Nat} {l : List Oper} {Q : Exit → Act → World → Prop} {a : Act} {w : World} (sat : List Fact) (hm : P.follows .mixedOrders = true) (hk : Keeps sat) (hd : dstOk l a.tmps.size = true) (he : edgesOk l = true)
  (hops : OwedAll P l Q sat a w 0 l)
  (hend : ∀ (f : Nat → Value) (w' : World), Below w.heap.size w w' → factsAll sat f w' 0 l → Q .normal (frameOf l a f) w') :
  (Code.region id l.toArray true).wp P Q a w := by
 refine wp_region_any hm (once_any hk hd he hops ?_ _ _ _ _ ⟨rfl, rfl, fun _ _ => rfl, ?_, ⟨rfl, rfl, rfl, Nat.le_refl _, fun _ _ => rfl⟩, ?_, by simp⟩ ?_)
 ·intro a' w' h1 h2 h3 h4 h5
  rw [once_frame h1 h2 h3]
  refine hend _ w' h4 (factsAll_mk l 0 ?_)
  intro i o d ho hdd
  have hil : i < l.length := by
   rcases Nat.lt_or_ge i l.length with h | h
   ·exact h
   ·rw [List.getElem?_eq_none h] at ho; cases ho
  have := h5 i hil
  unfold factAt at this
  rw [ho] at this
  simp only [hdd] at this
  rw [Nat.zero_add]
  exact this
 ·intro i _ hi
  exfalso
  rw [Array.getD_eq_getD_getElem?, Array.getElem?_replicate] at hi
  split at hi <;> simp at hi
 ·intro i hi
  exfalso
  rw [Array.getD_eq_getD_getElem?, Array.getElem?_replicate] at hi
  split at hi <;> simp at hi
 ·simp
theorem owed_go {P : Program} {l : List Oper} {Q : Exit → Act → World → Prop} {sat : List Fact} {a0 : Act} {W : World} {i : Nat} {o : Oper} (hg : o.guard = none)
  (h : ∀ (a : Act) (w : World), Below W.heap.size W w → (∀ s, freeAt l i s = true → a.tmps[s]?.getD undef = a0.tmps[s]?.getD undef) → factsOf sat l a w o.after.toList →
   ∀ K : Act → World → Prop, (∀ v w', (sat.getD i (fun _ _ => True)) v w' → Below w.heap.size w w' → K (a.put o.dst v) w') → Oper.wp P o a w K Q) : Owed P l Q sat a0 W i o := by
 intro a w hb ho hf K hK
 rw [if_pos (by simp [Region.wanted, hg])]
 exact h a w hb ho hf K hK
end Go.Proofs.YtngealmhgkoaiaaGreat
/- A region that draws its order, of which some operations write to memory that is newer than the region: each operation is shown once; a fact is kept only while an operation still waits for it. -/
namespace Go.Proofs.YtngealmhgkoaiaaGreat
open Go.RowKit
set_option linter.unusedVariables false
/-- is the fact on i still waited for? -/
def aliveAt (l : List Oper) (fin : List Bool) (listed : Array Bool) (i : Nat) : Prop :=
 fin.getD i false = true ∨ ∃ c o, l[c]? = some o ∧ listed.getD c false = false ∧ ∃ e ∈ o.after.toList, Region.binds .any e = true ∧ e.on = i
/-- what is owed for one operation; st: it changes no old memory at all -/
def Owed2 (P : Program) (l : List Oper) (Q : Exit → Act → World → Prop) (sat : List Fact) (st : List Bool) (a0 : Act) (W : World) (i : Nat) (o : Oper) : Prop :=
 ∀ (a : Act) (w : World), Below W.heap.size W w → (∀ s, freeAt l i s = true → a.tmps[s]?.getD undef = a0.tmps[s]?.getD undef) → factsOf sat l a w o.after.toList →
  ∀ K : Act → World → Prop, (∀ v w', (sat.getD i (fun _ _ => True)) v w' → Below (bif st.getD i true then w.heap.size else W.heap.size) w w' → K (a.put o.dst v) w') →
   if Region.wanted o (yielded l.toArray a.tmps) = true then Oper.wp P o a w K Q else K (a.put o.dst undef) w
def OwedAll2 (P : Program) (l : List Oper) (Q : Exit → Act → World → Prop) (sat : List Fact) (st : List Bool) (a0 : Act) (W : World) : Nat → List Oper → Prop
 | _, [] => True
 | i, o :: os => Owed2 P l Q sat st a0 W i o ∧ OwedAll2 P l Q sat st a0 W (i + 1) os
theorem OwedAll2.nil {P : Program} {l : List Oper} {Q : Exit → Act → World → Prop} {sat : List Fact} {st : List Bool} {a0 : Act} {W : World} {i : Nat} : OwedAll2 P l Q sat st a0 W i [] := trivial
theorem OwedAll2.cons {P : Program} {l : List Oper} {Q : Exit → Act → World → Prop} {sat : List Fact} {st : List Bool} {a0 : Act} {W : World} {i : Nat} {o : Oper} {os : List Oper} (h : Owed2 P l Q sat st a0 W i o) (t : OwedAll2 P l Q sat st a0 W (i + 1) os) : OwedAll2 P l Q sat st a0 W i (o :: os) := ⟨h, t⟩
theorem owedAll2_get {P : Program} {l : List Oper} {Q : Exit → Act → World → Prop} {sat : List Fact} {st : List Bool} {a0 : Act} {W : World} : ∀ (os : List Oper) (k : Nat), OwedAll2 P l Q sat st a0 W k os → ∀ i o, os[i]? = some o → Owed2 P l Q sat st a0 W (k + i) o := by
 intro os
 induction os with
 | nil => intro k _ i o h; simp at h
 | cons x os ih =>
  intro k h i o ho
  cases i with
  | zero => simp at ho; subst ho; exact h.1
  | succ i =>
   have := ih (k + 1) h.2 i o (by simpa using ho)
   rw [show k + (i + 1) = k + 1 + i by omega]; exact this
/-- facts of the value alone -/
def Pures (sat : List Fact) (pu : List Bool) : Prop := ∀ (i : Nat), pu.getD i false = true → ∀ v w w', (sat.getD i (fun _ _ => True)) v w → (sat.getD i (fun _ _ => True)) v w'
theorem pures_nil : Pures [] [] := fun i h => by simp at h
theorem pures_t {s : Fact} {sat : List Fact} {pu : List Bool} (h : ∀ v w w', s v w → s v w') (hs : Pures sat pu) : Pures (s :: sat) (true :: pu) := by
 intro i hi v w w' hv
 cases i with
 | zero => exact h v w w' hv
 | succ i => exact hs i hi v w w' hv
/-- an operation that writes spoils no fact that is still waited for -/
def deadB (l : List Oper) (j i : Nat) : Bool :=
 (List.range l.length).all fun c => c == j || match l[c]? with
  | some o => !(o.after.toList.any fun e => Region.binds .any e && e.on == i) || (match l[j]? with | some oj => oj.after.toList.any fun e => Region.binds .any e && e.on == c | none => false)
  | none => true
def lateOk2 (l : List Oper) (fin st pu : List Bool) : Bool :=
 (List.range l.length).all fun j => st.getD j true || (List.range l.length).all fun i => i == j || pu.getD i false || (!fin.getD i false && deadB l j i)
structure OnceJ2 (l : List Oper) (sat : List Fact) (fin : List Bool) (a0 : Act) (W : World) (listed : Array Bool) (a : Act) (w : World) : Prop where
 size : a.tmps.size = a0.tmps.size
 defers : a.defers = a0.defers
 out : ∀ s, (∀ j o, listed.getD j false = true → l[j]? = some o → o.dst ≠ some s) → a.tmps[s]?.getD undef = a0.tmps[s]?.getD undef
 closed : ∀ j o, listed.getD j false = true → l[j]? = some o → ∀ e ∈ o.after.toList, Region.binds .any e = true → listed.getD e.on false = true
 low : Below W.heap.size W w
 facts : ∀ i, listed.getD i false = true → aliveAt l fin listed i → factAt sat l a w i
 lsize : listed.size = l.length
theorem once2_any {P : Program} {l : List Oper} {Q : Exit → Act → World → Prop} {sat : List Fact} {fin st pu : List Bool} {a0 : Act} {W : World} (hk : Keeps sat) (hd : dstOk l a0.tmps.size = true) (he : edgesOk l = true) (hp : Pures sat pu) (hla : lateOk2 l fin st pu = true)
  (hops : OwedAll2 P l Q sat st a0 W 0 l)
  (hend : ∀ (a : Act) (w : World), a.tmps.size = a0.tmps.size → a.defers = a0.defers → (∀ s, (dstsOf l).contains s = false → a.tmps[s]?.getD undef = a0.tmps[s]?.getD undef) → Below W.heap.size W w → (∀ i, i < l.length → fin.getD i false = true → factAt sat l a w i) → Q .normal a w) :
  ∀ (fuel : Nat) (listed : Array Bool) (a : Act) (w : World), OnceJ2 l sat fin a0 W listed a w → listed.toList.count false ≤ fuel → wpAny P .any l.toArray Q fuel listed a w := by
 intro fuel
 have hfin : ∀ (listed : Array Bool) (a : Act) (w : World), OnceJ2 l sat fin a0 W listed a w → Region.ready .any l.toArray listed = [] → Q .normal a w := by
  intro listed a w J hr
  refine hend a w J.size J.defers (fun s hs => J.out s fun j o _ ho hd' => ?_) J.low fun i hi hfi => J.facts i ?_ (.inl hfi)
  ·have : (dstsOf l).contains s = true := by
    rw [List.contains_iff_mem]
    exact List.mem_filterMap.2 ⟨o, List.mem_of_getElem? ho, hd'⟩
   rw [this] at hs; cases hs
  cases hb : listed.getD i false with
  | true => rfl
  | false => exact absurd hr (ready_some he J.lsize hi hb)
 induction fuel with
 | zero =>
  intro listed a w J hc
  have hr : Region.ready .any l.toArray listed = [] := by
   refine Classical.byContradiction fun hn => ?_
   obtain ⟨i, hi⟩ := List.exists_mem_of_ne_nil _ hn
   have h1 := (mem_ready.1 hi).1
   have hlt : i < listed.size := by
    rcases Nat.lt_or_ge i listed.size with h | h
    ·exact h
    ·rw [Array.getD_eq_getD_getElem?, Array.getElem?_eq_none h] at h1; simp at h1
   rw [Array.getD_eq_getD_getElem?, Array.getElem?_eq_getElem hlt] at h1
   have h2 : false ∈ listed.toList := by
    rw [← show listed[i] = false from h1]
    simp
   have := List.count_pos_iff.2 h2
   omega
  exact ⟨hr, hfin listed a w J hr⟩
 | succ fuel ih =>
  intro listed a w J hc
  refine ⟨hfin listed a w J, ?_⟩
  intro i hi
  obtain ⟨o, ho, hdep⟩ := ready_spec hi
  have h1 := (mem_ready.1 hi).1
  have hol : l[i]? = some o := by simpa using ho
  have hil : i < l.length := by
   rcases Nat.lt_or_ge i l.length with h | h
   ·exact h
   ·rw [List.getElem?_eq_none h] at hol; cases hol
  have hlt : i < listed.size := by rw [J.lsize]; exact hil
  obtain ⟨d, hdd, hdn⟩ := dst_some hd hol
  refine wpOp_step ho ?_
  intro K' hK'
  have hO := owedAll2_get l 0 hops i o hol
  rw [Nat.zero_add] at hO
  have h1f : listed.getD i false = false := by
   rw [Array.getD_eq_getD_getElem?, Array.getElem?_eq_getElem hlt] at h1 ⊢
   exact h1
  have hfree : ∀ s, freeAt l i s = true → a.tmps[s]?.getD undef = a0.tmps[s]?.getD undef := by
   intro s hs
   refine J.out s fun j o' hj hoj hds => ?_
   have hjl : j < l.length := by
    rcases Nat.lt_or_ge j l.length with h | h
    ·exact h
    ·rw [List.getElem?_eq_none h] at hoj; cases hoj
   have := List.all_eq_true.1 hs j (List.mem_range.2 hjl)
   rw [hoj] at this
   simp only [Bool.or_eq_true, bne_iff_ne, beq_iff_eq, List.any_eq_true, Bool.and_eq_true] at this
   rcases this with (h | h) | ⟨e, he, hb, hei⟩
   ·exact h hds
   ·subst h; rw [h1f] at hj; cases hj
   ·have := J.closed j o' hj hoj e he hb
    rw [hei, h1f] at this; cases this
  refine hO a w J.low hfree (factsOf_mk _ fun e hm hb => J.facts _ (hdep e hm hb) (.inr ⟨i, o, hol, h1f, e, hm, hb, rfl⟩)) K' ?_
  intro v w' hv hbw
  refine hK' _ _ (ih _ _ _ ?_ ?_)
  ·rw [hdd]
   constructor
   ·show (a.tmps.setIfInBounds d v).size = _
    rw [Array.size_setIfInBounds]; exact J.size
   ·exact J.defers
   ·intro s hs
    have hii : (listed.setIfInBounds i true).getD i false = true := by
     rw [Array.getD_eq_getD_getElem?, Array.getElem?_setIfInBounds, if_pos rfl, if_pos hlt]; rfl
    rw [eval_put_ne a d s v (fun e => hs i o hii hol (by rw [hdd, e]))]
    refine J.out s fun j o' hj hoj => hs j o' ?_ hoj
    by_cases hji : j = i
    ·subst hji; exact hii
    ·rw [Array.getD_eq_getD_getElem?, Array.getElem?_setIfInBounds, if_neg (fun e => hji e.symm), ← Array.getD_eq_getD_getElem?]; exact hj
   ·intro j o' hj hoj e hem hb
    have hstep : ∀ m, listed.getD m false = true → (listed.setIfInBounds i true).getD m false = true := by
     intro m hm
     by_cases hmi : m = i
     ·subst hmi; rw [Array.getD_eq_getD_getElem?, Array.getElem?_setIfInBounds, if_pos rfl, if_pos hlt]; rfl
     ·rw [Array.getD_eq_getD_getElem?, Array.getElem?_setIfInBounds, if_neg (fun e => hmi e.symm), ← Array.getD_eq_getD_getElem?]; exact hm
    by_cases hji : j = i
    ·subst hji
     rw [hol] at hoj
     cases hoj
     exact hstep _ (hdep e hem hb)
    ·refine hstep _ (J.closed j o' ?_ hoj e hem hb)
     rw [Array.getD_eq_getD_getElem?, Array.getElem?_setIfInBounds, if_neg (fun e => hji e.symm)] at hj
     rw [Array.getD_eq_getD_getElem?]; exact hj
   ·exact J.low.trans (hbw.mono (by cases st.getD i true with | true => exact J.low.size | false => exact Nat.le_refl _))
   ·intro j hj hal
    unfold factAt
    cases hoj : l[j]? with
    | none => trivial
    | some o' =>
     obtain ⟨d', hd', _⟩ := dst_some hd hoj
     simp only [hd']
     by_cases hji : j = i
     ·subst hji
      rw [hol] at hoj
      cases hoj
      rw [hdd] at hd'
      cases hd'
      rw [eval_put_eq a d v (by rw [J.size]; exact hdn)]
      exact hv
     ·rw [eval_put_ne a d d' v (dst_ne hd hol hoj hdd hd' (fun e => hji e.symm))]
      have hjl : listed.getD j false = true := by
       rw [Array.getD_eq_getD_getElem?, Array.getElem?_setIfInBounds, if_neg (fun e => hji e.symm)] at hj
       rw [Array.getD_eq_getD_getElem?]; exact hj
      have hstep : ∀ m, listed.getD m false = true → (listed.setIfInBounds i true).getD m false = true := by
       intro m hm
       by_cases hmi : m = i
       ·subst hmi; rw [Array.getD_eq_getD_getElem?, Array.getElem?_setIfInBounds, if_pos rfl, if_pos hlt]; rfl
       ·rw [Array.getD_eq_getD_getElem?, Array.getElem?_setIfInBounds, if_neg (fun e => hmi e.symm), ← Array.getD_eq_getD_getElem?]; exact hm
      have hii : (listed.setIfInBounds i true).getD i false = true := by
       rw [Array.getD_eq_getD_getElem?, Array.getElem?_setIfInBounds, if_pos rfl, if_pos hlt]; rfl
      have hal0 : aliveAt l fin listed j := by
       rcases hal with h | ⟨c, oc, hc, hcl, x⟩
       ·exact .inl h
       ·refine .inr ⟨c, oc, hc, ?_, x⟩
        cases hq : listed.getD c false with
        | false => rfl
        | true => rw [hstep c hq] at hcl; cases hcl
      have := J.facts j hjl hal0
      unfold factAt at this
      rw [hoj] at this
      simp only [hd'] at this
      cases hst : st.getD i true with
      | true => rw [hst] at hbw; exact hk j _ _ _ this hbw
      | false =>
       have hq := List.all_eq_true.1 hla i (List.mem_range.2 hil)
       rw [hst, Bool.false_or] at hq
       have hjlt : j < l.length := by
        rcases Nat.lt_or_ge j l.length with h | h
        ·exact h
        ·rw [List.getElem?_eq_none h] at hoj; cases hoj
       have hq := List.all_eq_true.1 hq j (List.mem_range.2 hjlt)
       rw [Bool.or_eq_true, Bool.or_eq_true, beq_iff_eq, Bool.and_eq_true] at hq
       rcases hq with (hq | hq) | ⟨hq1, hq2⟩
       ·exact absurd hq hji
       ·exact hp j hq _ _ _ this
       ·exfalso
        rcases hal with h | ⟨c, oc, hc, hcl, e, hem, heb, hej⟩
        ·rw [h] at hq1; cases hq1
        ·have hclt : c < l.length := by
          rcases Nat.lt_or_ge c l.length with h | h
          ·exact h
          ·rw [List.getElem?_eq_none h] at hc; cases hc
         have hd2 := List.all_eq_true.1 hq2 c (List.mem_range.2 hclt)
         rw [hc, hol] at hd2
         simp only [Bool.or_eq_true, beq_iff_eq, Bool.not_eq_true', List.any_eq_true, Bool.and_eq_true] at hd2
         rcases hd2 with hd2 | hd2 | ⟨e2, hem2, heb2, hec2⟩
         ·subst hd2; rw [hii] at hcl; cases hcl
         ·rw [← Bool.not_eq_true, List.any_eq_true] at hd2
          exact hd2 ⟨e, hem, by rw [Bool.and_eq_true, beq_iff_eq]; exact ⟨heb, hej⟩⟩
         ·have := hstep _ (hdep e2 hem2 heb2)
          rw [hec2, hcl] at this; cases this
   ·rw [Array.size_setIfInBounds]; exact J.lsize
  ·rw [Array.toList_setIfInBounds, List.count_set (by simpa using hlt)]
   have h2 : listed.toList[i]'(by simpa using hlt) = false := by
    rw [Array.getD_eq_getD_getElem?, Array.getElem?_eq_getElem hlt] at h1
    simpa using h1
   rw [h2, if_pos (show (false == false) = true from rfl), if_neg (by decide)]
   omega
def factsAll2 (sat : List Fact) (fin : List Bool) (f : Nat → Value) (w : World) : Nat → List Oper → Prop
 | _, [] => True
 | i, o :: os => (bif fin.getD i false then (match o.dst with | some d => (sat.getD i (fun _ _ => True)) (f d) w | none => True) else True) ∧ factsAll2 sat fin f w (i + 1) os
theorem factsAll2_mk {sat : List Fact} {fin : List Bool} {f : Nat → Value} {w : World} : ∀ (os : List Oper) (k : Nat), (∀ i o d, os[i]? = some o → o.dst = some d → fin.getD (k + i) false = true → (sat.getD (k + i) (fun _ _ => True)) (f d) w) → factsAll2 sat fin f w k os := by
 intro os
 induction os with
 | nil => intro k _; trivial
 | cons o os ih =>
  intro k h
  refine ⟨?_, ih (k + 1) fun i o' d ho hd hfi => ?_⟩
  ·cases hfi : fin.getD k false with
   | false => trivial
   | true =>
    cases hd : o.dst with
    | none => trivial
    | some d => exact h 0 o d rfl hd hfi
  ·have e1 : k + 1 + i = k + (i + 1) := by omega
   rw [e1] at hfi ⊢
   exact h (i + 1) o' d (by simpa using ho) hd hfi
theorem wp_region_live {P : Program} {id : Nat} {l : List Oper} {Q : Exit → Act → World → Prop} {a : Act} {w : World} (sat : List Fact) (fin st pu : List Bool) (hm : P.follows .mixedOrders = true) (hk : Keeps sat) (hd : dstOk l a.tmps.size = true) (he : edgesOk l = true) (hp : Pures sat pu) (hla : lateOk2 l fin st pu = true)
  (hops : OwedAll2 P l Q sat st a w 0 l)
  (hend : ∀ (f : Nat → Value) (w' : World), Below w.heap.size w w' → factsAll2 sat fin f w' 0 l → Q .normal (frameOf l a f) w') :
  (Code.region id l.toArray true).wp P Q a w := by
 refine wp_region_any hm (once2_any hk hd he hp hla hops ?_ _ _ _ _ ⟨rfl, rfl, fun _ _ => rfl, ?_, ⟨rfl, rfl, rfl, Nat.le_refl _, fun _ _ => rfl⟩, ?_, by simp⟩ ?_)
 ·intro a' w' h1 h2 h3 h4 h5
  rw [once_frame h1 h2 h3]
  refine hend _ w' h4 (factsAll2_mk l 0 ?_)
  intro i o d ho hdd hfi
  have hil : i < l.length := by
   rcases Nat.lt_or_ge i l.length with h | h
   ·exact h
   ·rw [List.getElem?_eq_none h] at ho; cases ho
  have := h5 i hil (by rw [Nat.zero_add] at hfi; exact hfi)
  unfold factAt at this
  rw [ho] at this
  simp only [hdd] at this
  rw [Nat.zero_add]
  exact this
 ·intro i _ hi
  exfalso
  rw [Array.getD_eq_getD_getElem?, Array.getElem?_replicate] at hi
  split at hi <;> simp at hi
 ·intro i hi _
  exfalso
  rw [Array.getD_eq_getD_getElem?, Array.getElem?_replicate] at hi
  split at hi <;> simp at hi
 ·simp
theorem owed2_go {P : Program} {l : List Oper} {Q : Exit → Act → World → Prop} {sat : List Fact} {st : List Bool} {a0 : Act} {W : World} {i : Nat} {o : Oper}
  (h : ∀ (a : Act) (w : World), Below W.heap.size W w → (∀ s, freeAt l i s = true → a.tmps[s]?.getD undef = a0.tmps[s]?.getD undef) → factsOf sat l a w o.after.toList →
   Region.wanted o (yielded l.toArray a.tmps) = true ∧ ∀ K : Act → World → Prop, (∀ v w', (sat.getD i (fun _ _ => True)) v w' → Below (bif st.getD i true then w.heap.size else W.heap.size) w w' → K (a.put o.dst v) w') → Oper.wp P o a w K Q) : Owed2 P l Q sat st a0 W i o := by
 intro a w hb ho hf K hK
 rw [if_pos (h a w hb ho hf).1]
 exact (h a w hb ho hf).2 K hK
/-- the guard's value, read off its slot -/
theorem wanted_slot {o : Oper} {ops : Array Oper} {tmps : Array Value} {j : Nat} {b : Bool} {oj : Oper} {s : Tmp} (hg : o.guard = some (j, b)) (hj : ops[j]? = some oj) (hs : oj.dst = some s) (hv : tmps[s]?.getD undef = .bool b) : Region.wanted o (yielded ops tmps) = true := by
 cases ht : tmps[s]? with
 | none => rw [ht] at hv; cases hv
 | some x =>
  rw [ht] at hv
  have hx : x = .bool b := hv
  have hy : yielded ops tmps j = some b := by
   unfold yielded; rw [hj, Option.bind_some, hs, Option.bind_some, ht, hx]
  unfold Region.wanted
  rw [hg]
  simp [hy]
end Go.Proofs.YtngealmhgkoaiaaGreat
/- As OnceLive; and some of the operations are stores (they leave no value): the fact of a store speaks of the slot that holds its address. -/
namespace Go.Proofs.YtngealmhgkoaiaaGreat
open Go.RowKit
set_option linter.unusedVariables false
/-- the edges by which values are handed on -/
def needs (e : Edge) : Bool := Region.binds .any e && match e.ground with | .data => true | _ => false
theorem needs_binds {e : Edge} (h : needs e = true) : Region.binds .any e = true := by
 unfold needs at h
 rw [Bool.and_eq_true] at h
 exact h.1
/-- an operation that writes spoils no fact that is still waited for -/
def deadB3 (l : List Oper) (j i : Nat) : Bool :=
 (List.range l.length).all fun c => c == j || match l[c]? with
  | some o => !(o.after.toList.any fun e => needs e && e.on == i) || (match l[j]? with | some oj => oj.after.toList.any fun e => Region.binds .any e && e.on == c | none => false)
  | none => true
/-- the slot that an operation's fact speaks of -/
def obsOf (o : Oper) : Option Tmp := match o.dst with
 | some d => some d
 | none => match o.op with
  | .store _ (.tmp p) _ => some p
  | _ => none
theorem obs_dst {o : Oper} {d : Tmp} (h : o.dst = some d) : obsOf o = some d := by unfold obsOf; rw [h]
def factAt3 (sat : List Fact) (l : List Oper) (a : Act) (w : World) (i : Nat) : Prop :=
 match l[i]? with
 | some o => match obsOf o with
  | some d => (sat.getD i (fun _ _ => True)) (a.tmps[d]?.getD undef) w
  | none => True
 | none => True
def factsOf3 (sat : List Fact) (l : List Oper) (a : Act) (w : World) : List Edge → Prop
 | [] => True
 | e :: es => (if needs e = true then factAt3 sat l a w e.on else True) ∧ factsOf3 sat l a w es
theorem factsOf3_mk {sat : List Fact} {l : List Oper} {a : Act} {w : World} : ∀ es : List Edge, (∀ e ∈ es, needs e = true → factAt3 sat l a w e.on) → factsOf3 sat l a w es := by
 intro es
 induction es with
 | nil => intro _; trivial
 | cons e es ih =>
  intro h
  refine ⟨?_, ih fun x hx => h x (by simp [hx])⟩
  split
  ·rename_i hb; exact h e (by simp) hb
  ·trivial
/-- each operation's slot; no two write one slot; who writes a store's address comes ahead of it -/
def dstOk3 (l : List Oper) (n : Nat) : Bool :=
 ((List.range l.length).all fun i => match l[i]? with
  | some o => (match obsOf o with | some d => decide (d < n) | none => false) && (List.range l.length).all fun j => match l[j]? with
   | some o' => i == j || o'.dst.isNone || o'.dst != obsOf o || (o.dst.isNone && o.after.toList.any fun e => Region.binds .any e && e.on == j)
   | none => true
  | none => true)
theorem obs_some {l : List Oper} {n : Nat} (h : dstOk3 l n = true) {i : Nat} {o : Oper} (hi : l[i]? = some o) : ∃ d, obsOf o = some d ∧ d < n := by
 have hil : i < l.length := by
  rcases Nat.lt_or_ge i l.length with h | h
  ·exact h
  ·rw [List.getElem?_eq_none h] at hi; cases hi
 have := List.all_eq_true.1 h i (List.mem_range.2 hil)
 rw [hi] at this
 simp only [Bool.and_eq_true] at this
 have h1 := this.1
 cases hd : obsOf o with
 | none => rw [hd] at h1; cases h1
 | some d => rw [hd] at h1; exact ⟨d, rfl, by simpa using h1⟩
theorem obs_ne {l : List Oper} {n : Nat} (h : dstOk3 l n = true) {i j : Nat} {o o' : Oper} {d d' : Tmp} (hi : l[i]? = some o) (hj : l[j]? = some o') (ho : obsOf o = some d) (ho' : o'.dst = some d') (hne : i ≠ j) : d' ≠ d ∨ ∃ e ∈ o.after.toList, Region.binds .any e = true ∧ e.on = j := by
 have hil : i < l.length := by
  rcases Nat.lt_or_ge i l.length with h | h
  ·exact h
  ·rw [List.getElem?_eq_none h] at hi; cases hi
 have hjl : j < l.length := by
  rcases Nat.lt_or_ge j l.length with h | h
  ·exact h
  ·rw [List.getElem?_eq_none h] at hj; cases hj
 have := List.all_eq_true.1 h i (List.mem_range.2 hil)
 rw [hi] at this
 simp only [Bool.and_eq_true] at this
 have h2 := List.all_eq_true.1 this.2 j (List.mem_range.2 hjl)
 rw [hj] at h2
 simp only [Bool.or_eq_true, beq_iff_eq, bne_iff_ne, Bool.and_eq_true, List.any_eq_true] at h2
 rcases h2 with ((h2 | h2) | h2) | ⟨_, e, he, hb, hej⟩
 ·exact absurd h2 hne
 ·rw [ho'] at h2; cases h2
 ·left
  intro e
  rw [ho, ho', e] at h2
  exact h2 rfl
 ·exact .inr ⟨e, he, hb, hej⟩
/-- the value that an operation's fact speaks of -/
def seenBy (o : Oper) (a : Act) (v : Value) : Value := match o.dst with
 | some _ => v
 | none => match obsOf o with
  | some p => a.tmps[p]?.getD undef
  | none => undef
/-- what is owed for one operation; st: it changes no old memory at all -/
def Owed3 (P : Program) (l : List Oper) (Q : Exit → Act → World → Prop) (sat : List Fact) (st : List Bool) (a0 : Act) (W : World) (i : Nat) (o : Oper) : Prop :=
 ∀ (a : Act) (w : World), Below W.heap.size W w → (∀ s, freeAt l i s = true → a.tmps[s]?.getD undef = a0.tmps[s]?.getD undef) → factsOf3 sat l a w o.after.toList →
  ∀ K : Act → World → Prop, (∀ v w', (sat.getD i (fun _ _ => True)) (seenBy o a v) w' → Below (bif st.getD i true then w.heap.size else W.heap.size) w w' → K (a.put o.dst v) w') →
   if Region.wanted o (yielded l.toArray a.tmps) = true then Oper.wp P o a w K Q else K (a.put o.dst undef) w
def OwedAll3 (P : Program) (l : List Oper) (Q : Exit → Act → World → Prop) (sat : List Fact) (st : List Bool) (a0 : Act) (W : World) : Nat → List Oper → Prop
 | _, [] => True
 | i, o :: os => Owed3 P l Q sat st a0 W i o ∧ OwedAll3 P l Q sat st a0 W (i + 1) os
def edgesOk3 (l : List Oper) : Bool := (List.range l.length).all fun i => match l[i]? with | some o => o.after.toList.all fun e => !Region.binds .any e || decide (e.on < i) | none => true
theorem edges_lt3 {l : List Oper} (h : edgesOk3 l = true) {i : Nat} {o : Oper} (hi : l[i]? = some o) : ∀ e ∈ o.after.toList, Region.binds .any e = true → e.on < i := by
 have hil : i < l.length := by
  rcases Nat.lt_or_ge i l.length with h | h
  ·exact h
  ·rw [List.getElem?_eq_none h] at hi; cases hi
 have := List.all_eq_true.1 h i (List.mem_range.2 hil)
 rw [hi] at this
 intro e he hb
 have h2 := List.all_eq_true.1 this e he
 rw [hb] at h2
 simpa using h2
theorem ready_some3 {l : List Oper} (h : edgesOk3 l = true) {listed : Array Bool} (hs : listed.size = l.length) {i : Nat} (hi : i < l.length) (hf : listed.getD i false = false) : Region.ready .any l.toArray listed ≠ [] := by
 have : ∃ j, j < l.length ∧ listed.getD j false = false ∧ ∀ k, k < j → listed.getD k false = true := by
  induction i using Nat.strongRecOn with
  | ind i ih =>
   by_cases hall : ∀ k, k < i → listed.getD k false = true
   ·exact ⟨i, hi, hf, hall⟩
   ·have : ∃ k, k < i ∧ listed.getD k false = false := by
     refine Classical.byContradiction fun hn => hall fun k hk => ?_
     cases hb : listed.getD k false with
     | true => rfl
     | false => exact absurd ⟨k, hk, hb⟩ hn
    obtain ⟨k, hk, hb⟩ := this
    exact ih k hk (by omega) hb
 obtain ⟨j, hj, hjf, hjl⟩ := this
 obtain ⟨o, ho⟩ : ∃ o, l[j]? = some o := ⟨l[j], List.getElem?_eq_getElem hj⟩
 have hm : j ∈ Region.ready .any l.toArray listed := by
  rw [Region.ready, List.mem_filter]
  refine ⟨by simpa using hj, ?_⟩
  rw [Bool.and_eq_true]
  constructor
  ·have : listed.getD j true = false := by
    rw [Array.getD_eq_getD_getElem?] at hjf ⊢
    rw [Array.getElem?_eq_getElem (by omega)] at hjf ⊢
    exact hjf
   rw [this]; rfl
  ·have ho' : l.toArray[j]? = some o := by simpa using ho
   rw [ho', Option.map_some, Option.getD_some, Array.all_eq_true_iff_forall_mem]
   intro e he
   cases hb : Region.binds .any e with
   | false => rfl
   | true =>
    rw [Bool.or_eq_true]
    right
    exact hjl _ (edges_lt3 h ho e (by simpa using he) hb)
 intro e
 rw [e] at hm
 cases hm
theorem put_size (a : Act) (d : Option Tmp) (v : Value) : (a.put d v).tmps.size = a.tmps.size := by
 cases d with
 | none => rfl
 | some d => show (a.tmps.setIfInBounds d v).size = _; rw [Array.size_setIfInBounds]
theorem put_defers (a : Act) (d : Option Tmp) (v : Value) : (a.put d v).defers = a.defers := by cases d <;> rfl
theorem put_ne (a : Act) (d : Option Tmp) (s : Tmp) (v : Value) (h : d ≠ some s) : (a.put d v).tmps[s]?.getD undef = a.tmps[s]?.getD undef := by
 cases d with
 | none => rfl
 | some d => exact eval_put_ne a d s v (fun e => h (by rw [e]))
theorem put_obs (a : Act) {o : Oper} {d : Tmp} (h : obsOf o = some d) (v : Value) (hd : d < a.tmps.size) : (a.put o.dst v).tmps[d]?.getD undef = seenBy o a v := by
 unfold seenBy
 cases ho : o.dst with
 | none => simp only [h]; rfl
 | some d' =>
  have := obs_dst ho
  rw [h] at this
  cases this
  exact eval_put_eq a d v hd
def factsAll3 (sat : List Fact) (fin : List Bool) (f : Nat → Value) (w : World) : Nat → List Oper → Prop
 | _, [] => True
 | i, o :: os => (bif fin.getD i false then (match obsOf o with | some d => (sat.getD i (fun _ _ => True)) (f d) w | none => True) else True) ∧ factsAll3 sat fin f w (i + 1) os
theorem factsAll3_mk {sat : List Fact} {fin : List Bool} {f : Nat → Value} {w : World} : ∀ (os : List Oper) (k : Nat), (∀ i o d, os[i]? = some o → obsOf o = some d → fin.getD (k + i) false = true → (sat.getD (k + i) (fun _ _ => True)) (f d) w) → factsAll3 sat fin f w k os := by
 intro os
 induction os with
 | nil => intro k _; trivial
 | cons o os ih =>
  intro k h
  refine ⟨?_, ih (k + 1) fun i o' d ho hd hfi => ?_⟩
  ·cases hfi : fin.getD k false with
   | false => trivial
   | true =>
    cases hd : obsOf o with
    | none => trivial
    | some d => exact h 0 o d rfl hd hfi
  ·have e1 : k + 1 + i = k + (i + 1) := by omega
   rw [e1] at hfi ⊢
   exact h (i + 1) o' d (by simpa using ho) hd hfi
end Go.Proofs.YtngealmhgkoaiaaGreat
/- An order-free rule for drawn regions of which one operation (the q-th) may change old memory, as a relation says; an invariant of worlds holds at each. -/
namespace Go.Proofs.YtngealmhgkoaiaaGreat
open Go.RowKit
set_option linter.unusedVariables false
/-- what is known of all that an operation waits for -/
def factsOf7 (sat : List Fact) (l : List Oper) (a : Act) (w : World) : List Edge → Prop
 | [] => True
 | e :: es => (if Region.binds .any e = true then factAt3 sat l a w e.on else True) ∧ factsOf7 sat l a w es
theorem factsOf7_mk {sat : List Fact} {l : List Oper} {a : Act} {w : World} : ∀ es : List Edge, (∀ e ∈ es, Region.binds .any e = true → factAt3 sat l a w e.on) → factsOf7 sat l a w es := by
 intro es
 induction es with
 | nil => intro _; trivial
 | cons e es ih =>
  intro h
  refine ⟨?_, ih fun x hx => h x (by simp [hx])⟩
  split
  ·rename_i hb; exact h e (by simp) hb
  ·trivial
/-- what the operation i may do to a world -/
def stepR (S : World → World → Prop) (q : Option Nat) (i : Nat) (x y : World) : Prop := bif some i == q then S x y else Below x.heap.size x y
theorem stepR_no {S : World → World → Prop} {q : Option Nat} {i : Nat} {x y : World} (h : (some i == q) = false) (hb : Below x.heap.size x y) : stepR S q i x y := by unfold stepR; rw [h]; exact hb
theorem stepR_yes {S : World → World → Prop} {q : Option Nat} {i : Nat} {x y : World} (h : (some i == q) = true) (hs : S x y) : stepR S q i x y := by unfold stepR; rw [h]; exact hs
/-- is the operation i run ahead of q, in every order? -/
def waitsB (l : List Oper) (q : Option Nat) (i : Nat) : Bool := match q with
 | none => true
 | some j => i == j || match l[j]? with
  | some oj => oj.after.toList.any fun e => Region.binds .any e && e.on == i
  | none => false
/-- the facts keep; that of q only what is laid behind it -/
def KeepsR (I : World → Prop) (S : World → World → Prop) : Option Nat → List Fact → Prop
 | _, [] => True
 | none, s :: sat => (∀ v x y, s v x → I x → S x y → s v y) ∧ KeepsR I S none sat
 | some 0, s :: sat => (∀ v x y, s v x → I x → Below x.heap.size x y → s v y) ∧ KeepsR I S none sat
 | some (q + 1), s :: sat => (∀ v x y, s v x → I x → S x y → s v y) ∧ KeepsR I S (some q) sat
theorem keepsR_nil {I : World → Prop} {S : World → World → Prop} {q : Option Nat} : KeepsR I S q [] := by cases q with
 | none => trivial
 | some q => cases q <;> trivial
theorem keepsR_n {I : World → Prop} {S : World → World → Prop} {s : Fact} {sat : List Fact} (h : ∀ v x y, s v x → I x → S x y → s v y) (t : KeepsR I S none sat) : KeepsR I S none (s :: sat) := ⟨h, t⟩
theorem keepsR_q {I : World → Prop} {S : World → World → Prop} {s : Fact} {sat : List Fact} (h : ∀ v x y, s v x → I x → Below x.heap.size x y → s v y) (t : KeepsR I S none sat) : KeepsR I S (some 0) (s :: sat) := ⟨h, t⟩
theorem keepsR_s {I : World → Prop} {S : World → World → Prop} {q : Nat} {s : Fact} {sat : List Fact} (h : ∀ v x y, s v x → I x → S x y → s v y) (t : KeepsR I S (some q) sat) : KeepsR I S (some (q + 1)) (s :: sat) := ⟨h, t⟩
theorem keepsR_out {I : World → Prop} {S : World → World → Prop} : ∀ (sat : List Fact) (q : Option Nat), KeepsR I S q sat →
  (∀ i v x y, some i ≠ q → (sat.getD i (fun _ _ => True)) v x → I x → S x y → (sat.getD i (fun _ _ => True)) v y) ∧
  (∀ i v x y, some i = q → (sat.getD i (fun _ _ => True)) v x → I x → Below x.heap.size x y → (sat.getD i (fun _ _ => True)) v y) := by
 intro sat
 induction sat with
 | nil => intro q _; exact ⟨fun i v x y _ _ _ _ => by simp, fun i v x y _ _ _ _ => by simp⟩
 | cons s sat ih =>
  intro q h
  match q, h with
  | none, h =>
   refine ⟨fun i v x y hq hv hi hs => ?_, fun i v x y hq => by cases hq⟩
   cases i with
   | zero => exact h.1 v x y hv hi hs
   | succ i => exact (ih none h.2).1 i v x y (by simp) hv hi hs
  | some 0, h =>
   refine ⟨fun i v x y hq hv hi hs => ?_, fun i v x y hq hv hi hs => ?_⟩
   ·cases i with
    | zero => exact absurd rfl hq
    | succ i => exact (ih none h.2).1 i v x y (by simp) hv hi hs
   ·cases i with
    | zero => exact h.1 v x y hv hi hs
    | succ i => cases hq
  | some (q + 1), h =>
   refine ⟨fun i v x y hq hv hi hs => ?_, fun i v x y hq hv hi hs => ?_⟩
   ·cases i with
    | zero => exact h.1 v x y hv hi hs
    | succ i => exact (ih (some q) h.2).1 i v x y (fun e => hq (by simp at e; rw [e])) hv hi hs
   ·cases i with
    | zero => cases hq
    | succ i => exact (ih (some q) h.2).2 i v x y (by simp at hq; rw [hq]) hv hi hs
/-- what is owed for one operation -/
def Owed7 (P : Program) (l : List Oper) (Q : Exit → Act → World → Prop) (sat : List Fact) (I : World → Prop) (S : World → World → Prop) (q : Option Nat) (a0 : Act) (W : World) (i : Nat) (o : Oper) : Prop :=
 ∀ (a : Act) (w : World), I w → (waitsB l q i = true → Below W.heap.size W w) → (∀ s, freeAt l i s = true → a.tmps[s]?.getD undef = a0.tmps[s]?.getD undef) → factsOf7 sat l a w o.after.toList →
  ∀ K : Act → World → Prop, (∀ v w', (sat.getD i (fun _ _ => True)) (seenBy o a v) w' → stepR S q i w w' → K (a.put o.dst v) w') →
   if Region.wanted o (yielded l.toArray a.tmps) = true then Oper.wp P o a w K Q else K (a.put o.dst undef) w
def OwedAll7 (P : Program) (l : List Oper) (Q : Exit → Act → World → Prop) (sat : List Fact) (I : World → Prop) (S : World → World → Prop) (q : Option Nat) (a0 : Act) (W : World) : Nat → List Oper → Prop
 | _, [] => True
 | i, o :: os => Owed7 P l Q sat I S q a0 W i o ∧ OwedAll7 P l Q sat I S q a0 W (i + 1) os
theorem OwedAll7.nil {P : Program} {l : List Oper} {Q : Exit → Act → World → Prop} {sat : List Fact} {I : World → Prop} {S : World → World → Prop} {q : Option Nat} {a0 : Act} {W : World} {i : Nat} : OwedAll7 P l Q sat I S q a0 W i [] := trivial
theorem OwedAll7.cons {P : Program} {l : List Oper} {Q : Exit → Act → World → Prop} {sat : List Fact} {I : World → Prop} {S : World → World → Prop} {q : Option Nat} {a0 : Act} {W : World} {i : Nat} {o : Oper} {os : List Oper} (h : Owed7 P l Q sat I S q a0 W i o) (t : OwedAll7 P l Q sat I S q a0 W (i + 1) os) : OwedAll7 P l Q sat I S q a0 W i (o :: os) := ⟨h, t⟩
theorem owedAll7_get {P : Program} {l : List Oper} {Q : Exit → Act → World → Prop} {sat : List Fact} {I : World → Prop} {S : World → World → Prop} {q : Option Nat} {a0 : Act} {W : World} : ∀ (os : List Oper) (k : Nat), OwedAll7 P l Q sat I S q a0 W k os → ∀ i o, os[i]? = some o → Owed7 P l Q sat I S q a0 W (k + i) o := by
 intro os
 induction os with
 | nil => intro k _ i o h; simp at h
 | cons x os ih =>
  intro k h i o ho
  cases i with
  | zero => simp at ho; subst ho; exact h.1
  | succ i =>
   have := ih (k + 1) h.2 i o (by simpa using ho)
   rw [show k + (i + 1) = k + 1 + i by omega]; exact this
structure OnceJ7 (l : List Oper) (sat : List Fact) (I : World → Prop) (q : Option Nat) (a0 : Act) (W : World) (listed : Array Bool) (a : Act) (w : World) : Prop where
 size : a.tmps.size = a0.tmps.size
 defers : a.defers = a0.defers
 out : ∀ s, (∀ j o, listed.getD j false = true → l[j]? = some o → o.dst ≠ some s) → a.tmps[s]?.getD undef = a0.tmps[s]?.getD undef
 closed : ∀ j o, listed.getD j false = true → l[j]? = some o → ∀ e ∈ o.after.toList, Region.binds .any e = true → listed.getD e.on false = true
 low : I w
 pre : (∀ j, q = some j → listed.getD j false = false) → Below W.heap.size W w
 facts : ∀ i, listed.getD i false = true → factAt3 sat l a w i
 lsize : listed.size = l.length
theorem once7_any {P : Program} {l : List Oper} {Q : Exit → Act → World → Prop} {sat : List Fact} {I : World → Prop} {S : World → World → Prop} {q : Option Nat} {a0 : Act} {W : World} (hk : KeepsR I S q sat) (h12 : ∀ x y, I x → Below x.heap.size x y → S x y) (hIS : ∀ x y, I x → S x y → I y) (hd : dstOk3 l a0.tmps.size = true) (he : edgesOk3 l = true)
  (hops : OwedAll7 P l Q sat I S q a0 W 0 l)
  (hend : ∀ (a : Act) (w : World), a.tmps.size = a0.tmps.size → a.defers = a0.defers → (∀ s, (dstsOf l).contains s = false → a.tmps[s]?.getD undef = a0.tmps[s]?.getD undef) → I w → (∀ i, i < l.length → factAt3 sat l a w i) → Q .normal a w) :
  ∀ (fuel : Nat) (listed : Array Bool) (a : Act) (w : World), OnceJ7 l sat I q a0 W listed a w → listed.toList.count false ≤ fuel → wpAny P .any l.toArray Q fuel listed a w := by
 intro fuel
 have hfin : ∀ (listed : Array Bool) (a : Act) (w : World), OnceJ7 l sat I q a0 W listed a w → Region.ready .any l.toArray listed = [] → Q .normal a w := by
  intro listed a w J hr
  refine hend a w J.size J.defers (fun s hs => J.out s fun j o _ ho hd' => ?_) J.low fun i hi => J.facts i ?_
  ·have : (dstsOf l).contains s = true := by
    rw [List.contains_iff_mem]
    exact List.mem_filterMap.2 ⟨o, List.mem_of_getElem? ho, hd'⟩
   rw [this] at hs; cases hs
  cases hb : listed.getD i false with
  | true => rfl
  | false => exact absurd hr (ready_some3 he J.lsize hi hb)
 induction fuel with
 | zero =>
  intro listed a w J hc
  have hr : Region.ready .any l.toArray listed = [] := by
   refine Classical.byContradiction fun hn => ?_
   obtain ⟨i, hi⟩ := List.exists_mem_of_ne_nil _ hn
   have h1 := (mem_ready.1 hi).1
   have hlt : i < listed.size := by
    rcases Nat.lt_or_ge i listed.size with h | h
    ·exact h
    ·rw [Array.getD_eq_getD_getElem?, Array.getElem?_eq_none h] at h1; simp at h1
   rw [Array.getD_eq_getD_getElem?, Array.getElem?_eq_getElem hlt] at h1
   have h2 : false ∈ listed.toList := by
    rw [← show listed[i] = false from h1]
    simp
   have := List.count_pos_iff.2 h2
   omega
  exact ⟨hr, hfin listed a w J hr⟩
 | succ fuel ih =>
  intro listed a w J hc
  refine ⟨hfin listed a w J, ?_⟩
  intro i hi
  obtain ⟨o, ho, hdep⟩ := ready_spec hi
  have h1 := (mem_ready.1 hi).1
  have hol : l[i]? = some o := by simpa using ho
  have hil : i < l.length := by
   rcases Nat.lt_or_ge i l.length with h | h
   ·exact h
   ·rw [List.getElem?_eq_none h] at hol; cases hol
  have hlt : i < listed.size := by rw [J.lsize]; exact hil
  obtain ⟨d, hob, hdn⟩ := obs_some hd hol
  refine wpOp_step ho ?_
  intro K' hK'
  have hO := owedAll7_get l 0 hops i o hol
  rw [Nat.zero_add] at hO
  have h1f : listed.getD i false = false := by
   rw [Array.getD_eq_getD_getElem?, Array.getElem?_eq_getElem hlt] at h1 ⊢
   exact h1
  have hfree : ∀ s, freeAt l i s = true → a.tmps[s]?.getD undef = a0.tmps[s]?.getD undef := by
   intro s hs
   refine J.out s fun j o' hj hoj hds => ?_
   have hjl : j < l.length := by
    rcases Nat.lt_or_ge j l.length with h | h
    ·exact h
    ·rw [List.getElem?_eq_none h] at hoj; cases hoj
   have := List.all_eq_true.1 hs j (List.mem_range.2 hjl)
   rw [hoj] at this
   simp only [Bool.or_eq_true, bne_iff_ne, beq_iff_eq, List.any_eq_true, Bool.and_eq_true] at this
   rcases this with (h | h) | ⟨e, he, hb, hei⟩
   ·exact h hds
   ·subst h; rw [h1f] at hj; cases hj
   ·have := J.closed j o' hj hoj e he hb
    rw [hei, h1f] at this; cases this
  refine hO a w J.low (fun hqi => J.pre fun j hj => by
   subst hj
   unfold waitsB at hqi
   simp only [Bool.or_eq_true, beq_iff_eq] at hqi
   rcases hqi with rfl | hqi
   ·exact h1f
   ·cases hoj : l[j]? with
    | none => rw [hoj] at hqi; cases hqi
    | some oj =>
     rw [hoj] at hqi
     simp only [List.any_eq_true, Bool.and_eq_true, beq_iff_eq] at hqi
     obtain ⟨e, he, hb, hei⟩ := hqi
     cases hl : listed.getD j false with
     | false => rfl
     | true =>
      have := J.closed j oj hl hoj e he hb
      rw [hei, h1f] at this; cases this) hfree (factsOf7_mk _ fun e hm hb => J.facts _ (hdep e hm hb)) K' ?_
  intro v w' hv hbw
  have hS : S w w' := by
   unfold stepR at hbw
   cases hq : some i == q with
   | true => rw [hq] at hbw; exact hbw
   | false => rw [hq] at hbw; exact h12 _ _ J.low hbw
  refine hK' _ _ (ih _ _ _ ?_ ?_)
  ·constructor
   ·rw [put_size]; exact J.size
   ·rw [put_defers]; exact J.defers
   ·intro s hs
    have hii : (listed.setIfInBounds i true).getD i false = true := by
     rw [Array.getD_eq_getD_getElem?, Array.getElem?_setIfInBounds, if_pos rfl, if_pos hlt]; rfl
    rw [put_ne a o.dst s v (hs i o hii hol)]
    refine J.out s fun j o' hj hoj => hs j o' ?_ hoj
    by_cases hji : j = i
    ·subst hji; exact hii
    ·rw [Array.getD_eq_getD_getElem?, Array.getElem?_setIfInBounds, if_neg (fun e => hji e.symm), ← Array.getD_eq_getD_getElem?]; exact hj
   ·intro j o' hj hoj e hem hb
    have hstep : ∀ m, listed.getD m false = true → (listed.setIfInBounds i true).getD m false = true := by
     intro m hm
     by_cases hmi : m = i
     ·subst hmi; rw [Array.getD_eq_getD_getElem?, Array.getElem?_setIfInBounds, if_pos rfl, if_pos hlt]; rfl
     ·rw [Array.getD_eq_getD_getElem?, Array.getElem?_setIfInBounds, if_neg (fun e => hmi e.symm), ← Array.getD_eq_getD_getElem?]; exact hm
    by_cases hji : j = i
    ·subst hji
     rw [hol] at hoj
     cases hoj
     exact hstep _ (hdep e hem hb)
    ·refine hstep _ (J.closed j o' ?_ hoj e hem hb)
     rw [Array.getD_eq_getD_getElem?, Array.getElem?_setIfInBounds, if_neg (fun e => hji e.symm)] at hj
     rw [Array.getD_eq_getD_getElem?]; exact hj
   ·exact hIS _ _ J.low hS
   ·intro hpre
    have hne : (some i == q) = false := by
     rw [beq_eq_false_iff_ne]
     intro e
     have := hpre i e.symm
     rw [Array.getD_eq_getD_getElem?, Array.getElem?_setIfInBounds, if_pos rfl, if_pos hlt] at this
     cases this
    have hbw2 : Below w.heap.size w w' := by unfold stepR at hbw; rw [hne] at hbw; exact hbw
    have hpr : Below W.heap.size W w := J.pre fun j hj => by
     have := hpre j hj
     by_cases hji : j = i
     ·subst hji; exact h1f
     ·rw [Array.getD_eq_getD_getElem?, Array.getElem?_setIfInBounds, if_neg (fun e => hji e.symm), ← Array.getD_eq_getD_getElem?] at this; exact this
    exact hpr.trans (hbw2.mono hpr.size)
   ·intro j hj
    unfold factAt3
    cases hoj : l[j]? with
    | none => trivial
    | some o' =>
     obtain ⟨d', hd', _⟩ := obs_some hd hoj
     simp only [hd']
     by_cases hji : j = i
     ·subst hji
      rw [hol] at hoj
      cases hoj
      rw [hob] at hd'
      cases hd'
      rw [put_obs a hob v (by rw [J.size]; exact hdn)]
      exact hv
     ·rw [put_ne a o.dst d' v (by
       intro hdd
       rcases obs_ne hd hoj hol hd' hdd hji with h | ⟨e, he, hb, hei⟩
       ·exact h rfl
       ·have := J.closed j o' (by
         rw [Array.getD_eq_getD_getElem?, Array.getElem?_setIfInBounds, if_neg (fun e => hji e.symm)] at hj
         rw [Array.getD_eq_getD_getElem?]; exact hj) hoj e he hb
        rw [hei, h1f] at this; cases this)]
      have hjl : listed.getD j false = true := by
       rw [Array.getD_eq_getD_getElem?, Array.getElem?_setIfInBounds, if_neg (fun e => hji e.symm)] at hj
       rw [Array.getD_eq_getD_getElem?]; exact hj
      have := J.facts j hjl
      unfold factAt3 at this
      rw [hoj] at this
      simp only [hd'] at this
      by_cases hjq : some j = q
      ·unfold stepR at hbw
       rw [show (some i == q) = false from by rw [beq_eq_false_iff_ne, ← hjq]; intro e; exact hji (by simpa using e.symm)] at hbw
       exact (keepsR_out sat q hk).2 j _ _ _ hjq this J.low hbw
      ·exact (keepsR_out sat q hk).1 j _ _ _ hjq this J.low hS
   ·rw [Array.size_setIfInBounds]; exact J.lsize
  ·rw [Array.toList_setIfInBounds, List.count_set (by simpa using hlt)]
   have h2 : listed.toList[i]'(by simpa using hlt) = false := by
    rw [Array.getD_eq_getD_getElem?, Array.getElem?_eq_getElem hlt] at h1
    simpa using h1
   rw [h2, if_pos (show (false == false) = true from rfl), if_neg (by decide)]
   omega
theorem wp_region_rel {P : Program} {id : Nat} {l : List Oper} {Q : Exit → Act → World → Prop} {a : Act} {w : World} (sat : List Fact) (fin : List Bool) (I : World → Prop) (S : World → World → Prop) (q : Option Nat) (hm : P.follows .mixedOrders = true) (hk : KeepsR I S q sat) (h0 : I w.drew) (h12 : ∀ x y, I x → Below x.heap.size x y → S x y) (hIS : ∀ x y, I x → S x y → I y) (hd : dstOk3 l a.tmps.size = true) (he : edgesOk3 l = true)
  (hops : OwedAll7 P l Q sat I S q a w 0 l)
  (hend : ∀ (f : Nat → Value) (w' : World), I w' → factsAll3 sat fin f w' 0 l → Q .normal (frameOf l a f) w') :
  (Code.region id l.toArray true).wp P Q a w := by
 refine wp_region_any hm (once7_any hk h12 hIS hd he hops ?_ _ _ _ _ ⟨rfl, rfl, fun _ _ => rfl, ?_, h0, fun _ => ⟨rfl, rfl, rfl, Nat.le_refl _, fun _ _ => rfl⟩, ?_, by simp⟩ ?_)
 ·intro a' w' h1 h2 h3 h4 h5
  rw [once_frame h1 h2 h3]
  refine hend _ w' h4 (factsAll3_mk l 0 ?_)
  intro i o d ho hdd hfi
  have hil : i < l.length := by
   rcases Nat.lt_or_ge i l.length with h | h
   ·exact h
   ·rw [List.getElem?_eq_none h] at ho; cases ho
  have := h5 i hil
  unfold factAt3 at this
  rw [ho] at this
  simp only [hdd] at this
  rw [Nat.zero_add]
  exact this
 ·intro i _ hi
  exfalso
  rw [Array.getD_eq_getD_getElem?, Array.getElem?_replicate] at hi
  split at hi <;> simp at hi
 ·intro i hi
  exfalso
  rw [Array.getD_eq_getD_getElem?, Array.getElem?_replicate] at hi
  split at hi <;> simp at hi
 ·simp
theorem owed7_go {P : Program} {l : List Oper} {Q : Exit → Act → World → Prop} {sat : List Fact} {I : World → Prop} {S : World → World → Prop} {q : Option Nat} {a0 : Act} {W : World} {i : Nat} {o : Oper}
  (h : ∀ (a : Act) (w : World), I w → (waitsB l q i = true → Below W.heap.size W w) → (∀ s, freeAt l i s = true → a.tmps[s]?.getD undef = a0.tmps[s]?.getD undef) → factsOf7 sat l a w o.after.toList →
   Region.wanted o (yielded l.toArray a.tmps) = true ∧ ∀ K : Act → World → Prop, (∀ v w', (sat.getD i (fun _ _ => True)) (seenBy o a v) w' → stepR S q i w w' → K (a.put o.dst v) w') → Oper.wp P o a w K Q) : Owed7 P l Q sat I S q a0 W i o := by
 intro a w hb hq ho hf K hK
 rw [if_pos (h a w hb hq ho hf).1]
 exact (h a w hb hq ho hf).2 K hK
/-- an operation whose guard does not hold leaves nothing -/
theorem wanted_off7 {o : Oper} {ops : Array Oper} {tmps : Array Value} {j : Nat} {b : Bool} {oj : Oper} {s : Tmp} {v : Value} (hg : o.guard = some (j, b)) (hj : ops[j]? = some oj) (hs : oj.dst = some s) (hv : tmps[s]?.getD undef = v) (hne : v ≠ .bool b) : Region.wanted o (yielded ops tmps) = false := by
 have hy : yielded ops tmps j ≠ some b := by
  unfold yielded
  rw [hj, Option.bind_some, hs, Option.bind_some]
  cases ht : tmps[s]? with
  | none => simp
  | some x =>
   rw [ht] at hv
   have hx : x = v := hv
   subst hx
   intro h
   cases x <;> simp_all
 unfold Region.wanted
 rw [hg]
 simp [hy]
theorem owed7_off {P : Program} {l : List Oper} {Q : Exit → Act → World → Prop} {sat : List Fact} {I : World → Prop} {S : World → World → Prop} {q : Option Nat} {a0 : Act} {W : World} {i : Nat} {o : Oper} {d : Tmp} (hd : o.dst = some d) (hs : sat.getD i (fun _ _ => True) = fun v _ => v = undef) (hq : (some i == q) = false)
  (h : ∀ (a : Act) (w : World), factsOf7 sat l a w o.after.toList → Region.wanted o (yielded l.toArray a.tmps) = false) : Owed7 P l Q sat I S q a0 W i o := by
 intro a w hb _ ho hf K hK
 rw [if_neg (by rw [h a w hf]; simp)]
 exact hK undef w (by rw [hs]; unfold seenBy; rw [hd]) (stepR_no hq (Below.refl _ _))
end Go.Proofs.YtngealmhgkoaiaaGreat
/- As OnceRel, and the last operation, which waits for all others, may change whatever memory. -/
namespace Go.Proofs.YtngealmhgkoaiaaGreat
open Go.RowKit
set_option linter.unusedVariables false
/-- the last operation waits for all others, be it through others, and only its fact is wanted at the end -/
def lastZ (l : List Oper) (fin : List Bool) (z : Nat) : Bool :=
 decide (z + 1 = l.length) && (List.range l.length).all fun i => i == z || (!fin.getD i false && (List.range l.length).any fun j => decide (i < j) && match l[j]? with | some o => o.after.toList.any fun e => Region.binds .any e && e.on == i | none => false)
theorem lastZ_out {l : List Oper} {fin : List Bool} {z : Nat} (h : lastZ l fin z = true) : z + 1 = l.length ∧ ∀ i, i < l.length → i ≠ z → fin.getD i false = false ∧ ∃ j o, i < j ∧ j < l.length ∧ l[j]? = some o ∧ ∃ e ∈ o.after.toList, Region.binds .any e = true ∧ e.on = i := by
 unfold lastZ at h
 rw [Bool.and_eq_true, decide_eq_true_iff] at h
 refine ⟨h.1, fun i hi hne => ?_⟩
 have h2 := List.all_eq_true.1 h.2 i (List.mem_range.2 hi)
 rw [Bool.or_eq_true, beq_iff_eq, Bool.and_eq_true, Bool.not_eq_true'] at h2
 rcases h2 with h2 | ⟨h2, h3⟩
 ·exact absurd h2 hne
 ·refine ⟨h2, ?_⟩
  obtain ⟨j, hj, h3⟩ := List.any_eq_true.1 h3
  rw [Bool.and_eq_true, decide_eq_true_iff] at h3
  obtain ⟨hij, h3⟩ := h3
  cases ho : l[j]? with
  | none => rw [ho] at h3; cases h3
  | some o =>
   rw [ho] at h3
   simp only [List.any_eq_true, Bool.and_eq_true, beq_iff_eq] at h3
   obtain ⟨e, he, hb, hei⟩ := h3
   exact ⟨j, o, hij, List.mem_range.1 hj, ho, e, he, hb, hei⟩
theorem lastZ_all {l : List Oper} {fin : List Bool} {z : Nat} (h : lastZ l fin z = true) {listed : Array Bool} (hc : ∀ j o, listed.getD j false = true → l[j]? = some o → ∀ e ∈ o.after.toList, Region.binds .any e = true → listed.getD e.on false = true) (hz : listed.getD z false = true) :
  ∀ n i, l.length - i ≤ n → i < l.length → listed.getD i false = true := by
 intro n
 induction n with
 | zero => intro i h1 h2; omega
 | succ n ih =>
  intro i h1 h2
  by_cases hiz : i = z
  ·rw [hiz]; exact hz
  ·obtain ⟨_, j, o, hij, hj, ho, e, he, hb, hei⟩ := (lastZ_out h).2 i h2 hiz
   have := hc j o (ih j (by omega) hj) ho e he hb
   rw [hei] at this; exact this
/-- what is owed for one operation -/
def Owed8 (P : Program) (l : List Oper) (Q : Exit → Act → World → Prop) (sat : List Fact) (I : World → Prop) (S : World → World → Prop) (q : Option Nat) (z : Nat) (a0 : Act) (W : World) (i : Nat) (o : Oper) : Prop :=
 ∀ (a : Act) (w : World), I w → (waitsB l q i = true → Below W.heap.size W w) → (∀ s, freeAt l i s = true → a.tmps[s]?.getD undef = a0.tmps[s]?.getD undef) → factsOf7 sat l a w o.after.toList →
  ∀ K : Act → World → Prop, (∀ v w', (sat.getD i (fun _ _ => True)) (seenBy o a v) w' → (i ≠ z → stepR S q i w w') → K (a.put o.dst v) w') →
   if Region.wanted o (yielded l.toArray a.tmps) = true then Oper.wp P o a w K Q else K (a.put o.dst undef) w
def OwedAll8 (P : Program) (l : List Oper) (Q : Exit → Act → World → Prop) (sat : List Fact) (I : World → Prop) (S : World → World → Prop) (q : Option Nat) (z : Nat) (a0 : Act) (W : World) : Nat → List Oper → Prop
 | _, [] => True
 | i, o :: os => Owed8 P l Q sat I S q z a0 W i o ∧ OwedAll8 P l Q sat I S q z a0 W (i + 1) os
theorem OwedAll8.nil {P : Program} {l : List Oper} {Q : Exit → Act → World → Prop} {sat : List Fact} {I : World → Prop} {S : World → World → Prop} {q : Option Nat} {z : Nat} {a0 : Act} {W : World} {i : Nat} : OwedAll8 P l Q sat I S q z a0 W i [] := trivial
theorem OwedAll8.cons {P : Program} {l : List Oper} {Q : Exit → Act → World → Prop} {sat : List Fact} {I : World → Prop} {S : World → World → Prop} {q : Option Nat} {z : Nat} {a0 : Act} {W : World} {i : Nat} {o : Oper} {os : List Oper} (h : Owed8 P l Q sat I S q z a0 W i o) (t : OwedAll8 P l Q sat I S q z a0 W (i + 1) os) : OwedAll8 P l Q sat I S q z a0 W i (o :: os) := ⟨h, t⟩
theorem owedAll8_get {P : Program} {l : List Oper} {Q : Exit → Act → World → Prop} {sat : List Fact} {I : World → Prop} {S : World → World → Prop} {q : Option Nat} {z : Nat} {a0 : Act} {W : World} : ∀ (os : List Oper) (k : Nat), OwedAll8 P l Q sat I S q z a0 W k os → ∀ i o, os[i]? = some o → Owed8 P l Q sat I S q z a0 W (k + i) o := by
 intro os
 induction os with
 | nil => intro k _ i o h; simp at h
 | cons x os ih =>
  intro k h i o ho
  cases i with
  | zero => simp at ho; subst ho; exact h.1
  | succ i =>
   have := ih (k + 1) h.2 i o (by simpa using ho)
   rw [show k + (i + 1) = k + 1 + i by omega]; exact this
structure OnceJ8 (l : List Oper) (sat : List Fact) (I : World → Prop) (q : Option Nat) (z : Nat) (a0 : Act) (W : World) (listed : Array Bool) (a : Act) (w : World) : Prop where
 size : a.tmps.size = a0.tmps.size
 defers : a.defers = a0.defers
 out : ∀ s, (∀ j o, listed.getD j false = true → l[j]? = some o → o.dst ≠ some s) → a.tmps[s]?.getD undef = a0.tmps[s]?.getD undef
 closed : ∀ j o, listed.getD j false = true → l[j]? = some o → ∀ e ∈ o.after.toList, Region.binds .any e = true → listed.getD e.on false = true
 low : listed.getD z false = false → I w
 pre : listed.getD z false = false → (∀ j, q = some j → listed.getD j false = false) → Below W.heap.size W w
 facts : ∀ i, listed.getD i false = true → (i = z ∨ listed.getD z false = false) → factAt3 sat l a w i
 lsize : listed.size = l.length
theorem once8_any {P : Program} {l : List Oper} {Q : Exit → Act → World → Prop} {sat : List Fact} {fin : List Bool} {I : World → Prop} {S : World → World → Prop} {q : Option Nat} {z : Nat} {a0 : Act} {W : World} (hk : KeepsR I S q (sat.set z fun _ _ => True)) (h12 : ∀ x y, I x → Below x.heap.size x y → S x y) (hIS : ∀ x y, I x → S x y → I y) (hd : dstOk3 l a0.tmps.size = true) (he : edgesOk3 l = true) (hla : lastZ l fin z = true)
  (hops : OwedAll8 P l Q sat I S q z a0 W 0 l)
  (hend : ∀ (a : Act) (w : World), a.tmps.size = a0.tmps.size → a.defers = a0.defers → (∀ s, (dstsOf l).contains s = false → a.tmps[s]?.getD undef = a0.tmps[s]?.getD undef) → (∀ i, i < l.length → fin.getD i false = true → factAt3 sat l a w i) → Q .normal a w) :
  ∀ (fuel : Nat) (listed : Array Bool) (a : Act) (w : World), OnceJ8 l sat I q z a0 W listed a w → listed.toList.count false ≤ fuel → wpAny P .any l.toArray Q fuel listed a w := by
 intro fuel
 have hfin : ∀ (listed : Array Bool) (a : Act) (w : World), OnceJ8 l sat I q z a0 W listed a w → Region.ready .any l.toArray listed = [] → Q .normal a w := by
  intro listed a w J hr
  refine hend a w J.size J.defers (fun s hs => J.out s fun j o _ ho hd' => ?_) fun i hi hfi => J.facts i ?_ (.inl (Classical.byContradiction fun hne => by rw [((lastZ_out hla).2 i hi hne).1] at hfi; cases hfi))
  ·have : (dstsOf l).contains s = true := by
    rw [List.contains_iff_mem]
    exact List.mem_filterMap.2 ⟨o, List.mem_of_getElem? ho, hd'⟩
   rw [this] at hs; cases hs
  cases hb : listed.getD i false with
  | true => rfl
  | false => exact absurd hr (ready_some3 he J.lsize hi hb)
 induction fuel with
 | zero =>
  intro listed a w J hc
  have hr : Region.ready .any l.toArray listed = [] := by
   refine Classical.byContradiction fun hn => ?_
   obtain ⟨i, hi⟩ := List.exists_mem_of_ne_nil _ hn
   have h1 := (mem_ready.1 hi).1
   have hlt : i < listed.size := by
    rcases Nat.lt_or_ge i listed.size with h | h
    ·exact h
    ·rw [Array.getD_eq_getD_getElem?, Array.getElem?_eq_none h] at h1; simp at h1
   rw [Array.getD_eq_getD_getElem?, Array.getElem?_eq_getElem hlt] at h1
   have h2 : false ∈ listed.toList := by
    rw [← show listed[i] = false from h1]
    simp
   have := List.count_pos_iff.2 h2
   omega
  exact ⟨hr, hfin listed a w J hr⟩
 | succ fuel ih =>
  intro listed a w J hc
  refine ⟨hfin listed a w J, ?_⟩
  intro i hi
  obtain ⟨o, ho, hdep⟩ := ready_spec hi
  have h1 := (mem_ready.1 hi).1
  have hol : l[i]? = some o := by simpa using ho
  have hil : i < l.length := by
   rcases Nat.lt_or_ge i l.length with h | h
   ·exact h
   ·rw [List.getElem?_eq_none h] at hol; cases hol
  have hlt : i < listed.size := by rw [J.lsize]; exact hil
  obtain ⟨d, hob, hdn⟩ := obs_some hd hol
  refine wpOp_step ho ?_
  intro K' hK'
  have hO := owedAll8_get l 0 hops i o hol
  rw [Nat.zero_add] at hO
  have h1f : listed.getD i false = false := by
   rw [Array.getD_eq_getD_getElem?, Array.getElem?_eq_getElem hlt] at h1 ⊢
   exact h1
  have hfree : ∀ s, freeAt l i s = true → a.tmps[s]?.getD undef = a0.tmps[s]?.getD undef := by
   intro s hs
   refine J.out s fun j o' hj hoj hds => ?_
   have hjl : j < l.length := by
    rcases Nat.lt_or_ge j l.length with h | h
    ·exact h
    ·rw [List.getElem?_eq_none h] at hoj; cases hoj
   have := List.all_eq_true.1 hs j (List.mem_range.2 hjl)
   rw [hoj] at this
   simp only [Bool.or_eq_true, bne_iff_ne, beq_iff_eq, List.any_eq_true, Bool.and_eq_true] at this
   rcases this with (h | h) | ⟨e, he, hb, hei⟩
   ·exact h hds
   ·subst h; rw [h1f] at hj; cases hj
   ·have := J.closed j o' hj hoj e he hb
    rw [hei, h1f] at this; cases this
  have hz : listed.getD z false = false := by
   cases hl : listed.getD z false with
   | false => rfl
   | true =>
    have := lastZ_all hla J.closed hl _ i (Nat.le_refl _) hil
    rw [h1f] at this; cases this
  have hzn : (listed.setIfInBounds i true).getD z false = false → i ≠ z := by
   intro h e
   subst e
   rw [Array.getD_eq_getD_getElem?, Array.getElem?_setIfInBounds, if_pos rfl, if_pos hlt] at h
   cases h
  refine hO a w (J.low hz) (fun hqi => J.pre hz fun j hj => by
   subst hj
   unfold waitsB at hqi
   simp only [Bool.or_eq_true, beq_iff_eq] at hqi
   rcases hqi with rfl | hqi
   ·exact h1f
   ·cases hoj : l[j]? with
    | none => rw [hoj] at hqi; cases hqi
    | some oj =>
     rw [hoj] at hqi
     simp only [List.any_eq_true, Bool.and_eq_true, beq_iff_eq] at hqi
     obtain ⟨e, he, hb, hei⟩ := hqi
     cases hl : listed.getD j false with
     | false => rfl
     | true =>
      have := J.closed j oj hl hoj e he hb
      rw [hei, h1f] at this; cases this) hfree (factsOf7_mk _ fun e hm hb => J.facts _ (hdep e hm hb) (.inr hz)) K' ?_
  intro v w' hv hbw
  have hS : i ≠ z → S w w' := by
   intro hiz
   have hbw := hbw hiz
   unfold stepR at hbw
   cases hq : some i == q with
   | true => rw [hq] at hbw; exact hbw
   | false => rw [hq] at hbw; exact h12 _ _ (J.low hz) hbw
  refine hK' _ _ (ih _ _ _ ?_ ?_)
  ·constructor
   ·rw [put_size]; exact J.size
   ·rw [put_defers]; exact J.defers
   ·intro s hs
    have hii : (listed.setIfInBounds i true).getD i false = true := by
     rw [Array.getD_eq_getD_getElem?, Array.getElem?_setIfInBounds, if_pos rfl, if_pos hlt]; rfl
    rw [put_ne a o.dst s v (hs i o hii hol)]
    refine J.out s fun j o' hj hoj => hs j o' ?_ hoj
    by_cases hji : j = i
    ·subst hji; exact hii
    ·rw [Array.getD_eq_getD_getElem?, Array.getElem?_setIfInBounds, if_neg (fun e => hji e.symm), ← Array.getD_eq_getD_getElem?]; exact hj
   ·intro j o' hj hoj e hem hb
    have hstep : ∀ m, listed.getD m false = true → (listed.setIfInBounds i true).getD m false = true := by
     intro m hm
     by_cases hmi : m = i
     ·subst hmi; rw [Array.getD_eq_getD_getElem?, Array.getElem?_setIfInBounds, if_pos rfl, if_pos hlt]; rfl
     ·rw [Array.getD_eq_getD_getElem?, Array.getElem?_setIfInBounds, if_neg (fun e => hmi e.symm), ← Array.getD_eq_getD_getElem?]; exact hm
    by_cases hji : j = i
    ·subst hji
     rw [hol] at hoj
     cases hoj
     exact hstep _ (hdep e hem hb)
    ·refine hstep _ (J.closed j o' ?_ hoj e hem hb)
     rw [Array.getD_eq_getD_getElem?, Array.getElem?_setIfInBounds, if_neg (fun e => hji e.symm)] at hj
     rw [Array.getD_eq_getD_getElem?]; exact hj
   ·intro h
    exact hIS _ _ (J.low hz) (hS (hzn h))
   ·intro hz2 hpre
    have hbw := hbw (hzn hz2)
    have hne : (some i == q) = false := by
     rw [beq_eq_false_iff_ne]
     intro e
     have := hpre i e.symm
     rw [Array.getD_eq_getD_getElem?, Array.getElem?_setIfInBounds, if_pos rfl, if_pos hlt] at this
     cases this
    have hbw2 : Below w.heap.size w w' := by unfold stepR at hbw; rw [hne] at hbw; exact hbw
    have hpr : Below W.heap.size W w := J.pre hz fun j hj => by
     have := hpre j hj
     by_cases hji : j = i
     ·subst hji; exact h1f
     ·rw [Array.getD_eq_getD_getElem?, Array.getElem?_setIfInBounds, if_neg (fun e => hji e.symm), ← Array.getD_eq_getD_getElem?] at this; exact this
    exact hpr.trans (hbw2.mono hpr.size)
   ·intro j hj hjz
    unfold factAt3
    cases hoj : l[j]? with
    | none => trivial
    | some o' =>
     obtain ⟨d', hd', _⟩ := obs_some hd hoj
     simp only [hd']
     by_cases hji : j = i
     ·subst hji
      rw [hol] at hoj
      cases hoj
      rw [hob] at hd'
      cases hd'
      rw [put_obs a hob v (by rw [J.size]; exact hdn)]
      exact hv
     ·rw [put_ne a o.dst d' v (by
       intro hdd
       rcases obs_ne hd hoj hol hd' hdd hji with h | ⟨e, he, hb, hei⟩
       ·exact h rfl
       ·have := J.closed j o' (by
         rw [Array.getD_eq_getD_getElem?, Array.getElem?_setIfInBounds, if_neg (fun e => hji e.symm)] at hj
         rw [Array.getD_eq_getD_getElem?]; exact hj) hoj e he hb
        rw [hei, h1f] at this; cases this)]
      have hjl : listed.getD j false = true := by
       rw [Array.getD_eq_getD_getElem?, Array.getElem?_setIfInBounds, if_neg (fun e => hji e.symm)] at hj
       rw [Array.getD_eq_getD_getElem?]; exact hj
      have hiz : i ≠ z := by
       rcases hjz with h | h
       ·intro e; exact hji (by rw [h, e])
       ·exact hzn h
      have hbw := hbw hiz
      have hS := hS hiz
      have := J.facts j hjl (.inr hz)
      unfold factAt3 at this
      rw [hoj] at this
      simp only [hd'] at this
      have hjz2 : j ≠ z := by
       intro e
       rw [e, hz] at hjl; cases hjl
      have hset : (sat.set z fun _ _ => True).getD j (fun _ _ => True) = sat.getD j (fun _ _ => True) := by
       rw [List.getD_eq_getElem?_getD, List.getElem?_set_ne (fun e => hjz2 e.symm), ← List.getD_eq_getElem?_getD]
      by_cases hjq : some j = q
      ·unfold stepR at hbw
       rw [show (some i == q) = false from by rw [beq_eq_false_iff_ne, ← hjq]; intro e; exact hji (by simpa using e.symm)] at hbw
       exact hset ▸ (keepsR_out _ q hk).2 j _ _ _ hjq (hset ▸ this) (J.low hz) hbw
      ·exact hset ▸ (keepsR_out _ q hk).1 j _ _ _ hjq (hset ▸ this) (J.low hz) hS
   ·rw [Array.size_setIfInBounds]; exact J.lsize
  ·rw [Array.toList_setIfInBounds, List.count_set (by simpa using hlt)]
   have h2 : listed.toList[i]'(by simpa using hlt) = false := by
    rw [Array.getD_eq_getD_getElem?, Array.getElem?_eq_getElem hlt] at h1
    simpa using h1
   rw [h2, if_pos (show (false == false) = true from rfl), if_neg (by decide)]
   omega
theorem wp_region_rel_last {P : Program} {id : Nat} {l : List Oper} {Q : Exit → Act → World → Prop} {a : Act} {w : World} (sat : List Fact) (fin : List Bool) (I : World → Prop) (S : World → World → Prop) (q : Option Nat) (z : Nat) (hm : P.follows .mixedOrders = true) (hk : KeepsR I S q (sat.set z fun _ _ => True)) (h0 : I w.drew) (h12 : ∀ x y, I x → Below x.heap.size x y → S x y) (hIS : ∀ x y, I x → S x y → I y) (hd : dstOk3 l a.tmps.size = true) (he : edgesOk3 l = true) (hla : lastZ l fin z = true)
  (hops : OwedAll8 P l Q sat I S q z a w 0 l)
  (hend : ∀ (f : Nat → Value) (w' : World), factsAll3 sat fin f w' 0 l → Q .normal (frameOf l a f) w') :
  (Code.region id l.toArray true).wp P Q a w := by
 refine wp_region_any hm (once8_any hk h12 hIS hd he hla hops ?_ _ _ _ _ ⟨rfl, rfl, fun _ _ => rfl, ?_, fun _ => h0, fun _ _ => ⟨rfl, rfl, rfl, Nat.le_refl _, fun _ _ => rfl⟩, ?_, by simp⟩ ?_)
 ·intro a' w' h1 h2 h3 h5
  rw [once_frame h1 h2 h3]
  refine hend _ w' (factsAll3_mk l 0 ?_)
  intro i o d ho hdd hfi
  have hil : i < l.length := by
   rcases Nat.lt_or_ge i l.length with h | h
   ·exact h
   ·rw [List.getElem?_eq_none h] at ho; cases ho
  have := h5 i hil (by simpa using hfi)
  unfold factAt3 at this
  rw [ho] at this
  simp only [hdd] at this
  rw [Nat.zero_add]
  exact this
 ·intro i _ hi
  exfalso
  rw [Array.getD_eq_getD_getElem?, Array.getElem?_replicate] at hi
  split at hi <;> simp at hi
 ·intro i hi _
  exfalso
  rw [Array.getD_eq_getD_getElem?, Array.getElem?_replicate] at hi
  split at hi <;> simp at hi
 ·simp
theorem owed8_go {P : Program} {l : List Oper} {Q : Exit → Act → World → Prop} {sat : List Fact} {I : World → Prop} {S : World → World → Prop} {q : Option Nat} {z : Nat} {a0 : Act} {W : World} {i : Nat} {o : Oper}
  (h : ∀ (a : Act) (w : World), I w → (waitsB l q i = true → Below W.heap.size W w) → (∀ s, freeAt l i s = true → a.tmps[s]?.getD undef = a0.tmps[s]?.getD undef) → factsOf7 sat l a w o.after.toList →
   Region.wanted o (yielded l.toArray a.tmps) = true ∧ ∀ K : Act → World → Prop, (∀ v w', (sat.getD i (fun _ _ => True)) (seenBy o a v) w' → (i ≠ z → stepR S q i w w') → K (a.put o.dst v) w') → Oper.wp P o a w K Q) : Owed8 P l Q sat I S q z a0 W i o := by
 intro a w hb hq ho hf K hK
 rw [if_pos (h a w hb hq ho hf).1]
 exact (h a w hb hq ho hf).2 K hK
end Go.Proofs.YtngealmhgkoaiaaGreat
/- Drawn regions: operations whose guards do not hold. -/
namespace Go.Proofs.YtngealmhgkoaiaaGreat
open Go.RowKit
set_option linter.unusedVariables false
/-- an operation whose guard does not hold leaves nothing -/
theorem wanted_off {o : Oper} {ops : Array Oper} {tmps : Array Value} {j : Nat} {b : Bool} {oj : Oper} {s : Tmp} {v : Value} (hg : o.guard = some (j, b)) (hj : ops[j]? = some oj) (hs : oj.dst = some s) (hv : tmps[s]?.getD undef = v) (hne : v ≠ .bool b) : Region.wanted o (yielded ops tmps) = false := by
 have hy : yielded ops tmps j ≠ some b := by
  unfold yielded
  rw [hj, Option.bind_some, hs, Option.bind_some]
  cases ht : tmps[s]? with
  | none => simp
  | some x =>
   rw [ht] at hv
   have hx : x = v := hv
   subst hx
   intro h
   cases x <;> simp_all
 unfold Region.wanted
 rw [hg]
 simp [hy]
theorem owed2_off {P : Program} {l : List Oper} {Q : Exit → Act → World → Prop} {sat : List Fact} {st : List Bool} {a0 : Act} {W : World} {i : Nat} {o : Oper} (hs : sat.getD i (fun _ _ => True) = fun v _ => v = undef)
  (h : ∀ (a : Act) (w : World), Below W.heap.size W w → (∀ s, freeAt l i s = true → a.tmps[s]?.getD undef = a0.tmps[s]?.getD undef) → factsOf sat l a w o.after.toList → Region.wanted o (yielded l.toArray a.tmps) = false) : Owed2 P l Q sat st a0 W i o := by
 intro a w hb ho hf K hK
 rw [if_neg (by rw [h a w hb ho hf]; simp)]
 exact hK undef w (by rw [hs]) (Below.refl _ _)

end Go.Proofs.YtngealmhgkoaiaaGreat
