/- A region that draws its order, whose operations make memory and change none: each operation is shown once, whatever ran ahead of it. -/
import Derived.Test.YtohldijomcljkaaZHashTrees00
import Derived.RegionTactic
import Derived.Test.YtohldijomcljkaaZHashTrees03
namespace Go.Proofs.Ytohldijomcljkaa
open Go.RowKit
set_option linter.unusedVariables false
abbrev Fact := Value → World → Prop
/-- what is known of the value that the operation i has left -/
def factAt (sat : List Fact) (l : List Oper) (a : Act) (w : World) (i : Nat) : Prop :=
  match l[i]? with
  | some o => match o.dst with
    | some d => (sat.getD i (fun _ _ => True)) (a.tmps[d]?.getD undef) w
    | none => True
  | none => True
def factsOf (sat : List Fact) (l : List Oper) (a : Act) (w : World) : List Edge → Prop
  | [] => True
  | e :: es => (if Region.binds .any e = true then factAt sat l a w e.on else True) ∧ factsOf sat l a w es
theorem factsOf_mk {sat : List Fact} {l : List Oper} {a : Act} {w : World} : ∀ es : List Edge, (∀ e ∈ es, Region.binds .any e = true → factAt sat l a w e.on) → factsOf sat l a w es := by
  intro es
  induction es with
  | nil => intro _; trivial
  | cons e es ih =>
    intro h
    refine ⟨?_, ih fun x hx => h x (by simp [hx])⟩
    split
    · rename_i hb; exact h e (by simp) hb
    · trivial
/-- which slots the region writes -/
def dstsOf (l : List Oper) : List Tmp := l.filterMap (·.dst)
/-- may the operation i read the slot s as it stood ahead of the region? -/
def freeAt (l : List Oper) (i : Nat) (s : Tmp) : Bool :=
  (List.range l.length).all fun j => match l[j]? with
    | some o => o.dst != some s || j == i || o.after.toList.any fun e => Region.binds .any e && e.on == i
    | none => true
/-- what is owed for one operation -/
def Owed (P : Program) (l : List Oper) (Q : Exit → Act → World → Prop) (sat : List Fact) (a0 : Act) (W : World) (i : Nat) (o : Oper) : Prop :=
  ∀ (a : Act) (w : World), Below W.heap.size W w → (∀ s, freeAt l i s = true → a.tmps[s]?.getD undef = a0.tmps[s]?.getD undef) → factsOf sat l a w o.after.toList →
    ∀ K : Act → World → Prop, (∀ v w', (sat.getD i (fun _ _ => True)) v w' → Below w.heap.size w w' → K (a.put o.dst v) w') →
      if Region.wanted o (yielded l.toArray a.tmps) = true then Oper.wp P o a w K Q else K (a.put o.dst undef) w
def OwedAll (P : Program) (l : List Oper) (Q : Exit → Act → World → Prop) (sat : List Fact) (a0 : Act) (W : World) : Nat → List Oper → Prop
  | _, [] => True
  | i, o :: os => Owed P l Q sat a0 W i o ∧ OwedAll P l Q sat a0 W (i + 1) os
theorem OwedAll.nil {P : Program} {l : List Oper} {Q : Exit → Act → World → Prop} {sat : List Fact} {a0 : Act} {W : World} {i : Nat} : OwedAll P l Q sat a0 W i [] := trivial
theorem OwedAll.cons {P : Program} {l : List Oper} {Q : Exit → Act → World → Prop} {sat : List Fact} {a0 : Act} {W : World} {i : Nat} {o : Oper} {os : List Oper} (h : Owed P l Q sat a0 W i o) (t : OwedAll P l Q sat a0 W (i + 1) os) : OwedAll P l Q sat a0 W i (o :: os) := ⟨h, t⟩
theorem owedAll_get {P : Program} {l : List Oper} {Q : Exit → Act → World → Prop} {sat : List Fact} {a0 : Act} {W : World} : ∀ (os : List Oper) (k : Nat), OwedAll P l Q sat a0 W k os → ∀ i o, os[i]? = some o → Owed P l Q sat a0 W (k + i) o := by
  intro os
  induction os with
  | nil => intro k _ i o h; simp at h
  | cons x os ih =>
    intro k h i o ho
    cases i with
    | zero => simp at ho; subst ho; exact h.1
    | succ i =>
      have := ih (k + 1) h.2 i o (by simpa using ho)
      rw [show k + (i + 1) = k + 1 + i by omega]; exact this
/-- the facts keep, whatever is laid behind -/
def Keeps (sat : List Fact) : Prop := ∀ (i : Nat) v w w', (sat.getD i (fun _ _ => True)) v w → Below w.heap.size w w' → (sat.getD i (fun _ _ => True)) v w'
theorem keeps_nil : Keeps [] := fun i v w w' h _ => by simp
theorem keeps_cons {s : Fact} {sat : List Fact} (h : ∀ v w w', s v w → Below w.heap.size w w' → s v w') (hs : Keeps sat) : Keeps (s :: sat) := by
  intro i v w w' hv hb
  cases i with
  | zero => exact h v w w' hv hb
  | succ i => exact hs i v w w' hv hb
structure OnceJ (l : List Oper) (sat : List Fact) (a0 : Act) (W : World) (listed : Array Bool) (a : Act) (w : World) : Prop where
  size : a.tmps.size = a0.tmps.size
  defers : a.defers = a0.defers
  out : ∀ s, (∀ j o, listed.getD j false = true → l[j]? = some o → o.dst ≠ some s) → a.tmps[s]?.getD undef = a0.tmps[s]?.getD undef
  closed : ∀ j o, listed.getD j false = true → l[j]? = some o → ∀ e ∈ o.after.toList, Region.binds .any e = true → listed.getD e.on false = true
  low : Below W.heap.size W w
  facts : ∀ i, listed.getD i false = true → factAt sat l a w i
  lsize : listed.size = l.length
theorem eval_put_ne (a : Act) (d s : Tmp) (v : Value) (h : d ≠ s) : (a.put (some d) v).tmps[s]?.getD undef = a.tmps[s]?.getD undef := by
  show (a.tmps.setIfInBounds d v)[s]?.getD undef = _
  simp [h]
theorem eval_put_eq (a : Act) (d : Tmp) (v : Value) (h : d < a.tmps.size) : (a.put (some d) v).tmps[d]?.getD undef = v := by
  show (a.tmps.setIfInBounds d v)[d]?.getD undef = v
  simp [h]
def dstOk (l : List Oper) (n : Nat) : Bool := l.all (fun o => match o.dst with | some d => decide (d < n) | none => false) && (dstsOf l).Nodup
theorem dst_ne {l : List Oper} {n : Nat} (h : dstOk l n = true) {i j : Nat} {o o' : Oper} {d d' : Tmp} (hi : l[i]? = some o) (hj : l[j]? = some o') (ho : o.dst = some d) (ho' : o'.dst = some d') (hne : i ≠ j) : d ≠ d' := by
  rw [dstOk, Bool.and_eq_true, decide_eq_true_iff] at h
  obtain ⟨hall, hnd⟩ := h
  have key : ∀ (l : List Oper), (l.all (fun o => match o.dst with | some d => decide (d < n) | none => false) = true) → dstsOf l = l.map (fun o => o.dst.getD 0) := by
    intro l
    induction l with
    | nil => intro _; rfl
    | cons x l ih =>
      intro h
      rw [List.all_cons, Bool.and_eq_true] at h
      have := ih h.2
      cases hx : x.dst with
      | none => rw [hx] at h; simp at h
      | some d => simp [dstsOf, hx] at this ⊢; exact this
  rw [key l hall] at hnd
  intro e
  have h1 : (l.map (fun o => o.dst.getD 0))[i]? = some d := by simp [hi, ho]
  have h2 : (l.map (fun o => o.dst.getD 0))[j]? = some d := by simp [hj, ho', e]
  have hil : i < (l.map (fun o => o.dst.getD 0)).length := by
    rcases Nat.lt_or_ge i (l.map (fun o => o.dst.getD 0)).length with h | h
    · exact h
    · rw [List.getElem?_eq_none h] at h1; cases h1
  have hjl : j < (l.map (fun o => o.dst.getD 0)).length := by
    rcases Nat.lt_or_ge j (l.map (fun o => o.dst.getD 0)).length with h | h
    · exact h
    · rw [List.getElem?_eq_none h] at h2; cases h2
  have := (List.getElem_inj hnd (i := i) (j := j) (h₀ := hil) (h₁ := hjl)).1 (by
    rw [List.getElem?_eq_getElem hil] at h1; rw [List.getElem?_eq_getElem hjl] at h2
    simp only [Option.some.injEq] at h1 h2
    rw [h1, h2])
  exact hne this
theorem dst_some {l : List Oper} {n : Nat} (h : dstOk l n = true) {i : Nat} {o : Oper} (hi : l[i]? = some o) : ∃ d, o.dst = some d ∧ d < n := by
  rw [dstOk, Bool.and_eq_true] at h
  have := List.all_eq_true.1 h.1 o (List.mem_of_getElem? hi)
  cases hd : o.dst with
  | none => rw [hd] at this; simp at this
  | some d => rw [hd] at this; exact ⟨d, rfl, by simpa using this⟩
theorem ready_spec {ops : Array Oper} {listed : Array Bool} {i : Nat} (h : i ∈ Region.ready .any ops listed) : ∃ o, ops[i]? = some o ∧ ∀ e ∈ o.after.toList, Region.binds .any e = true → listed.getD e.on false = true := by
  rw [Region.ready, List.mem_filter] at h
  obtain ⟨_, h⟩ := h
  rw [Bool.and_eq_true] at h
  cases ho : ops[i]? with
  | none => rw [ho] at h; simp at h
  | some o =>
    refine ⟨o, rfl, ?_⟩
    intro e he hb
    have h2 := h.2
    rw [ho] at h2
    simp only [Option.map_some, Option.getD_some] at h2
    rw [Array.all_eq_true_iff_forall_mem] at h2
    have := h2 e (by simpa using he)
    rw [hb] at this
    simpa using this
def edgesOk (l : List Oper) : Bool := (List.range l.length).all fun i => match l[i]? with | some o => o.after.toList.all fun e => decide (e.on < i) | none => true
theorem edges_lt {l : List Oper} (h : edgesOk l = true) {i : Nat} {o : Oper} (hi : l[i]? = some o) : ∀ e ∈ o.after.toList, e.on < i := by
  have hil : i < l.length := by
    rcases Nat.lt_or_ge i l.length with h | h
    · exact h
    · rw [List.getElem?_eq_none h] at hi; cases hi
  have := List.all_eq_true.1 h i (List.mem_range.2 hil)
  rw [hi] at this
  intro e he
  simpa using List.all_eq_true.1 this e he
theorem ready_some {l : List Oper} (h : edgesOk l = true) {listed : Array Bool} (hs : listed.size = l.length) {i : Nat} (hi : i < l.length) (hf : listed.getD i false = false) : Region.ready .any l.toArray listed ≠ [] := by
  have : ∃ j, j < l.length ∧ listed.getD j false = false ∧ ∀ k, k < j → listed.getD k false = true := by
    induction i using Nat.strongRecOn with
    | ind i ih =>
      by_cases hall : ∀ k, k < i → listed.getD k false = true
      · exact ⟨i, hi, hf, hall⟩
      · have : ∃ k, k < i ∧ listed.getD k false = false := by
          refine Classical.byContradiction fun hn => hall fun k hk => ?_
          cases hb : listed.getD k false with
          | true => rfl
          | false => exact absurd ⟨k, hk, hb⟩ hn
        obtain ⟨k, hk, hb⟩ := this
        exact ih k hk (by omega) hb
  obtain ⟨j, hj, hjf, hjl⟩ := this
  obtain ⟨o, ho⟩ : ∃ o, l[j]? = some o := ⟨l[j], List.getElem?_eq_getElem hj⟩
  have hm : j ∈ Region.ready .any l.toArray listed := by
    rw [Region.ready, List.mem_filter]
    refine ⟨by simpa using hj, ?_⟩
    rw [Bool.and_eq_true]
    constructor
    · have : listed.getD j true = false := by
        rw [Array.getD_eq_getD_getElem?] at hjf ⊢
        rw [Array.getElem?_eq_getElem (by omega)] at hjf ⊢
        exact hjf
      rw [this]; rfl
    · have ho' : l.toArray[j]? = some o := by simpa using ho
      rw [ho', Option.map_some, Option.getD_some, Array.all_eq_true_iff_forall_mem]
      intro e he
      rw [Bool.or_eq_true]
      right
      exact hjl _ (edges_lt h ho e (by simpa using he))
  intro e
  rw [e] at hm
  cases hm
theorem once_any {P : Program} {l : List Oper} {Q : Exit → Act → World → Prop} {sat : List Fact} {a0 : Act} {W : World} (hk : Keeps sat) (hd : dstOk l a0.tmps.size = true) (he : edgesOk l = true)
    (hops : OwedAll P l Q sat a0 W 0 l)
    (hend : ∀ (a : Act) (w : World), a.tmps.size = a0.tmps.size → a.defers = a0.defers → (∀ s, (dstsOf l).contains s = false → a.tmps[s]?.getD undef = a0.tmps[s]?.getD undef) → Below W.heap.size W w → (∀ i, i < l.length → factAt sat l a w i) → Q .normal a w) :
    ∀ (fuel : Nat) (listed : Array Bool) (a : Act) (w : World), OnceJ l sat a0 W listed a w → listed.toList.count false ≤ fuel → wpAny P .any l.toArray Q fuel listed a w := by
  intro fuel
  have fin : ∀ (listed : Array Bool) (a : Act) (w : World), OnceJ l sat a0 W listed a w → Region.ready .any l.toArray listed = [] → Q .normal a w := by
    intro listed a w J hr
    refine hend a w J.size J.defers (fun s hs => J.out s fun j o _ ho hd' => ?_) J.low fun i hi => J.facts i ?_
    · have : (dstsOf l).contains s = true := by
        rw [List.contains_iff_mem]
        exact List.mem_filterMap.2 ⟨o, List.mem_of_getElem? ho, hd'⟩
      rw [this] at hs; cases hs
    cases hb : listed.getD i false with
    | true => rfl
    | false => exact absurd hr (ready_some he J.lsize hi hb)
  induction fuel with
  | zero =>
    intro listed a w J hc
    have hr : Region.ready .any l.toArray listed = [] := by
      refine Classical.byContradiction fun hn => ?_
      obtain ⟨i, hi⟩ := List.exists_mem_of_ne_nil _ hn
      have h1 := (mem_ready.1 hi).1
      have hlt : i < listed.size := by
        rcases Nat.lt_or_ge i listed.size with h | h
        · exact h
        · rw [Array.getD_eq_getD_getElem?, Array.getElem?_eq_none h] at h1; simp at h1
      rw [Array.getD_eq_getD_getElem?, Array.getElem?_eq_getElem hlt] at h1
      have h2 : false ∈ listed.toList := by
        rw [← show listed[i] = false from h1]
        simp
      have := List.count_pos_iff.2 h2
      omega
    exact ⟨hr, fin listed a w J hr⟩
  | succ fuel ih =>
    intro listed a w J hc
    refine ⟨fin listed a w J, ?_⟩
    intro i hi
    obtain ⟨o, ho, hdep⟩ := ready_spec hi
    have h1 := (mem_ready.1 hi).1
    have hol : l[i]? = some o := by simpa using ho
    have hil : i < l.length := by
      rcases Nat.lt_or_ge i l.length with h | h
      · exact h
      · rw [List.getElem?_eq_none h] at hol; cases hol
    have hlt : i < listed.size := by rw [J.lsize]; exact hil
    obtain ⟨d, hdd, hdn⟩ := dst_some hd hol
    refine wpOp_step ho ?_
    intro K' hK'
    have hO := owedAll_get l 0 hops i o hol
    rw [Nat.zero_add] at hO
    have h1f : listed.getD i false = false := by
      rw [Array.getD_eq_getD_getElem?, Array.getElem?_eq_getElem hlt] at h1 ⊢
      exact h1
    have hfree : ∀ s, freeAt l i s = true → a.tmps[s]?.getD undef = a0.tmps[s]?.getD undef := by
      intro s hs
      refine J.out s fun j o' hj hoj hds => ?_
      have hjl : j < l.length := by
        rcases Nat.lt_or_ge j l.length with h | h
        · exact h
        · rw [List.getElem?_eq_none h] at hoj; cases hoj
      have := List.all_eq_true.1 hs j (List.mem_range.2 hjl)
      rw [hoj] at this
      simp only [Bool.or_eq_true, bne_iff_ne, beq_iff_eq, List.any_eq_true, Bool.and_eq_true] at this
      rcases this with (h | h) | ⟨e, he, hb, hei⟩
      · exact h hds
      · subst h; rw [h1f] at hj; cases hj
      · have := J.closed j o' hj hoj e he hb
        rw [hei, h1f] at this; cases this
    refine hO a w J.low hfree (factsOf_mk _ fun e hm hb => J.facts _ (hdep e hm hb)) K' ?_
    intro v w' hv hbw
    refine hK' _ _ (ih _ _ _ ?_ ?_)
    · rw [hdd]
      constructor
      · show (a.tmps.setIfInBounds d v).size = _
        rw [Array.size_setIfInBounds]; exact J.size
      · exact J.defers
      · intro s hs
        have hii : (listed.setIfInBounds i true).getD i false = true := by
          rw [Array.getD_eq_getD_getElem?, Array.getElem?_setIfInBounds, if_pos rfl, if_pos hlt]; rfl
        rw [eval_put_ne a d s v (fun e => hs i o hii hol (by rw [hdd, e]))]
        refine J.out s fun j o' hj hoj => hs j o' ?_ hoj
        by_cases hji : j = i
        · subst hji; exact hii
        · rw [Array.getD_eq_getD_getElem?, Array.getElem?_setIfInBounds, if_neg (fun e => hji e.symm), ← Array.getD_eq_getD_getElem?]; exact hj
      · intro j o' hj hoj e hem hb
        have hstep : ∀ m, listed.getD m false = true → (listed.setIfInBounds i true).getD m false = true := by
          intro m hm
          by_cases hmi : m = i
          · subst hmi; rw [Array.getD_eq_getD_getElem?, Array.getElem?_setIfInBounds, if_pos rfl, if_pos hlt]; rfl
          · rw [Array.getD_eq_getD_getElem?, Array.getElem?_setIfInBounds, if_neg (fun e => hmi e.symm), ← Array.getD_eq_getD_getElem?]; exact hm
        by_cases hji : j = i
        · subst hji
          rw [hol] at hoj
          cases hoj
          exact hstep _ (hdep e hem hb)
        · refine hstep _ (J.closed j o' ?_ hoj e hem hb)
          rw [Array.getD_eq_getD_getElem?, Array.getElem?_setIfInBounds, if_neg (fun e => hji e.symm)] at hj
          rw [Array.getD_eq_getD_getElem?]; exact hj
      · exact J.low.trans (hbw.mono J.low.size)
      · intro j hj
        unfold factAt
        cases hoj : l[j]? with
        | none => trivial
        | some o' =>
          obtain ⟨d', hd', _⟩ := dst_some hd hoj
          simp only [hd']
          by_cases hji : j = i
          · subst hji
            rw [hol] at hoj
            cases hoj
            rw [hdd] at hd'
            cases hd'
            rw [eval_put_eq a d v (by rw [J.size]; exact hdn)]
            exact hv
          · rw [eval_put_ne a d d' v (dst_ne hd hol hoj hdd hd' (fun e => hji e.symm))]
            have hjl : listed.getD j false = true := by
              rw [Array.getD_eq_getD_getElem?, Array.getElem?_setIfInBounds, if_neg (fun e => hji e.symm)] at hj
              rw [Array.getD_eq_getD_getElem?]; exact hj
            have := J.facts j hjl
            unfold factAt at this
            rw [hoj] at this
            simp only [hd'] at this
            exact hk j _ _ _ this hbw
      · rw [Array.size_setIfInBounds]; exact J.lsize
    · rw [Array.toList_setIfInBounds, List.count_set (by simpa using hlt)]
      have h2 : listed.toList[i]'(by simpa using hlt) = false := by
        rw [Array.getD_eq_getD_getElem?, Array.getElem?_eq_getElem hlt] at h1
        simpa using h1
      rw [h2, if_pos (show (false == false) = true from rfl), if_neg (by decide)]
      omega
/-- the frame behind the region: what its operations have left, and what stood there -/
def zipF (ds : List Tmp) (f : Nat → Value) : Nat → List Value → List Value
  | _, [] => []
  | s, x :: xs => (bif ds.contains s then f s else x) :: zipF ds f (s + 1) xs
def frameOf (l : List Oper) (a : Act) (f : Nat → Value) : Act := { tmps := (zipF (dstsOf l) f 0 a.tmps.toList).toArray, defers := a.defers }
theorem zipF_len (ds : List Tmp) (f : Nat → Value) : ∀ (xs : List Value) (k : Nat), (zipF ds f k xs).length = xs.length := by
  intro xs
  induction xs with
  | nil => intro k; rfl
  | cons x xs ih => intro k; simp [zipF, ih]
theorem zipF_get (ds : List Tmp) (f : Nat → Value) : ∀ (xs : List Value) (k i : Nat), (zipF ds f k xs)[i]? = (xs[i]?).map fun x => bif ds.contains (k + i) then f (k + i) else x := by
  intro xs
  induction xs with
  | nil => intro k i; simp [zipF]
  | cons x xs ih =>
    intro k i
    cases i with
    | zero => simp [zipF]
    | succ i =>
      rw [zipF, List.getElem?_cons_succ, List.getElem?_cons_succ, ih, show k + 1 + i = k + (i + 1) by omega]
theorem once_frame {l : List Oper} {a a' : Act} (hs : a'.tmps.size = a.tmps.size) (hd : a'.defers = a.defers) (ho : ∀ s, (dstsOf l).contains s = false → a'.tmps[s]?.getD undef = a.tmps[s]?.getD undef) :
    a' = frameOf l a (fun s => a'.tmps[s]?.getD undef) := by
  obtain ⟨t', d'⟩ := a'
  obtain ⟨t, d⟩ := a
  simp only at hs hd ho
  subst hd
  unfold frameOf
  congr 1
  apply Array.ext_getElem?
  intro i
  have key : ∀ xs : List Value, ((zipF (dstsOf l) (fun s => t'[s]?.getD undef) 0 xs).toArray)[i]? = (xs[i]?).map fun x => bif (dstsOf l).contains i then t'[i]?.getD undef else x := by
    intro xs
    rw [List.getElem?_toArray, zipF_get, Nat.zero_add]
  show t'[i]? = ((zipF (dstsOf l) (fun s => t'[s]?.getD undef) 0 t.toList).toArray)[i]?
  rw [key]
  rcases Nat.lt_or_ge i t.size with h | h
  · rw [Array.getElem?_eq_getElem (by omega), Array.getElem?_toList, Array.getElem?_eq_getElem h, Option.map_some]
    congr 1
    cases hc : (dstsOf l).contains i with
    | true => simp
    | false =>
      have := ho i hc
      rw [Array.getElem?_eq_getElem (by omega), Array.getElem?_eq_getElem h] at this
      exact this
  · rw [Array.getElem?_eq_none (by omega), Array.getElem?_toList, Array.getElem?_eq_none h, Option.map_none]
def factsAll (sat : List Fact) (f : Nat → Value) (w : World) : Nat → List Oper → Prop
  | _, [] => True
  | i, o :: os => (match o.dst with | some d => (sat.getD i (fun _ _ => True)) (f d) w | none => True) ∧ factsAll sat f w (i + 1) os
theorem factsAll_mk {sat : List Fact} {f : Nat → Value} {w : World} : ∀ (os : List Oper) (k : Nat), (∀ i o d, os[i]? = some o → o.dst = some d → (sat.getD (k + i) (fun _ _ => True)) (f d) w) → factsAll sat f w k os := by
  intro os
  induction os with
  | nil => intro k _; trivial
  | cons o os ih =>
    intro k h
    refine ⟨?_, ih (k + 1) fun i o' d ho hd => ?_⟩
    · cases hd : o.dst with
      | none => trivial
      | some d => exact h 0 o d rfl hd
    · have := h (i + 1) o' d (by simpa using ho) hd
      rw [show k + 1 + i = k + (i + 1) by omega]; exact this
theorem wp_region_once {P : Program} {id : Nat} {l : List Oper} {Q : Exit → Act → World → Prop} {a : Act} {w : World} (sat : List Fact) (hm : P.follows .mixedOrders = true) (hk : Keeps sat) (hd : dstOk l a.tmps.size = true) (he : edgesOk l = true)
    (hops : OwedAll P l Q sat a w 0 l)
    (hend : ∀ (f : Nat → Value) (w' : World), Below w.heap.size w w' → factsAll sat f w' 0 l → Q .normal (frameOf l a f) w') :
    (Code.region id l.toArray true).wp P Q a w := by
  refine wp_region_any hm (once_any hk hd he hops ?_ _ _ _ _ ⟨rfl, rfl, fun _ _ => rfl, ?_, ⟨rfl, rfl, rfl, Nat.le_refl _, fun _ _ => rfl⟩, ?_, by simp⟩ ?_)
  · intro a' w' h1 h2 h3 h4 h5
    rw [once_frame h1 h2 h3]
    refine hend _ w' h4 (factsAll_mk l 0 ?_)
    intro i o d ho hdd
    have hil : i < l.length := by
      rcases Nat.lt_or_ge i l.length with h | h
      · exact h
      · rw [List.getElem?_eq_none h] at ho; cases ho
    have := h5 i hil
    unfold factAt at this
    rw [ho] at this
    simp only [hdd] at this
    rw [Nat.zero_add]
    exact this
  · intro i _ hi
    exfalso
    rw [Array.getD_eq_getD_getElem?, Array.getElem?_replicate] at hi
    split at hi <;> simp at hi
  · intro i hi
    exfalso
    rw [Array.getD_eq_getD_getElem?, Array.getElem?_replicate] at hi
    split at hi <;> simp at hi
  · simp
theorem owed_go {P : Program} {l : List Oper} {Q : Exit → Act → World → Prop} {sat : List Fact} {a0 : Act} {W : World} {i : Nat} {o : Oper} (hg : o.guard = none)
    (h : ∀ (a : Act) (w : World), Below W.heap.size W w → (∀ s, freeAt l i s = true → a.tmps[s]?.getD undef = a0.tmps[s]?.getD undef) → factsOf sat l a w o.after.toList →
      ∀ K : Act → World → Prop, (∀ v w', (sat.getD i (fun _ _ => True)) v w' → Below w.heap.size w w' → K (a.put o.dst v) w') → Oper.wp P o a w K Q) : Owed P l Q sat a0 W i o := by
  intro a w hb ho hf K hK
  rw [if_pos (by simp [Region.wanted, hg])]
  exact h a w hb ho hf K hK
end Go.Proofs.Ytohldijomcljkaa
/- Walks: node.parentBytes. -/
namespace Go.Proofs.Ytohldijomcljkaa
open Go.RowKit WireM
set_option linter.unusedVariables false
def lateL (L : List Int) : List Nat := (L.map fun x => beN 4 x.toNat).flatten
theorem lateL_snoc (L : List Int) (x : Int) : lateL (L ++ [x]) = lateL L ++ beN 4 x.toNat := by simp [lateL]
theorem lateL_len : ∀ L : List Int, (lateL L).length = 4 * L.length := by
  intro L
  induction L with
  | nil => rfl
  | cons x L ih => simp only [lateL, List.map_cons, List.flatten_cons, List.length_append, List.length_cons, beN_len] at ih ⊢; omega
def parB (d : ParD) : List Nat := vecB d.box ++ vecB d.hash ++ vecB (lateL d.late)
set_option maxRecDepth 100000 in
set_option maxHeartbeats 4000000 in
theorem parentBytes_any (b : Value) (B : List Nat) (d : ParD) (a1 a2 a3 : Option Addr) (c1 c2 c3 : Nat) (w : World) (hb : Rd w b (bvs B)) (hB : B.length < 1000000000) (hs1 : d.box.length ≤ 200) (hs2 : d.hash.length ≤ 200) (hs3 : d.late.length ≤ 60) (hl : ∀ x ∈ d.late, 0 ≤ x ∧ x < 65536)
    (h1 : Rd w (.slice a1 d.box.length c1) (bvs d.box)) (h2 : Rd w (.slice a2 d.hash.length c2) (bvs d.hash)) (h3 : Rd w (.slice a3 d.late.length c3) (ivs .i64 d.late)) :
    Calls Try.prog 101 #[b, .agg #[.slice a1 d.box.length c1, .slice a2 d.hash.length c2, .slice a3 d.late.length c3]] w
      fun e w' => ∃ v, e = .returned v ∧ Own w' w.heap.size 5 v (bvs (B ++ parB d)) ∧ Below w.heap.size w w' := by
  have hp : parB d = vecB d.box ++ vecB d.hash ++ vecB (lateL d.late) := rfl
  have hlen := slice_len h3
  have hget := fun r (hr : r < d.late.length) => h3.get (r := r) (show (ivs .i64 d.late)[r]? = some (.int .i64 (d.late.getD r 0)) by simp [ivs, hr])
  have hts := fun (r : Nat) (h : r < d.late.length) => (show d.late.take (r + 1) = d.late.take r ++ [d.late.getD r 0] by rw [List.take_succ_eq_append_getElem h, List.getD_eq_getElem?_getD, List.getElem?_eq_getElem h]; rfl)
  have hval := fun (r : Nat) (h : r < d.late.length) => (show 0 ≤ d.late.getD r 0 ∧ d.late.getD r 0 < 65536 by rw [List.getD_eq_getElem?_getD, List.getElem?_eq_getElem h]; exact hl _ (List.getElem_mem h))
  have hll := fun r => lateL_len (d.late.take r)
  obtain ⟨k, hk⟩ : ∃ k, k = d.late.length := ⟨_, rfl⟩
  rw [← hk] at hget hts hs3 hlen hval ⊢
  have HP := Lib.hid hp
  have H1 := Lib.hid h1
  have H2 := Lib.hid h2
  have HB := Lib.hid hb
  have HG := Lib.hid hget
  have HTS := Lib.hid hts
  have HV := Lib.hid hval
  have HLL := Lib.hid hll
  have HK := Lib.hid hk
  clear hp h1 h2 h3 hb hget hts hval hll hk hl
  obtain ⟨n1, hn1⟩ : ∃ n, n = d.box.length := ⟨_, rfl⟩
  obtain ⟨n2, hn2⟩ : ∃ n, n = d.hash.length := ⟨_, rfl⟩
  rw [← hn1] at H1 hs1 ⊢
  rw [← hn2] at H2 hs2 ⊢
  have HN1 := Lib.hid hn1
  have HN2 := Lib.hid hn2
  clear hn1 hn2
  have hbk0 := Blk.new w 44 #[.slice a1 n1 c1, .slice a2 n2 c2, .slice a3 k c3]
  have hw0 : Below w.heap.size w (w.alloc (.cells #[.slice a1 n1 c1, .slice a2 n2 c2, .slice a3 k c3] 44)) := (Below.refl _ _).alloc (Nat.le_refl _) _
  have hz0 : (w.alloc (.cells #[.slice a1 n1 c1, .slice a2 n2 c2, .slice a3 k c3] 44)).heap.size = w.heap.size + 1 := by simp
  obtain ⟨W1, hW1⟩ : ∃ W1, W1 = w.alloc (.cells #[.slice a1 n1 c1, .slice a2 n2 c2, .slice a3 k c3] 44) := ⟨_, rfl⟩
  rw [← hW1] at hbk0 hw0 hz0
  have HBK := Lib.hid hbk0
  have HW0 := Lib.hid hw0
  have HZ0 := Lib.hid hz0
  have HW1 := Lib.hid hW1
  clear hbk0 hw0 hz0 hW1
  go_enter Try.func101, Try.ntmps101
  go_wp2_with fail
  rw [← HW1.out]
  go_loopg [5, 11] k (fun q lv i wr => ∃ r : Nat, r + q = k ∧ i = .int .i64 (r : Int) ∧ Rd wr lv (bvs (lateL (d.late.take r))) ∧ Below (w.heap.size + 1) W1 wr)
  case atStart => exact ⟨0, by omega, rfl, ⟨none, 0, rfl, Nat.le_refl _, Nat.zero_le _, .inl ⟨rfl, fun _ => rfl⟩⟩, Below.refl _ _⟩
  case round =>
    obtain ⟨r, hr, rfl, hrl, hbw⟩ := hrel
    have HRL := Lib.hid hrl
    have HBW := Lib.hid hbw
    have hzw := hbw.size
    rw [HZ0.out] at hzw
    clear hrl hbw
    by_cases hrk : r < k
    · obtain ⟨b1, o1, rfl, hb1, c0⟩ := HG.out r hrk
      have c0' := (HBW.out.cell (p := ⟨b1, o1 + r, none⟩) (by simp only; omega)).trans ((HW0.out.cell (p := ⟨b1, o1 + r, none⟩) hb1).trans c0)
      have hts := HTS.out r hrk
      obtain ⟨v0, v1⟩ := HV.out r hrk
      have hll := HLL.out r
      obtain ⟨x, hx⟩ : ∃ x, x = d.late.getD r 0 := ⟨_, rfl⟩
      rw [← hx] at c0' hts v0 v1
      obtain ⟨m, rfl⟩ : ∃ m : Nat, x = (m : Int) := ⟨x.toNat, by omega⟩
      have hl60 : (d.late.take r).length ≤ r := List.length_take_le _ _
      have HPN := Lib.hid (fun lv (h : Rd wr lv (bvs (lateL (d.late.take r)))) => putNum_on lv _ 4 m wr h (by omega) rfl (by omega))
      have HT := Lib.hid hts
      clear c0 hx hts hll hl60 hb1
      go_wp2_with fail
      refine (HPN.out _ HRL.out).mono ?_
      rintro e w2 ⟨v2, rfl, hown, hb2⟩
      have HO := Lib.hid hown.rd
      have HB2 := Lib.hid (HBW.out.trans (hb2.mono hzw))
      clear hown hb2
      go_wp2_with fail
      go_roundg (gk - 1)
      case measure => omega
      case rel => exact ⟨r + 1, by omega, by go_num, by rw [HT.out, lateL_snoc, Int.toNat_natCast]; exact HO.out, HB2.out⟩
    · obtain rfl : r = k := by omega
      have ht : d.late.take r = d.late := by rw [HK.out, List.take_length]
      rw [ht] at HRL
      have hll := HLL.out r
      rw [ht, ← HK.out] at hll
      have hrk' : decide ((r : Int) < (r : Int)) = false := by rw [decide_eq_false_iff_not]; omega
      go_wp2_with fail
      have hbk := HBK.out.below HBW.out (by omega)
      have y0 := hbk.cell 0
      have y1 := hbk.cell 1
      simp only [List.getElem?_toArray, List.getElem?_cons_zero, List.getElem?_cons_succ] at y0 y1
      have hv1 := vecB_len d.box (by rw [← HN1.out]; omega)
      have hv2 := vecB_len d.hash (by rw [← HN2.out]; omega)
      rw [← HN1.out] at hv1
      rw [← HN2.out] at hv2
      have hbw1 := HW0.out.trans (HBW.out.mono (by omega))
      have r1 := H1.out.below hbw1 (Nat.le_refl _)
      have r2 := H2.out.below hbw1 (Nat.le_refl _)
      have rb := HB.out.below hbw1 (Nat.le_refl _)
      have r3 := HRL.out
      have hgx : w.heap.size < wr.heap.size := by omega
      have hws : w.heap.size ≤ wr.heap.size := by omega
      have own : ∀ (v : Value) (w1 w2 : World) (L : List Nat), Own w1 w.heap.size 5 v (bvs L) → Below w1.heap.size w1 w2 → Own w2 w.heap.size 5 v (bvs L) := fun v w1 w2 L h hb => h.below hb (Nat.le_refl _)
      clear hbk
      refine wp_region_once [fun v _ => v = b, fun v _ => v = .pointer (some ⟨w.heap.size, 0, none⟩), fun v _ => v = .slice a1 n1 c1, fun v w' => Own w' w.heap.size 5 v (bvs (B ++ vecB d.box)),
        fun v _ => v = .pointer (some ⟨w.heap.size, 1, none⟩), fun v _ => v = .slice a2 n2 c2, fun v w' => Own w' w.heap.size 5 v (bvs (B ++ vecB d.box ++ vecB d.hash)), fun v w' => Rd w' v (bvs (lateL d.late)),
        fun v w' => Own w' w.heap.size 5 v (bvs (B ++ vecB d.box ++ vecB d.hash ++ vecB (lateL d.late))), fun v w' => Own w' w.heap.size 5 v (bvs (B ++ vecB d.box ++ vecB d.hash ++ vecB (lateL d.late)))]
        (by kernel_rfl) ?_ (by kernel_rfl) (by kernel_rfl) ?_ ?_
      · exact keeps_cons (fun _ _ _ h _ => h) (keeps_cons (fun _ _ _ h _ => h) (keeps_cons (fun _ _ _ h _ => h) (keeps_cons (fun v w1 w2 h hb => own v w1 w2 _ h hb) (keeps_cons (fun _ _ _ h _ => h) (keeps_cons (fun _ _ _ h _ => h)
          (keeps_cons (fun v w1 w2 h hb => own v w1 w2 _ h hb) (keeps_cons (fun v w1 w2 h hb => h.below hb (Nat.le_refl _)) (keeps_cons (fun v w1 w2 h hb => own v w1 w2 _ h hb) (keeps_cons (fun v w1 w2 h hb => own v w1 w2 _ h hb) keeps_nil)))))))))
      · refine .cons (owed_go rfl ?_) (.cons (owed_go rfl ?_) (.cons (owed_go rfl ?_) (.cons (owed_go rfl ?_) (.cons (owed_go rfl ?_) (.cons (owed_go rfl ?_) (.cons (owed_go rfl ?_) (.cons (owed_go rfl ?_) (.cons (owed_go rfl ?_) (.cons (owed_go rfl ?_) .nil)))))))))
        · intro a wx hbx ho hf K hK
          have e0 : a.tmps[0]?.getD undef = b := ho 0 (by kernel_rfl)
          go_simp
          exact hK _ _ rfl (Below.refl _ _)
        · intro a wx hbx ho hf K hK
          have e0 : a.tmps[3]?.getD undef = .pointer (some ⟨w.heap.size, 0, none⟩) := ho 3 (by kernel_rfl)
          go_simp
          exact hK _ _ rfl (Below.refl _ _)
        · intro a wx hbx ho hf K hK
          have e0 : a.tmps[21]?.getD undef = .pointer (some ⟨w.heap.size, 0, none⟩) := hf.1
          have c0 := (hbx.cell (p := ⟨w.heap.size, 0, none⟩) hgx).trans y0
          go_simp
          exact hK _ _ rfl (Below.refl _ _)
        · intro a wx hbx ho hf K hK
          have e0 : a.tmps[20]?.getD undef = b := hf.1
          have e1 : a.tmps[22]?.getD undef = .slice a1 n1 c1 := hf.2.1
          go_simp
          refine (putVec_any b _ B d.box wx (rb.below hbx (Nat.le_refl _)) (r1.below hbx (Nat.le_refl _)) (by omega) (by rw [← HN1.out]; omega)).mono ?_
          rintro e w2 ⟨v2, rfl, hown, hb2⟩
          exact hK _ _ (hown.mono (by have := hbx.size; omega)) hb2
        · intro a wx hbx ho hf K hK
          have e0 : a.tmps[3]?.getD undef = .pointer (some ⟨w.heap.size, 0, none⟩) := ho 3 (by kernel_rfl)
          go_simp
          exact hK _ _ rfl (Below.refl _ _)
        · intro a wx hbx ho hf K hK
          have e0 : a.tmps[24]?.getD undef = .pointer (some ⟨w.heap.size, 1, none⟩) := hf.1
          have c0 := (hbx.cell (p := ⟨w.heap.size, 1, none⟩) hgx).trans y1
          go_simp
          exact hK _ _ rfl (Below.refl _ _)
        · intro a wx hbx ho hf K hK
          have o0 : Own wx w.heap.size 5 (a.tmps[23]?.getD undef) (bvs (B ++ vecB d.box)) := hf.1
          obtain ⟨v, hv⟩ : ∃ v, v = a.tmps[23]?.getD undef := ⟨_, rfl⟩
          rw [← hv] at o0
          have e0 := hv.symm
          have e1 : a.tmps[25]?.getD undef = .slice a2 n2 c2 := hf.2.1
          clear hv
          go_simp
          refine (putVec_any v _ _ d.hash wx o0.rd (r2.below hbx (Nat.le_refl _)) (by rw [List.length_append]; omega) (by rw [← HN2.out]; omega)).mono ?_
          rintro e w2 ⟨v2, rfl, hown, hb2⟩
          exact hK _ _ (hown.mono (by have := hbx.size; omega)) hb2
        · intro a wx hbx ho hf K hK
          have e0 : a.tmps[5]?.getD undef = u5 := ho 5 (by kernel_rfl)
          go_simp
          exact hK _ _ (r3.below hbx (Nat.le_refl _)) (Below.refl _ _)
        · intro a wx hbx ho hf K hK
          have o0 : Own wx w.heap.size 5 (a.tmps[26]?.getD undef) (bvs (B ++ vecB d.box ++ vecB d.hash)) := hf.1
          obtain ⟨v, hv⟩ : ∃ v, v = a.tmps[26]?.getD undef := ⟨_, rfl⟩
          rw [← hv] at o0
          have e0 := hv.symm
          have o1 : Rd wx (a.tmps[27]?.getD undef) (bvs (lateL d.late)) := hf.2.1
          obtain ⟨u, hu⟩ : ∃ v, v = a.tmps[27]?.getD undef := ⟨_, rfl⟩
          rw [← hu] at o1
          have e1 := hu.symm
          clear hv hu
          go_simp
          refine (putVec_any v u _ (lateL d.late) wx o0.rd o1 (by rw [List.length_append, List.length_append]; omega) (by omega)).mono ?_
          rintro e w2 ⟨v2, rfl, hown, hb2⟩
          exact hK _ _ (hown.mono (by have := hbx.size; omega)) hb2
        · intro a wx hbx ho hf K hK
          have o0 : Own wx w.heap.size 5 (a.tmps[28]?.getD undef) (bvs (B ++ vecB d.box ++ vecB d.hash ++ vecB (lateL d.late))) := hf.1
          obtain ⟨v, hv⟩ : ∃ v, v = a.tmps[28]?.getD undef := ⟨_, rfl⟩
          rw [← hv] at o0
          have e0 := hv.symm
          clear hv
          go_simp
          exact hK _ _ o0 (Below.refl _ _)
      · rintro f w2 hb2 ⟨-, -, -, -, -, -, -, -, -, f9, -⟩
        have h9 : Own w2 w.heap.size 5 (f 4) (bvs (B ++ vecB d.box ++ vecB d.hash ++ vecB (lateL d.late))) := f9
        simp only [frameOf, dstsOf, zipF, List.filterMap_cons, List.filterMap_nil, List.contains_cons, List.contains_nil, Nat.reduceBEq, Nat.reduceAdd, Bool.or_false, Bool.or_true, cond_true, cond_false]
        go_wp2_with fail
        go_ret
        refine ⟨_, rfl, ?_, hbw1.trans (hb2.mono hws)⟩
        rw [HP.out, ← List.append_assoc, ← List.append_assoc]
        exact h9
end Go.Proofs.Ytohldijomcljkaa
