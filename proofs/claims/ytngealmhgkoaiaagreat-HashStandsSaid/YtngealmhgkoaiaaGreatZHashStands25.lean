/- As OnceSt; the memory that is written begins at a block B, old or new; inside a round of a range over a function, too. -/
import Derived.Test.YtngealmhgkoaiaaGreatZHashStands07
import Derived.OrdersIn
import Derived.RangeFuncCalls
namespace Go.Proofs.YtngealmhgkoaiaaGreat
open Go.RowKit
set_option linter.unusedVariables false
end Go.Proofs.YtngealmhgkoaiaaGreat
/- A region that draws its order, whose last operation comes behind all others and may change whatever memory; plain, and inside a round of a range over a function. -/
namespace Go.Proofs.YtngealmhgkoaiaaGreat
open Go.RowKit
set_option linter.unusedVariables false
/-- the operation q waits for all others, and only its fact is wanted at the end -/
def lastB (l : List Oper) (fin : List Bool) (q : Nat) : Bool :=
 decide (q < l.length) && (List.range l.length).all fun i => i == q || (!fin.getD i false && match l[q]? with | some o => o.after.toList.any fun e => Region.binds .any e && e.on == i | none => false)
theorem last_out {l : List Oper} {fin : List Bool} {q : Nat} (h : lastB l fin q = true) : q < l.length ∧ ∀ i, i < l.length → i ≠ q → fin.getD i false = false ∧ ∃ o, l[q]? = some o ∧ ∃ e ∈ o.after.toList, Region.binds .any e = true ∧ e.on = i := by
 unfold lastB at h
 rw [Bool.and_eq_true, decide_eq_true_iff] at h
 refine ⟨h.1, fun i hi hne => ?_⟩
 have h2 := List.all_eq_true.1 h.2 i (List.mem_range.2 hi)
 rw [Bool.or_eq_true, beq_iff_eq, Bool.and_eq_true, Bool.not_eq_true'] at h2
 rcases h2 with h2 | ⟨h2, h3⟩
 ·exact absurd h2 hne
 ·refine ⟨h2, ?_⟩
  cases ho : l[q]? with
  | none => rw [ho] at h3; cases h3
  | some o =>
   rw [ho] at h3
   simp only [List.any_eq_true, Bool.and_eq_true, beq_iff_eq] at h3
   obtain ⟨e, he, hb, hei⟩ := h3
   exact ⟨o, rfl, e, he, hb, hei⟩
/-- what is owed for one operation; st: it changes no old memory at all -/
def Owed5 (P : Program) (l : List Oper) (Q : Exit → Act → World → Prop) (sat : List Fact) (q : Nat) (a0 : Act) (W : World) (i : Nat) (o : Oper) : Prop :=
 ∀ (a : Act) (w : World), Below W.heap.size W w → (∀ s, freeAt l i s = true → a.tmps[s]?.getD undef = a0.tmps[s]?.getD undef) → factsOf3 sat l a w o.after.toList →
  ∀ K : Act → World → Prop, (∀ v w', (sat.getD i (fun _ _ => True)) (seenBy o a v) w' → (i ≠ q → Below w.heap.size w w') → K (a.put o.dst v) w') →
   if Region.wanted o (yielded l.toArray a.tmps) = true then Oper.wp P o a w K Q else K (a.put o.dst undef) w
def OwedAll5 (P : Program) (l : List Oper) (Q : Exit → Act → World → Prop) (sat : List Fact) (q : Nat) (a0 : Act) (W : World) : Nat → List Oper → Prop
 | _, [] => True
 | i, o :: os => Owed5 P l Q sat q a0 W i o ∧ OwedAll5 P l Q sat q a0 W (i + 1) os
theorem OwedAll5.nil {P : Program} {l : List Oper} {Q : Exit → Act → World → Prop} {sat : List Fact} {q : Nat} {a0 : Act} {W : World} {i : Nat} : OwedAll5 P l Q sat q a0 W i [] := trivial
theorem OwedAll5.cons {P : Program} {l : List Oper} {Q : Exit → Act → World → Prop} {sat : List Fact} {q : Nat} {a0 : Act} {W : World} {i : Nat} {o : Oper} {os : List Oper} (h : Owed5 P l Q sat q a0 W i o) (t : OwedAll5 P l Q sat q a0 W (i + 1) os) : OwedAll5 P l Q sat q a0 W i (o :: os) := ⟨h, t⟩
theorem owedAll5_get {P : Program} {l : List Oper} {Q : Exit → Act → World → Prop} {sat : List Fact} {q : Nat} {a0 : Act} {W : World} : ∀ (os : List Oper) (k : Nat), OwedAll5 P l Q sat q a0 W k os → ∀ i o, os[i]? = some o → Owed5 P l Q sat q a0 W (k + i) o := by
 intro os
 induction os with
 | nil => intro k _ i o h; simp at h
 | cons x os ih =>
  intro k h i o ho
  cases i with
  | zero => simp at ho; subst ho; exact h.1
  | succ i =>
   have := ih (k + 1) h.2 i o (by simpa using ho)
   rw [show k + (i + 1) = k + 1 + i by omega]; exact this
structure OnceJ5 (l : List Oper) (sat : List Fact) (fin : List Bool) (q : Nat) (a0 : Act) (W : World) (listed : Array Bool) (a : Act) (w : World) : Prop where
 size : a.tmps.size = a0.tmps.size
 defers : a.defers = a0.defers
 out : ∀ s, (∀ j o, listed.getD j false = true → l[j]? = some o → o.dst ≠ some s) → a.tmps[s]?.getD undef = a0.tmps[s]?.getD undef
 closed : ∀ j o, listed.getD j false = true → l[j]? = some o → ∀ e ∈ o.after.toList, Region.binds .any e = true → listed.getD e.on false = true
 low : listed.getD q false = false → Below W.heap.size W w
 facts : ∀ i, listed.getD i false = true → (i = q ∨ listed.getD q false = false) → factAt3 sat l a w i
 lsize : listed.size = l.length
theorem once5_any {P : Program} {l : List Oper} {Q : Exit → Act → World → Prop} {sat : List Fact} {fin : List Bool} {q : Nat} {a0 : Act} {W : World} (hk : Keeps sat) (hd : dstOk3 l a0.tmps.size = true) (he : edgesOk3 l = true) (hla : lastB l fin q = true)
  (hops : OwedAll5 P l Q sat q a0 W 0 l)
  (hend : ∀ (a : Act) (w : World), a.tmps.size = a0.tmps.size → a.defers = a0.defers → (∀ s, (dstsOf l).contains s = false → a.tmps[s]?.getD undef = a0.tmps[s]?.getD undef) → (∀ i, i < l.length → fin.getD i false = true → factAt3 sat l a w i) → Q .normal a w) :
  ∀ (fuel : Nat) (listed : Array Bool) (a : Act) (w : World), OnceJ5 l sat fin q a0 W listed a w → listed.toList.count false ≤ fuel → wpAny P .any l.toArray Q fuel listed a w := by
 intro fuel
 have hfin : ∀ (listed : Array Bool) (a : Act) (w : World), OnceJ5 l sat fin q a0 W listed a w → Region.ready .any l.toArray listed = [] → Q .normal a w := by
  intro listed a w J hr
  refine hend a w J.size J.defers (fun s hs => J.out s fun j o _ ho hd' => ?_) fun i hi hfi => J.facts i ?_ (.inl (Classical.byContradiction fun hne => by rw [((last_out hla).2 i hi hne).1] at hfi; cases hfi))
  ·have : (dstsOf l).contains s = true := by
    rw [List.contains_iff_mem]
    exact List.mem_filterMap.2 ⟨o, List.mem_of_getElem? ho, hd'⟩
   rw [this] at hs; cases hs
  cases hb : listed.getD i false with
  | true => rfl
  | false => exact absurd hr (ready_some3 he J.lsize hi hb)
 induction fuel with
 | zero =>
  intro listed a w J hc
  have hr : Region.ready .any l.toArray listed = [] := by
   refine Classical.byContradiction fun hn => ?_
   obtain ⟨i, hi⟩ := List.exists_mem_of_ne_nil _ hn
   have h1 := (mem_ready.1 hi).1
   have hlt : i < listed.size := by
    rcases Nat.lt_or_ge i listed.size with h | h
    ·exact h
    ·rw [Array.getD_eq_getD_getElem?, Array.getElem?_eq_none h] at h1; simp at h1
   rw [Array.getD_eq_getD_getElem?, Array.getElem?_eq_getElem hlt] at h1
   have h2 : false ∈ listed.toList := by
    rw [← show listed[i] = false from h1]
    simp
   have := List.count_pos_iff.2 h2
   omega
  exact ⟨hr, hfin listed a w J hr⟩
 | succ fuel ih =>
  intro listed a w J hc
  refine ⟨hfin listed a w J, ?_⟩
  intro i hi
  obtain ⟨o, ho, hdep⟩ := ready_spec hi
  have h1 := (mem_ready.1 hi).1
  have hol : l[i]? = some o := by simpa using ho
  have hil : i < l.length := by
   rcases Nat.lt_or_ge i l.length with h | h
   ·exact h
   ·rw [List.getElem?_eq_none h] at hol; cases hol
  have hlt : i < listed.size := by rw [J.lsize]; exact hil
  obtain ⟨d, hob, hdn⟩ := obs_some hd hol
  refine wpOp_step ho ?_
  intro K' hK'
  have hO := owedAll5_get l 0 hops i o hol
  rw [Nat.zero_add] at hO
  have h1f : listed.getD i false = false := by
   rw [Array.getD_eq_getD_getElem?, Array.getElem?_eq_getElem hlt] at h1 ⊢
   exact h1
  have hfree : ∀ s, freeAt l i s = true → a.tmps[s]?.getD undef = a0.tmps[s]?.getD undef := by
   intro s hs
   refine J.out s fun j o' hj hoj hds => ?_
   have hjl : j < l.length := by
    rcases Nat.lt_or_ge j l.length with h | h
    ·exact h
    ·rw [List.getElem?_eq_none h] at hoj; cases hoj
   have := List.all_eq_true.1 hs j (List.mem_range.2 hjl)
   rw [hoj] at this
   simp only [Bool.or_eq_true, bne_iff_ne, beq_iff_eq, List.any_eq_true, Bool.and_eq_true] at this
   rcases this with (h | h) | ⟨e, he, hb, hei⟩
   ·exact h hds
   ·subst h; rw [h1f] at hj; cases hj
   ·have := J.closed j o' hj hoj e he hb
    rw [hei, h1f] at this; cases this
  have hq0 : listed.getD q false = false := by
   by_cases hqi : i = q
   ·subst hqi; exact h1f
   ·cases hbq : listed.getD q false with
    | false => rfl
    | true =>
     obtain ⟨_, o', ho', e, he', hbd, hei⟩ := (last_out hla).2 i hil hqi
     have := J.closed q o' hbq ho' e he' hbd
     rw [hei, h1f] at this
     cases this
  refine hO a w (J.low hq0) hfree (factsOf3_mk _ fun e hm hb => J.facts _ (hdep e hm (needs_binds hb)) (.inr hq0)) K' ?_
  intro v w' hv hbw
  refine hK' _ _ (ih _ _ _ ?_ ?_)
  ·constructor
   ·rw [put_size]; exact J.size
   ·rw [put_defers]; exact J.defers
   ·intro s hs
    have hii : (listed.setIfInBounds i true).getD i false = true := by
     rw [Array.getD_eq_getD_getElem?, Array.getElem?_setIfInBounds, if_pos rfl, if_pos hlt]; rfl
    rw [put_ne a o.dst s v (hs i o hii hol)]
    refine J.out s fun j o' hj hoj => hs j o' ?_ hoj
    by_cases hji : j = i
    ·subst hji; exact hii
    ·rw [Array.getD_eq_getD_getElem?, Array.getElem?_setIfInBounds, if_neg (fun e => hji e.symm), ← Array.getD_eq_getD_getElem?]; exact hj
   ·intro j o' hj hoj e hem hb
    have hstep : ∀ m, listed.getD m false = true → (listed.setIfInBounds i true).getD m false = true := by
     intro m hm
     by_cases hmi : m = i
     ·subst hmi; rw [Array.getD_eq_getD_getElem?, Array.getElem?_setIfInBounds, if_pos rfl, if_pos hlt]; rfl
     ·rw [Array.getD_eq_getD_getElem?, Array.getElem?_setIfInBounds, if_neg (fun e => hmi e.symm), ← Array.getD_eq_getD_getElem?]; exact hm
    by_cases hji : j = i
    ·subst hji
     rw [hol] at hoj
     cases hoj
     exact hstep _ (hdep e hem hb)
    ·refine hstep _ (J.closed j o' ?_ hoj e hem hb)
     rw [Array.getD_eq_getD_getElem?, Array.getElem?_setIfInBounds, if_neg (fun e => hji e.symm)] at hj
     rw [Array.getD_eq_getD_getElem?]; exact hj
   ·intro hl
    have hiq : i ≠ q := by
     intro e
     subst e
     rw [Array.getD_eq_getD_getElem?, Array.getElem?_setIfInBounds, if_pos rfl, if_pos hlt] at hl
     cases hl
    exact (J.low hq0).trans ((hbw hiq).mono (J.low hq0).size)
   ·intro j hj hal
    unfold factAt3
    cases hoj : l[j]? with
    | none => trivial
    | some o' =>
     obtain ⟨d', hd', _⟩ := obs_some hd hoj
     simp only [hd']
     by_cases hji : j = i
     ·subst hji
      rw [hol] at hoj
      cases hoj
      rw [hob] at hd'
      cases hd'
      rw [put_obs a hob v (by rw [J.size]; exact hdn)]
      exact hv
     ·rw [put_ne a o.dst d' v (by
       intro hdd
       rcases obs_ne hd hoj hol hd' hdd hji with h | ⟨e, he, hb, hei⟩
       ·exact h rfl
       ·have := J.closed j o' (by
         rw [Array.getD_eq_getD_getElem?, Array.getElem?_setIfInBounds, if_neg (fun e => hji e.symm)] at hj
         rw [Array.getD_eq_getD_getElem?]; exact hj) hoj e he hb
        rw [hei, h1f] at this; cases this)]
      have hjl : listed.getD j false = true := by
       rw [Array.getD_eq_getD_getElem?, Array.getElem?_setIfInBounds, if_neg (fun e => hji e.symm)] at hj
       rw [Array.getD_eq_getD_getElem?]; exact hj
      have hstep : ∀ m, listed.getD m false = true → (listed.setIfInBounds i true).getD m false = true := by
       intro m hm
       by_cases hmi : m = i
       ·subst hmi; rw [Array.getD_eq_getD_getElem?, Array.getElem?_setIfInBounds, if_pos rfl, if_pos hlt]; rfl
       ·rw [Array.getD_eq_getD_getElem?, Array.getElem?_setIfInBounds, if_neg (fun e => hmi e.symm), ← Array.getD_eq_getD_getElem?]; exact hm
      have hii : (listed.setIfInBounds i true).getD i false = true := by
       rw [Array.getD_eq_getD_getElem?, Array.getElem?_setIfInBounds, if_pos rfl, if_pos hlt]; rfl
      have := J.facts j hjl (.inr hq0)
      unfold factAt3 at this
      rw [hoj] at this
      simp only [hd'] at this
      by_cases hiq : i = q
      ·exfalso
       rcases hal with h | h
       ·exact hji (h.trans hiq.symm)
       ·rw [← hiq, hii] at h; cases h
      ·exact hk j _ _ _ this (hbw hiq)
   ·rw [Array.size_setIfInBounds]; exact J.lsize
  ·rw [Array.toList_setIfInBounds, List.count_set (by simpa using hlt)]
   have h2 : listed.toList[i]'(by simpa using hlt) = false := by
    rw [Array.getD_eq_getD_getElem?, Array.getElem?_eq_getElem hlt] at h1
    simpa using h1
   rw [h2, if_pos (show (false == false) = true from rfl), if_neg (by decide)]
   omega
theorem wp_region_last {P : Program} {id : Nat} {l : List Oper} {Q : Exit → Act → World → Prop} {a : Act} {w : World} (sat : List Fact) (fin : List Bool) (q : Nat) (hm : P.follows .mixedOrders = true) (hk : Keeps sat) (hd : dstOk3 l a.tmps.size = true) (he : edgesOk3 l = true) (hla : lastB l fin q = true)
  (hops : OwedAll5 P l Q sat q a w 0 l)
  (hend : ∀ (f : Nat → Value) (w' : World), factsAll3 sat fin f w' 0 l → Q .normal (frameOf l a f) w') :
  (Code.region id l.toArray true).wp P Q a w := by
 refine wp_region_any hm (once5_any hk hd he hla hops ?_ _ _ _ _ ⟨rfl, rfl, fun _ _ => rfl, ?_, fun _ => ⟨rfl, rfl, rfl, Nat.le_refl _, fun _ _ => rfl⟩, ?_, by simp⟩ ?_)
 ·intro a' w' h1 h2 h3 h5
  rw [once_frame h1 h2 h3]
  refine hend _ w' (factsAll3_mk l 0 ?_)
  intro i o d ho hdd hfi
  have hil : i < l.length := by
   rcases Nat.lt_or_ge i l.length with h | h
   ·exact h
   ·rw [List.getElem?_eq_none h] at ho; cases ho
  have := h5 i hil (by rw [Nat.zero_add] at hfi; exact hfi)
  unfold factAt3 at this
  rw [ho] at this
  simp only [hdd] at this
  rw [Nat.zero_add]
  exact this
 ·intro i _ hi
  exfalso
  rw [Array.getD_eq_getD_getElem?, Array.getElem?_replicate] at hi
  split at hi <;> simp at hi
 ·intro i hi _
  exfalso
  rw [Array.getD_eq_getD_getElem?, Array.getElem?_replicate] at hi
  split at hi <;> simp at hi
 ·simp
theorem owed5_go {P : Program} {l : List Oper} {Q : Exit → Act → World → Prop} {sat : List Fact} {q : Nat} {a0 : Act} {W : World} {i : Nat} {o : Oper}
  (h : ∀ (a : Act) (w : World), Below W.heap.size W w → (∀ s, freeAt l i s = true → a.tmps[s]?.getD undef = a0.tmps[s]?.getD undef) → factsOf3 sat l a w o.after.toList →
   Region.wanted o (yielded l.toArray a.tmps) = true ∧ ∀ K : Act → World → Prop, (∀ v w', (sat.getD i (fun _ _ => True)) (seenBy o a v) w' → (i ≠ q → Below w.heap.size w w') → K (a.put o.dst v) w') → Oper.wp P o a w K Q) : Owed5 P l Q sat q a0 W i o := by
 intro a w hb ho hf K hK
 rw [if_pos (h a w hb ho hf).1]
 exact (h a w hb ho hf).2 K hK
end Go.Proofs.YtngealmhgkoaiaaGreat
/- A region that draws its order, of which one operation comes behind all others but a tail, and may change whatever memory. -/
namespace Go.Proofs.YtngealmhgkoaiaaGreat
open Go.RowKit
set_option linter.unusedVariables false
/-- the operation q waits for all others but those that wait for it; only its fact and theirs are wanted at the end -/
def tailB (l : List Oper) (fin tl : List Bool) (q : Nat) : Bool :=
 decide (q < l.length) && !tl.getD q false && (List.range l.length).all fun i => i == q || (if tl.getD i false then (match l[i]? with | some o => (o.after.toList.any fun e => Region.binds .any e && e.on == q) && o.after.toList.all fun e => !needs e || e.on == q || tl.getD e.on false | none => false) else (!fin.getD i false && (List.range l.length).any fun j => decide (i < j) && !tl.getD j false && match l[j]? with | some o => o.after.toList.any fun e => Region.binds .any e && e.on == i | none => false))
theorem tail_out {l : List Oper} {fin tl : List Bool} {q : Nat} (h : tailB l fin tl q = true) : q < l.length ∧ tl.getD q false = false ∧ (∀ i, i < l.length → i ≠ q → tl.getD i false = false → fin.getD i false = false ∧ ∃ j o, i < j ∧ j < l.length ∧ tl.getD j false = false ∧ l[j]? = some o ∧ ∃ e ∈ o.after.toList, Region.binds .any e = true ∧ e.on = i) ∧
  (∀ i o, l[i]? = some o → tl.getD i false = true → (∃ e ∈ o.after.toList, Region.binds .any e = true ∧ e.on = q) ∧ ∀ e ∈ o.after.toList, needs e = true → e.on = q ∨ tl.getD e.on false = true) := by
 unfold tailB at h
 rw [Bool.and_eq_true, Bool.and_eq_true, decide_eq_true_iff, Bool.not_eq_true'] at h
 refine ⟨h.1.1, h.1.2, fun i hi hne htl => ?_, fun i o ho htl => ?_⟩
 ·have h2 := List.all_eq_true.1 h.2 i (List.mem_range.2 hi)
  rw [htl, Bool.or_eq_true, beq_iff_eq] at h2
  rcases h2 with h2 | h2
  ·exact absurd h2 hne
  ·simp only [Bool.false_eq_true, if_false, Bool.and_eq_true, Bool.not_eq_true'] at h2
   obtain ⟨h2, h3⟩ := h2
   refine ⟨h2, ?_⟩
   obtain ⟨j, hj, h3⟩ := List.any_eq_true.1 h3
   simp only [Bool.and_eq_true, decide_eq_true_iff, Bool.not_eq_true'] at h3
   obtain ⟨⟨hij, htj⟩, h3⟩ := h3
   cases ho : l[j]? with
   | none => rw [ho] at h3; cases h3
   | some o =>
    rw [ho] at h3
    simp only [List.any_eq_true, Bool.and_eq_true, beq_iff_eq] at h3
    obtain ⟨e, he, hb, hei⟩ := h3
    exact ⟨j, o, hij, List.mem_range.1 hj, htj, ho, e, he, hb, hei⟩
 ·have hi : i < l.length := by
   rcases Nat.lt_or_ge i l.length with h | h
   ·exact h
   ·rw [List.getElem?_eq_none h] at ho; cases ho
  have h2 := List.all_eq_true.1 h.2 i (List.mem_range.2 hi)
  rw [htl, Bool.or_eq_true, beq_iff_eq, ho] at h2
  rcases h2 with h2 | h2
  ·subst h2; rw [h.1.2] at htl; cases htl
  ·simp only [if_true, Bool.and_eq_true, List.any_eq_true, beq_iff_eq, List.all_eq_true, Bool.or_eq_true, Bool.not_eq_true'] at h2
   obtain ⟨⟨e, he, hb, hei⟩, h3⟩ := h2
   refine ⟨⟨e, he, hb, hei⟩, fun e' he' hn => ?_⟩
   rcases h3 e' he' with (h4 | h4) | h4
   ·rw [h4] at hn; cases hn
   ·exact .inl h4
   ·exact .inr h4
theorem tail_closed {l : List Oper} {fin tl : List Bool} {q : Nat} (h : tailB l fin tl q = true) {listed : Array Bool} (hc : ∀ j o, listed.getD j false = true → l[j]? = some o → ∀ e ∈ o.after.toList, Region.binds .any e = true → listed.getD e.on false = true) (hq : listed.getD q false = true) :
  ∀ n i, l.length - i ≤ n → i < l.length → tl.getD i false = false → listed.getD i false = true := by
 intro n
 induction n with
 | zero => intro i h1 h2; omega
 | succ n ih =>
  intro i h1 h2 h3
  by_cases hiq : i = q
  ·subst hiq; exact hq
  ·obtain ⟨_, j, o, hij, hj, htj, ho, e, he, hb, hei⟩ := (tail_out h).2.2.1 i h2 hiq h3
   have := hc j o (ih j (by omega) hj htj) ho e he hb
   rw [hei] at this; exact this
/-- what is owed for one operation; st: it changes no old memory at all -/
def Owed6 (P : Program) (l : List Oper) (Q : Exit → Act → World → Prop) (sat : List Fact) (tl : List Bool) (q : Nat) (a0 : Act) (W : World) (i : Nat) (o : Oper) : Prop :=
 ∀ (a : Act) (w : World), (tl.getD i false = false → Below W.heap.size W w) → (∀ s, freeAt l i s = true → a.tmps[s]?.getD undef = a0.tmps[s]?.getD undef) → factsOf3 sat l a w o.after.toList →
  ∀ K : Act → World → Prop, (∀ v w', (sat.getD i (fun _ _ => True)) (seenBy o a v) w' → (i ≠ q → Below w.heap.size w w') → K (a.put o.dst v) w') →
   if Region.wanted o (yielded l.toArray a.tmps) = true then Oper.wp P o a w K Q else K (a.put o.dst undef) w
def OwedAll6 (P : Program) (l : List Oper) (Q : Exit → Act → World → Prop) (sat : List Fact) (tl : List Bool) (q : Nat) (a0 : Act) (W : World) : Nat → List Oper → Prop
 | _, [] => True
 | i, o :: os => Owed6 P l Q sat tl q a0 W i o ∧ OwedAll6 P l Q sat tl q a0 W (i + 1) os
theorem OwedAll6.nil {P : Program} {l : List Oper} {Q : Exit → Act → World → Prop} {sat : List Fact} {tl : List Bool} {q : Nat} {a0 : Act} {W : World} {i : Nat} : OwedAll6 P l Q sat tl q a0 W i [] := trivial
theorem OwedAll6.cons {P : Program} {l : List Oper} {Q : Exit → Act → World → Prop} {sat : List Fact} {tl : List Bool} {q : Nat} {a0 : Act} {W : World} {i : Nat} {o : Oper} {os : List Oper} (h : Owed6 P l Q sat tl q a0 W i o) (t : OwedAll6 P l Q sat tl q a0 W (i + 1) os) : OwedAll6 P l Q sat tl q a0 W i (o :: os) := ⟨h, t⟩
theorem owedAll6_get {P : Program} {l : List Oper} {Q : Exit → Act → World → Prop} {sat : List Fact} {tl : List Bool} {q : Nat} {a0 : Act} {W : World} : ∀ (os : List Oper) (k : Nat), OwedAll6 P l Q sat tl q a0 W k os → ∀ i o, os[i]? = some o → Owed6 P l Q sat tl q a0 W (k + i) o := by
 intro os
 induction os with
 | nil => intro k _ i o h; simp at h
 | cons x os ih =>
  intro k h i o ho
  cases i with
  | zero => simp at ho; subst ho; exact h.1
  | succ i =>
   have := ih (k + 1) h.2 i o (by simpa using ho)
   rw [show k + (i + 1) = k + 1 + i by omega]; exact this
structure OnceJ6 (l : List Oper) (sat : List Fact) (fin tl : List Bool) (q : Nat) (a0 : Act) (W : World) (listed : Array Bool) (a : Act) (w : World) : Prop where
 size : a.tmps.size = a0.tmps.size
 defers : a.defers = a0.defers
 out : ∀ s, (∀ j o, listed.getD j false = true → l[j]? = some o → o.dst ≠ some s) → a.tmps[s]?.getD undef = a0.tmps[s]?.getD undef
 closed : ∀ j o, listed.getD j false = true → l[j]? = some o → ∀ e ∈ o.after.toList, Region.binds .any e = true → listed.getD e.on false = true
 low : listed.getD q false = false → Below W.heap.size W w
 facts : ∀ i, listed.getD i false = true → (i = q ∨ tl.getD i false = true ∨ listed.getD q false = false) → factAt3 sat l a w i
 lsize : listed.size = l.length
theorem once6_any {P : Program} {l : List Oper} {Q : Exit → Act → World → Prop} {sat : List Fact} {fin tl : List Bool} {q : Nat} {a0 : Act} {W : World} (hk : Keeps sat) (hd : dstOk3 l a0.tmps.size = true) (he : edgesOk3 l = true) (hla : tailB l fin tl q = true)
  (hops : OwedAll6 P l Q sat tl q a0 W 0 l)
  (hend : ∀ (a : Act) (w : World), a.tmps.size = a0.tmps.size → a.defers = a0.defers → (∀ s, (dstsOf l).contains s = false → a.tmps[s]?.getD undef = a0.tmps[s]?.getD undef) → (∀ i, i < l.length → fin.getD i false = true → factAt3 sat l a w i) → Q .normal a w) :
  ∀ (fuel : Nat) (listed : Array Bool) (a : Act) (w : World), OnceJ6 l sat fin tl q a0 W listed a w → listed.toList.count false ≤ fuel → wpAny P .any l.toArray Q fuel listed a w := by
 intro fuel
 have hfin : ∀ (listed : Array Bool) (a : Act) (w : World), OnceJ6 l sat fin tl q a0 W listed a w → Region.ready .any l.toArray listed = [] → Q .normal a w := by
  intro listed a w J hr
  refine hend a w J.size J.defers (fun s hs => J.out s fun j o _ ho hd' => ?_) fun i hi hfi => J.facts i ?_ (by
   by_cases hne : i = q
   ·exact .inl hne
   ·cases htl : tl.getD i false with
    | true => exact .inr (.inl rfl)
    | false => rw [((tail_out hla).2.2.1 i hi hne htl).1] at hfi; cases hfi)
  ·have : (dstsOf l).contains s = true := by
    rw [List.contains_iff_mem]
    exact List.mem_filterMap.2 ⟨o, List.mem_of_getElem? ho, hd'⟩
   rw [this] at hs; cases hs
  cases hb : listed.getD i false with
  | true => rfl
  | false => exact absurd hr (ready_some3 he J.lsize hi hb)
 induction fuel with
 | zero =>
  intro listed a w J hc
  have hr : Region.ready .any l.toArray listed = [] := by
   refine Classical.byContradiction fun hn => ?_
   obtain ⟨i, hi⟩ := List.exists_mem_of_ne_nil _ hn
   have h1 := (mem_ready.1 hi).1
   have hlt : i < listed.size := by
    rcases Nat.lt_or_ge i listed.size with h | h
    ·exact h
    ·rw [Array.getD_eq_getD_getElem?, Array.getElem?_eq_none h] at h1; simp at h1
   rw [Array.getD_eq_getD_getElem?, Array.getElem?_eq_getElem hlt] at h1
   have h2 : false ∈ listed.toList := by
    rw [← show listed[i] = false from h1]
    simp
   have := List.count_pos_iff.2 h2
   omega
  exact ⟨hr, hfin listed a w J hr⟩
 | succ fuel ih =>
  intro listed a w J hc
  refine ⟨hfin listed a w J, ?_⟩
  intro i hi
  obtain ⟨o, ho, hdep⟩ := ready_spec hi
  have h1 := (mem_ready.1 hi).1
  have hol : l[i]? = some o := by simpa using ho
  have hil : i < l.length := by
   rcases Nat.lt_or_ge i l.length with h | h
   ·exact h
   ·rw [List.getElem?_eq_none h] at hol; cases hol
  have hlt : i < listed.size := by rw [J.lsize]; exact hil
  obtain ⟨d, hob, hdn⟩ := obs_some hd hol
  refine wpOp_step ho ?_
  intro K' hK'
  have hO := owedAll6_get l 0 hops i o hol
  rw [Nat.zero_add] at hO
  have h1f : listed.getD i false = false := by
   rw [Array.getD_eq_getD_getElem?, Array.getElem?_eq_getElem hlt] at h1 ⊢
   exact h1
  have hfree : ∀ s, freeAt l i s = true → a.tmps[s]?.getD undef = a0.tmps[s]?.getD undef := by
   intro s hs
   refine J.out s fun j o' hj hoj hds => ?_
   have hjl : j < l.length := by
    rcases Nat.lt_or_ge j l.length with h | h
    ·exact h
    ·rw [List.getElem?_eq_none h] at hoj; cases hoj
   have := List.all_eq_true.1 hs j (List.mem_range.2 hjl)
   rw [hoj] at this
   simp only [Bool.or_eq_true, bne_iff_ne, beq_iff_eq, List.any_eq_true, Bool.and_eq_true] at this
   rcases this with (h | h) | ⟨e, he, hb, hei⟩
   ·exact h hds
   ·subst h; rw [h1f] at hj; cases hj
   ·have := J.closed j o' hj hoj e he hb
    rw [hei, h1f] at this; cases this
  have hq0 : tl.getD i false = false → listed.getD q false = false := by
   intro htl
   by_cases hqi : i = q
   ·subst hqi; exact h1f
   ·cases hbq : listed.getD q false with
    | false => rfl
    | true =>
     have := tail_closed hla J.closed hbq (l.length - i) i (Nat.le_refl _) hil htl
     rw [h1f] at this; cases this
  refine hO a w (fun htl => J.low (hq0 htl)) hfree (factsOf3_mk _ fun e hm hb => J.facts _ (hdep e hm (needs_binds hb)) (by
   cases htl : tl.getD i false with
   | false => exact .inr (.inr (hq0 htl))
   | true => rcases ((tail_out hla).2.2.2 i o hol htl).2 e hm hb with h | h
             ·exact .inl h
             ·exact .inr (.inl h))) K' ?_
  intro v w' hv hbw
  refine hK' _ _ (ih _ _ _ ?_ ?_)
  ·constructor
   ·rw [put_size]; exact J.size
   ·rw [put_defers]; exact J.defers
   ·intro s hs
    have hii : (listed.setIfInBounds i true).getD i false = true := by
     rw [Array.getD_eq_getD_getElem?, Array.getElem?_setIfInBounds, if_pos rfl, if_pos hlt]; rfl
    rw [put_ne a o.dst s v (hs i o hii hol)]
    refine J.out s fun j o' hj hoj => hs j o' ?_ hoj
    by_cases hji : j = i
    ·subst hji; exact hii
    ·rw [Array.getD_eq_getD_getElem?, Array.getElem?_setIfInBounds, if_neg (fun e => hji e.symm), ← Array.getD_eq_getD_getElem?]; exact hj
   ·intro j o' hj hoj e hem hb
    have hstep : ∀ m, listed.getD m false = true → (listed.setIfInBounds i true).getD m false = true := by
     intro m hm
     by_cases hmi : m = i
     ·subst hmi; rw [Array.getD_eq_getD_getElem?, Array.getElem?_setIfInBounds, if_pos rfl, if_pos hlt]; rfl
     ·rw [Array.getD_eq_getD_getElem?, Array.getElem?_setIfInBounds, if_neg (fun e => hmi e.symm), ← Array.getD_eq_getD_getElem?]; exact hm
    by_cases hji : j = i
    ·subst hji
     rw [hol] at hoj
     cases hoj
     exact hstep _ (hdep e hem hb)
    ·refine hstep _ (J.closed j o' ?_ hoj e hem hb)
     rw [Array.getD_eq_getD_getElem?, Array.getElem?_setIfInBounds, if_neg (fun e => hji e.symm)] at hj
     rw [Array.getD_eq_getD_getElem?]; exact hj
   ·intro hl
    have hiq : i ≠ q := by
     intro e
     subst e
     rw [Array.getD_eq_getD_getElem?, Array.getElem?_setIfInBounds, if_pos rfl, if_pos hlt] at hl
     cases hl
    have hl' : listed.getD q false = false := by
     rw [Array.getD_eq_getD_getElem?, Array.getElem?_setIfInBounds, if_neg hiq, ← Array.getD_eq_getD_getElem?] at hl; exact hl
    exact (J.low hl').trans ((hbw hiq).mono (J.low hl').size)
   ·intro j hj hal
    unfold factAt3
    cases hoj : l[j]? with
    | none => trivial
    | some o' =>
     obtain ⟨d', hd', _⟩ := obs_some hd hoj
     simp only [hd']
     by_cases hji : j = i
     ·subst hji
      rw [hol] at hoj
      cases hoj
      rw [hob] at hd'
      cases hd'
      rw [put_obs a hob v (by rw [J.size]; exact hdn)]
      exact hv
     ·rw [put_ne a o.dst d' v (by
       intro hdd
       rcases obs_ne hd hoj hol hd' hdd hji with h | ⟨e, he, hb, hei⟩
       ·exact h rfl
       ·have := J.closed j o' (by
         rw [Array.getD_eq_getD_getElem?, Array.getElem?_setIfInBounds, if_neg (fun e => hji e.symm)] at hj
         rw [Array.getD_eq_getD_getElem?]; exact hj) hoj e he hb
        rw [hei, h1f] at this; cases this)]
      have hjl : listed.getD j false = true := by
       rw [Array.getD_eq_getD_getElem?, Array.getElem?_setIfInBounds, if_neg (fun e => hji e.symm)] at hj
       rw [Array.getD_eq_getD_getElem?]; exact hj
      have hstep : ∀ m, listed.getD m false = true → (listed.setIfInBounds i true).getD m false = true := by
       intro m hm
       by_cases hmi : m = i
       ·subst hmi; rw [Array.getD_eq_getD_getElem?, Array.getElem?_setIfInBounds, if_pos rfl, if_pos hlt]; rfl
       ·rw [Array.getD_eq_getD_getElem?, Array.getElem?_setIfInBounds, if_neg (fun e => hmi e.symm), ← Array.getD_eq_getD_getElem?]; exact hm
      have hii : (listed.setIfInBounds i true).getD i false = true := by
       rw [Array.getD_eq_getD_getElem?, Array.getElem?_setIfInBounds, if_pos rfl, if_pos hlt]; rfl
      by_cases hiq : i = q
      ·exfalso
       rcases hal with h | h | h
       ·exact hji (h.trans hiq.symm)
       ·obtain ⟨e, he, hb, hei⟩ := ((tail_out hla).2.2.2 j o' hoj h).1
        have := J.closed j o' hjl hoj e he hb
        rw [hei, ← hiq, h1f] at this; cases this
       ·rw [← hiq, hii] at h; cases h
      ·have := J.facts j hjl (by
        rcases hal with h | h | h
        ·exact .inl h
        ·exact .inr (.inl h)
        ·right; right
         rw [Array.getD_eq_getD_getElem?, Array.getElem?_setIfInBounds, if_neg hiq, ← Array.getD_eq_getD_getElem?] at h
         exact h)
       unfold factAt3 at this
       rw [hoj] at this
       simp only [hd'] at this
       exact hk j _ _ _ this (hbw hiq)
   ·rw [Array.size_setIfInBounds]; exact J.lsize
  ·rw [Array.toList_setIfInBounds, List.count_set (by simpa using hlt)]
   have h2 : listed.toList[i]'(by simpa using hlt) = false := by
    rw [Array.getD_eq_getD_getElem?, Array.getElem?_eq_getElem hlt] at h1
    simpa using h1
   rw [h2, if_pos (show (false == false) = true from rfl), if_neg (by decide)]
   omega
theorem wp_region_tail {P : Program} {id : Nat} {l : List Oper} {Q : Exit → Act → World → Prop} {a : Act} {w : World} (sat : List Fact) (fin tl : List Bool) (q : Nat) (hm : P.follows .mixedOrders = true) (hk : Keeps sat) (hd : dstOk3 l a.tmps.size = true) (he : edgesOk3 l = true) (hla : tailB l fin tl q = true)
  (hops : OwedAll6 P l Q sat tl q a w 0 l)
  (hend : ∀ (f : Nat → Value) (w' : World), factsAll3 sat fin f w' 0 l → Q .normal (frameOf l a f) w') :
  (Code.region id l.toArray true).wp P Q a w := by
 refine wp_region_any hm (once6_any hk hd he hla hops ?_ _ _ _ _ ⟨rfl, rfl, fun _ _ => rfl, ?_, fun _ => ⟨rfl, rfl, rfl, Nat.le_refl _, fun _ _ => rfl⟩, ?_, by simp⟩ ?_)
 ·intro a' w' h1 h2 h3 h5
  rw [once_frame h1 h2 h3]
  refine hend _ w' (factsAll3_mk l 0 ?_)
  intro i o d ho hdd hfi
  have hil : i < l.length := by
   rcases Nat.lt_or_ge i l.length with h | h
   ·exact h
   ·rw [List.getElem?_eq_none h] at ho; cases ho
  have := h5 i hil (by rw [Nat.zero_add] at hfi; exact hfi)
  unfold factAt3 at this
  rw [ho] at this
  simp only [hdd] at this
  rw [Nat.zero_add]
  exact this
 ·intro i _ hi
  exfalso
  rw [Array.getD_eq_getD_getElem?, Array.getElem?_replicate] at hi
  split at hi <;> simp at hi
 ·intro i hi _
  exfalso
  rw [Array.getD_eq_getD_getElem?, Array.getElem?_replicate] at hi
  split at hi <;> simp at hi
 ·simp
theorem owed6_go {P : Program} {l : List Oper} {Q : Exit → Act → World → Prop} {sat : List Fact} {tl : List Bool} {q : Nat} {a0 : Act} {W : World} {i : Nat} {o : Oper}
  (h : ∀ (a : Act) (w : World), (tl.getD i false = false → Below W.heap.size W w) → (∀ s, freeAt l i s = true → a.tmps[s]?.getD undef = a0.tmps[s]?.getD undef) → factsOf3 sat l a w o.after.toList →
   Region.wanted o (yielded l.toArray a.tmps) = true ∧ ∀ K : Act → World → Prop, (∀ v w', (sat.getD i (fun _ _ => True)) (seenBy o a v) w' → (i ≠ q → Below w.heap.size w w') → K (a.put o.dst v) w') → Oper.wp P o a w K Q) : Owed6 P l Q sat tl q a0 W i o := by
 intro a w hb ho hf K hK
 rw [if_pos (h a w hb ho hf).1]
 exact (h a w hb ho hf).2 K hK
end Go.Proofs.YtngealmhgkoaiaaGreat
