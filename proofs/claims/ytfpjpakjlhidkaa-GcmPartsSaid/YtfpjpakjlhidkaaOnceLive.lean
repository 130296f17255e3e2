/- A region that draws its order, of which some operations write to memory that is newer than the region: each operation is shown once; a fact is kept only while an operation still waits for it. -/
import Derived.Test.YtfpjpakjlhidkaaOnce
namespace Go.Proofs.Ytfpjpakjlhidkaa
open Go.RowKit
set_option linter.unusedVariables false
/-- is the fact on i still waited for? -/
def aliveAt (l : List Oper) (fin : List Bool) (listed : Array Bool) (i : Nat) : Prop :=
  fin.getD i false = true ∨ ∃ c o, l[c]? = some o ∧ listed.getD c false = false ∧ ∃ e ∈ o.after.toList, Region.binds .any e = true ∧ e.on = i
/-- what is owed for one operation; st: it changes no old memory at all -/
def Owed2 (P : Program) (l : List Oper) (Q : Exit → Act → World → Prop) (sat : List Fact) (st : List Bool) (a0 : Act) (W : World) (i : Nat) (o : Oper) : Prop :=
  ∀ (a : Act) (w : World), Below W.heap.size W w → (∀ s, freeAt l i s = true → a.tmps[s]?.getD undef = a0.tmps[s]?.getD undef) → factsOf sat l a w o.after.toList →
    ∀ K : Act → World → Prop, (∀ v w', (sat.getD i (fun _ _ => True)) v w' → Below (bif st.getD i true then w.heap.size else W.heap.size) w w' → K (a.put o.dst v) w') →
      if Region.wanted o (yielded l.toArray a.tmps) = true then Oper.wp P o a w K Q else K (a.put o.dst undef) w
def OwedAll2 (P : Program) (l : List Oper) (Q : Exit → Act → World → Prop) (sat : List Fact) (st : List Bool) (a0 : Act) (W : World) : Nat → List Oper → Prop
  | _, [] => True
  | i, o :: os => Owed2 P l Q sat st a0 W i o ∧ OwedAll2 P l Q sat st a0 W (i + 1) os
theorem OwedAll2.nil {P : Program} {l : List Oper} {Q : Exit → Act → World → Prop} {sat : List Fact} {st : List Bool} {a0 : Act} {W : World} {i : Nat} : OwedAll2 P l Q sat st a0 W i [] := trivial
theorem OwedAll2.cons {P : Program} {l : List Oper} {Q : Exit → Act → World → Prop} {sat : List Fact} {st : List Bool} {a0 : Act} {W : World} {i : Nat} {o : Oper} {os : List Oper} (h : Owed2 P l Q sat st a0 W i o) (t : OwedAll2 P l Q sat st a0 W (i + 1) os) : OwedAll2 P l Q sat st a0 W i (o :: os) := ⟨h, t⟩
theorem owedAll2_get {P : Program} {l : List Oper} {Q : Exit → Act → World → Prop} {sat : List Fact} {st : List Bool} {a0 : Act} {W : World} : ∀ (os : List Oper) (k : Nat), OwedAll2 P l Q sat st a0 W k os → ∀ i o, os[i]? = some o → Owed2 P l Q sat st a0 W (k + i) o := by
  intro os
  induction os with
  | nil => intro k _ i o h; simp at h
  | cons x os ih =>
    intro k h i o ho
    cases i with
    | zero => simp at ho; subst ho; exact h.1
    | succ i =>
      have := ih (k + 1) h.2 i o (by simpa using ho)
      rw [show k + (i + 1) = k + 1 + i by omega]; exact this
/-- facts of the value alone -/
def Pures (sat : List Fact) (pu : List Bool) : Prop := ∀ (i : Nat), pu.getD i false = true → ∀ v w w', (sat.getD i (fun _ _ => True)) v w → (sat.getD i (fun _ _ => True)) v w'
theorem pures_nil : Pures [] [] := fun i h => by simp at h
theorem pures_t {s : Fact} {sat : List Fact} {pu : List Bool} (h : ∀ v w w', s v w → s v w') (hs : Pures sat pu) : Pures (s :: sat) (true :: pu) := by
  intro i hi v w w' hv
  cases i with
  | zero => exact h v w w' hv
  | succ i => exact hs i hi v w w' hv
theorem pures_f {s : Fact} {sat : List Fact} {pu : List Bool} (hs : Pures sat pu) : Pures (s :: sat) (false :: pu) := by
  intro i hi v w w' hv
  cases i with
  | zero => cases hi
  | succ i => exact hs i hi v w w' hv
/-- an operation that writes spoils no fact that is still waited for -/
def deadB (l : List Oper) (j i : Nat) : Bool :=
  (List.range l.length).all fun c => c == j || match l[c]? with
    | some o => !(o.after.toList.any fun e => Region.binds .any e && e.on == i) || (match l[j]? with | some oj => oj.after.toList.any fun e => Region.binds .any e && e.on == c | none => false)
    | none => true
def lateOk2 (l : List Oper) (fin st pu : List Bool) : Bool :=
  (List.range l.length).all fun j => st.getD j true || (List.range l.length).all fun i => i == j || pu.getD i false || (!fin.getD i false && deadB l j i)
structure OnceJ2 (l : List Oper) (sat : List Fact) (fin : List Bool) (a0 : Act) (W : World) (listed : Array Bool) (a : Act) (w : World) : Prop where
  size : a.tmps.size = a0.tmps.size
  defers : a.defers = a0.defers
  out : ∀ s, (∀ j o, listed.getD j false = true → l[j]? = some o → o.dst ≠ some s) → a.tmps[s]?.getD undef = a0.tmps[s]?.getD undef
  closed : ∀ j o, listed.getD j false = true → l[j]? = some o → ∀ e ∈ o.after.toList, Region.binds .any e = true → listed.getD e.on false = true
  low : Below W.heap.size W w
  facts : ∀ i, listed.getD i false = true → aliveAt l fin listed i → factAt sat l a w i
  lsize : listed.size = l.length
theorem once2_any {P : Program} {l : List Oper} {Q : Exit → Act → World → Prop} {sat : List Fact} {fin st pu : List Bool} {a0 : Act} {W : World} (hk : Keeps sat) (hd : dstOk l a0.tmps.size = true) (he : edgesOk l = true) (hp : Pures sat pu) (hla : lateOk2 l fin st pu = true)
    (hops : OwedAll2 P l Q sat st a0 W 0 l)
    (hend : ∀ (a : Act) (w : World), a.tmps.size = a0.tmps.size → a.defers = a0.defers → (∀ s, (dstsOf l).contains s = false → a.tmps[s]?.getD undef = a0.tmps[s]?.getD undef) → Below W.heap.size W w → (∀ i, i < l.length → fin.getD i false = true → factAt sat l a w i) → Q .normal a w) :
    ∀ (fuel : Nat) (listed : Array Bool) (a : Act) (w : World), OnceJ2 l sat fin a0 W listed a w → listed.toList.count false ≤ fuel → wpAny P .any l.toArray Q fuel listed a w := by
  intro fuel
  have hfin : ∀ (listed : Array Bool) (a : Act) (w : World), OnceJ2 l sat fin a0 W listed a w → Region.ready .any l.toArray listed = [] → Q .normal a w := by
    intro listed a w J hr
    refine hend a w J.size J.defers (fun s hs => J.out s fun j o _ ho hd' => ?_) J.low fun i hi hfi => J.facts i ?_ (.inl hfi)
    · have : (dstsOf l).contains s = true := by
        rw [List.contains_iff_mem]
        exact List.mem_filterMap.2 ⟨o, List.mem_of_getElem? ho, hd'⟩
      rw [this] at hs; cases hs
    cases hb : listed.getD i false with
    | true => rfl
    | false => exact absurd hr (ready_some he J.lsize hi hb)
  induction fuel with
  | zero =>
    intro listed a w J hc
    have hr : Region.ready .any l.toArray listed = [] := by
      refine Classical.byContradiction fun hn => ?_
      obtain ⟨i, hi⟩ := List.exists_mem_of_ne_nil _ hn
      have h1 := (mem_ready.1 hi).1
      have hlt : i < listed.size := by
        rcases Nat.lt_or_ge i listed.size with h | h
        · exact h
        · rw [Array.getD_eq_getD_getElem?, Array.getElem?_eq_none h] at h1; simp at h1
      rw [Array.getD_eq_getD_getElem?, Array.getElem?_eq_getElem hlt] at h1
      have h2 : false ∈ listed.toList := by
        rw [← show listed[i] = false from h1]
        simp
      have := List.count_pos_iff.2 h2
      omega
    exact ⟨hr, hfin listed a w J hr⟩
  | succ fuel ih =>
    intro listed a w J hc
    refine ⟨hfin listed a w J, ?_⟩
    intro i hi
    obtain ⟨o, ho, hdep⟩ := ready_spec hi
    have h1 := (mem_ready.1 hi).1
    have hol : l[i]? = some o := by simpa using ho
    have hil : i < l.length := by
      rcases Nat.lt_or_ge i l.length with h | h
      · exact h
      · rw [List.getElem?_eq_none h] at hol; cases hol
    have hlt : i < listed.size := by rw [J.lsize]; exact hil
    obtain ⟨d, hdd, hdn⟩ := dst_some hd hol
    refine wpOp_step ho ?_
    intro K' hK'
    have hO := owedAll2_get l 0 hops i o hol
    rw [Nat.zero_add] at hO
    have h1f : listed.getD i false = false := by
      rw [Array.getD_eq_getD_getElem?, Array.getElem?_eq_getElem hlt] at h1 ⊢
      exact h1
    have hfree : ∀ s, freeAt l i s = true → a.tmps[s]?.getD undef = a0.tmps[s]?.getD undef := by
      intro s hs
      refine J.out s fun j o' hj hoj hds => ?_
      have hjl : j < l.length := by
        rcases Nat.lt_or_ge j l.length with h | h
        · exact h
        · rw [List.getElem?_eq_none h] at hoj; cases hoj
      have := List.all_eq_true.1 hs j (List.mem_range.2 hjl)
      rw [hoj] at this
      simp only [Bool.or_eq_true, bne_iff_ne, beq_iff_eq, List.any_eq_true, Bool.and_eq_true] at this
      rcases this with (h | h) | ⟨e, he, hb, hei⟩
      · exact h hds
      · subst h; rw [h1f] at hj; cases hj
      · have := J.closed j o' hj hoj e he hb
        rw [hei, h1f] at this; cases this
    refine hO a w J.low hfree (factsOf_mk _ fun e hm hb => J.facts _ (hdep e hm hb) (.inr ⟨i, o, hol, h1f, e, hm, hb, rfl⟩)) K' ?_
    intro v w' hv hbw
    refine hK' _ _ (ih _ _ _ ?_ ?_)
    · rw [hdd]
      constructor
      · show (a.tmps.setIfInBounds d v).size = _
        rw [Array.size_setIfInBounds]; exact J.size
      · exact J.defers
      · intro s hs
        have hii : (listed.setIfInBounds i true).getD i false = true := by
          rw [Array.getD_eq_getD_getElem?, Array.getElem?_setIfInBounds, if_pos rfl, if_pos hlt]; rfl
        rw [eval_put_ne a d s v (fun e => hs i o hii hol (by rw [hdd, e]))]
        refine J.out s fun j o' hj hoj => hs j o' ?_ hoj
        by_cases hji : j = i
        · subst hji; exact hii
        · rw [Array.getD_eq_getD_getElem?, Array.getElem?_setIfInBounds, if_neg (fun e => hji e.symm), ← Array.getD_eq_getD_getElem?]; exact hj
      · intro j o' hj hoj e hem hb
        have hstep : ∀ m, listed.getD m false = true → (listed.setIfInBounds i true).getD m false = true := by
          intro m hm
          by_cases hmi : m = i
          · subst hmi; rw [Array.getD_eq_getD_getElem?, Array.getElem?_setIfInBounds, if_pos rfl, if_pos hlt]; rfl
          · rw [Array.getD_eq_getD_getElem?, Array.getElem?_setIfInBounds, if_neg (fun e => hmi e.symm), ← Array.getD_eq_getD_getElem?]; exact hm
        by_cases hji : j = i
        · subst hji
          rw [hol] at hoj
          cases hoj
          exact hstep _ (hdep e hem hb)
        · refine hstep _ (J.closed j o' ?_ hoj e hem hb)
          rw [Array.getD_eq_getD_getElem?, Array.getElem?_setIfInBounds, if_neg (fun e => hji e.symm)] at hj
          rw [Array.getD_eq_getD_getElem?]; exact hj
      · exact J.low.trans (hbw.mono (by cases st.getD i true with | true => exact J.low.size | false => exact Nat.le_refl _))
      · intro j hj hal
        unfold factAt
        cases hoj : l[j]? with
        | none => trivial
        | some o' =>
          obtain ⟨d', hd', _⟩ := dst_some hd hoj
          simp only [hd']
          by_cases hji : j = i
          · subst hji
            rw [hol] at hoj
            cases hoj
            rw [hdd] at hd'
            cases hd'
            rw [eval_put_eq a d v (by rw [J.size]; exact hdn)]
            exact hv
          · rw [eval_put_ne a d d' v (dst_ne hd hol hoj hdd hd' (fun e => hji e.symm))]
            have hjl : listed.getD j false = true := by
              rw [Array.getD_eq_getD_getElem?, Array.getElem?_setIfInBounds, if_neg (fun e => hji e.symm)] at hj
              rw [Array.getD_eq_getD_getElem?]; exact hj
            have hstep : ∀ m, listed.getD m false = true → (listed.setIfInBounds i true).getD m false = true := by
              intro m hm
              by_cases hmi : m = i
              · subst hmi; rw [Array.getD_eq_getD_getElem?, Array.getElem?_setIfInBounds, if_pos rfl, if_pos hlt]; rfl
              · rw [Array.getD_eq_getD_getElem?, Array.getElem?_setIfInBounds, if_neg (fun e => hmi e.symm), ← Array.getD_eq_getD_getElem?]; exact hm
            have hii : (listed.setIfInBounds i true).getD i false = true := by
              rw [Array.getD_eq_getD_getElem?, Array.getElem?_setIfInBounds, if_pos rfl, if_pos hlt]; rfl
            have hal0 : aliveAt l fin listed j := by
              rcases hal with h | ⟨c, oc, hc, hcl, x⟩
              · exact .inl h
              · refine .inr ⟨c, oc, hc, ?_, x⟩
                cases hq : listed.getD c false with
                | false => rfl
                | true => rw [hstep c hq] at hcl; cases hcl
            have := J.facts j hjl hal0
            unfold factAt at this
            rw [hoj] at this
            simp only [hd'] at this
            cases hst : st.getD i true with
            | true => rw [hst] at hbw; exact hk j _ _ _ this hbw
            | false =>
              have hq := List.all_eq_true.1 hla i (List.mem_range.2 hil)
              rw [hst, Bool.false_or] at hq
              have hjlt : j < l.length := by
                rcases Nat.lt_or_ge j l.length with h | h
                · exact h
                · rw [List.getElem?_eq_none h] at hoj; cases hoj
              have hq := List.all_eq_true.1 hq j (List.mem_range.2 hjlt)
              rw [Bool.or_eq_true, Bool.or_eq_true, beq_iff_eq, Bool.and_eq_true] at hq
              rcases hq with (hq | hq) | ⟨hq1, hq2⟩
              · exact absurd hq hji
              · exact hp j hq _ _ _ this
              · exfalso
                rcases hal with h | ⟨c, oc, hc, hcl, e, hem, heb, hej⟩
                · rw [h] at hq1; cases hq1
                · have hclt : c < l.length := by
                    rcases Nat.lt_or_ge c l.length with h | h
                    · exact h
                    · rw [List.getElem?_eq_none h] at hc; cases hc
                  have hd2 := List.all_eq_true.1 hq2 c (List.mem_range.2 hclt)
                  rw [hc, hol] at hd2
                  simp only [Bool.or_eq_true, beq_iff_eq, Bool.not_eq_true', List.any_eq_true, Bool.and_eq_true] at hd2
                  rcases hd2 with hd2 | hd2 | ⟨e2, hem2, heb2, hec2⟩
                  · subst hd2; rw [hii] at hcl; cases hcl
                  · rw [← Bool.not_eq_true, List.any_eq_true] at hd2
                    exact hd2 ⟨e, hem, by rw [Bool.and_eq_true, beq_iff_eq]; exact ⟨heb, hej⟩⟩
                  · have := hstep _ (hdep e2 hem2 heb2)
                    rw [hec2, hcl] at this; cases this
      · rw [Array.size_setIfInBounds]; exact J.lsize
    · rw [Array.toList_setIfInBounds, List.count_set (by simpa using hlt)]
      have h2 : listed.toList[i]'(by simpa using hlt) = false := by
        rw [Array.getD_eq_getD_getElem?, Array.getElem?_eq_getElem hlt] at h1
        simpa using h1
      rw [h2, if_pos (show (false == false) = true from rfl), if_neg (by decide)]
      omega
def factsAll2 (sat : List Fact) (fin : List Bool) (f : Nat → Value) (w : World) : Nat → List Oper → Prop
  | _, [] => True
  | i, o :: os => (bif fin.getD i false then (match o.dst with | some d => (sat.getD i (fun _ _ => True)) (f d) w | none => True) else True) ∧ factsAll2 sat fin f w (i + 1) os
theorem factsAll2_mk {sat : List Fact} {fin : List Bool} {f : Nat → Value} {w : World} : ∀ (os : List Oper) (k : Nat), (∀ i o d, os[i]? = some o → o.dst = some d → fin.getD (k + i) false = true → (sat.getD (k + i) (fun _ _ => True)) (f d) w) → factsAll2 sat fin f w k os := by
  intro os
  induction os with
  | nil => intro k _; trivial
  | cons o os ih =>
    intro k h
    refine ⟨?_, ih (k + 1) fun i o' d ho hd hfi => ?_⟩
    · cases hfi : fin.getD k false with
      | false => trivial
      | true =>
        cases hd : o.dst with
        | none => trivial
        | some d => exact h 0 o d rfl hd hfi
    · have e1 : k + 1 + i = k + (i + 1) := by omega
      rw [e1] at hfi ⊢
      exact h (i + 1) o' d (by simpa using ho) hd hfi
theorem wp_region_live {P : Program} {id : Nat} {l : List Oper} {Q : Exit → Act → World → Prop} {a : Act} {w : World} (sat : List Fact) (fin st pu : List Bool) (hm : P.follows .mixedOrders = true) (hk : Keeps sat) (hd : dstOk l a.tmps.size = true) (he : edgesOk l = true) (hp : Pures sat pu) (hla : lateOk2 l fin st pu = true)
    (hops : OwedAll2 P l Q sat st a w 0 l)
    (hend : ∀ (f : Nat → Value) (w' : World), Below w.heap.size w w' → factsAll2 sat fin f w' 0 l → Q .normal (frameOf l a f) w') :
    (Code.region id l.toArray true).wp P Q a w := by
  refine wp_region_any hm (once2_any hk hd he hp hla hops ?_ _ _ _ _ ⟨rfl, rfl, fun _ _ => rfl, ?_, ⟨rfl, rfl, rfl, Nat.le_refl _, fun _ _ => rfl⟩, ?_, by simp⟩ ?_)
  · intro a' w' h1 h2 h3 h4 h5
    rw [once_frame h1 h2 h3]
    refine hend _ w' h4 (factsAll2_mk l 0 ?_)
    intro i o d ho hdd hfi
    have hil : i < l.length := by
      rcases Nat.lt_or_ge i l.length with h | h
      · exact h
      · rw [List.getElem?_eq_none h] at ho; cases ho
    have := h5 i hil (by rw [Nat.zero_add] at hfi; exact hfi)
    unfold factAt at this
    rw [ho] at this
    simp only [hdd] at this
    rw [Nat.zero_add]
    exact this
  · intro i _ hi
    exfalso
    rw [Array.getD_eq_getD_getElem?, Array.getElem?_replicate] at hi
    split at hi <;> simp at hi
  · intro i hi _
    exfalso
    rw [Array.getD_eq_getD_getElem?, Array.getElem?_replicate] at hi
    split at hi <;> simp at hi
  · simp
theorem owed2_go {P : Program} {l : List Oper} {Q : Exit → Act → World → Prop} {sat : List Fact} {st : List Bool} {a0 : Act} {W : World} {i : Nat} {o : Oper}
    (h : ∀ (a : Act) (w : World), Below W.heap.size W w → (∀ s, freeAt l i s = true → a.tmps[s]?.getD undef = a0.tmps[s]?.getD undef) → factsOf sat l a w o.after.toList →
      Region.wanted o (yielded l.toArray a.tmps) = true ∧ ∀ K : Act → World → Prop, (∀ v w', (sat.getD i (fun _ _ => True)) v w' → Below (bif st.getD i true then w.heap.size else W.heap.size) w w' → K (a.put o.dst v) w') → Oper.wp P o a w K Q) : Owed2 P l Q sat st a0 W i o := by
  intro a w hb ho hf K hK
  rw [if_pos (h a w hb ho hf).1]
  exact (h a w hb ho hf).2 K hK
/-- the guard's value, read off its slot -/
theorem wanted_slot {o : Oper} {ops : Array Oper} {tmps : Array Value} {j : Nat} {b : Bool} {oj : Oper} {s : Tmp} (hg : o.guard = some (j, b)) (hj : ops[j]? = some oj) (hs : oj.dst = some s) (hv : tmps[s]?.getD undef = .bool b) : Region.wanted o (yielded ops tmps) = true := by
  cases ht : tmps[s]? with
  | none => rw [ht] at hv; cases hv
  | some x =>
    rw [ht] at hv
    have hx : x = .bool b := hv
    have hy : yielded ops tmps j = some b := by
      unfold yielded; rw [hj, Option.bind_some, hs, Option.bind_some, ht, hx]
    unfold Region.wanted
    rw [hg]
    simp [hy]
end Go.Proofs.Ytfpjpakjlhidkaa
